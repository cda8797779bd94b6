/- What the law TopSummaries needs, joined of its texts by a program (slim2.py); part 4. -/
import Derived.Test.YtdipoojjlddohaaGreatZTopSummaries1
import Derived.Test.YtdipoojjlddohaaGreatZTopSummaries2
import Derived.Test.YtdipoojjlddohaaGreatZTopSummaries3
set_option linter.unusedVariables false
set_option linter.unusedSimpArgs false
set_option linter.unusedSectionVars false
set_option linter.unnecessarySimpa false
section
/- A law on statements whose order is open: several new variables, taken in whatever order; each has a block of its own. -/
namespace Go.Proofs.YtdipoojjlddohaaGreat
open Go.RowKit
structure NewV where
  i:Nat
  d:Nat
  t:TypeId
  z:Array Value
def newsB (md:Region.Mode) (ops:Array Oper):Nat→Array Bool→List NewV→Bool
  | 0,_,js=>js.isEmpty
  | f+1,listed,js=>decide (Region.ready md ops listed=js.map (·.i)) && (List.range js.length).all fun k=>newsB md ops f (listed.setIfInBounds ((js[k]?.map (·.i)).getD 0) true) (js.eraseIdx k)
def setAll (listed:Array Bool) (js:List NewV):Array Bool:=js.foldl (fun l j=>l.setIfInBounds j.i true) listed
def putAll (a:Act):List NewV→List Nat→Act
  | j :: js,b :: bs=>putAll (a.put (some j.d) (.pointer (some ⟨b,0,none⟩))) js bs
  | _,_=>a
theorem put_swap {a:Act} {d e:Nat} {u v:Value} (h:d≠e):(a.put (some d) u).put (some e) v=(a.put (some e) v).put (some d) u:=by
  simp only [Act.put]
  rw [Array.setIfInBounds_comm _ _ h]
theorem putAll_put {d:Nat} {v:Value}:∀ (js:List NewV) (bs:List Nat) (a:Act),(∀ j∈js,d≠j.d)→putAll (a.put (some d) v) js bs=(putAll a js bs).put (some d) v
  | [],_,_,_=>by simp [putAll]
  | _ :: _,[],_,_=>by simp [putAll]
  | j :: js,b :: bs,a,h=>by
    rw [putAll,putAll,put_swap (h j (by simp)),putAll_put js bs _ (fun x hx=>h x (List.mem_cons_of_mem _ hx))]
theorem putAll_append:∀ (l1:List NewV) (c1:List Nat) (l2:List NewV) (c2:List Nat) (a:Act),l1.length=c1.length→putAll a (l1 ++ l2) (c1 ++ c2)=putAll (putAll a l1 c1) l2 c2
  | [],[],_,_,_,_=>by simp [putAll]
  | [],_ :: _,_,_,_,h=>by simp at h
  | _ :: _,[],_,_,_,h=>by simp at h
  | j :: l1,b :: c1,l2,c2,a,h=>by
    rw [List.cons_append,List.cons_append,putAll,putAll,putAll_append l1 c1 l2 c2 _ (by simpa using h)]
theorem setAll_set {i:Nat}:∀ (js:List NewV) (l:Array Bool),setAll (l.setIfInBounds i true) js=(setAll l js).setIfInBounds i true
  | [],_=>rfl
  | j :: js,l=>by
    unfold setAll
    rw [List.foldl_cons,List.foldl_cons]
    have:=setAll_set (i:=i) js (l.setIfInBounds j.i true)
    unfold setAll at this
    rw [← this]
    by_cases h:i=j.i
    · rw [h]
    · rw [Array.setIfInBounds_comm _ _ h]
theorem setAll_append (l1 l2:List NewV) (l:Array Bool):setAll l (l1 ++ l2)=setAll (setAll l l1) l2:=by unfold setAll;rw [List.foldl_append]
section
variable {P:Program} {ops:Array Oper} {md:Region.Mode} {S:World→Prop} {Q:Exit→Act→World→Prop} {n g:Nat} {tail:List Oper} {f:Nat}
structure NewsAt (w0:World) (js:List NewV) (bs:List Nat) (w:World):Prop where
  len:bs.length=js.length
  rows:∀ (k:Nat) (j:NewV) (b:Nat),js[k]?=some j→bs[k]?=some b→Row w b j.t j.z
  ge:∀ b∈bs,w0.heap.size≤b
  nodup:bs.Nodup
  keep:∀ b,b<w0.heap.size→w.heap[b]?=w0.heap[b]?
theorem hw_news (hal:∀ w o,S w→S (w.alloc o)):∀ (js:List NewV) (listed:Array Bool) (a:Act) (w:World),
    newsB md ops js.length listed js=true→(∀ j∈js,Makes P ops j.i j.t j.z∧(ops[j.i]?).bind (·.dst)=some j.d∧j.i<n)→js.Pairwise (fun x y=>x.d≠y.d)→S w →
    (∀ bs w',S w'→NewsAt w js bs w'→HW P md ops S Q n g tail f (setAll listed js) (putAll a js bs) w')→HW P md ops S Q n g tail (js.length+f) listed a w:=by
  intro js
  generalize hN:js.length=N
  induction N generalizing js with
  | zero =>
    intro listed a w _ _ _ hS H
    obtain rfl:js=[]:=List.eq_nil_of_length_eq_zero hN
    rw [Nat.zero_add]
    exact H [] w hS ⟨rfl,by simp,by simp,List.nodup_nil,fun _ _=>rfl⟩
  | succ N ih =>
    intro listed a w hB hM hd hS H
    rw [show N+1+f=(N+f)+1 by omega]
    unfold newsB at hB
    rw [Bool.and_eq_true] at hB
    have hr:=of_decide_eq_true hB.1
    intro inv
    refine ⟨fun h0=>?_,fun i hi=>?_⟩
    · rw [hr] at h0
      have:=congrArg List.length h0
      simp at this
      subst this
      simp at hN
    · rw [hr] at hi
      obtain ⟨j,hj,rfl⟩:=List.mem_map.1 hi
      obtain ⟨hMj,hdj,hlt⟩:=hM j hj
      refine ⟨hlt,?_⟩
      obtain ⟨k,hk,hkj⟩:=List.getElem_of_mem hj
      have hBk:=List.all_eq_true.1 hB.2 k (by simpa using hk)
      rw [List.getElem?_eq_getElem hk,hkj] at hBk
      have hready:j.i∈Region.ready md ops listed:=by rw [hr];exact List.mem_map.2 ⟨j,hj,rfl⟩
      have ejs:js=js.take k ++ j :: js.drop (k+1):=by
        rw [← hkj,← List.drop_eq_getElem_cons hk,List.take_append_drop]
      have eer:js.eraseIdx k=js.take k ++ js.drop (k+1):=List.eraseIdx_eq_take_drop_succ _ _
      have hle:(js.eraseIdx k).length=N:=by rw [List.length_eraseIdx,if_pos hk];omega
      have hsub:∀ x∈js.eraseIdx k,x∈js:=fun x hx=>List.mem_of_mem_eraseIdx hx
      have hpd:=hd
      rw [ejs] at hpd
      have hp1:=List.pairwise_append.1 hpd
      have hp2:=List.pairwise_cons.1 hp1.2.1
      have hne1:∀ x∈js.take k,j.d≠x.d:=fun x hx=>(hp1.2.2 x hx j (by simp)).symm
      have ihk:=ih (js.eraseIdx k) hle (listed.setIfInBounds j.i true) (a.put (some j.d) (.pointer (some ⟨w.heap.size,0,none⟩))) (w.alloc (.cells j.z j.t)) hBk (fun x hx=>hM x (hsub x hx)) (hd.sublist (List.eraseIdx_sublist _ _)) (hal _ _ hS) ?_
      · obtain ⟨o,d',ho,hod,hog,hrun⟩:=hMj
        have edj:d'=j.d:=by rw [ho] at hdj;simpa [hod] using hdj
        have hput:∀ v,a.put o.dst v=a.put (some j.d) v:=fun v=>by rw [hod,edj]
        unfold wpOp
        simp only [ho]
        have hw:Region.wanted o (yielded ops a.tmps)=true:=by unfold Region.wanted;rw [hog]
        simp only [hw,if_true]
        refine .inl ?_
        unfold Oper.wp
        rw [hrun]
        show _∧_
        rw [hput]
        exact ⟨hal _ _ hS,ihk (inv.set hready hlt)⟩
      · intro bs w' hS' hN'
        have hl1:(js.take k).length=k:=by rw [List.length_take];omega
        have hbl:=hN'.len
        rw [hle] at hbl
        have e1:setAll (listed.setIfInBounds j.i true) (js.eraseIdx k)=setAll listed js:=by
          rw [setAll_set,eer,setAll_append]
          conv=>rhs;rw [ejs,setAll_append]
          show _=setAll ((setAll listed (js.take k)).setIfInBounds j.i true) (js.drop (k+1))
          rw [setAll_set]
        have hbk:(bs.take k).length=k:=by rw [List.length_take];omega
        have e2:putAll (a.put (some j.d) (.pointer (some ⟨w.heap.size,0,none⟩))) (js.eraseIdx k) bs=putAll a js (bs.take k ++ w.heap.size :: bs.drop k):=by
          conv=>lhs;rw [eer,← List.take_append_drop k bs,putAll_append _ _ _ _ _ (by rw [hl1,hbk])]
          rw [putAll_put _ _ _ hne1]
          conv=>rhs;rw [ejs,putAll_append _ _ _ _ _ (by rw [hl1,hbk])]
          rw [putAll]
        rw [e1,e2]
        refine H _ w' hS' ⟨?_,fun q x b hx hb=>?_,fun b hb=>?_,?_,fun b hb=>?_⟩
        · simp;omega
        · by_cases hq:q<k
          · refine hN'.rows q x b ?_ ?_
            · rw [eer,List.getElem?_append_left (by omega),List.getElem?_take_of_lt hq]
              exact hx
            · rw [List.getElem?_append_left (by omega),List.getElem?_take_of_lt hq] at hb
              exact hb
          · by_cases hq2:q=k
            · subst hq2
              rw [List.getElem?_append_right (by omega),hbk,Nat.sub_self] at hb
              obtain rfl:w.heap.size=b:=by simpa using hb
              rw [List.getElem?_eq_getElem hk,hkj] at hx
              obtain rfl:j=x:=by simpa using hx
              have hkp:=hN'.keep w.heap.size (by simp)
              exact hkp.trans (row_new rfl)
            · refine hN'.rows (q-1) x b ?_ ?_
              · rw [eer,List.getElem?_append_right (by omega),hl1,List.getElem?_drop]
                rw [show k+1+(q-1-k)=q by omega]
                exact hx
              · rw [List.getElem?_append_right (by omega),hbk,show q-k=(q-1-k)+1 by omega,List.getElem?_cons_succ,List.getElem?_drop] at hb
                rw [show k+(q-1-k)=q-1 by omega] at hb
                exact hb
        · rcases List.mem_append.1 hb with hb | hb
          · have:=hN'.ge b (List.mem_of_mem_take hb)
            simp at this
            omega
          · rcases List.mem_cons.1 hb with rfl | hb
            · exact Nat.le_refl _
            · have:=hN'.ge b (List.mem_of_mem_drop hb)
              simp at this
              omega
        · have hn:=hN'.nodup
          rw [← List.take_append_drop k bs] at hn
          have hn:=List.nodup_append.1 hn
          have hge:∀ b∈bs,b≠w.heap.size:=fun b hb=>by
            have:=hN'.ge b hb
            simp at this
            omega
          refine List.nodup_append.2 ⟨hn.1,List.nodup_cons.2 ⟨fun h=>hge _ (List.mem_of_mem_drop h) rfl,hn.2.1⟩,fun x hx y hy=>?_⟩
          rcases List.mem_cons.1 hy with rfl | hy
          · exact hge x (List.mem_of_mem_take hx)
          · exact hn.2.2 x hx y hy
        · have h1:=hN'.keep b (by simp;omega)
          exact h1.trans (Below.heap_alloc w _ b hb)
end
end Go.Proofs.YtdipoojjlddohaaGreat
end
section
/- A function's start: its variables are rows of their own, in a world of which nothing else is said. -/
namespace Go.Proofs.YtdipoojjlddohaaGreat
open Go.RowKit
section
variable {P:Program} {c:Code} {Q:Exit→Act→World→Prop} {a:Act} {w:World} {cs1 cs2 cs3:Array Value} {t1 t2 t3:TypeId}
theorem start1 (h:∀ w1,Row w1 w.heap.size t1 cs1→Below w.heap.size w w1→c.wp P Q a w1):c.wp P Q a (w.alloc (.cells cs1 t1)) :=
  h _ (row_new rfl) ((Below.refl _ _).alloc (Nat.le_refl _) _)
theorem start2 (h:∀ w1,Row w1 w.heap.size t1 cs1→Row w1 (w.heap.size+1) t2 cs2→Below w.heap.size w w1→c.wp P Q a w1):c.wp P Q a ((w.alloc (.cells cs1 t1)).alloc (.cells cs2 t2)) :=
  h _ (row_alloc (row_new rfl) _) (row_new (by simp)) (((Below.refl _ _).alloc (Nat.le_refl _) _).alloc (by simp) _)
theorem start3 (h:∀ w1,Row w1 w.heap.size t1 cs1→Row w1 (w.heap.size+1) t2 cs2→Row w1 (w.heap.size+2) t3 cs3→Below w.heap.size w w1→c.wp P Q a w1):c.wp P Q a (((w.alloc (.cells cs1 t1)).alloc (.cells cs2 t2)).alloc (.cells cs3 t3)) :=
  h _ (row_alloc (row_alloc (row_new rfl) _) _) (row_alloc (row_new (by first | (simp;done) | (simp;omega))) _) (row_new (by first | (simp;done) | (simp;omega))) ((((Below.refl _ _).alloc (Nat.le_refl _) _).alloc (by first | (simp;done) | (simp;omega)) _).alloc (by first | (simp;done) | (simp;omega)) _)
end
def setL:World→Nat→Nat→List Value→World
  | w,_,_,[]=>w
  | w,b,i,v :: r=>setL (w.setCell ⟨b,i,none⟩ v) b (i+1) r
def arrL:Array Value→Nat→List Value→Array Value
  | cs,_,[]=>cs
  | cs,i,v :: r=>arrL (cs.setIfInBounds i v) (i+1) r
theorem row_setL {b:Nat} {t:TypeId}:∀ (vs:List Value) {w:World} {i:Nat} {cs:Array Value},Row w b t cs→Row (setL w b i vs) b t (arrL cs i vs)
  | [],_,_,_,h=>h
  | v :: r,_,i,_,h=>row_setL r (row_set h i v)
theorem row_otherL {b g:Nat} {t:TypeId} {cs:Array Value} (hne:b≠g):∀ (vs:List Value) {w:World} {i:Nat},Row w b t cs→Row (setL w g i vs) b t cs
  | [],_,_,h=>h
  | v :: r,_,i,h=>row_otherL hne r (row_other (p:=⟨g,i,none⟩) h hne v)
theorem below_setL {B g:Nat} {w0:World} (hB:B≤g):∀ (vs:List Value) {w:World} {i:Nat},Below B w0 w→Below B w0 (setL w g i vs)
  | [],_,_,h=>h
  | v :: r,_,i,h=>below_setL hB r (h.setCell (p:=⟨g,i,none⟩) hB v)
section
variable {w w0:World} {B x g a1 a2 a3 a4:Nat} {tx tg t1 t2 t3 t4:TypeId} {cx cg c1 c2 c3 c4:Array Value}
theorem layK {K:Act→World→Prop} {a:Act} (vs:List Value) (X:Row w x tx cx) (o:Below B w0 w) (G:Row w g tg cg) (A1:Row w a1 t1 c1) (A2:Row w a2 t2 c2) (A3:Row w a3 t3 c3) (A4:Row w a4 t4 c4) (hx:x≠g) (h1:a1≠g) (h2:a2≠g) (h3:a3≠g) (h4:a4≠g) (hB:B≤g)
    (h:∀ w',Row w' x tx cx→Below B w0 w'→Row w' g tg (arrL cg 0 vs)→Row w' a1 t1 c1→Row w' a2 t2 c2→Row w' a3 t3 c3→Row w' a4 t4 c4→K a w'):K a (setL w g 0 vs) :=
  h _ (row_otherL hx vs X) (below_setL hB vs o) (row_setL vs G) (row_otherL h1 vs A1) (row_otherL h2 vs A2) (row_otherL h3 vs A3) (row_otherL h4 vs A4)
theorem layC {P:Program} {c:Code} {Q:Exit→Act→World→Prop} {a:Act} (vs:List Value) (X:Row w x tx cx) (o:Below B w0 w) (G:Row w g tg cg) (A1:Row w a1 t1 c1) (A2:Row w a2 t2 c2) (A3:Row w a3 t3 c3) (A4:Row w a4 t4 c4) (hx:x≠g) (h1:a1≠g) (h2:a2≠g) (h3:a3≠g) (h4:a4≠g) (hB:B≤g)
    (h:∀ w',Row w' x tx cx→Below B w0 w'→Row w' g tg (arrL cg 0 vs)→Row w' a1 t1 c1→Row w' a2 t2 c2→Row w' a3 t3 c3→Row w' a4 t4 c4→c.wp P Q a w'):c.wp P Q a (setL w g 0 vs) :=
  h _ (row_otherL hx vs X) (below_setL hB vs o) (row_setL vs G) (row_otherL h1 vs A1) (row_otherL h2 vs A2) (row_otherL h3 vs A3) (row_otherL h4 vs A4)
end
end Go.Proofs.YtdipoojjlddohaaGreat
end
section
/- The last step of a law's row where of the world behind the call only 'below the old heap all is as it was' is known (the lemma is the guide's, to be copied); what is kept while a function runs. -/
namespace Go.Proofs.YtdipoojjlddohaaGreat
open Go.RowKit Go.WideShapes Go.ChangeShapes
section
variable {H:Type} {enc:TypeId×Value→H} {P:Program}
theorem post_of_below {f:Func} {s:ChangeSpec} {apart fresh handsOn again:Bool} {W W':World} {args:Array Value} {v:Value} {ds gs:List (DataW H)} {before pa pv:List MemPlace}
    (hW:DataW.Whole enc P f.params.toList s.vars apart W args.toList ds gs before)
    (hres:∀ (b:Nat) (sp:Nat→Bool) (hd:Bool),DataW.TrodAll enc P W' b sp hd f.resultTypes.toList (v.resultList f.resultTypes.size) (s.fn H (ds ++ gs)).results [])
    (hargs:∀ sp:Nat→Bool,(∀ p∈before,sp p.block=true)→DataW.TrodAll enc P W' 0 sp true f.params.toList args.toList (s.fn H (ds ++ gs)).args pa)
    (hvars:∀ sp:Nat→Bool,(∀ p∈before,sp p.block=true)→DataW.TrodVars enc P W' sp s.vars (s.fn H (ds ++ gs)).vars pv)
    (hps:before=pa ++ pv) (hb:Below W.heap.size W W')
    (hok:∀ (j:Nat) (t:TypeId) (r:Value),f.resultTypes[j]?=some t→(v.resultList f.resultTypes.size)[j]?=some r→Value.okWide P W' .any 0 t r) :
    s.post enc P f apart fresh handsOn again W args v W':=by
  have hlt:∀ p∈before,p.block<W.heap.size:=fun p hp=>hW.lt p hp
  have hold:∀ p∈before,(fun b=>decide (b<W.heap.size)) p.block=true:=fun p hp=>by simpa using hlt p hp
  refine ⟨ds,gs,before,[],pa,pv,hW,hres _ _ _,hargs _ hold,hvars _ hold,World.keptBut_mono (fun p hp=>⟨hp,?_⟩) (hb.frame (·∈before)),fun _=>?_⟩
  · rw [hps,List.mem_append] at hp
    exact Or.inr hp
  · obtain ⟨_,_,_,_,_,hz,hn⟩:=hW
    refine ⟨hok,_,_,([] ++ pa) ++ pv,⟨[] ++ pa,pv,trodAll_append (hargs _ (fun _ _=>rfl)) (hres _ _ _),hvars _ (fun _ _=>rfl),rfl,?_,?_⟩,?_⟩
    · intro b off hp
      have hin:MemPlace.cell b off∈before:=by rw [hps];simpa using hp
      rw [hb.frozen (hlt _ hin)]
      exact hz b off hin
    · intro ha
      have:=hn ha
      rw [hps] at this
      simpa using this
    · intro p hp _
      rw [hps]
      simpa using hp
end

def Kept (w w':World) (L:List (Nat×TypeId×Array Value)):Prop:=(∀ x∈L,Row w' x.1 x.2.1 x.2.2)∧Below w.heap.size w w'
section
variable {w w' w'':World} {L:List (Nat×TypeId×Array Value)}
end
end Go.Proofs.YtdipoojjlddohaaGreat
end
section
/- What an argument reads is read again behind a call that changes nothing of what lay before; a slice that reads as a list. -/
namespace Go.Proofs.YtdipoojjlddohaaGreat
open Go.RowKit Go.WideShapes Go.ChangeShapes
section
variable {H:Type} {enc:TypeId×Value→H} {P:Program}
theorem trodAll_stays (hl:laidOutB P=true) {W W':World} {sp':Nat→Bool} (hb:Below W.heap.size W W'):∀ {ts:List TypeId} {vs:List Value} {ds:List (DataW H)} {ps:List MemPlace},
    (∀ t∈ts,P.readableRec t=true∧t<P.types.size)→DataW.TrodAll enc P W 0 (fun _=>true) true ts vs ds ps→(∀ p∈ps,p.block<W.heap.size)→(∀ p∈ps,sp' p.block=true)→DataW.TrodAll enc P W' 0 sp' true ts vs ds ps
  | [],vs,ds,ps,_,h,_,_=>by
    obtain ⟨rfl,rfl,rfl⟩:=trodAll_nil h
    rfl
  | t :: ts,vs,ds,ps,ht,h,hlt,hs=>by
    obtain ⟨v,vs',d,ds',p,q,rfl,rfl,rfl,h1,h2⟩:=trodAll_cons h
    have t1:=ht t (by simp)
    exact trodAll_cons_mk (WideElems.Trod_stays hl t1.1 t1.2 h1 (fun x hx=>hb.same (hlt x (by simp [hx]))) (fun x hx=>hs x (by simp [hx])))
      (trodAll_stays hl hb (fun t h=>ht t (by simp [h])) h2 (fun x hx=>hlt x (by simp [hx])) (fun x hx=>hs x (by simp [hx])))
end

/-! A slice that reads as a list, nil let in (the words are the guide's, extra-words.md, copied as that page bids). -/
theorem block_of_add (a:Addr) (n:Nat):(a.add n).block=a.block:=by unfold Addr.add;split<;>rfl
theorem add_of_add (a:Addr) (i j:Nat):(a.add i).add j=a.add (i+j):=by
  unfold Addr.add
  by_cases hi:i=0<;>by_cases hj:j=0<;>simp [hi,hj,Nat.add_assoc]
def Reads (w:World) (B size:Nat) (A:Option Addr) (n:Nat) (xs:List Value):Prop :=
  xs.length=n*size∧(0<n→∃ ad,A=some ad∧ad.block<B∧∀ j u,xs[j]?=some u→w.cell? (ad.add j)=some u)
section
variable {w w':World} {B B' size n:Nat} {A:Option Addr} {xs:List Value}
theorem Reads.none_:Reads w B size A 0 []:=⟨by simp,fun h=>absurd h (by omega)⟩
theorem Reads.keep (h:Reads w B size A n xs) (hk:∀ p:Addr,p.block<B→w'.cell? p=w.cell? p):Reads w' B size A n xs :=
  ⟨h.1,fun hn=>by
    obtain ⟨ad,e,hb,hc⟩:=h.2 hn
    exact ⟨ad,e,hb,fun j u hu=>(hk _ (by rw [block_of_add];exact hb)).trans (hc j u hu)⟩⟩
theorem Reads.more (h:Reads w B size A n xs) (hB:B≤B'):Reads w B' size A n xs :=
  ⟨h.1,fun hn=>by
    obtain ⟨ad,e,hb,hc⟩:=h.2 hn
    exact ⟨ad,e,by omega,hc⟩⟩
theorem Reads.below (h:Reads w B size A n xs) (hb:Below B w w'):Reads w' B size A n xs:=h.keep fun _ hp=>hb.cell hp
theorem Reads.call (h:Reads w B size A n xs) (hB:B≤w.heap.size) (hb:Below w.heap.size w w'):Reads w' B size A n xs:=h.keep fun _ hp=>hb.cell (by omega)
theorem Reads.drew (h:Reads w B size A n xs):Reads w.drew B size A n xs:=h
theorem Reads.alloc (h:Reads w B size A n xs) (hB:B≤w.heap.size) (o:Obj):Reads (w.alloc o) B size A n xs:=h.keep fun p hp=>World.cell?_alloc_lt w o p (by omega)
theorem Reads.cut (h:Reads w B size A n xs) {k cap:Nat} (hk:k≤n) (hc:n≤cap) :
    Reads w B size (if cap=k then A else A.map (·.add (k*size))) (n-k) (xs.drop (k*size)):=by
  refine ⟨by rw [List.length_drop,h.1,Nat.sub_mul],fun hn=>?_⟩
  obtain ⟨ad,rfl,hb,hcell⟩:=h.2 (by omega)
  rw [if_neg (by omega)]
  refine ⟨ad.add (k*size),rfl,by rw [block_of_add];exact hb,fun j u hu=>?_⟩
  rw [add_of_add]
  exact hcell _ u (by rw [← hu,List.getElem?_drop])
theorem Reads.of_own {base:Nat} {e:TypeId} {c:Nat} (h:w.ownsRow base e size (.slice A n c) n xs):Reads w w.heap.size size A n xs:=by
  refine ⟨h.1,fun hn=>?_⟩
  obtain ⟨g,cap,hv,_,hlt⟩:=h.form hn
  have hA:A=some ⟨g,0,none⟩:=by injection hv
  subst hA
  exact ⟨_,rfl,hlt,h.cells (g:=g) rfl⟩
abbrev Nums (w:World) (B:Nat) (A:Option Addr) (n:Nat) (zs:List Int):Prop:=Reads w B 1 A n (zs.map (Value.int .i64))
end
end Go.Proofs.YtdipoojjlddohaaGreat
end
section
/- Append onto a row of the call's own, the source nil, empty or not (the words are the guide's, extra-words.md, copied as that page bids), and what a row of the call's own reads as. -/
namespace Go.Proofs.YtdipoojjlddohaaGreat
open Go.RowKit
section
variable {P:Program} (w:World)

theorem run_append_of_nil (base:Nat) (t ty e:TypeId) (i:TypeInfo) (size:Nat) (ht:P.underlying t=some (.slice e)) (hi:P.info? e=some i)
    (v:Value) (n:Nat) (xs:List Value) (hown:w.ownsRow base e size v n xs) (c:Nat):(Builtin.append_ #[t,t] ty #[v, .slice none 0 c]).run P w = .ok v w:=by
  rcases hown.2 with ⟨rfl,rfl⟩ | ⟨g,cap,cur,rfl,_,_,hnc,_⟩
  · simp [Builtin.append_,run_underlying ht,sizeOf,typeInfo,hi,Builtin.lenOf,Builtin.firstCells]
  · simp [Builtin.append_,run_underlying ht,sizeOf,typeInfo,hi,Builtin.lenOf,Builtin.firstCells,hnc,storeCells]

theorem run_append_any (base:Nat) (t ty e:TypeId) (i:TypeInfo) (z:Value) (size bytes:Nat) (ht:P.underlying t=some (.slice e)) (hi:P.info? e=some i) (hz:i.zero=some z)
    (hsize:i.size=size) (hby:i.bytes=bytes) (hzs:z.cells.size=size) (hsz:0<size)
    (v:Value) (n:Nat) (xs:List Value) (hown:w.ownsRow base e size v n xs)
    (B:Nat) (A:Option Addr) (m c:Nat) (news:List Value) (hr:Reads w B size A m news) (h1:∀ u∈news,u.oneCell'=true)
    (h63:n+m≤maxLen) (hbytes:(n+m)*bytes≤140737488355328) (hbase:base≤w.heap.size) :
    ∃ v' w',(Builtin.append_ #[t,t] ty #[v, .slice A m c]).run P w = .ok v' w'∧w'.ownsRow base e size v' (n+m) (xs ++ news)∧w.grownBy w' v.ownBlock ∧
      (v'.ownBlock=v.ownBlock∨v'.ownBlock=some w.heap.size):=by
  rcases A with _ | ad
  · have hm:m=0:=by
      rcases Nat.eq_zero_or_pos m with h0 | h0
      · exact h0
      · obtain ⟨ad,h,_⟩:=hr.2 h0
        cases h
    subst hm
    have hn:news=[]:=List.eq_nil_of_length_eq_zero (by simpa using hr.1)
    subst hn
    exact ⟨v,w,run_append_of_nil w base t ty e i size ht hi v n xs hown c,by simpa using hown,World.grownBy.refl w _, .inl rfl⟩
  · have hcells:∀ j u,news[j]?=some u→w.cell? (ad.add j)=some u:=by
      intro j u hu
      rcases Nat.eq_zero_or_pos m with h0 | h0
      · subst h0
        have hn:news=[]:=List.eq_nil_of_length_eq_zero (by simpa using hr.1)
        subst hn
        simp at hu
      · obtain ⟨ad',h,_,hc⟩:=hr.2 h0
        injection h with h
        subst h
        exact hc j u hu
    obtain ⟨v',w',hrun,h2,h3,_,h5⟩:=run_append_own_at (P:=P) w base t ty e i z size bytes ht hi hz hsize hby hzs hsz v n xs hown ad m c news hr.1 hcells h1 h63 hbytes hbase
    exact ⟨v',w',hrun,h2,h3,h5⟩

theorem wp_append_any {o:Oper} {a:Act} {K:Act→World→Prop} {Q:Exit→Act→World→Prop} (s x:Operand) (t:TypeId)
    (ho:o.op = .call { callee := .builtin .append,args:=#[s,x],argTypes:=#[t,t] })
    (base:Nat) (e:TypeId) (i:TypeInfo) (z:Value) (size bytes:Nat) (ht:P.underlying t=some (.slice e)) (hi:P.info? e=some i) (hz:i.zero=some z)
    (hsize:i.size=size) (hby:i.bytes=bytes) (hzs:z.cells.size=size) (hsz:0<size)
    (v:Value) (n:Nat) (xs:List Value) (hs:a.eval s=v) (hown:w.ownsRow base e size v n xs)
    (B:Nat) (A:Option Addr) (m c:Nat) (news:List Value) (hx:a.eval x = .slice A m c) (hr:Reads w B size A m news) (h1:∀ u∈news,u.oneCell'=true)
    (h63:n+m≤maxLen) (hbytes:(n+m)*bytes≤140737488355328) (hbase:base≤w.heap.size)
    (h:∀ v' w',w'.ownsRow base e size v' (n+m) (xs ++ news)→w.grownBy w' v.ownBlock→(v'.ownBlock=v.ownBlock∨v'.ownBlock=some w.heap.size)→K (a.put o.dst v') w'):o.wp P a w K Q:=by
  obtain ⟨v',w',hrun,h2,h3,h4⟩:=run_append_any (P:=P) w base t o.type e i z size bytes ht hi hz hsize hby hzs hsz v n xs hown B A m c news hr h1 h63 hbytes hbase
  unfold Oper.wp execOp
  simp only [ho,resolve,invoke,builtin,Sem.run_bind,Sem.run_pure,Result.andThen_ok,List.map_toArray,List.map_cons,List.map_nil,hs,hx,hrun]
  exact h v' w' h2 h3 h4

theorem wpList_append_any {ops:Array Oper} {rest:List Oper} {o:Oper} {a:Act} {Q:Exit→Act→World→Prop} (hgd:o.guard=none) (s x:Operand) (t:TypeId)
    (ho:o.op = .call { callee := .builtin .append,args:=#[s,x],argTypes:=#[t,t] })
    (base:Nat) (e:TypeId) (i:TypeInfo) (z:Value) (size bytes:Nat) (ht:P.underlying t=some (.slice e)) (hi:P.info? e=some i) (hz:i.zero=some z)
    (hsize:i.size=size) (hby:i.bytes=bytes) (hzs:z.cells.size=size) (hsz:0<size)
    (v:Value) (n:Nat) (xs:List Value) (hs:a.eval s=v) (hown:w.ownsRow base e size v n xs)
    (B:Nat) (A:Option Addr) (m c:Nat) (news:List Value) (hx:a.eval x = .slice A m c) (hr:Reads w B size A m news) (h1:∀ u∈news,u.oneCell'=true)
    (h63:n+m≤maxLen) (hbytes:(n+m)*bytes≤140737488355328) (hbase:base≤w.heap.size)
    (h:∀ v' w',w'.ownsRow base e size v' (n+m) (xs ++ news)→w.grownBy w' v.ownBlock→(v'.ownBlock=v.ownBlock∨v'.ownBlock=some w.heap.size)→wpList P ops Q rest (a.put o.dst v') w'):wpList P ops Q (o :: rest) a w :=
  wpList_plain hgd fun _ hK=>wp_append_any w s x t ho base e i z size bytes ht hi hz hsize hby hzs hsz v n xs hs hown B A m c news hx hr h1 h63 hbytes hbase fun v' w' h2 h3 h4=>hK _ _ (h v' w' h2 h3 h4)

theorem step_append_any {ops:Array Oper} {o:Oper} {a:Act} {K:Act→World→Prop} {Q:Exit→Act→World→Prop} {E:Prop} (hgd:o.guard=none) (s x:Operand) (t:TypeId)
    (ho:o.op = .call { callee := .builtin .append,args:=#[s,x],argTypes:=#[t,t] })
    (base:Nat) (e:TypeId) (i:TypeInfo) (z:Value) (size bytes:Nat) (ht:P.underlying t=some (.slice e)) (hi:P.info? e=some i) (hz:i.zero=some z)
    (hsize:i.size=size) (hby:i.bytes=bytes) (hzs:z.cells.size=size) (hsz:0<size)
    (v:Value) (n:Nat) (xs:List Value) (hs:a.eval s=v) (hown:w.ownsRow base e size v n xs)
    (B:Nat) (A:Option Addr) (m c:Nat) (news:List Value) (hx:a.eval x = .slice A m c) (hr:Reads w B size A m news) (h1:∀ u∈news,u.oneCell'=true)
    (h63:n+m≤maxLen) (hbytes:(n+m)*bytes≤140737488355328) (hbase:base≤w.heap.size)
    (h:∀ v' w',w'.ownsRow base e size v' (n+m) (xs ++ news)→w.grownBy w' v.ownBlock→(v'.ownBlock=v.ownBlock∨v'.ownBlock=some w.heap.size)→K (a.put o.dst v') w') :
    if Region.wanted o (yielded ops a.tmps)=true then Oper.wp P o a w K Q else E:=by
  have hw:Region.wanted o (yielded ops a.tmps)=true:=by simp [Region.wanted,hgd]
  rw [if_pos hw]
  exact wp_append_any w s x t ho base e i z size bytes ht hi hz hsize hby hzs hsz v n xs hs hown B A m c news hx hr h1 h63 hbytes hbase h
end
end Go.Proofs.YtdipoojjlddohaaGreat
end
section
/- A row of the call's own, known from its head on: what it holds behind a new block, a call, a store, an append. -/
namespace Go.Proofs.YtdipoojjlddohaaGreat
open Go.RowKit

def Own (w:World) (e:TypeId) (size g n c:Nat) (xs:List Value):Prop :=
  xs.length=n*size∧∃ cur:Array Value,w.heap[g]?=some (.cells cur e (0,0))∧n≤c∧c≤maxLen∧cur.size=c*size∧cur.toList.take (n*size)=xs
section
variable {w w':World} {e:TypeId} {size g n c:Nat} {xs:List Value}
theorem Own.row (h:Own w e size g n c xs) {base:Nat} (hb:base≤g):w.ownsRow base e size (.slice (some ⟨g,0,none⟩) n c) n xs:=by
  obtain ⟨h1,cur,h2,h3⟩:=h
  exact ⟨h1, .inr ⟨g,c,cur,rfl,hb,h2,h3⟩⟩
theorem own_of_row {base:Nat} (h:w.ownsRow base e size (.slice (some ⟨g,0,none⟩) n c) n xs):Own w e size g n c xs∧base≤g:=by
  obtain ⟨h1,⟨h2,_⟩ | ⟨g',c',cur,h2,hb,h3⟩⟩:=h
  · simp at h2
  · simp only [Value.slice.injEq,Option.some.injEq,Addr.mk.injEq,and_true,true_and] at h2
    obtain ⟨rfl,rfl⟩:=h2
    exact ⟨⟨h1,cur,h3⟩,hb⟩
theorem Own.len (h:Own w e size g n c xs):xs.length=n*size:=h.1
theorem Own.lt (h:Own w e size g n c xs):g<w.heap.size:=by
  obtain ⟨_,cur,h2,_⟩:=h
  exact (Array.getElem?_eq_some_iff.1 h2).1
theorem Own.cap (h:Own w e size g n c xs):n≤c∧c≤maxLen:=by
  obtain ⟨_,cur,_,h3,h4,_⟩:=h
  exact ⟨h3,h4⟩
theorem Own.cell (h:Own w e size g n c xs) {j:Nat} (hj:j<n*size):w.cell? ⟨g,j,none⟩=xs[j]?:=(h.row (Nat.zero_le _)).cellAt j hj
theorem Own.free (h:Own w e size g n c xs) (j:Nat):w.frozen? ⟨g,j,none⟩=false:=(h.row (Nat.zero_le _)).frozenAt j
theorem Own.keep (h:Own w e size g n c xs) (hg:w'.heap[g]?=w.heap[g]?):Own w' e size g n c xs:=by
  obtain ⟨h1,cur,h2,h3⟩:=h
  exact ⟨h1,cur,hg.trans h2,h3⟩
theorem Own.call (h:Own w e size g n c xs) (hb:Below w.heap.size w w'):Own w' e size g n c xs:=h.keep (hb.block g h.lt)
theorem Own.below {B:Nat} (h:Own w e size g n c xs) (hb:Below B w w') (hlt:g<B):Own w' e size g n c xs:=h.keep (hb.block g hlt)
theorem Own.alloc (h:Own w e size g n c xs) (o:Obj):Own (w.alloc o) e size g n c xs:=h.keep (Below.heap_alloc w o g h.lt)
theorem Own.drew (h:Own w e size g n c xs):Own w.drew e size g n c xs:=h
theorem Own.other (h:Own w e size g n c xs) {p:Addr} (hne:g≠p.block) (v:Value):Own (w.setCell p v) e size g n c xs:=h.keep (Below.heap_setCell w p v g hne)
theorem Own.set (h:Own w e size g n c xs) (j:Nat) (u:Value):Own (w.setCell ⟨g,j,none⟩ u) e size g n c (xs.set j u) :=
  (own_of_row ((h.row (Nat.zero_le _)).stored j u).1).1
theorem Own.reads (h:Own w e size g n c xs):Reads w w.heap.size size (some ⟨g,0,none⟩) n xs:=Reads.of_own (h.row (Nat.zero_le _))
theorem Own.cut (h:Own w e size g n c xs) {k:Nat} (hk:k≤n):Own w e size g k c (xs.take (k*size)):=by
  obtain ⟨h1,cur,h2,h3,h4,h5,h6⟩:=h
  refine ⟨by rw [List.length_take,h1];exact Nat.min_eq_left (Nat.mul_le_mul_right _ hk),cur,h2,by omega,h4,h5,?_⟩
  rw [← h6,List.take_take,Nat.min_eq_left (Nat.mul_le_mul_right _ hk)]
theorem own_new {cs:Array Value} (hg:g=w.heap.size) (hm:n≤maxLen) (hs:cs.size=n*size):Own (w.alloc (.cells cs e)) e size g n n cs.toList:=by
  subst hg
  exact (own_of_row (World.ownsRow_lit (base:=0) w cs n (Nat.zero_le _) hm hs)).1
end

section
variable {w w':World} {b:Nat} {t:TypeId}
theorem row_three {x0 x1 x2:Value} (h:Row w b t #[x0,x1,x2]):w.cell? ⟨b,0,none⟩=some x0∧w.cell? ⟨b,1,none⟩=some x1∧w.cell? ⟨b,2,none⟩=some x2 ∧
    w.frozen? ⟨b,0,none⟩=false∧w.frozen? ⟨b,1,none⟩=false∧w.frozen? ⟨b,2,none⟩=false :=
  ⟨row_cell h 0,row_cell h 1,row_cell h 2,row_free h 0,row_free h 1,row_free h 2⟩
theorem row_four {x0 x1 x2 x3:Value} (h:Row w b t #[x0,x1,x2,x3]):w.cell? ⟨b,0,none⟩=some x0∧w.cell? ⟨b,1,none⟩=some x1∧w.cell? ⟨b,2,none⟩=some x2∧w.cell? ⟨b,3,none⟩=some x3 ∧
    w.frozen? ⟨b,0,none⟩=false∧w.frozen? ⟨b,1,none⟩=false∧w.frozen? ⟨b,2,none⟩=false∧w.frozen? ⟨b,3,none⟩=false :=
  ⟨row_cell h 0,row_cell h 1,row_cell h 2,row_cell h 3,row_free h 0,row_free h 1,row_free h 2,row_free h 3⟩
theorem row_six {x0 x1 x2 x3 x4 x5:Value} (h:Row w b t #[x0,x1,x2,x3,x4,x5]):w.cell? ⟨b,0,none⟩=some x0∧w.cell? ⟨b,1,none⟩=some x1∧w.cell? ⟨b,2,none⟩=some x2∧w.cell? ⟨b,3,none⟩=some x3∧w.cell? ⟨b,4,none⟩=some x4∧w.cell? ⟨b,5,none⟩=some x5 ∧
    w.frozen? ⟨b,0,none⟩=false∧w.frozen? ⟨b,1,none⟩=false∧w.frozen? ⟨b,2,none⟩=false∧w.frozen? ⟨b,3,none⟩=false∧w.frozen? ⟨b,4,none⟩=false∧w.frozen? ⟨b,5,none⟩=false :=
  ⟨row_cell h 0,row_cell h 1,row_cell h 2,row_cell h 3,row_cell h 4,row_cell h 5,row_free h 0,row_free h 1,row_free h 2,row_free h 3,row_free h 4,row_free h 5⟩
theorem row_seven {x0 x1 x2 x3 x4 x5 x6:Value} (h:Row w b t #[x0,x1,x2,x3,x4,x5,x6]):w.cell? ⟨b,0,none⟩=some x0∧w.cell? ⟨b,1,none⟩=some x1∧w.cell? ⟨b,2,none⟩=some x2∧w.cell? ⟨b,3,none⟩=some x3∧w.cell? ⟨b,4,none⟩=some x4∧w.cell? ⟨b,5,none⟩=some x5∧w.cell? ⟨b,6,none⟩=some x6 ∧
    w.frozen? ⟨b,0,none⟩=false∧w.frozen? ⟨b,1,none⟩=false∧w.frozen? ⟨b,2,none⟩=false∧w.frozen? ⟨b,3,none⟩=false∧w.frozen? ⟨b,4,none⟩=false∧w.frozen? ⟨b,5,none⟩=false∧w.frozen? ⟨b,6,none⟩=false :=
  ⟨row_cell h 0,row_cell h 1,row_cell h 2,row_cell h 3,row_cell h 4,row_cell h 5,row_cell h 6,row_free h 0,row_free h 1,row_free h 2,row_free h 3,row_free h 4,row_free h 5,row_free h 6⟩
end

theorem below_grown {B:Nat} {w0 w w':World} (hb:Below B w0 w) {r:Option Nat} (hg:w.grownBy w' r) (hr:∀ k,r=some k→B≤k) (hB:B≤w.heap.size):Below B w0 w' :=
  hb.trans ⟨hg.os,hg.tape,hg.output,hg.size,fun k hk=>hg.block k (by omega) (fun e=>by have:=hr k e.symm;omega)⟩

section
variable {P:Program}
theorem wpList_clone {w1:World} {ops:Array Oper} {rest:List Oper} {o:Oper} {a:Act} {Q:Exit→Act→World→Prop} (hgd:o.guard=none) (s x:Operand) (t:TypeId)
    (ho:o.op = .call { callee := .builtin .append,args:=#[s,x],argTypes:=#[t,t] })
    (e:TypeId) (i:TypeInfo) (z:Value) (size bytes:Nat) (ht:P.underlying t=some (.slice e)) (hi:P.info? e=some i) (hz:i.zero=some z)
    (hsize:i.size=size) (hby:i.bytes=bytes) (hzs:z.cells.size=size) (hsz:0<size)
    (hs:a.eval s = .slice (some ⟨w1.heap.size,0,none⟩) 0 0)
    (B:Nat) (A:Option Addr) (m c:Nat) (news:List Value) (hx:a.eval x = .slice A m c) (hr:Reads w1 B size A m news) (hB:B≤w1.heap.size) (h1:∀ u∈news,u.oneCell'=true)
    (h63:m≤maxLen) (hbytes:m*bytes≤140737488355328)
    (h:∀ g c' w',Own w' e size g m c' news→w1.heap.size≤g→Below w1.heap.size w1 w'→w1.heap.size+1≤w'.heap.size→wpList P ops Q rest (a.put o.dst (.slice (some ⟨g,0,none⟩) m c')) w') :
    wpList P ops Q (o :: rest) a (w1.alloc (.cells #[] e)):=by
  refine wpList_append_any (w1.alloc (.cells #[] e)) hgd s x t ho w1.heap.size e i z size bytes ht hi hz hsize hby hzs hsz (.slice (some ⟨w1.heap.size,0,none⟩) 0 0) 0 [] hs
    ((own_new (n:=0) rfl (by unfold maxLen;omega) (by simp)).row (Nat.le_refl _)) B A m c news hx (hr.alloc hB _) h1 (by omega) (by simpa using hbytes) (by simp) ?_
  intro v' w' hown hg hat
  rw [Nat.zero_add,List.nil_append] at hown
  have hv:∃ g c',v' = .slice (some ⟨g,0,none⟩) m c':=by
    rcases hown.2 with ⟨hv,_⟩ | ⟨g,c',cur,hv,_⟩
    · subst hv
      simp [Value.ownBlock] at hat
    · exact ⟨g,c',hv⟩
  obtain ⟨g,c',rfl⟩:=hv
  obtain ⟨ho',hbg⟩:=own_of_row hown
  refine h g c' w' ho' hbg ?_ ?_
  · exact below_grown ((Below.refl _ _).alloc (Nat.le_refl _) _) hg (fun k hk=>by simp [Value.ownBlock] at hk;omega) (by simp)
  · have:=hg.size
    simpa using this

theorem wpList_push {w:World} {ops:Array Oper} {rest:List Oper} {o:Oper} {a:Act} {Q:Exit→Act→World→Prop} (hgd:o.guard=none) (s x:Operand) (t:TypeId)
    (ho:o.op = .call { callee := .builtin .append,args:=#[s,x],argTypes:=#[t,t] })
    (e:TypeId) (i:TypeInfo) (z:Value) (size bytes:Nat) (ht:P.underlying t=some (.slice e)) (hi:P.info? e=some i) (hz:i.zero=some z)
    (hsize:i.size=size) (hby:i.bytes=bytes) (hzs:z.cells.size=size) (hsz:0<size)
    (base:Nat) (v:Value) (n:Nat) (xs:List Value) (hs:a.eval s=v) (hown:w.ownsRow base e size v n xs)
    (news:Array Value) (hx:a.eval x = .slice (some ⟨w.heap.size,0,none⟩) 1 1) (hn:news.size=size) (h1:∀ u∈news.toList,u.oneCell'=true)
    (h63:n+1≤maxLen) (hbytes:(n+1)*bytes≤140737488355328) (hbase:base≤w.heap.size)
    (h:∀ g c' w',Own w' e size g (n+1) c' (xs ++ news.toList)→base≤g→(v.ownBlock=some g∨g=w.heap.size+1)→(w.alloc (.cells news e)).grownBy w' v.ownBlock→wpList P ops Q rest (a.put o.dst (.slice (some ⟨g,0,none⟩) (n+1) c')) w') :
    wpList P ops Q (o :: rest) a (w.alloc (.cells news e)):=by
  refine wpList_append_any (w.alloc (.cells news e)) hgd s x t ho base e i z size bytes ht hi hz hsize hby hzs hsz v n xs hs (hown.alloc _) (w.heap.size+1) (some ⟨w.heap.size,0,none⟩) 1 1 news.toList hx ?_ h1 h63 hbytes (by simp;omega) ?_
  · have hq:=(own_new (w:=w) (e:=e) (size:=size) (n:=1) (cs:=news) rfl (by unfold maxLen;omega) (by omega)).reads
    simpa using hq
  · intro v' w' hown' hg hat
    have hv:∃ g c',v' = .slice (some ⟨g,0,none⟩) (n+1) c':=by
      rcases hown'.2 with ⟨_,h0⟩ | ⟨g,c',cur,hv,_⟩
      · omega
      · exact ⟨g,c',hv⟩
    obtain ⟨g,c',rfl⟩:=hv
    obtain ⟨ho',hbg⟩:=own_of_row hown'
    refine h g c' w' ho' hbg ?_ hg
    simp [Value.ownBlock] at hat
    rcases hat with hat | hat
    · exact .inl hat.symm
    · exact .inr hat

end
end Go.Proofs.YtdipoojjlddohaaGreat
end
