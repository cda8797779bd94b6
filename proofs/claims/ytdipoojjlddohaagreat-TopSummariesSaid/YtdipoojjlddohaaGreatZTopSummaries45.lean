/- What the law TopSummaries needs, joined of its texts by a program (slim2.py); part 45. -/
import Derived.Test.YtdipoojjlddohaaGreatZTopSummaries1
import Derived.Test.YtdipoojjlddohaaGreatZTopSummaries7
set_option linter.unusedVariables false
set_option linter.unusedSimpArgs false
set_option linter.unusedSectionVars false
set_option linter.unnecessarySimpa false
section
/- A parameter that is a slice of items opened to what it reads (open_slice_fields is the guide's, extra-structs.md, copied as that page bids). -/
namespace Go.Proofs.YtdipoojjlddohaaGreat
open Go.ChangeShapes Go.WideShapes Go.Deep Go.RowKit
section
variable {H:Type} {enc:TypeId×Value→H} {P:Program} {w:World} {base:Nat} {spare:Nat→Bool} {held:Bool}
theorem open_slice_fields {t e:TypeId} {fs:Array Field} {fuel:Nat} {cs:List Value} {x:DataW H×List MemPlace} (ht:P.underlying t=some (.slice e)) (he:P.underlying e=some (.struct fs))
    (hone:oneCellFields P fs=true) (hC:P.cellsOf e=fs.size) (h:DataW.trod enc P w base spare held fuel t cs=some x) :
    (cs=[.slice none 0 0]∧x=(.nil,[])) ∨
    ∃ (a:Addr) (len cap m:Nat) (D:Nat→DataW H) (Pl:Nat→List MemPlace),cs=[.slice (some a) len cap]∧base≤a.block∧len≤cap∧cap≤maxLen∧m=(if spare a.block then cap else len) ∧
      x=(.slice ((List.range len).map D) ((List.range (m-len)).map fun j=>D (len+j)),MemPlace.row a (m*fs.size) ++ (List.range m).flatMap Pl) ∧
      ∀ i,i<m→∃ (ys:List (DataW H×List MemPlace)) (n:Nat),D i = .agg (ys.map (·.1))∧Pl i=ys.flatMap (·.2)∧ys.length=fs.size ∧
        ∀ (j:Nat) (f:Field),fs[j]?=some f→∃ (v:Value) (y:DataW H×List MemPlace),w.cell? (a.add (i*fs.size+j))=some v∧ys[j]?=some y∧DataW.trod enc P w base spare held n f.type [v]=some y:=by
  rcases open_slice ht h with h0 | ⟨a,len,cap,m,n,D,Pl,hcs,hb,hl,hm,hmm,hx,hi⟩
  · exact .inl h0
  · refine .inr ⟨a,len,cap,m,D,Pl,hcs,hb,hl,hm,hmm,by rw [hC] at hx;exact hx,fun i him=>?_⟩
    obtain ⟨cs',hc,ht'⟩:=hi i him
    rw [hC] at hc
    obtain ⟨ys,n',hn',hy,hlen,hyl,hf⟩:=DataW.trod_struct he ht'
    obtain ⟨_,hcl,hat⟩:=World.cells?_some hc
    simp only [Prod.mk.injEq] at hy
    refine ⟨ys,n',hy.1,hy.2,hyl,fun j f hj=>?_⟩
    obtain ⟨ho,hk⟩:=hone_of hone j f hj
    have hjl:j<fs.size:=(Array.getElem?_eq_some_iff.1 hj).1
    have hcell:=hat j hjl
    have hv:cs'[j]?=some (cs'[j]'(by omega)):=List.getElem?_eq_getElem (by omega)
    have h1:=hf j f hj
    rw [ho,hk] at h1
    have hone':(cs'.drop j).take 1=[cs'[j]'(by omega)]:=by
      rw [List.drop_eq_getElem_cons (by omega)]
      rfl
    rw [hone'] at h1
    have hys:ys[j]?=some (ys[j]'(by omega)):=List.getElem?_eq_getElem (by omega)
    refine ⟨_,_,?_,hys,h1.trans hys⟩
    rw [← Go.Deep.add_add,hcell,hv]
end

theorem cellsItm:Tryz.prog.cellsOf 90=2:=by kernel_rfl
theorem i64_wf {x:Int} (h:(Lit.int .i64 x).wf=true) : -9223372036854775808≤x∧x≤9223372036854775807:=by
  simp [Lit.wf,IntKind.min,IntKind.max,IntKind.signed,IntKind.bits] at h
  exact ⟨by omega,by omega⟩
section
variable {H:Type} {enc:TypeId×Value→H} {W:World}
theorem list_of {P:Nat→Itm→Prop}:∀ n,(∀ i,i<n→∃ x,P i x)→∃ l:List Itm,l.length=n∧∀ i,i<n→P i (itmAt l i)
  | 0,_=>⟨[],rfl,fun i h=>absurd h (by omega)⟩
  | n+1,h=>by
    obtain ⟨l,h1,h2⟩:=list_of n (fun i hi=>h i (by omega))
    obtain ⟨x,hx⟩:=h n (by omega)
    refine ⟨l ++ [x],by simp [h1],fun i hi=>?_⟩
    by_cases c:i<n
    · rw [itm_left (by omega)]
      exact h2 i c
    · obtain rfl:i=l.length:=by omega
      rw [itm_last,h1]
      exact hx
set_option maxRecDepth 100000 in
theorem rin_open {r:Reach} {b0:Nat} {v:Value} {d:DataW H} {p:List MemPlace} (hv:Value.okWide Tryz.prog W r b0 22 v) (h:DataW.Trod enc Tryz.prog W 0 (fun _=>true) true 22 v d p) :
    ∃ A m c l,v = .slice A m c∧RIn A m c l W:=by
  obtain ⟨a,len,cap,rfl⟩:=okWide_slice Tryz.underlying22 hv
  obtain ⟨fuel,hf⟩:=h
  rcases open_slice_fields Tryz.underlying22 Tryz.underlying90 (by kernel_rfl) cellsItm hf with ⟨h1,_⟩ | ⟨a',len',cap',m,D,Pl,h1,_,hl,hc,hm0,_,hi⟩
  · simp [Value.cells] at h1
    obtain ⟨rfl,rfl,rfl⟩:=h1
    exact ⟨none,0,0,[],rfl,by simpa [icells] using Reads.none_,by simp [itmAt],by simp [itmAt],Nat.le_refl _,Nat.zero_le _⟩
  · simp [Value.cells] at h1
    obtain ⟨rfl,rfl,rfl⟩:=h1
    have hm:len≤m:=by
      rw [hm0,if_pos rfl]
      exact hl
    have hh:∀ i,i<len→∃ x:Itm,(W.cell? (a'.add (i*2))=some (.int .i64 x.t)∧W.cell? (a'.add (i*2+1))=some (.int .i64 x.v))∧(-9223372036854775808≤x.t∧x.t≤9223372036854775807)∧(-9223372036854775808≤x.v∧x.v≤9223372036854775807):=by
      intro i hi'
      obtain ⟨ys,n,_,_,_,hf⟩:=hi i (by omega)
      obtain ⟨v0,y0,c0,_,t0⟩:=hf 0 _ rfl
      obtain ⟨v1,y1,c1,_,t1⟩:=hf 1 _ rfl
      obtain ⟨x0,e0,_,w0⟩:=DataW.trod_int Tryz.underlying2 t0
      obtain ⟨x1,e1,_,w1⟩:=DataW.trod_int Tryz.underlying2 t1
      simp at e0 e1
      subst e0 e1
      exact ⟨⟨x0,x1⟩,⟨c0,c1⟩,i64_wf w0,i64_wf w1⟩
    obtain ⟨l,hl1,hl2⟩:=list_of len hh
    have hb:∀ i,(-9223372036854775808≤(itmAt l i).t∧(itmAt l i).t≤9223372036854775807)∧(-9223372036854775808≤(itmAt l i).v∧(itmAt l i).v≤9223372036854775807):=by
      intro i
      by_cases c:i<len
      · exact (hl2 i c).2
      · have:itmAt l i=⟨0,0⟩:=by unfold itmAt;rw [List.getD_eq_getElem?_getD,List.getElem?_eq_none (by omega)];rfl
        rw [this]
        exact ⟨⟨by decide,by decide⟩,by decide,by decide⟩
    refine ⟨some a',len,cap,l,rfl,⟨by rw [icells_len,hl1],fun h0=>⟨a',rfl,?_,fun j u hu=>?_⟩⟩,fun i=>(hb i).1,fun i=>(hb i).2,hl,hc⟩
    · have:=World.block_lt_of_cell? W _ (hl2 0 h0).1.1
      rw [block_of_add] at this
      exact this
    · have hj:j<len*2:=by
        have:=(List.getElem?_eq_some_iff.1 hu).1
        rw [icells_len,hl1] at this
        exact this
      have hat:=icells_at l (j / 2) (by omega)
      have hcl:=(hl2 (j / 2) (by omega)).1
      rcases Nat.mod_two_eq_zero_or_one j with hp | hp
      · have e:j / 2*2=j:=by omega
        rw [e] at hat hcl
        rw [hu] at hat
        rw [hcl.1,hat.1]
      · have e:j / 2*2+1=j:=by omega
        rw [e] at hat hcl
        rw [hu] at hat
        rw [hcl.2,hat.2]
end
end Go.Proofs.YtdipoojjlddohaaGreat
end
