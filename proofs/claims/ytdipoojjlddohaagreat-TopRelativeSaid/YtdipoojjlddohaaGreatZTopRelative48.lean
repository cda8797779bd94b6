/- What the law TopRelative needs, joined of its texts by a program (slim2.py); part 48. -/
import Derived.Test.YtdipoojjlddohaaGreatZTopRelative1
import Derived.Test.YtdipoojjlddohaaGreatZTopRelative6
import Derived.Test.YtdipoojjlddohaaGreatZTopRelative47
set_option linter.unusedVariables false
set_option linter.unusedSimpArgs false
set_option linter.unusedSectionVars false
set_option linter.unnecessarySimpa false
set_option maxRecDepth 100000
namespace Go.Proofs.YtdipoojjlddohaaGreat
open MC
open MT
open Go.ChangeShapes Go.WideShapes Go.Deep Go.RowKit Go.Joins
theorem topRelative (x0 x1 x2 x3 x4 x5 x6 x7:Int) (A:Option Addr) (m c:Nat) (l:List Itm) (later:Int) (w:World) (hin:RIn A m c l w):Calls Tryz.prog 6 #[.agg #[x0,x1,x2,x3,x4,x5,x6,x7], .slice A m c, .int .i64 later] w (Rr (.bool true) w):=by
  obtain ⟨wd,e2⟩:∃ wd,1+x2 % 20=wd:=⟨_,rfl⟩
  obtain ⟨kk,e3⟩:∃ kk:Nat,1+x3 % 3=(kk:Int):=⟨(1+x3 % 3).toNat,by omega⟩
  obtain ⟨cap,e4⟩:∃ cap:Nat,2+x4 % 60=(cap:Int):=⟨(2+x4 % 60).toNat,by omega⟩
  obtain ⟨mx,e7⟩:∃ mx:Nat,1+x7 % 20=(mx:Int):=⟨(1+x7 % 20).toNat,by omega⟩
  obtain ⟨agg,e1⟩:∃ agg,1+x1 % 4=agg:=⟨_,rfl⟩
  have h:x0 % 5=((0:Nat):Int)∨x0 % 5=((1:Nat):Int)∨x0 % 5=((2:Nat):Int)∨x0 % 5=((3:Nat):Int)∨x0 % 5=((4:Nat):Int):=by omega
  rcases h with h | h | h | h | h
  · exact topRel x0 x1 x2 x3 x4 x5 x6 x7 0 _ _ _ _ _ _ _ _ _ _ _ _ _ A m c l _ _ _ h (by decide) rfl (Lib.hid (relCount x0 x1 x2 x3 x4 x5 x6 x7 A m c l e2 e3 e4)) later w hin
  · exact topRel x0 x1 x2 x3 x4 x5 x6 x7 1 _ _ _ _ _ _ _ _ _ _ _ _ _ A m c l _ _ _ h (by decide) rfl (Lib.hid (relSum x0 x1 x2 x3 x4 x5 x6 x7 A m c l e2 e3 e4 e7)) later w hin
  · exact topRel x0 x1 x2 x3 x4 x5 x6 x7 2 _ _ _ _ _ _ _ _ _ _ _ _ _ A m c l _ _ _ h (by decide) rfl (Lib.hid (relSmooth x0 x1 x2 x3 x4 x5 x6 x7 A m c l e2 e3 e1 e4)) later w hin
  · exact topRel x0 x1 x2 x3 x4 x5 x6 x7 3 _ _ _ _ _ _ _ _ _ _ _ _ _ A m c l _ _ _ h (by decide) rfl (Lib.hid (relSmooth x0 x1 x2 x3 x4 x5 x6 x7 A m c l e2 e3 e1 e4)) later w hin
  · exact topRel x0 x1 x2 x3 x4 x5 x6 x7 4 _ _ _ _ _ _ _ _ _ _ _ _ _ A m c l _ _ _ h (by decide) rfl (Lib.hid (relSpread x0 x1 x2 x3 x4 x5 x6 x7 A m c l e2 e3 e4)) later w hin
theorem cfgCells:Tryz.prog.cellsOf 27=8:=by kernel_rfl
theorem cfgI64:Tryz.prog.cellsOf 2=1:=by kernel_rfl
theorem cfgInt:Tryz.prog.cellsOf 3=1:=by kernel_rfl
theorem list8 {α:Type} {l:List α} (h:l.length=8):∃ a b c d e f g k,l=[a,b,c,d,e,f,g,k]:=by
  match l,h with
  | [a,b,c,d,e,f,g,k],_=>exact ⟨a,b,c,d,e,f,g,k,rfl⟩
section
variable {H:Type} {enc:TypeId×Value->H} {W:World}
set_option maxRecDepth 100000 in
theorem config_open {r:Reach} {b0:Nat} {v:Value} {d:DataW H} {p:List MemPlace} (hv:Value.okWide Tryz.prog W r b0 27 v) (h:DataW.Trod enc Tryz.prog W 0 (fun _=>true) true 27 v d p) :
    ∃ x0 x1 x2 x3 x4 x5 x6 x7:Int,v = .agg #[x0,x1,x2,x3,x4,x5,x6,x7]:=by
  obtain ⟨⟨l⟩,rfl,hsz⟩:=okWide_struct Tryz.underlying27 hv;obtain ⟨c0,c1,c2,c3,c4,c5,c6,c7,rfl⟩:=list8 (show l.length=8 from hsz.trans cfgCells);obtain ⟨fuel,hf⟩:=h;obtain ⟨xs,n,_,hx,hl,hlen,hfs⟩:=DataW.trod_struct Tryz.underlying27 hf;obtain ⟨y0,y1,y2,y3,y4,y5,y6,y7,rfl⟩:=list8 (show xs.length=8 from hlen);have e0:=hfs 0 _ rfl;have e1:=hfs 1 _ rfl;have e2:=hfs 2 _ rfl;have e3:=hfs 3 _ rfl;have e4:=hfs 4 _ rfl;have e5:=hfs 5 _ rfl;have e6:=hfs 6 _ rfl;have e7:=hfs 7 _ rfl;simp [Value.cells,cfgI64,cfgInt] at e0 e1 e2 e3 e4 e5 e6 e7;obtain ⟨x0,z0,_,w0⟩:=DataW.trod_int Tryz.underlying3 e0;obtain ⟨x1,z1,_,w1⟩:=DataW.trod_int Tryz.underlying3 e1;obtain ⟨x2,z2,_,w2⟩:=DataW.trod_int Tryz.underlying2 e2;obtain ⟨x3,z3,_,w3⟩:=DataW.trod_int Tryz.underlying3 e3;obtain ⟨x4,z4,_,w4⟩:=DataW.trod_int Tryz.underlying3 e4;obtain ⟨x5,z5,_,w5⟩:=DataW.trod_int Tryz.underlying3 e5;obtain ⟨x6,z6,_,w6⟩:=DataW.trod_int Tryz.underlying3 e6;obtain ⟨x7,z7,_,w7⟩:=DataW.trod_int Tryz.underlying2 e7;simp at z0 z1 z2 z3 z4 z5 z6 z7;subst z0 z1 z2 z3 z4 z5 z6 z7;exact ⟨x0,x1,x2,x3,x4,x5,x6,x7,rfl⟩
end
end Go.Proofs.YtdipoojjlddohaaGreat
namespace Go.Proofs.YtdipoojjlddohaaGreat
open MC
open MT
open Go.ChangeShapes Go.WideShapes Go.Deep Go.RowKit
section
variable {H:Type} {enc:TypeId×Value->H} {P:Program} {w:World} {base:Nat} {spare:Nat->Bool} {held:Bool}
theorem open_slice_fields {t e:TypeId} {fs:Array Field} {fuel:Nat} {cs:List Value} {x:DataW H×List MemPlace} (ht:P.underlying t=some (.slice e)) (he:P.underlying e=some (.struct fs))
    (hone:oneCellFields P fs=true) (hC:P.cellsOf e=fs.size) (h:DataW.trod enc P w base spare held fuel t cs=some x) :
    (cs=[.slice none 0 0]/\x=(.nil,[])) ∨
    ∃ (a:Addr) (len cap m:Nat) (D:Nat->DataW H) (Pl:Nat->List MemPlace),cs=[.slice (some a) len cap]/\base<=a.block/\len<=cap/\cap<=maxLen/\m=(if spare a.block then cap else len) /\
      x=(.slice ((List.range len).map D) ((List.range (m-len)).map fun j=>D (len+j)),MemPlace.row a (m*fs.size) ++ (List.range m).flatMap Pl) /\
      ∀ i,i<m->∃ (ys:List (DataW H×List MemPlace)) (n:Nat),D i = .agg (ys.map (·.1))/\Pl i=ys.flatMap (·.2)/\ys.length=fs.size /\
        ∀ (j:Nat) (f:Field),fs[j]?=some f->∃ (v:Value) (y:DataW H×List MemPlace),w.cell? (a.add (i*fs.size+j))=some v/\ys[j]?=some y/\DataW.trod enc P w base spare held n f.type [v]=some y:=by
  rcases open_slice ht h with h0 | ⟨a,len,cap,m,n,D,Pl,hcs,hb,hl,hm,hmm,hx,hi⟩
  · exact .inl h0
  · refine .inr ⟨a,len,cap,m,D,Pl,hcs,hb,hl,hm,hmm,by rw [hC] at hx;exact hx,fun i him=>?_⟩;obtain ⟨cs',hc,ht'⟩:=hi i him;rw [hC] at hc;obtain ⟨ys,n',hn',hy,hlen,hyl,hf⟩:=DataW.trod_struct he ht';obtain ⟨_,hcl,hat⟩:=World.cells?_some hc;simp only [Prod.mk.injEq] at hy;refine ⟨ys,n',hy.1,hy.2,hyl,fun j f hj=>?_⟩;obtain ⟨ho,hk⟩:=hone_of hone j f hj;have hjl:j<fs.size:=(Array.getElem?_eq_some_iff.1 hj).1;have hcell:=hat j hjl;have hv:cs'[j]?=some (cs'[j]'(by omega)):=List.getElem?_eq_getElem (by omega);have h1:=hf j f hj;rw [ho,hk] at h1
    have hone':(cs'.drop j).take 1=[cs'[j]'(by omega)]:=by
      rw [List.drop_eq_getElem_cons (by omega)];rfl
    rw [hone'] at h1;have hys:ys[j]?=some (ys[j]'(by omega)):=List.getElem?_eq_getElem (by omega);refine ⟨_,_,?_,hys,h1.trans hys⟩;rw [<- Go.Deep.add_add,hcell,hv]
end

theorem cellsItm:Tryz.prog.cellsOf 90=2:=by kernel_rfl
theorem i64_wf {x:Int} (h:(Lit.int .i64 x).wf=true) : -9223372036854775808<=x/\x<=9223372036854775807:=by
  simp [Lit.wf,IntKind.min,IntKind.max,IntKind.signed,IntKind.bits] at h;exact ⟨by omega,by omega⟩
section
variable {H:Type} {enc:TypeId×Value->H} {W:World}
theorem list_of {P:Nat->Itm->Prop}:∀ n,(∀ i,i<n->∃ x,P i x)->∃ l:List Itm,l.length=n/\∀ i,i<n->P i (itmAt l i)
  | 0,_=>⟨[],rfl,fun i h=>absurd h (by omega)⟩
  | n+1,h=>by
    obtain ⟨l,h1,h2⟩:=list_of n (fun i hi=>h i (by omega));obtain ⟨x,hx⟩:=h n (by omega);refine ⟨l ++ [x],by simp [h1],fun i hi=>?_⟩;by_cases c:i<n
    · rw [itm_left (by omega)];exact h2 i c
    · obtain rfl:i=l.length:=by omega
      rw [itm_last,h1];exact hx
set_option maxRecDepth 100000 in
theorem rin_open {r:Reach} {b0:Nat} {v:Value} {d:DataW H} {p:List MemPlace} (hv:Value.okWide Tryz.prog W r b0 22 v) (h:DataW.Trod enc Tryz.prog W 0 (fun _=>true) true 22 v d p) :
    ∃ A m c l,v = .slice A m c/\RIn A m c l W:=by
  obtain ⟨a,len,cap,rfl⟩:=okWide_slice Tryz.underlying22 hv;obtain ⟨fuel,hf⟩:=h;rcases open_slice_fields Tryz.underlying22 Tryz.underlying90 (by kernel_rfl) cellsItm hf with ⟨h1,_⟩ | ⟨a',len',cap',m,D,Pl,h1,_,hl,hc,hm0,_,hi⟩
  · simp [Value.cells] at h1;obtain ⟨rfl,rfl,rfl⟩:=h1;exact ⟨none,0,0,[],rfl,by simpa [icells] using Reads.none_,by simp [itmAt],by simp [itmAt],Nat.le_refl _,Nat.zero_le _⟩
  · simp [Value.cells] at h1;obtain ⟨rfl,rfl,rfl⟩:=h1
    have hm:len<=m:=by
      rw [hm0,if_pos rfl];exact hl
    have hh:∀ i,i<len->∃ x:Itm,(W.cell? (a'.add (i*2))=some (.int .i64 x.t)/\W.cell? (a'.add (i*2+1))=some (.int .i64 x.v))/\(-9223372036854775808<=x.t/\x.t<=9223372036854775807)/\(-9223372036854775808<=x.v/\x.v<=9223372036854775807):=by
      intro i hi';obtain ⟨ys,n,_,_,_,hf⟩:=hi i (by omega);obtain ⟨v0,y0,c0,_,t0⟩:=hf 0 _ rfl;obtain ⟨v1,y1,c1,_,t1⟩:=hf 1 _ rfl;obtain ⟨x0,e0,_,w0⟩:=DataW.trod_int Tryz.underlying2 t0;obtain ⟨x1,e1,_,w1⟩:=DataW.trod_int Tryz.underlying2 t1;simp at e0 e1;subst e0 e1;exact ⟨⟨x0,x1⟩,⟨c0,c1⟩,i64_wf w0,i64_wf w1⟩
    obtain ⟨l,hl1,hl2⟩:=list_of len hh
    have hb:∀ i,(-9223372036854775808<=(itmAt l i).t/\(itmAt l i).t<=9223372036854775807)/\(-9223372036854775808<=(itmAt l i).v/\(itmAt l i).v<=9223372036854775807):=by
      intro i;by_cases c:i<len
      · exact (hl2 i c).2
      · have:itmAt l i=⟨0,0⟩:=by unfold itmAt;rw [List.getD_eq_getElem?_getD,List.getElem?_eq_none (by omega)];rfl
        rw [this];exact ⟨⟨by decide,by decide⟩,by decide,by decide⟩
    refine ⟨some a',len,cap,l,rfl,⟨by rw [icells_len,hl1],fun h0=>⟨a',rfl,?_,fun j u hu=>?_⟩⟩,fun i=>(hb i).1,fun i=>(hb i).2,hl,hc⟩
    · have:=World.block_lt_of_cell? W _ (hl2 0 h0).1.1;rw [block_of_add] at this;exact this
    · have hj:j<len*2:=by
        have:=(List.getElem?_eq_some_iff.1 hu).1;rw [icells_len,hl1] at this;exact this
      have hat:=icells_at l (j / 2) (by omega);have hcl:=(hl2 (j / 2) (by omega)).1;rcases Nat.mod_two_eq_zero_or_one j with hp | hp
      · have e:j / 2*2=j:=by omega
        rw [e] at hat hcl;rw [hu] at hat;rw [hcl.1,hat.1]
      · have e:j / 2*2+1=j:=by omega
        rw [e] at hat hcl;rw [hu] at hat;rw [hcl.2,hat.2]
end
end Go.Proofs.YtdipoojjlddohaaGreat
