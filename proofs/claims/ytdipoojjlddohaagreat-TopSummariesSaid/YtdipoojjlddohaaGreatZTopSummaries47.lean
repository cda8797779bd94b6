/- The law TopSummaries of the given program: for every input the call returns true, and each argument reads behind the call as it read before. No conditions. -/
import Derived.Test.YtdipoojjlddohaaGreatZTopSummaries1
import Derived.Test.YtdipoojjlddohaaGreatZTopSummaries4
import Derived.Test.YtdipoojjlddohaaGreatZTopSummaries44
import Derived.Test.YtdipoojjlddohaaGreatZTopSummaries45
import Derived.Test.YtdipoojjlddohaaGreatZTopSummaries46
set_option linter.unusedVariables false
set_option linter.unusedSimpArgs false
set_option linter.unusedSectionVars false
set_option linter.unnecessarySimpa false
section
/- The law TopSummaries of the given program: for every input the call returns true, and each argument reads behind the call as it read before. No conditions. -/
namespace Go.Proofs.YtdipoojjlddohaaGreat.lTopSummaries
open Go.ChangeShapes Go.WideShapes Go.ChangeAt Go.RowKit Go.Joins Go.WideMaps Go.WideElems Go.Deep

theorem own:ownKnob Tryz.prog.godebug=none:=by kernel_rfl
theorem laid_out:laidOutB Tryz.prog=true:=topSummaries_laid
theorem readable:(Tryz.f4.params.toList.all fun t=>Tryz.prog.readableRec t && decide (t<Tryz.prog.types.size))=true:=by kernel_rfl
set_option maxRecDepth 100000 in
theorem lifted (os:Os) (started:os.Started) (H:Type) (enc:TypeId×Value→H) :
    ReturnsInHanded {} Tryz.checked os 4 .any (Rows.topSummariesSpec.pre6 enc Tryz.prog Tryz.f4 Rows.topSummariesRow.domain false) (Rows.topSummariesSpec.post enc Tryz.prog Tryz.f4 false true false false):=by
  refine returnsInHanded_of_change (C:=Tryz.checked) own started (by kernel_rfl) Tryz.func4
    (ChangeSpec.witness6 (enc:=enc) (C:=Tryz.checked) false ⟨#[],#[.slice none 0 0, .int .i64 0, .int .i64 0, .int .i64 0],[]⟩ 8 (by kernel_rfl) (by kernel_rfl) (by kernel_rfl) (by kernel_rfl)) ?_
  intro W base args ds gs before hval0 hW hcnd _
  have hval:∀ (j:Nat) t v,Tryz.f4.params[j]?=some t→args[j]?=some v→Value.okWide Tryz.prog W .any base t v:=hval0
  have hW':=hW
  obtain ⟨p,q,hA0,hV,rfl,hfz,hnd⟩:=hW
  have hA:DataW.TrodAll enc Tryz.prog W 0 (fun _=>true) true Tryz.f4.params.toList args.toList ds p:=hA0
  have hAA:=hA
  rw [Tryz.params4] at hA hval
  obtain ⟨v0,v1,v2,v3,d0,d1,d2,d3,p0,p1,p2,p3,rfl,rfl,rfl,h0,h1,h2,h3⟩:=trodAll_four hA
  obtain ⟨rfl,rfl⟩:=trodVars_none hV
  obtain ⟨A0,m0,c0,l0,rfl,rin0⟩:=rin_open (hval 0 22 v0 rfl rfl) h0
  obtain ⟨x1,rfl,rfl,rfl,wx1⟩:=open_int Tryz.underlying3 (hval 1 3 v1 rfl rfl) h1
  obtain ⟨x2,rfl,rfl,rfl,wx2⟩:=open_int Tryz.underlying3 (hval 2 3 v2 rfl rfl) h2
  obtain ⟨x3,rfl,rfl,rfl,wx3⟩:=open_int Tryz.underlying2 (hval 3 2 v3 rfl rfl) h3
  clear hA0 hval0
  refine (topSummaries A0 m0 c0 l0 x1 x2 x3 W rin0).mono fun e W' ⟨he,hb⟩=>?_
  subst he
  refine ⟨_,rfl,post_of_below (pa:=_) (pv:=[]) hW' (fun _ _ _=>trodAll_mk1 (shut_bool Tryz.underlying4 _)) (fun sp hsp=>?_) (fun _ _=>rfl) rfl hb (ok_one (by kernel_rfl) rfl (okWide_bool_mk Tryz.underlying4 _))⟩
  exact trodAll_stays laid_out hb (fun t ht=>by have:=List.all_eq_true.1 readable t ht;simpa using this) hAA (fun x hx=>hW'.lt x (List.mem_append_left _ hx)) (fun x hx=>hsp x (List.mem_append_left _ hx))

set_option maxHeartbeats 1000000 in
theorem holds:Rows.TopSummariesSaid :=
  OpenClaim.holds_of_wide 4 Tryz.f4 rfl rfl rfl rfl rfl rfl rfl ⟨rfl,rfl,rfl,rfl,rfl⟩ rfl rfl rfl rfl rfl topSummaries_named Tryz.func4 topSummaries_joined topSummaries_inst topSummaries_wrap
    (fun os started H enc _=>lifted os started H enc)
#print axioms holds
end Go.Proofs.YtdipoojjlddohaaGreat.lTopSummaries
end
