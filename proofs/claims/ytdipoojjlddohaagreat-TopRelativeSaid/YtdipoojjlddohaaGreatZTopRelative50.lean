/- The law TopRelative of the given program: for every input the call returns true, and each argument reads behind the call as it read before. No conditions. -/
import Derived.Test.YtdipoojjlddohaaGreatZTopRelative1
import Derived.Test.YtdipoojjlddohaaGreatZTopRelative3
import Derived.Test.YtdipoojjlddohaaGreatZTopRelative48
import Derived.Test.YtdipoojjlddohaaGreatZTopRelative49
set_option linter.unusedVariables false
set_option linter.unusedSimpArgs false
set_option linter.unusedSectionVars false
set_option linter.unnecessarySimpa false
section
/- The law TopRelative of the given program: for every input the call returns true, and each argument reads behind the call as it read before. No conditions. -/
namespace Go.Proofs.YtdipoojjlddohaaGreat.lTopRelative
open Go.ChangeShapes Go.WideShapes Go.ChangeAt Go.RowKit Go.Joins Go.WideMaps Go.WideElems Go.Deep

theorem own:ownKnob Tryz.prog.godebug=none:=by kernel_rfl
theorem i64_of_wf {x:Int} (h:(Lit.int .i64 x).wf=true) : -9223372036854775808≤x∧x≤9223372036854775807:=by
  simp [Lit.wf,IntKind.min,IntKind.max,IntKind.signed,IntKind.bits] at h
  exact ⟨by omega,by omega⟩
theorem laid_out:laidOutB Tryz.prog=true:=topRelative_laid
theorem readable:(Tryz.f6.params.toList.all fun t=>Tryz.prog.readableRec t && decide (t<Tryz.prog.types.size))=true:=by kernel_rfl
set_option maxRecDepth 100000 in
theorem lifted (os:Os) (started:os.Started) (H:Type) (enc:TypeId×Value→H) :
    ReturnsInHanded {} Tryz.checked os 6 .any (Rows.topRelativeSpec.pre6 enc Tryz.prog Tryz.f6 Rows.topRelativeRow.domain false) (Rows.topRelativeSpec.post enc Tryz.prog Tryz.f6 false true false false):=by
  refine returnsInHanded_of_change (C:=Tryz.checked) own started (by kernel_rfl) Tryz.func6
    (ChangeSpec.witness6 (enc:=enc) (C:=Tryz.checked) false ⟨#[],#[.agg #[.int .i64 0, .int .i64 0, .int .i64 0, .int .i64 0, .int .i64 0, .int .i64 0, .int .i64 0, .int .i64 0], .slice none 0 0, .int .i64 0],[]⟩ 8 (by kernel_rfl) (by kernel_rfl) (by kernel_rfl) (by kernel_rfl)) ?_
  intro W base args ds gs before hval0 hW hcnd _
  have hval:∀ (j:Nat) t v,Tryz.f6.params[j]?=some t→args[j]?=some v→Value.okWide Tryz.prog W .any base t v:=hval0
  have hW':=hW
  obtain ⟨p,q,hA0,hV,rfl,hfz,hnd⟩:=hW
  have hA:DataW.TrodAll enc Tryz.prog W 0 (fun _=>true) true Tryz.f6.params.toList args.toList ds p:=hA0
  have hAA:=hA
  rw [Tryz.params6] at hA hval
  obtain ⟨v0,v1,v2,d0,d1,d2,p0,p1,p2,rfl,rfl,rfl,h0,h1,h2⟩:=trodAll_three hA
  obtain ⟨rfl,rfl⟩:=trodVars_none hV
  obtain ⟨a0_0,a0_1,a0_2,a0_3,a0_4,a0_5,a0_6,a0_7,rfl⟩:=config_open (hval 0 27 v0 rfl rfl) h0
  obtain ⟨A1,m1,c1,l1,rfl,rin1⟩:=rin_open (hval 1 22 v1 rfl rfl) h1
  obtain ⟨x2,rfl,rfl,rfl,wx2⟩:=open_int Tryz.underlying2 (hval 2 2 v2 rfl rfl) h2
  clear hA0 hval0
  refine (topRelative a0_0 a0_1 a0_2 a0_3 a0_4 a0_5 a0_6 a0_7 A1 m1 c1 l1 x2 W rin1).mono fun e W' ⟨he,hb⟩=>?_
  subst he
  refine ⟨_,rfl,post_of_below (pa:=_) (pv:=[]) hW' (fun _ _ _=>trodAll_mk1 (shut_bool Tryz.underlying4 _)) (fun sp hsp=>?_) (fun _ _=>rfl) rfl hb (ok_one (by kernel_rfl) rfl (okWide_bool_mk Tryz.underlying4 _))⟩
  exact trodAll_stays laid_out hb (fun t ht=>by have:=List.all_eq_true.1 readable t ht;simpa using this) hAA (fun x hx=>hW'.lt x (List.mem_append_left _ hx)) (fun x hx=>hsp x (List.mem_append_left _ hx))

set_option maxHeartbeats 1000000 in
theorem holds:Rows.TopRelativeSaid :=
  OpenClaim.holds_of_wide 6 Tryz.f6 rfl rfl rfl rfl rfl rfl rfl ⟨rfl,rfl,rfl,rfl,rfl⟩ rfl rfl rfl rfl rfl topRelative_named Tryz.func6 topRelative_joined topRelative_inst topRelative_wrap
    (fun os started H enc _=>lifted os started H enc)
#print axioms holds
end Go.Proofs.YtdipoojjlddohaaGreat.lTopRelative
end
