/- The law WideWrites of the given program: for every input the call returns true, and each argument reads behind the call as it read before. No conditions. -/
import Derived.Test.YtoemccfpinonhaaLawG
import Derived.Test.YtoemccfpinonhaaRows
import Derived.Test.YtoemccfpinonhaaBase
import Derived.ProofKit
import Derived.Lib.SmallJoins
import Derived.SizedLaws
import Derived.Carry
namespace Go.Proofs.Ytoemccfpinonhaa.lWideWrites
open Go.ChangeShapes Go.WideShapes Go.ChangeAt Go.RowKit Go.Joins Go.WideMaps Go.WideElems
open Go.ChangeMaps (open_string shut_string)

theorem own : ownKnob Try.prog.godebug = none := by kernel_rfl
theorem word_of_wf {x : Int} (h : (Lit.int .u64 x).wf = true) : Word x := by
  simp [Lit.wf, IntKind.min, IntKind.max, IntKind.signed, IntKind.bits] at h
  exact ⟨by omega, by omega⟩
theorem i64_of_wf {x : Int} (h : (Lit.int .i64 x).wf = true) : -9223372036854775808 ≤ x ∧ x ≤ 9223372036854775807 := by
  simp [Lit.wf, IntKind.min, IntKind.max, IntKind.signed, IntKind.bits] at h
  exact ⟨by omega, by omega⟩
theorem cellsW : Try.prog.cellsOf 24 = 2 := by kernel_rfl
set_option maxRecDepth 100000 in
theorem lifted (os : Os) (started : os.Started) (H : Type) (enc : TypeId × Value → H) :
    ReturnsInHanded {} Try.checked os 10 .any (Rows.wideWritesSpec.pre6 enc Try.prog Try.f10 Rows.wideWritesRow.domain false) (Rows.wideWritesSpec.post enc Try.prog Try.f10 false true false false) := by
  refine returnsInHanded_of_change (C := Try.checked) own started (by kernel_rfl) Try.func10
    (ChangeSpec.witness6 (enc := enc) (C := Try.checked) false ⟨#[], #[.agg #[.int .u64 0, .int .u64 0]], []⟩ 8 (by kernel_rfl) (by kernel_rfl) (by kernel_rfl) (by kernel_rfl)) ?_
  intro W base args ds gs before hval0 hW hcnd _
  have hval : ∀ (j : Nat) t v, Try.f10.params[j]? = some t → args[j]? = some v → Value.okWide Try.prog W .any base t v := hval0
  have hW' := hW
  obtain ⟨p, q, hA0, hV, rfl, hfz, hnd⟩ := hW
  have hA : DataW.TrodAll enc Try.prog W 0 (fun _ => true) true Try.f10.params.toList args.toList ds p := hA0
  rw [Try.params10] at hA hval
  obtain ⟨v0, d0, rfl, rfl, h0⟩ := trodAll_one hA
  obtain ⟨rfl, rfl⟩ := trodVars_none hV
  obtain ⟨a0, b0, y00, y01, m0, rfl, rfl, rfl, hy00, hy01⟩ := open_agg2 Try.underlying24 (by kernel_rfl) cellsW (hval 0 24 v0 rfl rfl) h0
  obtain ⟨x0, ea0, rfl, wx0⟩ := DataW.trod_int Try.underlying22 hy00
  obtain ⟨z0, eb0, rfl, wz0⟩ := DataW.trod_int Try.underlying22 hy01
  simp at ea0 eb0
  subst ea0 eb0
  clear hA0 hval0
  obtain ⟨n0, hn0, rfl, rfl⟩ := of_words (word_of_wf wx0) (word_of_wf wz0)
  simp only [List.append_nil] at hW'
  refine (wideWrites n0 hn0 W).mono fun e W' ⟨he, hb⟩ => ?_
  subst he
  exact ⟨_, rfl, post_of_below (pa := []) (pv := []) hW' (fun _ _ _ => trodAll_mk1 (shut_bool Try.underlying4 _)) (fun sp _ => trodAll_mk1 (shut_agg2 (y0 := (.lit (.int .u64 (hi n0)), [])) (y1 := (.lit (.int .u64 (lo n0)), [])) Try.underlying24 (by kernel_rfl) cellsW ⟨1, trod_int_mk 0 Try.underlying22 wx0⟩ ⟨1, trod_int_mk 0 Try.underlying22 wz0⟩)) (fun _ _ => rfl) rfl hb (ok_one (by kernel_rfl) rfl (okWide_bool_mk Try.underlying4 _))⟩

theorem holds : Rows.WideWritesSaid :=
  OpenClaim.holds_of_wide 10 Try.f10 rfl rfl rfl rfl rfl rfl rfl ⟨rfl, rfl, rfl, rfl, rfl⟩ rfl rfl rfl rfl rfl (by kernel_rfl) Try.func10 (by kernel_rfl)
    (of_decide_eq_true (by kernel_rfl)) (by unfold Func.isWrapper; first | (rw [if_pos (by decide +kernel)]; kernel_rfl) | (rw [if_neg (by decide +kernel)]; exact ⟨rfl, rfl⟩))
    (fun os started H enc _ => lifted os started H enc)
#print axioms holds
end Go.Proofs.Ytoemccfpinonhaa.lWideWrites
