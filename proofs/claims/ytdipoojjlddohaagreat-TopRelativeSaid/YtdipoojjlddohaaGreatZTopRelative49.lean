/- What the law TopRelative needs, joined of its texts by a program (slim2.py); part 49. -/
import Derived.Test.YtdipoojjlddohaaGreatRows
import Derived.ProofKit
import Derived.JoinedOf
set_option linter.unusedVariables false
set_option linter.unusedSimpArgs false
set_option linter.unusedSectionVars false
set_option linter.unnecessarySimpa false
section
/- Closed facts of the law TopRelative's function. -/
namespace Go.Proofs.YtdipoojjlddohaaGreat
theorem topRelative_named:Tryz.pinned.checked.prog.funcNamed Rows.topRelativeRow.func=some 6:=by as_aux_lemma=>kernel_rfl
set_option maxHeartbeats 100000000 in
theorem topRelative_joined:joinedFacts Tryz.pinned.checked.prog 6 Tryz.f6 Rows.topRelativeSpec Rows.topRelativeRow=true:=by
  unfold joinedFacts
  simp only [Bool.and_eq_true]
  repeat' apply And.intro
  all_goals (as_aux_lemma=>kernel_rfl)
theorem topRelative_inst:Tryz.f6.isInstance Tryz.pinned.checked.prog Rows.topRelativeRow.origin Rows.topRelativeRow.targs:=of_decide_eq_true (by as_aux_lemma=>kernel_rfl)
theorem topRelative_wrap:Tryz.f6.isWrapper Tryz.pinned.checked.prog Rows.topRelativeRow.wrapper Rows.topRelativeRow.mainSum:=by
  unfold Func.isWrapper
  rw [if_neg (of_decide_eq_false (by kernel_rfl))]
  exact ⟨rfl,rfl⟩
theorem topRelative_laid:laidOutB Tryz.prog=true:=by as_aux_lemma=>kernel_rfl
end Go.Proofs.YtdipoojjlddohaaGreat
end
