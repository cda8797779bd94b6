/- What the law TopExact needs, joined of its texts by a program (slim2.py); part 45. -/
import Derived.Test.YtdipoojjlddohaaGreatRows
import Derived.ProofKit
import Derived.JoinedOf
set_option linter.unusedVariables false
set_option linter.unusedSimpArgs false
set_option linter.unusedSectionVars false
set_option linter.unnecessarySimpa false
section
/- Closed facts of the law TopExact's function. -/
namespace Go.Proofs.YtdipoojjlddohaaGreat
theorem topExact_named:Tryz.pinned.checked.prog.funcNamed Rows.topExactRow.func=some 5:=by as_aux_lemma=>kernel_rfl
theorem topExact_joined:joinedFacts Tryz.pinned.checked.prog 5 Tryz.f5 Rows.topExactSpec Rows.topExactRow=true:=by as_aux_lemma=>kernel_rfl
theorem topExact_inst:Tryz.f5.isInstance Tryz.pinned.checked.prog Rows.topExactRow.origin Rows.topExactRow.targs:=of_decide_eq_true (by as_aux_lemma=>kernel_rfl)
theorem topExact_wrap:Tryz.f5.isWrapper Tryz.pinned.checked.prog Rows.topExactRow.wrapper Rows.topExactRow.mainSum:=by
  unfold Func.isWrapper
  rw [if_neg (of_decide_eq_false (by kernel_rfl))]
  exact ⟨rfl,rfl⟩
theorem topExact_laid:laidOutB Tryz.prog=true:=by as_aux_lemma=>kernel_rfl
end Go.Proofs.YtdipoojjlddohaaGreat
end
