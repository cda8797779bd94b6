/- What the law TopSummaries needs, joined of its texts by a program (slim2.py); part 46. -/
import Derived.Test.YtdipoojjlddohaaGreatRows
import Derived.ProofKit
import Derived.JoinedOf
set_option linter.unusedVariables false
set_option linter.unusedSimpArgs false
set_option linter.unusedSectionVars false
set_option linter.unnecessarySimpa false
section
/- Closed facts of the law TopSummaries's function. -/
namespace Go.Proofs.YtdipoojjlddohaaGreat
theorem topSummaries_named:Tryz.pinned.checked.prog.funcNamed Rows.topSummariesRow.func=some 4:=by as_aux_lemma=>kernel_rfl
theorem topSummaries_joined:joinedFacts Tryz.pinned.checked.prog 4 Tryz.f4 Rows.topSummariesSpec Rows.topSummariesRow=true:=by as_aux_lemma=>kernel_rfl
theorem topSummaries_inst:Tryz.f4.isInstance Tryz.pinned.checked.prog Rows.topSummariesRow.origin Rows.topSummariesRow.targs:=of_decide_eq_true (by as_aux_lemma=>kernel_rfl)
theorem topSummaries_wrap:Tryz.f4.isWrapper Tryz.pinned.checked.prog Rows.topSummariesRow.wrapper Rows.topSummariesRow.mainSum:=by
  unfold Func.isWrapper
  rw [if_neg (of_decide_eq_false (by kernel_rfl))]
  exact ⟨rfl,rfl⟩
theorem topSummaries_laid:laidOutB Tryz.prog=true:=by as_aux_lemma=>kernel_rfl
end Go.Proofs.YtdipoojjlddohaaGreat
end
