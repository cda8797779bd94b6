/- Spreads of marks: which marks have one, walked. -/
import Derived.Test.YthknkdjpfanlnaaMathSpr
import Derived.Test.YthknkdjpfanlnaaGcd
import Derived.Test.YthknkdjpfanlnaaVec
import Derived.Lib.Hide
import Derived.Deep.Cut
import Derived.IntWalk
set_option linter.unusedVariables false
set_option linter.unusedSimpArgs false
set_option linter.unusedSectionVars false
set_option linter.unnecessarySimpa false
namespace Go.Proofs.Ythknkdjpfanlnaa
open Go.RowKit Go.Shelf
theorem ret_i64 {k : IntKind} {a b : Int} (h : a = b) : Ending.returned (.int k a) = .returned (.int k b) := by rw [h]
theorem ret_bool {a b : Bool} (h : a = b) : Ending.returned (.bool a) = .returned (.bool b) := by rw [h]
end Go.Proofs.Ythknkdjpfanlnaa
