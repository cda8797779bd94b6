/- Spreads of marks: the spread of a mark, walked. -/
import Derived.Test.YthknkdjpfanlnaaSprA
set_option linter.unusedVariables false
set_option linter.unusedSimpArgs false
set_option linter.unusedSectionVars false
set_option linter.unnecessarySimpa false
namespace Go.Proofs.Ythknkdjpfanlnaa
open Go.RowKit Go.Shelf
theorem psize (a : Nat) (h : a < 9223372036854775808) (w : World) : Calls Try.prog 89 #[.int .i64 a] w fun e w' => e = .returned (.int .u64 a) ∧ w' = w := by
  have h0 : ¬ (a : Int) < 0 := by omega
  have wa : IntKind.u64.wrap (a : Int) = (a : Int) := IntWalk.u64_in _ (by omega)
  go_enter Try.func89, Try.ntmps89
  go_wp2
  go_ret
  exact ⟨rfl, rfl⟩
def ratA (n s q : Int) : Int := ((topN n s q / Nat.gcd (topN n s q) n.toNat : Nat) : Int)
def ratB (n s q : Int) : Int := ((n.toNat / Nat.gcd (topN n s q) n.toNat : Nat) : Int)
end Go.Proofs.Ythknkdjpfanlnaa
