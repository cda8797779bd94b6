/-
  No cell of these rows narrows 'for every input' (looked for: loops, veiled, ifaces, maps, wideKeys, modest, calm, conditions, laid).
  DERIVED. THE GIVEN ROWS OF THIS SEAT. 5 by the template 'for every input the law returns true; each argument reads behind the call as it read before'; 0 by the template 'total and deterministic' (their statements: YtdipoojjlddohaaGreatTotals.lean).
  GIVEN WITH THE SEED: the statements are not yours to turn. If you find one false, say at which input.
  Laid BY PROGRAM, IN A SANDBOX (cutbox-rows.mjs): the forced cells as the released guide's own fill.sh prints them over the translation c1a1c341a198111d… (all of the seat's roots in one cut). By AI agents, Wed Nov 11 2026. No macro, syntax, notation, axiom, sorry.
-/
import Derived.Test.YtdipoojjlddohaaGreatChecked
import GoSem.Claim
import GoSem.ClaimJoined
import GoSem.ClaimMapViews
import Derived.JoinedTies
import Derived.KernelRfl
namespace Go.Proofs.YtdipoojjlddohaaGreat
/- THE CELL 'sum', in the pinned program and in every row, IS THE sha256 OF THE DUMP (.gsa) THAT YtdipoojjlddohaaGreatProg.lean LOADS. Nothing in Lean hashes anything: it is a label: what it is worth is what the hold of that sum in a sandbox is worth. -/
noncomputable def Tryz.pinned : Pinned := { name := "ytdipoojjlddohaagreat", sum := "c1a1c341a198111d7fc0f0bfdc46ebe2981b682493d1a37ceecc2fbdc951dfec", checked := Tryz.checked }
namespace Rows
def none {H : Type} : Left H := { results := [], args := [] }

/-- 'windowpanetop.TopTwoWays': WHATEVER THE INPUT: true; the input reads as it did. -/
def topTwoWaysSpec : ChangeSpec := { name := "topTwoWays", fn := fun _ => fun
  | [d1, d2, d3, d4] => { results := [.lit (.bool true)], args := [d1, d2, d3, d4] }
  | _ => none }
def topTwoWaysRow : OpenClaim := { program := "ytdipoojjlddohaagreat", sum := "c1a1c341a198111d7fc0f0bfdc46ebe2981b682493d1a37ceecc2fbdc951dfec", func := "windowpane/windowpanetop.TopTwoWays", spec := "topTwoWays", inPlace := ["math/bits.Add64", "math/bits.Sub64"], unfollowed := true, recurses := true, named := ["math/bits.divideError", "math/bits.overflowError"], apart := false }
def TopTwoWaysSaid : Prop := topTwoWaysRow.holds Tryz.pinned (OpenSpec.ofChange topTwoWaysSpec)

/-- ITS FALSE NEIGHBOUR: 'it returns false'. Refute it at one input. -/
def topTwoWaysWrong : ChangeSpec := { name := "topTwoWays", fn := fun _ => fun
  | [d1, d2, d3, d4] => { results := [.lit (.bool false)], args := [d1, d2, d3, d4] }
  | _ => none }
def TopTwoWaysWrongFalsely : Prop := topTwoWaysRow.holds Tryz.pinned (OpenSpec.ofChange topTwoWaysWrong)

/-- 'windowpanetop.TopSummaries': WHATEVER THE INPUT: true; the input reads as it did. -/
def topSummariesSpec : ChangeSpec := { name := "topSummaries", fn := fun _ => fun
  | [d1, d2, d3, d4] => { results := [.lit (.bool true)], args := [d1, d2, d3, d4] }
  | _ => none }
def topSummariesRow : OpenClaim := { program := "ytdipoojjlddohaagreat", sum := "c1a1c341a198111d7fc0f0bfdc46ebe2981b682493d1a37ceecc2fbdc951dfec", func := "windowpane/windowpanetop.TopSummaries", spec := "topSummaries", inPlace := ["math/bits.Add64", "math/bits.Sub64"], unfollowed := true, recurses := true, named := ["math/bits.divideError", "math/bits.overflowError"], apart := false }
def TopSummariesSaid : Prop := topSummariesRow.holds Tryz.pinned (OpenSpec.ofChange topSummariesSpec)

/-- ITS FALSE NEIGHBOUR: 'it returns false'. Refute it at one input. -/
def topSummariesWrong : ChangeSpec := { name := "topSummaries", fn := fun _ => fun
  | [d1, d2, d3, d4] => { results := [.lit (.bool false)], args := [d1, d2, d3, d4] }
  | _ => none }
def TopSummariesWrongFalsely : Prop := topSummariesRow.holds Tryz.pinned (OpenSpec.ofChange topSummariesWrong)

/-- 'windowpanetop.TopExact': WHATEVER THE INPUT: true; the input reads as it did. -/
def topExactSpec : ChangeSpec := { name := "topExact", fn := fun _ => fun
  | [d1, d2, d3] => { results := [.lit (.bool true)], args := [d1, d2, d3] }
  | _ => none }
def topExactRow : OpenClaim := { program := "ytdipoojjlddohaagreat", sum := "c1a1c341a198111d7fc0f0bfdc46ebe2981b682493d1a37ceecc2fbdc951dfec", func := "windowpane/windowpanetop.TopExact", spec := "topExact", inPlace := ["math/bits.Add64", "math/bits.Sub64"], unfollowed := true, recurses := true, named := ["math/bits.divideError", "math/bits.overflowError"], apart := false }
def TopExactSaid : Prop := topExactRow.holds Tryz.pinned (OpenSpec.ofChange topExactSpec)

/-- ITS FALSE NEIGHBOUR: 'it returns false'. Refute it at one input. -/
def topExactWrong : ChangeSpec := { name := "topExact", fn := fun _ => fun
  | [d1, d2, d3] => { results := [.lit (.bool false)], args := [d1, d2, d3] }
  | _ => none }
def TopExactWrongFalsely : Prop := topExactRow.holds Tryz.pinned (OpenSpec.ofChange topExactWrong)

/-- 'windowpanetop.TopRelative': WHATEVER THE INPUT: true; the input reads as it did. -/
def topRelativeSpec : ChangeSpec := { name := "topRelative", fn := fun _ => fun
  | [d1, d2, d3] => { results := [.lit (.bool true)], args := [d1, d2, d3] }
  | _ => none }
def topRelativeRow : OpenClaim := { program := "ytdipoojjlddohaagreat", sum := "c1a1c341a198111d7fc0f0bfdc46ebe2981b682493d1a37ceecc2fbdc951dfec", func := "windowpane/windowpanetop.TopRelative", spec := "topRelative", inPlace := ["math/bits.Add64", "math/bits.Sub64"], unfollowed := true, recurses := true, named := ["math/bits.divideError", "math/bits.overflowError"], apart := false }
def TopRelativeSaid : Prop := topRelativeRow.holds Tryz.pinned (OpenSpec.ofChange topRelativeSpec)

/-- ITS FALSE NEIGHBOUR: 'it returns false'. Refute it at one input. -/
def topRelativeWrong : ChangeSpec := { name := "topRelative", fn := fun _ => fun
  | [d1, d2, d3] => { results := [.lit (.bool false)], args := [d1, d2, d3] }
  | _ => none }
def TopRelativeWrongFalsely : Prop := topRelativeRow.holds Tryz.pinned (OpenSpec.ofChange topRelativeWrong)

/-- 'windowpanetop.TopForgets': WHATEVER THE INPUT: true; the input reads as it did. -/
def topForgetsSpec : ChangeSpec := { name := "topForgets", fn := fun _ => fun
  | [d1, d2] => { results := [.lit (.bool true)], args := [d1, d2] }
  | _ => none }
def topForgetsRow : OpenClaim := { program := "ytdipoojjlddohaagreat", sum := "c1a1c341a198111d7fc0f0bfdc46ebe2981b682493d1a37ceecc2fbdc951dfec", func := "windowpane/windowpanetop.TopForgets", spec := "topForgets", inPlace := ["math/bits.Add64", "math/bits.Sub64"], unfollowed := true, recurses := true, named := ["math/bits.divideError", "math/bits.overflowError"], apart := false }
def TopForgetsSaid : Prop := topForgetsRow.holds Tryz.pinned (OpenSpec.ofChange topForgetsSpec)

/-- ITS FALSE NEIGHBOUR: 'it returns false'. Refute it at one input. -/
def topForgetsWrong : ChangeSpec := { name := "topForgets", fn := fun _ => fun
  | [d1, d2] => { results := [.lit (.bool false)], args := [d1, d2] }
  | _ => none }
def TopForgetsWrongFalsely : Prop := topForgetsRow.holds Tryz.pinned (OpenSpec.ofChange topForgetsWrong)

/- THE SECOND FORM. 'bulk': how many values and letters a reading holds, each counted each time it is reached (what is shared counts as often as it is met; a slice's spare places count too). A statement '..UptoSaid' is the law's where the arguments, and the package variables that the reading takes, are together of bulk at most 1048576: NARROWER than '..Said'. Prove '..Said' where nothing that the law and all that it calls make is longer than what came in: it says more and counts as full. Else prove '..UptoSaid'. A law counts once. -/
mutual
def uptoBulk {H : Type} : DataW H → Nat
  | .lit (.string bytes) => bytes.length + 1
  | .lit _ => 1
  | .nil => 1
  | .ptr d => uptoBulk d + 1
  | .slice elems spare => uptoBulkAll elems + uptoBulkAll spare + 1
  | .agg parts => uptoBulkAll parts + 1
  | .iface _ d => uptoBulk d + 1
  | .map entries => uptoBulkEntries entries + 1
  | .held _ => 1
def uptoBulkAll {H : Type} : List (DataW H) → Nat
  | [] => 0
  | d :: r => uptoBulk d + uptoBulkAll r
def uptoBulkEntries {H : Type} : List (Lit × DataW H) → Nat
  | [] => 0
  | x :: r => uptoBulkEntry x + uptoBulkEntries r
def uptoBulkEntry {H : Type} : Lit × DataW H → Nat
  | (.string bytes, d) => bytes.length + uptoBulk d + 1
  | (_, d) => uptoBulk d + 1
 end
def uptoSmall : (H : Type) → List (DataW H) → Bool := fun _ ds => decide (uptoBulkAll ds ≤ 1048576)
def OpenSpec.upto (s : _root_.Go.ChangeSpec) : _root_.Go.OpenSpec := { _root_.Go.OpenSpec.ofChange s with cond := some uptoSmall }

/-- 'windowpanetop.TopTwoWays', WHERE WHAT IT READS IS OF BULK AT MOST 1048576: true; the input reads as it did. -/
def topTwoWaysUptoRow : OpenClaim := { program := "ytdipoojjlddohaagreat", sum := "c1a1c341a198111d7fc0f0bfdc46ebe2981b682493d1a37ceecc2fbdc951dfec", func := "windowpane/windowpanetop.TopTwoWays", spec := "topTwoWays", inPlace := ["math/bits.Add64", "math/bits.Sub64"], unfollowed := true, recurses := true, named := ["math/bits.divideError", "math/bits.overflowError"], apart := false, narrowed := true }
def TopTwoWaysUptoSaid : Prop := topTwoWaysUptoRow.holds Tryz.pinned (OpenSpec.upto topTwoWaysSpec)

/-- 'windowpanetop.TopSummaries', WHERE WHAT IT READS IS OF BULK AT MOST 1048576: true; the input reads as it did. -/
def topSummariesUptoRow : OpenClaim := { program := "ytdipoojjlddohaagreat", sum := "c1a1c341a198111d7fc0f0bfdc46ebe2981b682493d1a37ceecc2fbdc951dfec", func := "windowpane/windowpanetop.TopSummaries", spec := "topSummaries", inPlace := ["math/bits.Add64", "math/bits.Sub64"], unfollowed := true, recurses := true, named := ["math/bits.divideError", "math/bits.overflowError"], apart := false, narrowed := true }
def TopSummariesUptoSaid : Prop := topSummariesUptoRow.holds Tryz.pinned (OpenSpec.upto topSummariesSpec)

/-- 'windowpanetop.TopExact', WHERE WHAT IT READS IS OF BULK AT MOST 1048576: true; the input reads as it did. -/
def topExactUptoRow : OpenClaim := { program := "ytdipoojjlddohaagreat", sum := "c1a1c341a198111d7fc0f0bfdc46ebe2981b682493d1a37ceecc2fbdc951dfec", func := "windowpane/windowpanetop.TopExact", spec := "topExact", inPlace := ["math/bits.Add64", "math/bits.Sub64"], unfollowed := true, recurses := true, named := ["math/bits.divideError", "math/bits.overflowError"], apart := false, narrowed := true }
def TopExactUptoSaid : Prop := topExactUptoRow.holds Tryz.pinned (OpenSpec.upto topExactSpec)

/-- 'windowpanetop.TopRelative', WHERE WHAT IT READS IS OF BULK AT MOST 1048576: true; the input reads as it did. -/
def topRelativeUptoRow : OpenClaim := { program := "ytdipoojjlddohaagreat", sum := "c1a1c341a198111d7fc0f0bfdc46ebe2981b682493d1a37ceecc2fbdc951dfec", func := "windowpane/windowpanetop.TopRelative", spec := "topRelative", inPlace := ["math/bits.Add64", "math/bits.Sub64"], unfollowed := true, recurses := true, named := ["math/bits.divideError", "math/bits.overflowError"], apart := false, narrowed := true }
def TopRelativeUptoSaid : Prop := topRelativeUptoRow.holds Tryz.pinned (OpenSpec.upto topRelativeSpec)

/-- 'windowpanetop.TopForgets', WHERE WHAT IT READS IS OF BULK AT MOST 1048576: true; the input reads as it did. -/
def topForgetsUptoRow : OpenClaim := { program := "ytdipoojjlddohaagreat", sum := "c1a1c341a198111d7fc0f0bfdc46ebe2981b682493d1a37ceecc2fbdc951dfec", func := "windowpane/windowpanetop.TopForgets", spec := "topForgets", inPlace := ["math/bits.Add64", "math/bits.Sub64"], unfollowed := true, recurses := true, named := ["math/bits.divideError", "math/bits.overflowError"], apart := false, narrowed := true }
def TopForgetsUptoSaid : Prop := topForgetsUptoRow.holds Tryz.pinned (OpenSpec.upto topForgetsSpec)

end Rows
end Go.Proofs.YtdipoojjlddohaaGreat
