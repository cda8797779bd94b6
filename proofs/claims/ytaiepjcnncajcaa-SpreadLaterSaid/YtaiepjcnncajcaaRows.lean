/-
  No cell of these rows narrows 'for every input' (looked for: loops, veiled, ifaces, maps, wideKeys, modest, calm, conditions, laid).
  DERIVED. THE GIVEN ROWS OF THIS SEAT. 6 by the template 'for every input the law returns true; each argument reads behind the call as it read before'; 0 by the template 'total and deterministic' (their statements: YtaiepjcnncajcaaTotals.lean).
  GIVEN WITH THE SEED: the statements are not yours to turn. If you find one false, say at which input.
  Laid BY PROGRAM, IN A SANDBOX (cutbox-rows.mjs): the forced cells as the released guide's own fill.sh prints them over the translation 6a5dc50128c5bac7… (all of the seat's roots in one cut). By AI agents, Wed Nov 11 2026. No macro, syntax, notation, axiom, sorry.
-/
import Derived.Test.YtaiepjcnncajcaaChecked
import GoSem.Claim
import GoSem.ClaimJoined
import GoSem.ClaimMapViews
import Derived.JoinedTies
import Derived.KernelRfl
namespace Go.Proofs.Ytaiepjcnncajcaa
/- THE CELL 'sum', in the pinned program and in every row, IS THE sha256 OF THE DUMP (.gsa) THAT YtaiepjcnncajcaaProg.lean LOADS. Nothing in Lean hashes anything: it is a label: what it is worth is what the hold of that sum in a sandbox is worth. -/
noncomputable def Try.pinned : Pinned := { name := "ytaiepjcnncajcaa", sum := "6a5dc50128c5bac7e570b2211a57094716171efe78f5a9f7d0c14e36a75e8f84", checked := Try.checked }
namespace Rows
def none {H : Type} : Left H := { results := [], args := [] }

/-- 'windowpanelaw14.SpreadNew': WHATEVER THE INPUT: true; the input reads as it did. -/
def spreadNewSpec : ChangeSpec := { name := "spreadNew", fn := fun _ => fun
  | [d1, d2, d3, d4] => { results := [.lit (.bool true)], args := [d1, d2, d3, d4] }
  | _ => none }
def spreadNewRow : OpenClaim := { program := "ytaiepjcnncajcaa", sum := "6a5dc50128c5bac7e570b2211a57094716171efe78f5a9f7d0c14e36a75e8f84", func := "windowpane/windowpanelaw14.SpreadNew", spec := "spreadNew", inPlace := ["math/bits.Sub64"], apart := false }
def SpreadNewSaid : Prop := spreadNewRow.holds Try.pinned (OpenSpec.ofChange spreadNewSpec)

/-- ITS FALSE NEIGHBOUR: 'it returns false'. Refute it at one input. -/
def spreadNewWrong : ChangeSpec := { name := "spreadNew", fn := fun _ => fun
  | [d1, d2, d3, d4] => { results := [.lit (.bool false)], args := [d1, d2, d3, d4] }
  | _ => none }
def SpreadNewWrongFalsely : Prop := spreadNewRow.holds Try.pinned (OpenSpec.ofChange spreadNewWrong)

/-- 'windowpanelaw14.SpreadMarks': WHATEVER THE INPUT: true; the input reads as it did. -/
def spreadMarksSpec : ChangeSpec := { name := "spreadMarks", fn := fun _ => fun
  | [d1, d2, d3] => { results := [.lit (.bool true)], args := [d1, d2, d3] }
  | _ => none }
def spreadMarksRow : OpenClaim := { program := "ytaiepjcnncajcaa", sum := "6a5dc50128c5bac7e570b2211a57094716171efe78f5a9f7d0c14e36a75e8f84", func := "windowpane/windowpanelaw14.SpreadMarks", spec := "spreadMarks", inPlace := ["math/bits.Sub64", "math/bits.Add64"], apart := false }
def SpreadMarksSaid : Prop := spreadMarksRow.holds Try.pinned (OpenSpec.ofChange spreadMarksSpec)

/-- ITS FALSE NEIGHBOUR: 'it returns false'. Refute it at one input. -/
def spreadMarksWrong : ChangeSpec := { name := "spreadMarks", fn := fun _ => fun
  | [d1, d2, d3] => { results := [.lit (.bool false)], args := [d1, d2, d3] }
  | _ => none }
def SpreadMarksWrongFalsely : Prop := spreadMarksRow.holds Try.pinned (OpenSpec.ofChange spreadMarksWrong)

/-- 'windowpanelaw14.SpreadLater': WHATEVER THE INPUT: true; the input reads as it did. -/
def spreadLaterSpec : ChangeSpec := { name := "spreadLater", fn := fun _ => fun
  | [d1, d2, d3, d4] => { results := [.lit (.bool true)], args := [d1, d2, d3, d4] }
  | _ => none }
def spreadLaterRow : OpenClaim := { program := "ytaiepjcnncajcaa", sum := "6a5dc50128c5bac7e570b2211a57094716171efe78f5a9f7d0c14e36a75e8f84", func := "windowpane/windowpanelaw14.SpreadLater", spec := "spreadLater", inPlace := ["math/bits.Add64", "math/bits.Sub64"], apart := false }
def SpreadLaterSaid : Prop := spreadLaterRow.holds Try.pinned (OpenSpec.ofChange spreadLaterSpec)

/-- ITS FALSE NEIGHBOUR: 'it returns false'. Refute it at one input. -/
def spreadLaterWrong : ChangeSpec := { name := "spreadLater", fn := fun _ => fun
  | [d1, d2, d3, d4] => { results := [.lit (.bool false)], args := [d1, d2, d3, d4] }
  | _ => none }
def SpreadLaterWrongFalsely : Prop := spreadLaterRow.holds Try.pinned (OpenSpec.ofChange spreadLaterWrong)

/-- 'windowpanelaw14.SpreadKeeps': WHATEVER THE INPUT: true; the input reads as it did. -/
def spreadKeepsSpec : ChangeSpec := { name := "spreadKeeps", fn := fun _ => fun
  | [d1, d2, d3, d4] => { results := [.lit (.bool true)], args := [d1, d2, d3, d4] }
  | _ => none }
def spreadKeepsRow : OpenClaim := { program := "ytaiepjcnncajcaa", sum := "6a5dc50128c5bac7e570b2211a57094716171efe78f5a9f7d0c14e36a75e8f84", func := "windowpane/windowpanelaw14.SpreadKeeps", spec := "spreadKeeps", inPlace := ["math/bits.Add64", "math/bits.Sub64"], unfollowed := true, recurses := true, apart := false }
def SpreadKeepsSaid : Prop := spreadKeepsRow.holds Try.pinned (OpenSpec.ofChange spreadKeepsSpec)

/-- ITS FALSE NEIGHBOUR: 'it returns false'. Refute it at one input. -/
def spreadKeepsWrong : ChangeSpec := { name := "spreadKeeps", fn := fun _ => fun
  | [d1, d2, d3, d4] => { results := [.lit (.bool false)], args := [d1, d2, d3, d4] }
  | _ => none }
def SpreadKeepsWrongFalsely : Prop := spreadKeepsRow.holds Try.pinned (OpenSpec.ofChange spreadKeepsWrong)

/-- 'windowpanelaw14.SpreadStates': WHATEVER THE INPUT: true; the input reads as it did. -/
def spreadStatesSpec : ChangeSpec := { name := "spreadStates", fn := fun _ => fun
  | [d1, d2, d3] => { results := [.lit (.bool true)], args := [d1, d2, d3] }
  | _ => none }
def spreadStatesRow : OpenClaim := { program := "ytaiepjcnncajcaa", sum := "6a5dc50128c5bac7e570b2211a57094716171efe78f5a9f7d0c14e36a75e8f84", func := "windowpane/windowpanelaw14.SpreadStates", spec := "spreadStates", inPlace := ["math/bits.Sub64", "math/bits.Add64"], unfollowed := true, recurses := true, apart := false }
def SpreadStatesSaid : Prop := spreadStatesRow.holds Try.pinned (OpenSpec.ofChange spreadStatesSpec)

/-- ITS FALSE NEIGHBOUR: 'it returns false'. Refute it at one input. -/
def spreadStatesWrong : ChangeSpec := { name := "spreadStates", fn := fun _ => fun
  | [d1, d2, d3] => { results := [.lit (.bool false)], args := [d1, d2, d3] }
  | _ => none }
def SpreadStatesWrongFalsely : Prop := spreadStatesRow.holds Try.pinned (OpenSpec.ofChange spreadStatesWrong)

/-- 'windowpanelaw14.SpreadTruth': WHATEVER THE INPUT: true; the input reads as it did. -/
def spreadTruthSpec : ChangeSpec := { name := "spreadTruth", fn := fun _ => fun
  | [d1, d2, d3, d4, d5] => { results := [.lit (.bool true)], args := [d1, d2, d3, d4, d5] }
  | _ => none }
def spreadTruthRow : OpenClaim := { program := "ytaiepjcnncajcaa", sum := "6a5dc50128c5bac7e570b2211a57094716171efe78f5a9f7d0c14e36a75e8f84", func := "windowpane/windowpanelaw14.SpreadTruth", spec := "spreadTruth", inPlace := ["math/bits.Add64", "math/bits.Sub64"], unfollowed := true, recurses := true, apart := false }
def SpreadTruthSaid : Prop := spreadTruthRow.holds Try.pinned (OpenSpec.ofChange spreadTruthSpec)

/-- ITS FALSE NEIGHBOUR: 'it returns false'. Refute it at one input. -/
def spreadTruthWrong : ChangeSpec := { name := "spreadTruth", fn := fun _ => fun
  | [d1, d2, d3, d4, d5] => { results := [.lit (.bool false)], args := [d1, d2, d3, d4, d5] }
  | _ => none }
def SpreadTruthWrongFalsely : Prop := spreadTruthRow.holds Try.pinned (OpenSpec.ofChange spreadTruthWrong)

/- THE SECOND FORM. 'bulk': how many values and letters a reading holds, each counted each time it is reached (what is shared counts as often as it is met; a slice's spare places count too). A statement '..UptoSaid' is the law's where the arguments, and the package variables that the reading takes, are together of bulk at most 1048576: NARROWER than '..Said'. Prove '..Said' where nothing that the law and all that it calls make is longer than what came in: it says more and counts as full. Else prove '..UptoSaid'. A law counts once. -/
mutual
def uptoBulk {H : Type} : DataW H → Nat
  | .lit (.string bytes) => bytes.length + 1
  | .lit _ => 1
  | .nil => 1
  | .ptr d => uptoBulk d + 1
  | .slice elems spare => uptoBulkAll elems + uptoBulkAll spare + 1
  | .agg parts => uptoBulkAll parts + 1
  | .iface _ d => uptoBulk d + 1
  | .map entries => uptoBulkEntries entries + 1
  | .held _ => 1
def uptoBulkAll {H : Type} : List (DataW H) → Nat
  | [] => 0
  | d :: r => uptoBulk d + uptoBulkAll r
def uptoBulkEntries {H : Type} : List (Lit × DataW H) → Nat
  | [] => 0
  | x :: r => uptoBulkEntry x + uptoBulkEntries r
def uptoBulkEntry {H : Type} : Lit × DataW H → Nat
  | (.string bytes, d) => bytes.length + uptoBulk d + 1
  | (_, d) => uptoBulk d + 1
 end
def uptoSmall : (H : Type) → List (DataW H) → Bool := fun _ ds => decide (uptoBulkAll ds ≤ 1048576)
def OpenSpec.upto (s : _root_.Go.ChangeSpec) : _root_.Go.OpenSpec := { _root_.Go.OpenSpec.ofChange s with cond := some uptoSmall }

/-- 'windowpanelaw14.SpreadNew', WHERE WHAT IT READS IS OF BULK AT MOST 1048576: true; the input reads as it did. -/
def spreadNewUptoRow : OpenClaim := { program := "ytaiepjcnncajcaa", sum := "6a5dc50128c5bac7e570b2211a57094716171efe78f5a9f7d0c14e36a75e8f84", func := "windowpane/windowpanelaw14.SpreadNew", spec := "spreadNew", inPlace := ["math/bits.Sub64"], apart := false, narrowed := true }
def SpreadNewUptoSaid : Prop := spreadNewUptoRow.holds Try.pinned (OpenSpec.upto spreadNewSpec)

/-- 'windowpanelaw14.SpreadMarks', WHERE WHAT IT READS IS OF BULK AT MOST 1048576: true; the input reads as it did. -/
def spreadMarksUptoRow : OpenClaim := { program := "ytaiepjcnncajcaa", sum := "6a5dc50128c5bac7e570b2211a57094716171efe78f5a9f7d0c14e36a75e8f84", func := "windowpane/windowpanelaw14.SpreadMarks", spec := "spreadMarks", inPlace := ["math/bits.Sub64", "math/bits.Add64"], apart := false, narrowed := true }
def SpreadMarksUptoSaid : Prop := spreadMarksUptoRow.holds Try.pinned (OpenSpec.upto spreadMarksSpec)

/-- 'windowpanelaw14.SpreadLater', WHERE WHAT IT READS IS OF BULK AT MOST 1048576: true; the input reads as it did. -/
def spreadLaterUptoRow : OpenClaim := { program := "ytaiepjcnncajcaa", sum := "6a5dc50128c5bac7e570b2211a57094716171efe78f5a9f7d0c14e36a75e8f84", func := "windowpane/windowpanelaw14.SpreadLater", spec := "spreadLater", inPlace := ["math/bits.Add64", "math/bits.Sub64"], apart := false, narrowed := true }
def SpreadLaterUptoSaid : Prop := spreadLaterUptoRow.holds Try.pinned (OpenSpec.upto spreadLaterSpec)

/-- 'windowpanelaw14.SpreadKeeps', WHERE WHAT IT READS IS OF BULK AT MOST 1048576: true; the input reads as it did. -/
def spreadKeepsUptoRow : OpenClaim := { program := "ytaiepjcnncajcaa", sum := "6a5dc50128c5bac7e570b2211a57094716171efe78f5a9f7d0c14e36a75e8f84", func := "windowpane/windowpanelaw14.SpreadKeeps", spec := "spreadKeeps", inPlace := ["math/bits.Add64", "math/bits.Sub64"], unfollowed := true, recurses := true, apart := false, narrowed := true }
def SpreadKeepsUptoSaid : Prop := spreadKeepsUptoRow.holds Try.pinned (OpenSpec.upto spreadKeepsSpec)

/-- 'windowpanelaw14.SpreadStates', WHERE WHAT IT READS IS OF BULK AT MOST 1048576: true; the input reads as it did. -/
def spreadStatesUptoRow : OpenClaim := { program := "ytaiepjcnncajcaa", sum := "6a5dc50128c5bac7e570b2211a57094716171efe78f5a9f7d0c14e36a75e8f84", func := "windowpane/windowpanelaw14.SpreadStates", spec := "spreadStates", inPlace := ["math/bits.Sub64", "math/bits.Add64"], unfollowed := true, recurses := true, apart := false, narrowed := true }
def SpreadStatesUptoSaid : Prop := spreadStatesUptoRow.holds Try.pinned (OpenSpec.upto spreadStatesSpec)

/-- 'windowpanelaw14.SpreadTruth', WHERE WHAT IT READS IS OF BULK AT MOST 1048576: true; the input reads as it did. -/
def spreadTruthUptoRow : OpenClaim := { program := "ytaiepjcnncajcaa", sum := "6a5dc50128c5bac7e570b2211a57094716171efe78f5a9f7d0c14e36a75e8f84", func := "windowpane/windowpanelaw14.SpreadTruth", spec := "spreadTruth", inPlace := ["math/bits.Add64", "math/bits.Sub64"], unfollowed := true, recurses := true, apart := false, narrowed := true }
def SpreadTruthUptoSaid : Prop := spreadTruthUptoRow.holds Try.pinned (OpenSpec.upto spreadTruthSpec)

end Rows
end Go.Proofs.Ytaiepjcnncajcaa
