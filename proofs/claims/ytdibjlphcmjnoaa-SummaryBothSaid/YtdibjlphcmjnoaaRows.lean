/-
  No cell of these rows narrows 'for every input' (looked for: loops, veiled, ifaces, maps, wideKeys, modest, calm, conditions, laid).
  DERIVED. THE GIVEN ROWS OF THIS SEAT. 7 by the template 'for every input the law returns true; each argument reads behind the call as it read before'; 0 by the template 'total and deterministic' (their statements: YtdibjlphcmjnoaaTotals.lean).
  GIVEN WITH THE SEED: the statements are not yours to turn. If you find one false, say at which input.
  Laid BY PROGRAM, IN A SANDBOX (cutbox-rows.mjs): the forced cells as the released guide's own fill.sh prints them over the translation 2dfe5367b56ec3f7… (all of the seat's roots in one cut). By AI agents, Wed Nov 11 2026. No macro, syntax, notation, axiom, sorry.
-/
import Derived.Test.YtdibjlphcmjnoaaChecked
import GoSem.Claim
import GoSem.ClaimJoined
import GoSem.ClaimMapViews
import Derived.JoinedTies
import Derived.KernelRfl
namespace Go.Proofs.Ytdibjlphcmjnoaa
/- THE CELL 'sum', in the pinned program and in every row, IS THE sha256 OF THE DUMP (.gsa) THAT YtdibjlphcmjnoaaProg.lean LOADS. Nothing in Lean hashes anything: it is a label: what it is worth is what the hold of that sum in a sandbox is worth. -/
noncomputable def Try.pinned : Pinned := { name := "ytdibjlphcmjnoaa", sum := "2dfe5367b56ec3f782a3e7e13f4fecf6c09a273d8fc1ea5929881b7ebbf56e0b", checked := Try.checked }
namespace Rows
def none {H : Type} : Left H := { results := [], args := [] }

/-- 'windowpanelaw20.SummaryNew': WHATEVER THE INPUT: true; the input reads as it did. -/
def summaryNewSpec : ChangeSpec := { name := "summaryNew", fn := fun _ => fun
  | [d1, d2] => { results := [.lit (.bool true)], args := [d1, d2] }
  | _ => none }
def summaryNewRow : OpenClaim := { program := "ytdibjlphcmjnoaa", sum := "2dfe5367b56ec3f782a3e7e13f4fecf6c09a273d8fc1ea5929881b7ebbf56e0b", func := "windowpane/windowpanelaw20.SummaryNew", spec := "summaryNew", apart := false }
def SummaryNewSaid : Prop := summaryNewRow.holds Try.pinned (OpenSpec.ofChange summaryNewSpec)

/-- ITS FALSE NEIGHBOUR: 'it returns false'. Refute it at one input. -/
def summaryNewWrong : ChangeSpec := { name := "summaryNew", fn := fun _ => fun
  | [d1, d2] => { results := [.lit (.bool false)], args := [d1, d2] }
  | _ => none }
def SummaryNewWrongFalsely : Prop := summaryNewRow.holds Try.pinned (OpenSpec.ofChange summaryNewWrong)

/-- 'windowpanelaw20.SummaryStates': WHATEVER THE INPUT: true; the input reads as it did. -/
def summaryStatesSpec : ChangeSpec := { name := "summaryStates", fn := fun _ => fun
  | [d1, d2] => { results := [.lit (.bool true)], args := [d1, d2] }
  | _ => none }
def summaryStatesRow : OpenClaim := { program := "ytdibjlphcmjnoaa", sum := "2dfe5367b56ec3f782a3e7e13f4fecf6c09a273d8fc1ea5929881b7ebbf56e0b", func := "windowpane/windowpanelaw20.SummaryStates", spec := "summaryStates", apart := false }
def SummaryStatesSaid : Prop := summaryStatesRow.holds Try.pinned (OpenSpec.ofChange summaryStatesSpec)

/-- ITS FALSE NEIGHBOUR: 'it returns false'. Refute it at one input. -/
def summaryStatesWrong : ChangeSpec := { name := "summaryStates", fn := fun _ => fun
  | [d1, d2] => { results := [.lit (.bool false)], args := [d1, d2] }
  | _ => none }
def SummaryStatesWrongFalsely : Prop := summaryStatesRow.holds Try.pinned (OpenSpec.ofChange summaryStatesWrong)

/-- 'windowpanelaw20.SummaryCap': WHATEVER THE INPUT: true; the input reads as it did. -/
def summaryCapSpec : ChangeSpec := { name := "summaryCap", fn := fun _ => fun
  | [d1, d2, d3] => { results := [.lit (.bool true)], args := [d1, d2, d3] }
  | _ => none }
def summaryCapRow : OpenClaim := { program := "ytdibjlphcmjnoaa", sum := "2dfe5367b56ec3f782a3e7e13f4fecf6c09a273d8fc1ea5929881b7ebbf56e0b", func := "windowpane/windowpanelaw20.SummaryCap", spec := "summaryCap", apart := false }
def SummaryCapSaid : Prop := summaryCapRow.holds Try.pinned (OpenSpec.ofChange summaryCapSpec)

/-- ITS FALSE NEIGHBOUR: 'it returns false'. Refute it at one input. -/
def summaryCapWrong : ChangeSpec := { name := "summaryCap", fn := fun _ => fun
  | [d1, d2, d3] => { results := [.lit (.bool false)], args := [d1, d2, d3] }
  | _ => none }
def SummaryCapWrongFalsely : Prop := summaryCapRow.holds Try.pinned (OpenSpec.ofChange summaryCapWrong)

/-- 'windowpanelaw20.SummaryMerges': WHATEVER THE INPUT: true; the input reads as it did. -/
def summaryMergesSpec : ChangeSpec := { name := "summaryMerges", fn := fun _ => fun
  | [d1, d2] => { results := [.lit (.bool true)], args := [d1, d2] }
  | _ => none }
def summaryMergesRow : OpenClaim := { program := "ytdibjlphcmjnoaa", sum := "2dfe5367b56ec3f782a3e7e13f4fecf6c09a273d8fc1ea5929881b7ebbf56e0b", func := "windowpane/windowpanelaw20.SummaryMerges", spec := "summaryMerges", apart := false }
def SummaryMergesSaid : Prop := summaryMergesRow.holds Try.pinned (OpenSpec.ofChange summaryMergesSpec)

/-- ITS FALSE NEIGHBOUR: 'it returns false'. Refute it at one input. -/
def summaryMergesWrong : ChangeSpec := { name := "summaryMerges", fn := fun _ => fun
  | [d1, d2] => { results := [.lit (.bool false)], args := [d1, d2] }
  | _ => none }
def SummaryMergesWrongFalsely : Prop := summaryMergesRow.holds Try.pinned (OpenSpec.ofChange summaryMergesWrong)

/-- 'windowpanelaw20.SummaryAsks': WHATEVER THE INPUT: true; the input reads as it did. -/
def summaryAsksSpec : ChangeSpec := { name := "summaryAsks", fn := fun _ => fun
  | [d1, d2, d3, d4] => { results := [.lit (.bool true)], args := [d1, d2, d3, d4] }
  | _ => none }
def summaryAsksRow : OpenClaim := { program := "ytdibjlphcmjnoaa", sum := "2dfe5367b56ec3f782a3e7e13f4fecf6c09a273d8fc1ea5929881b7ebbf56e0b", func := "windowpane/windowpanelaw20.SummaryAsks", spec := "summaryAsks", inPlace := ["math/bits.Sub64"], apart := false }
def SummaryAsksSaid : Prop := summaryAsksRow.holds Try.pinned (OpenSpec.ofChange summaryAsksSpec)

/-- ITS FALSE NEIGHBOUR: 'it returns false'. Refute it at one input. -/
def summaryAsksWrong : ChangeSpec := { name := "summaryAsks", fn := fun _ => fun
  | [d1, d2, d3, d4] => { results := [.lit (.bool false)], args := [d1, d2, d3, d4] }
  | _ => none }
def SummaryAsksWrongFalsely : Prop := summaryAsksRow.holds Try.pinned (OpenSpec.ofChange summaryAsksWrong)

/-- 'windowpanelaw20.SummaryTruth': WHATEVER THE INPUT: true; the input reads as it did. -/
def summaryTruthSpec : ChangeSpec := { name := "summaryTruth", fn := fun _ => fun
  | [d1, d2, d3, d4, d5, d6] => { results := [.lit (.bool true)], args := [d1, d2, d3, d4, d5, d6] }
  | _ => none }
def summaryTruthRow : OpenClaim := { program := "ytdibjlphcmjnoaa", sum := "2dfe5367b56ec3f782a3e7e13f4fecf6c09a273d8fc1ea5929881b7ebbf56e0b", func := "windowpane/windowpanelaw20.SummaryTruth", spec := "summaryTruth", inPlace := ["math/bits.Sub64"], apart := false }
def SummaryTruthSaid : Prop := summaryTruthRow.holds Try.pinned (OpenSpec.ofChange summaryTruthSpec)

/-- ITS FALSE NEIGHBOUR: 'it returns false'. Refute it at one input. -/
def summaryTruthWrong : ChangeSpec := { name := "summaryTruth", fn := fun _ => fun
  | [d1, d2, d3, d4, d5, d6] => { results := [.lit (.bool false)], args := [d1, d2, d3, d4, d5, d6] }
  | _ => none }
def SummaryTruthWrongFalsely : Prop := summaryTruthRow.holds Try.pinned (OpenSpec.ofChange summaryTruthWrong)

/-- 'windowpanelaw20.SummaryBoth': WHATEVER THE INPUT: true; the input reads as it did. -/
def summaryBothSpec : ChangeSpec := { name := "summaryBoth", fn := fun _ => fun
  | [d1, d2, d3, d4, d5, d6, d7] => { results := [.lit (.bool true)], args := [d1, d2, d3, d4, d5, d6, d7] }
  | _ => none }
def summaryBothRow : OpenClaim := { program := "ytdibjlphcmjnoaa", sum := "2dfe5367b56ec3f782a3e7e13f4fecf6c09a273d8fc1ea5929881b7ebbf56e0b", func := "windowpane/windowpanelaw20.SummaryBoth", spec := "summaryBoth", inPlace := ["math/bits.Sub64"], apart := false }
def SummaryBothSaid : Prop := summaryBothRow.holds Try.pinned (OpenSpec.ofChange summaryBothSpec)

/-- ITS FALSE NEIGHBOUR: 'it returns false'. Refute it at one input. -/
def summaryBothWrong : ChangeSpec := { name := "summaryBoth", fn := fun _ => fun
  | [d1, d2, d3, d4, d5, d6, d7] => { results := [.lit (.bool false)], args := [d1, d2, d3, d4, d5, d6, d7] }
  | _ => none }
def SummaryBothWrongFalsely : Prop := summaryBothRow.holds Try.pinned (OpenSpec.ofChange summaryBothWrong)

/- THE SECOND FORM. 'bulk': how many values and letters a reading holds, each counted each time it is reached (what is shared counts as often as it is met; a slice's spare places count too). A statement '..UptoSaid' is the law's where the arguments, and the package variables that the reading takes, are together of bulk at most 1048576: NARROWER than '..Said'. Prove '..Said' where nothing that the law and all that it calls make is longer than what came in: it says more and counts as full. Else prove '..UptoSaid'. A law counts once. -/
mutual
def uptoBulk {H : Type} : DataW H → Nat
  | .lit (.string bytes) => bytes.length + 1
  | .lit _ => 1
  | .nil => 1
  | .ptr d => uptoBulk d + 1
  | .slice elems spare => uptoBulkAll elems + uptoBulkAll spare + 1
  | .agg parts => uptoBulkAll parts + 1
  | .iface _ d => uptoBulk d + 1
  | .map entries => uptoBulkEntries entries + 1
  | .held _ => 1
def uptoBulkAll {H : Type} : List (DataW H) → Nat
  | [] => 0
  | d :: r => uptoBulk d + uptoBulkAll r
def uptoBulkEntries {H : Type} : List (Lit × DataW H) → Nat
  | [] => 0
  | x :: r => uptoBulkEntry x + uptoBulkEntries r
def uptoBulkEntry {H : Type} : Lit × DataW H → Nat
  | (.string bytes, d) => bytes.length + uptoBulk d + 1
  | (_, d) => uptoBulk d + 1
 end
def uptoSmall : (H : Type) → List (DataW H) → Bool := fun _ ds => decide (uptoBulkAll ds ≤ 1048576)
def OpenSpec.upto (s : _root_.Go.ChangeSpec) : _root_.Go.OpenSpec := { _root_.Go.OpenSpec.ofChange s with cond := some uptoSmall }

/-- 'windowpanelaw20.SummaryNew', WHERE WHAT IT READS IS OF BULK AT MOST 1048576: true; the input reads as it did. -/
def summaryNewUptoRow : OpenClaim := { program := "ytdibjlphcmjnoaa", sum := "2dfe5367b56ec3f782a3e7e13f4fecf6c09a273d8fc1ea5929881b7ebbf56e0b", func := "windowpane/windowpanelaw20.SummaryNew", spec := "summaryNew", apart := false, narrowed := true }
def SummaryNewUptoSaid : Prop := summaryNewUptoRow.holds Try.pinned (OpenSpec.upto summaryNewSpec)

/-- 'windowpanelaw20.SummaryStates', WHERE WHAT IT READS IS OF BULK AT MOST 1048576: true; the input reads as it did. -/
def summaryStatesUptoRow : OpenClaim := { program := "ytdibjlphcmjnoaa", sum := "2dfe5367b56ec3f782a3e7e13f4fecf6c09a273d8fc1ea5929881b7ebbf56e0b", func := "windowpane/windowpanelaw20.SummaryStates", spec := "summaryStates", apart := false, narrowed := true }
def SummaryStatesUptoSaid : Prop := summaryStatesUptoRow.holds Try.pinned (OpenSpec.upto summaryStatesSpec)

/-- 'windowpanelaw20.SummaryCap', WHERE WHAT IT READS IS OF BULK AT MOST 1048576: true; the input reads as it did. -/
def summaryCapUptoRow : OpenClaim := { program := "ytdibjlphcmjnoaa", sum := "2dfe5367b56ec3f782a3e7e13f4fecf6c09a273d8fc1ea5929881b7ebbf56e0b", func := "windowpane/windowpanelaw20.SummaryCap", spec := "summaryCap", apart := false, narrowed := true }
def SummaryCapUptoSaid : Prop := summaryCapUptoRow.holds Try.pinned (OpenSpec.upto summaryCapSpec)

/-- 'windowpanelaw20.SummaryMerges', WHERE WHAT IT READS IS OF BULK AT MOST 1048576: true; the input reads as it did. -/
def summaryMergesUptoRow : OpenClaim := { program := "ytdibjlphcmjnoaa", sum := "2dfe5367b56ec3f782a3e7e13f4fecf6c09a273d8fc1ea5929881b7ebbf56e0b", func := "windowpane/windowpanelaw20.SummaryMerges", spec := "summaryMerges", apart := false, narrowed := true }
def SummaryMergesUptoSaid : Prop := summaryMergesUptoRow.holds Try.pinned (OpenSpec.upto summaryMergesSpec)

/-- 'windowpanelaw20.SummaryAsks', WHERE WHAT IT READS IS OF BULK AT MOST 1048576: true; the input reads as it did. -/
def summaryAsksUptoRow : OpenClaim := { program := "ytdibjlphcmjnoaa", sum := "2dfe5367b56ec3f782a3e7e13f4fecf6c09a273d8fc1ea5929881b7ebbf56e0b", func := "windowpane/windowpanelaw20.SummaryAsks", spec := "summaryAsks", inPlace := ["math/bits.Sub64"], apart := false, narrowed := true }
def SummaryAsksUptoSaid : Prop := summaryAsksUptoRow.holds Try.pinned (OpenSpec.upto summaryAsksSpec)

/-- 'windowpanelaw20.SummaryTruth', WHERE WHAT IT READS IS OF BULK AT MOST 1048576: true; the input reads as it did. -/
def summaryTruthUptoRow : OpenClaim := { program := "ytdibjlphcmjnoaa", sum := "2dfe5367b56ec3f782a3e7e13f4fecf6c09a273d8fc1ea5929881b7ebbf56e0b", func := "windowpane/windowpanelaw20.SummaryTruth", spec := "summaryTruth", inPlace := ["math/bits.Sub64"], apart := false, narrowed := true }
def SummaryTruthUptoSaid : Prop := summaryTruthUptoRow.holds Try.pinned (OpenSpec.upto summaryTruthSpec)

/-- 'windowpanelaw20.SummaryBoth', WHERE WHAT IT READS IS OF BULK AT MOST 1048576: true; the input reads as it did. -/
def summaryBothUptoRow : OpenClaim := { program := "ytdibjlphcmjnoaa", sum := "2dfe5367b56ec3f782a3e7e13f4fecf6c09a273d8fc1ea5929881b7ebbf56e0b", func := "windowpane/windowpanelaw20.SummaryBoth", spec := "summaryBoth", inPlace := ["math/bits.Sub64"], apart := false, narrowed := true }
def SummaryBothUptoSaid : Prop := summaryBothUptoRow.holds Try.pinned (OpenSpec.upto summaryBothSpec)

end Rows
end Go.Proofs.Ytdibjlphcmjnoaa
