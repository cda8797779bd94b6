/- The outside texts that the law TopSummaries leans on, and a name for the slots' equations. -/
import Derived.StillTail
import Derived.OrdersHeld
import Derived.WalkKit
import Derived.OneCell
import Derived.Below
import Derived.ChangeSame
import Derived.WideKeyArgs
import Derived.OpenShut
import Derived.Laws.OwnMore
import Derived.Deep.AppendLies
import Derived.Deep.Draws
import Derived.ChangeSlices
import Derived.Maps.AppendAt
import Derived.RegionTactic
import Derived.OwnWalk
import Derived.Laws.CopyOwn
import Derived.Lib.SliceRun
import Derived.Test.YtdipoojjlddohaaGreatProg
import Derived.Lib.Hide
import Derived.Deep.Cut
import Derived.IntWalk
import Derived.WalkSpells
import Derived.Deep.QuietTactic
import Derived.BigQuiet
import Derived.Lib.BitFns
import Derived.Shelf.Spec.BitsCarry
import Derived.Test.YtdipoojjlddohaaGreatShelf
import Derived.Deep.RegionHeld3
import Derived.WalkSmall
import Derived.Laws.Bits64b
import Derived.ChangeAlike
import Derived.Outline
import Derived.Deep.LoopGhost
import Derived.Deep.DeepCutAuto
import Derived.Deep.CutBlock
import Derived.Laws.BitsLemmas
import Derived.Laws.Rows
import Derived.Laws.Tables
import Derived.Deep.Slices
import Derived.Deep.Fields
import Derived.Test.YtdipoojjlddohaaGreatRows
import Derived.ProofKit
import Derived.JoinedOf
import Derived.Lib.SmallJoins
import Derived.SizedLaws
import Derived.Carry
set_option linter.unusedVariables false
set_option linter.unusedSimpArgs false
set_option linter.unusedSectionVars false
set_option linter.unnecessarySimpa false
namespace Go.Proofs.YtdipoojjlddohaaGreat
open Go.RowKit
theorem put9:(∀ (a:Act) (d:Nat) (v:Value),a.put (some d) v={ a with tmps:=a.tmps.setIfInBounds d v })∧(∀ (a:Act) (v:Value),a.put none v=a)∧(∀ {α:Type} (l:List α) (i:Nat) (h:i<l.toArray.size),l.toArray[i]=l[i]'(by simpa using h))∧(∀ {α:Type} (a:α) (l:List α),(a :: l)[0]'(by simp)=a)∧(∀ {α:Type} (l:List α) (a:α) (i:Nat) (h:i+1<(a :: l).length),(a :: l)[i+1]=l[i]'(by simpa using h))∧(∀ (l:List Value) (i:Nat) (v:Value),l.toArray.setIfInBounds i v=(l.set i v).toArray)∧(∀ (a:Value) (l:List Value) (v:Value),(a :: l).set 0 v=v :: l)∧(∀ (a:Value) (l:List Value) (i:Nat) (v:Value),(a :: l).set (i+1) v=a :: l.set i v):=by
  refine ⟨fun _ _ _=>rfl,fun _ _=>rfl,fun _ _ _=>by simp,fun _ _=>rfl,fun _ _ _ _=>rfl,fun _ _ _=>by simp,fun _ _ _=>rfl,fun _ _ _ _=>rfl⟩
end Go.Proofs.YtdipoojjlddohaaGreat
