/- The outside texts that the law TopRelative leans on, and a name for the slots' equations. -/
import Derived.Test.YtdipoojjlddohaaGreatProg
import Derived.WalkKit
import Derived.Lib.BitFns
import Derived.OneCell
import Derived.Below
import Derived.ChangeSame
import Derived.WideKeyArgs
import Derived.OpenShut
import Derived.Laws.OwnMore
import Derived.Deep.AppendLies
import Derived.Deep.Draws
import Derived.ChangeSlices
import Derived.Maps.AppendAt
import Derived.RegionTactic
import Derived.OwnWalk
import Derived.Laws.CopyOwn
import Derived.Lib.SliceRun
import Derived.StillTail
import Derived.OrdersHeld
import Derived.WalkSpells
import Derived.Lib.Hide
import Derived.Deep.Cut
import Derived.IntWalk
import Derived.Shelf.Spec.BitsCarry
import Derived.Test.YtdipoojjlddohaaGreatShelf
import Derived.Deep.RegionHeld3
import Derived.WalkSmall
import Derived.Laws.Bits64b
import Derived.ChangeAlike
import Derived.Outline
import Derived.Deep.LoopGhost
import Derived.Deep.DeepCutAuto
import Derived.Deep.QuietTactic
import Derived.BigQuiet
import Derived.Deep.CutBlock
import Derived.Laws.BitsLemmas
import Derived.Laws.Rows
import Derived.Laws.Tables
import Derived.ChangeKeysEq
import Derived.Deep.Slices
import Derived.Deep.Fields
import Derived.Lib.SmallJoins
import Derived.Test.YtdipoojjlddohaaGreatRows
import Derived.ProofKit
import Derived.JoinedOf
import Derived.SizedLaws
import Derived.Carry
set_option linter.unusedVariables false
set_option linter.unusedSimpArgs false
set_option linter.unusedSectionVars false
set_option linter.unnecessarySimpa false
namespace Go.Proofs.YtdipoojjlddohaaGreat
open Go.RowKit
theorem put9 : (∀ (a : Act) (d : Nat) (v : Value), a.put (some d) v = { a with tmps := a.tmps.setIfInBounds d v }) ∧ (∀ (a : Act) (v : Value), a.put none v = a) ∧ (∀ {α : Type} (l : List α) (i : Nat) (h : i < l.toArray.size), l.toArray[i] = l[i]'(by simpa using h)) ∧ (∀ {α : Type} (a : α) (l : List α), (a :: l)[0]'(by simp) = a) ∧ (∀ {α : Type} (l : List α) (a : α) (i : Nat) (h : i + 1 < (a :: l).length), (a :: l)[i + 1] = l[i]'(by simpa using h)) ∧ (∀ (l : List Value) (i : Nat) (v : Value), l.toArray.setIfInBounds i v = (l.set i v).toArray) ∧ (∀ (a : Value) (l : List Value) (v : Value), (a :: l).set 0 v = v :: l) ∧ (∀ (a : Value) (l : List Value) (i : Nat) (v : Value), (a :: l).set (i + 1) v = a :: l.set i v) := by
  refine ⟨fun _ _ _ => rfl, fun _ _ => rfl, fun _ _ _ => by simp, fun _ _ => rfl, fun _ _ _ _ => rfl, fun _ _ _ => by simp, fun _ _ _ => rfl, fun _ _ _ _ => rfl⟩
set_option maxRecDepth 100000
theorem bel9 {p : Prop} (h : p := by (repeat (first | exact Below.refl _ _ | refine Below.setCell ?_ (by (try simp)<;>omega) _ | refine Below.alloc ?_ (by (try simp)<;>omega) _ | refine Below.drew ?_ | refine Below.trans ?_ (Below.mono (by assumption) (by (try simp)<;>omega))))) : p := h
theorem row9 {p : Prop} (h : p := by (repeat (first | assumption | (refine row_new ?_;(first | (simp;done) | omega)) | refine row_alloc ?_ _ | refine row_drew ?_ | refine row_call ?_ (by assumption)))) : p := h
theorem gs9 {p : Prop} (h : p := by go_simp;try with_reducible rfl) : p := h
theorem so9 {p : Prop} (h : p := by ((try simp)<;>omega)) : p := h
instance : Coe World Nat := ⟨fun w => w.heap.size⟩
inductive MT where
  | Rr (v : Value) (w : World)
  | Rd (v : Value) (w : World)
instance {v : Value} {w : World} : CoeDep MT (.Rr v w) (Ending → World → Prop) := ⟨fun e w' => e = .returned v ∧ Below w.heap.size w w'⟩
instance {v : Value} {w : World} : CoeDep MT (.Rd v w) (Ending → World → Prop) := ⟨fun e w' => e = .returned v ∧ w' = w⟩
instance : Coe Unit Value := ⟨fun _ => .int .i64 0⟩
instance : Coe Int Value := ⟨fun x => .int .i64 x⟩
instance : Coe Nat Value := ⟨fun x => .int .i64 (x : Int)⟩
instance : Coe String Value := ⟨fun _ => .slice none 0 0⟩
inductive MC where
  | J0
  | J1 (x0 x1 x2 x3 x4 x5 x6 : Value)
  | J2 (x0 x1 x2 x3 x4 : Value)
  | J3 (x0 x1 x2 x3 x4 x5 : Value)
  | J4 (x0 x1 x2 x3 x4 x5 x6 : Value)
  | J5 (x0 x1 x2 x3 x4 x5 : Value)
  | J6 (x0 x1 x2 x3 x4 x5 : Value)
  | J7 (x0 : Value)
  | J8 (x0 x1 x2 : Value)
  | J9 (x0 x1 x2 : Value)
  | J10 (x0 x1 x2 x3 : Value)
  | J11 (x0 x1 x2 x3 : Value)
  | J12
  | J13 (x0 x1 x2 x3 x4 x5 : Value)
  | J14 (x0 x1 x2 x3 x4 : Value)
  | J15 (x0 x1 x2 x3 : Value)
  | J16 (x0 x1 x2 x3 x4 : Value)
  | J17 (x0 x1 x2 x3 : Value)
  | J18 (x0 x1 : Value)
  | J19 (x0 : Value)
  | J20
  | J21 (x0 x1 x2 x3 x4 : Value)
  | J22 (x0 x1 x2 x3 : Value)
  | J23 (x0 x1 x2 : Value)
  | J24 (x0 x1 x2 x3 x4 x5 x6 x7 : Value)
  | J25 (x0 x1 x2 x3 : Value)
  | J26 (x0 : Value)
  | J27
  | J28 (x0 x1 x2 : Value)
  | J29
  | J30 (x0 x1 x2 : Value)
  | J31
  | J32 (x0 x1 x2 x3 : Value)
  | J33
  | J34
  | J35
  | J36 (x0 x1 x2 x3 x4 x5 : Value)
  | J37 (x0 x1 x2 x3 x4 : Value)
  | J38
  | J39
  | J40 (x0 x1 x2 : Value)
  | J41 (x0 x1 : Value)
  | J42
  | J43
  | J44
  | J45
  | J46
  | J47
  | J48 (x0 : Value)
  | J49 (x0 x1 x2 x3 : Value)
instance : CoeDep MC .J0 (Array Value) := ⟨#[.int .i64 0, .int .i64 0, .int .i64 0, .int .i64 0, .int .i64 0, .int .i64 0, .int .i64 0, .int .i64 0, .int .i64 0, .int .i64 0, .int .i64 0, .slice none 0 0, .int .i64 0, .int .i64 0, .int .i64 0, .int .i64 0, .slice none 0 0, .int .i64 0, .int .i64 0, .int .i64 0, .int .i64 0, .int .i64 0, .slice none 0 0, .int .i64 0, .int .i64 0, .int .i64 0, .int .i64 0, .int .i64 0, .int .i64 0, .slice none 0 0, .int .i64 0, .int .i64 0, .int .i64 0, .int .i64 0, .int .i64 0, .slice none 0 0, .int .i64 0, .int .i64 0, .int .i64 0, .slice none 0 0, .int .i64 0, .slice none 0 0, .bool false, .int .i64 0, .int .i64 0, .int .i64 0, .slice none 0 0, .slice none 0 0, .int .i64 0, .int .i64 0, .int .i64 0, .slice none 0 0, .int .i64 0, .int .i64 0, .int .i64 0, .int .i64 0, .slice none 0 0]⟩
instance {x0 x1 x2 x3 x4 x5 x6 : Value} : CoeDep MC (.J1 x0 x1 x2 x3 x4 x5 x6) (Array Value) := ⟨#[x0, x1, x2, x3, x4, x5, x6]⟩
instance {x0 x1 x2 x3 x4 : Value} : CoeDep MC (.J2 x0 x1 x2 x3 x4) (Array Value) := ⟨#[.int .i64 2, .int .i64 0, x0, x1, x2, .int .i64 0, .int .i64 0, .int .i64 0, .int .i64 0, .int .i64 0, .int .i64 0, .slice none 0 0, x0, x1, x2, x3, x4, .int .i64 0, .int .i64 0, .int .i64 0, .int .i64 0, .int .i64 0, .slice none 0 0, .int .i64 0, .int .i64 0, .int .i64 0, .int .i64 0, .int .i64 0, .int .i64 0, .slice none 0 0, .int .i64 0, .int .i64 0, .int .i64 0, .int .i64 0, .int .i64 0, .slice none 0 0, .int .i64 0, .int .i64 0, .int .i64 0, .slice none 0 0, .int .i64 0, .slice none 0 0, .bool false, .int .i64 0, .int .i64 0, .int .i64 0, .slice none 0 0, .slice none 0 0, .int .i64 0, .int .i64 0, .int .i64 0, .slice none 0 0, .int .i64 0, .int .i64 0, .int .i64 0, .int .i64 0, .slice none 0 0]⟩
instance {x0 x1 x2 x3 x4 x5 : Value} : CoeDep MC (.J3 x0 x1 x2 x3 x4 x5) (Array Value) := ⟨#[.int .i64 3, .int .i64 0, x0, x1, x2, .int .i64 0, .int .i64 0, x3, .int .i64 0, .int .i64 0, .int .i64 0, .slice none 0 0, .int .i64 0, .int .i64 0, .int .i64 0, .int .i64 0, .slice none 0 0, x0, x1, x2, x3, x4, x5, .int .i64 0, .int .i64 0, .int .i64 0, .int .i64 0, .int .i64 0, .int .i64 0, .slice none 0 0, .int .i64 0, .int .i64 0, .int .i64 0, .int .i64 0, .int .i64 0, .slice none 0 0, .int .i64 0, .int .i64 0, .int .i64 0, .slice none 0 0, .int .i64 0, .slice none 0 0, .bool false, .int .i64 0, .int .i64 0, .int .i64 0, .slice none 0 0, .slice none 0 0, .int .i64 0, .int .i64 0, .int .i64 0, .slice none 0 0, .int .i64 0, .int .i64 0, .int .i64 0, .int .i64 0, .slice none 0 0]⟩
instance {x0 x1 x2 x3 x4 x5 x6 : Value} : CoeDep MC (.J4 x0 x1 x2 x3 x4 x5 x6) (Array Value) := ⟨#[.int .i64 4, x0, x1, x2, x3, .int .i64 0, .int .i64 0, .int .i64 0, .int .i64 0, .int .i64 0, .int .i64 0, .slice none 0 0, .int .i64 0, .int .i64 0, .int .i64 0, .int .i64 0, .slice none 0 0, .int .i64 0, .int .i64 0, .int .i64 0, .int .i64 0, .int .i64 0, .slice none 0 0, x0, x1, x2, x3, x4, x5, x6, .int .i64 0, .int .i64 0, .int .i64 0, .int .i64 0, .int .i64 0, .slice none 0 0, .int .i64 0, .int .i64 0, .int .i64 0, .slice none 0 0, .int .i64 0, .slice none 0 0, .bool false, .int .i64 0, .int .i64 0, .int .i64 0, .slice none 0 0, .slice none 0 0, .int .i64 0, .int .i64 0, .int .i64 0, .slice none 0 0, .int .i64 0, .int .i64 0, .int .i64 0, .int .i64 0, .slice none 0 0]⟩
instance {x0 x1 x2 x3 x4 x5 : Value} : CoeDep MC (.J5 x0 x1 x2 x3 x4 x5) (Array Value) := ⟨#[.int .i64 5, .int .i64 0, x0, x1, x2, .int .i64 0, .int .i64 0, .int .i64 0, .int .i64 0, .int .i64 0, .int .i64 0, .slice none 0 0, .int .i64 0, .int .i64 0, .int .i64 0, .int .i64 0, .slice none 0 0, .int .i64 0, .int .i64 0, .int .i64 0, .int .i64 0, .int .i64 0, .slice none 0 0, .int .i64 0, .int .i64 0, .int .i64 0, .int .i64 0, .int .i64 0, .int .i64 0, .slice none 0 0, x0, x1, x2, x3, x4, x5, .int .i64 0, .int .i64 0, .int .i64 0, .slice none 0 0, .int .i64 0, .slice none 0 0, .bool false, .int .i64 0, .int .i64 0, .int .i64 0, .slice none 0 0, .slice none 0 0, .int .i64 0, .int .i64 0, .int .i64 0, .slice none 0 0, .int .i64 0, .int .i64 0, .int .i64 0, .int .i64 0, .slice none 0 0]⟩
instance {x0 x1 x2 x3 x4 x5 : Value} : CoeDep MC (.J6 x0 x1 x2 x3 x4 x5) (Array Value) := ⟨#[x0, x1, x2, x3, x4, x5]⟩
instance {x0 : Value} : CoeDep MC (.J7 x0) (Array Value) := ⟨#[.int .i64 2, .int .i64 0, .int .i64 5, .int .i64 1, .int .i64 5, .int .i64 0, .int .i64 0, .int .i64 0, .int .i64 0, .int .i64 0, .int .i64 0, .slice none 0 0, .int .i64 5, .int .i64 1, .int .i64 5, .int .i64 0, x0, .int .i64 0, .int .i64 0, .int .i64 0, .int .i64 0, .int .i64 0, .slice none 0 0, .int .i64 0, .int .i64 0, .int .i64 0, .int .i64 0, .int .i64 0, .int .i64 0, .slice none 0 0, .int .i64 0, .int .i64 0, .int .i64 0, .int .i64 0, .int .i64 0, .slice none 0 0, .int .i64 0, .int .i64 0, .int .i64 0, .slice none 0 0, .int .i64 0, .slice none 0 0, .bool false, .int .i64 0, .int .i64 0, .int .i64 0, .slice none 0 0, .slice none 0 0, .int .i64 0, .int .i64 0, .int .i64 0, .slice none 0 0, .int .i64 0, .int .i64 0, .int .i64 0, .int .i64 0, .slice none 0 0]⟩
instance {x0 x1 x2 : Value} : CoeDep MC (.J8 x0 x1 x2) (Array Value) := ⟨#[.int .i64 2, .int .i64 0, x0, x1, x2, .int .i64 0, .int .i64 0, .int .i64 0, .int .i64 0, .int .i64 0, .int .i64 0, .slice none 0 0, .int .i64 0, .int .i64 0, .int .i64 0, .int .i64 0, .slice none 0 0, .int .i64 0, .int .i64 0, .int .i64 0, .int .i64 0, .int .i64 0, .slice none 0 0, .int .i64 0, .int .i64 0, .int .i64 0, .int .i64 0, .int .i64 0, .int .i64 0, .slice none 0 0, .int .i64 0, .int .i64 0, .int .i64 0, .int .i64 0, .int .i64 0, .slice none 0 0, .int .i64 0, .int .i64 0, .int .i64 0, .slice none 0 0, .int .i64 0, .slice none 0 0, .bool false, .int .i64 0, .int .i64 0, .int .i64 0, .slice none 0 0, .slice none 0 0, .int .i64 0, .int .i64 0, .int .i64 0, .slice none 0 0, .int .i64 0, .int .i64 0, .int .i64 0, .int .i64 0, .slice none 0 0]⟩
instance {x0 x1 x2 : Value} : CoeDep MC (.J9 x0 x1 x2) (Array Value) := ⟨#[.int .i64 5, .int .i64 0, x0, x1, x2, .int .i64 0, .int .i64 0, .int .i64 0, .int .i64 0, .int .i64 0, .int .i64 0, .slice none 0 0, .int .i64 0, .int .i64 0, .int .i64 0, .int .i64 0, .slice none 0 0, .int .i64 0, .int .i64 0, .int .i64 0, .int .i64 0, .int .i64 0, .slice none 0 0, .int .i64 0, .int .i64 0, .int .i64 0, .int .i64 0, .int .i64 0, .int .i64 0, .slice none 0 0, .int .i64 0, .int .i64 0, .int .i64 0, .int .i64 0, .int .i64 0, .slice none 0 0, .int .i64 0, .int .i64 0, .int .i64 0, .slice none 0 0, .int .i64 0, .slice none 0 0, .bool false, .int .i64 0, .int .i64 0, .int .i64 0, .slice none 0 0, .slice none 0 0, .int .i64 0, .int .i64 0, .int .i64 0, .slice none 0 0, .int .i64 0, .int .i64 0, .int .i64 0, .int .i64 0, .slice none 0 0]⟩
instance {x0 x1 x2 x3 : Value} : CoeDep MC (.J10 x0 x1 x2 x3) (Array Value) := ⟨#[.int .i64 3, .int .i64 0, x0, x1, x2, .int .i64 0, .int .i64 0, x3, .int .i64 0, .int .i64 0, .int .i64 0, .slice none 0 0, .int .i64 0, .int .i64 0, .int .i64 0, .int .i64 0, .slice none 0 0, .int .i64 0, .int .i64 0, .int .i64 0, .int .i64 0, .int .i64 0, .slice none 0 0, .int .i64 0, .int .i64 0, .int .i64 0, .int .i64 0, .int .i64 0, .int .i64 0, .slice none 0 0, .int .i64 0, .int .i64 0, .int .i64 0, .int .i64 0, .int .i64 0, .slice none 0 0, .int .i64 0, .int .i64 0, .int .i64 0, .slice none 0 0, .int .i64 0, .slice none 0 0, .bool false, .int .i64 0, .int .i64 0, .int .i64 0, .slice none 0 0, .slice none 0 0, .int .i64 0, .int .i64 0, .int .i64 0, .slice none 0 0, .int .i64 0, .int .i64 0, .int .i64 0, .int .i64 0, .slice none 0 0]⟩
instance {x0 x1 x2 x3 : Value} : CoeDep MC (.J11 x0 x1 x2 x3) (Array Value) := ⟨#[.int .i64 4, x0, x1, x2, x3, .int .i64 0, .int .i64 0, .int .i64 0, .int .i64 0, .int .i64 0, .int .i64 0, .slice none 0 0, .int .i64 0, .int .i64 0, .int .i64 0, .int .i64 0, .slice none 0 0, .int .i64 0, .int .i64 0, .int .i64 0, .int .i64 0, .int .i64 0, .slice none 0 0, .int .i64 0, .int .i64 0, .int .i64 0, .int .i64 0, .int .i64 0, .int .i64 0, .slice none 0 0, .int .i64 0, .int .i64 0, .int .i64 0, .int .i64 0, .int .i64 0, .slice none 0 0, .int .i64 0, .int .i64 0, .int .i64 0, .slice none 0 0, .int .i64 0, .slice none 0 0, .bool false, .int .i64 0, .int .i64 0, .int .i64 0, .slice none 0 0, .slice none 0 0, .int .i64 0, .int .i64 0, .int .i64 0, .slice none 0 0, .int .i64 0, .int .i64 0, .int .i64 0, .int .i64 0, .slice none 0 0]⟩
instance : CoeDep MC .J12 (Array Value) := ⟨#[(), (), (), (), (), (), "", .int .u64 0, .int .u64 0, .int .u64 0, .int .u64 0]⟩
instance {x0 x1 x2 x3 x4 x5 : Value} : CoeDep MC (.J13 x0 x1 x2 x3 x4 x5) (Array Value) := ⟨#[x0, x1, x2, x3, x4, x5, "", .int .u64 0, .int .u64 0, .int .u64 0, .int .u64 0]⟩
instance {x0 x1 x2 x3 x4 : Value} : CoeDep MC (.J14 x0 x1 x2 x3 x4) (Array Value) := ⟨#[.int .i64 3, .int .i64 0, x0, x1, x2, .int .i64 0, .int .i64 0, x3, .int .i64 0, .int .i64 0, .int .i64 0, .slice none 0 0, .int .i64 0, .int .i64 0, .int .i64 0, .int .i64 0, .slice none 0 0, x0, x1, x2, x3, x4, .slice none 0 0, .int .i64 0, .int .i64 0, .int .i64 0, .int .i64 0, .int .i64 0, .int .i64 0, .slice none 0 0, .int .i64 0, .int .i64 0, .int .i64 0, .int .i64 0, .int .i64 0, .slice none 0 0, .int .i64 0, .int .i64 0, .int .i64 0, .slice none 0 0, .int .i64 0, .slice none 0 0, .bool false, .int .i64 0, .int .i64 0, .int .i64 0, .slice none 0 0, .slice none 0 0, .int .i64 0, .int .i64 0, .int .i64 0, .slice none 0 0, .int .i64 0, .int .i64 0, .int .i64 0, .int .i64 0, .slice none 0 0]⟩
instance {x0 x1 x2 x3 : Value} : CoeDep MC (.J15 x0 x1 x2 x3) (Array Value) := ⟨#[.int .i64 2, .int .i64 0, x0, x1, x2, .int .i64 0, .int .i64 0, .int .i64 0, .int .i64 0, .int .i64 0, .int .i64 0, .slice none 0 0, x0, x1, x2, x3, .slice none 0 0, .int .i64 0, .int .i64 0, .int .i64 0, .int .i64 0, .int .i64 0, .slice none 0 0, .int .i64 0, .int .i64 0, .int .i64 0, .int .i64 0, .int .i64 0, .int .i64 0, .slice none 0 0, .int .i64 0, .int .i64 0, .int .i64 0, .int .i64 0, .int .i64 0, .slice none 0 0, .int .i64 0, .int .i64 0, .int .i64 0, .slice none 0 0, .int .i64 0, .slice none 0 0, .bool false, .int .i64 0, .int .i64 0, .int .i64 0, .slice none 0 0, .slice none 0 0, .int .i64 0, .int .i64 0, .int .i64 0, .slice none 0 0, .int .i64 0, .int .i64 0, .int .i64 0, .int .i64 0, .slice none 0 0]⟩
instance {x0 x1 x2 x3 x4 : Value} : CoeDep MC (.J16 x0 x1 x2 x3 x4) (Array Value) := ⟨#[.int .i64 4, x0, x1, x2, x3, .int .i64 0, .int .i64 0, .int .i64 0, .int .i64 0, .int .i64 0, .int .i64 0, .slice none 0 0, .int .i64 0, .int .i64 0, .int .i64 0, .int .i64 0, .slice none 0 0, .int .i64 0, .int .i64 0, .int .i64 0, .int .i64 0, .int .i64 0, .slice none 0 0, x0, x1, x2, x3, x4, .int .i64 0, .slice none 0 0, .int .i64 0, .int .i64 0, .int .i64 0, .int .i64 0, .int .i64 0, .slice none 0 0, .int .i64 0, .int .i64 0, .int .i64 0, .slice none 0 0, .int .i64 0, .slice none 0 0, .bool false, .int .i64 0, .int .i64 0, .int .i64 0, .slice none 0 0, .slice none 0 0, .int .i64 0, .int .i64 0, .int .i64 0, .slice none 0 0, .int .i64 0, .int .i64 0, .int .i64 0, .int .i64 0, .slice none 0 0]⟩
instance {x0 x1 x2 x3 : Value} : CoeDep MC (.J17 x0 x1 x2 x3) (Array Value) := ⟨#[.int .i64 5, .int .i64 0, x0, x1, x2, .int .i64 0, .int .i64 0, .int .i64 0, .int .i64 0, .int .i64 0, .int .i64 0, .slice none 0 0, .int .i64 0, .int .i64 0, .int .i64 0, .int .i64 0, .slice none 0 0, .int .i64 0, .int .i64 0, .int .i64 0, .int .i64 0, .int .i64 0, .slice none 0 0, .int .i64 0, .int .i64 0, .int .i64 0, .int .i64 0, .int .i64 0, .int .i64 0, .slice none 0 0, x0, x1, x2, x3, .int .i64 0, .slice none 0 0, .int .i64 0, .int .i64 0, .int .i64 0, .slice none 0 0, .int .i64 0, .slice none 0 0, .bool false, .int .i64 0, .int .i64 0, .int .i64 0, .slice none 0 0, .slice none 0 0, .int .i64 0, .int .i64 0, .int .i64 0, .slice none 0 0, .int .i64 0, .int .i64 0, .int .i64 0, .int .i64 0, .slice none 0 0]⟩
instance {x0 x1 : Value} : CoeDep MC (.J18 x0 x1) (Array Value) := ⟨#[x0, x1, x0, x1, x0, x1, "", .int .u64 0, .int .u64 0, .int .u64 0, .int .u64 0]⟩
instance {x0 : Value} : CoeDep MC (.J19 x0) (Array Value) := ⟨#[x0, .int .u64 0, .int .u64 0, .int .u64 0]⟩
instance : CoeDep MC .J20 (Array Value) := ⟨#[.int .u64 0, .int .u64 0, .int .u64 0, .int .u64 0]⟩
instance {x0 x1 x2 x3 x4 : Value} : CoeDep MC (.J21 x0 x1 x2 x3 x4) (Array Value) := ⟨#[x0, x1, x2, x3, x4]⟩
instance {x0 x1 x2 x3 : Value} : CoeDep MC (.J22 x0 x1 x2 x3) (Array Value) := ⟨#[.int .i64 3, (), x0, x1, x2, (), (), x3]⟩
instance {x0 x1 x2 : Value} : CoeDep MC (.J23 x0 x1 x2) (Array Value) := ⟨#[.int .i64 2, (), x0, x1, x2, (), (), ()]⟩
instance {x0 x1 x2 x3 x4 x5 x6 x7 : Value} : CoeDep MC (.J24 x0 x1 x2 x3 x4 x5 x6 x7) (Array Value) := ⟨#[x0, x1, x2, x3, x4, x5, x6, x7, .int .i64 0, .int .i64 0, .int .i64 0, .slice none 0 0, .int .i64 0, .int .i64 0, .int .i64 0, .int .i64 0, .slice none 0 0, .int .i64 0, .int .i64 0, .int .i64 0, .int .i64 0, .int .i64 0, .slice none 0 0, .int .i64 0, .int .i64 0, .int .i64 0, .int .i64 0, .int .i64 0, .int .i64 0, .slice none 0 0, .int .i64 0, .int .i64 0, .int .i64 0, .int .i64 0, .int .i64 0, .slice none 0 0, .int .i64 0, .int .i64 0, .int .i64 0, .slice none 0 0, .int .i64 0, .slice none 0 0, .bool false, .int .i64 0, .int .i64 0, .int .i64 0, .slice none 0 0, .slice none 0 0, .int .i64 0, .int .i64 0, .int .i64 0, .slice none 0 0, .int .i64 0, .int .i64 0, .int .i64 0, .int .i64 0, .slice none 0 0]⟩
instance {x0 x1 x2 x3 : Value} : CoeDep MC (.J25 x0 x1 x2 x3) (Array Value) := ⟨#[x0, x1, x2, x3]⟩
instance {x0 : Value} : CoeDep MC (.J26 x0) (Array Value) := ⟨#[x0, .int .i64 1, x0, .int .i64 1, x0, .int .i64 1, "", .int .u64 0, .int .u64 0, .int .u64 0, .int .u64 0]⟩
instance : CoeDep MC .J27 (Array Value) := ⟨#[.int .i64 0, .int .i64 0, .int .i64 0, .int .i64 0, .int .i64 0, .int .i64 0, .int .i64 0, .int .i64 0, .int .i64 0, .int .i64 0, .int .i64 0, .int .i64 0, .int .i64 0, .int .i64 0, .int .i64 0, .int .i64 0, .int .i64 0, .int .i64 0, .int .i64 0, .int .i64 0, .int .i64 0, .int .i64 0, .int .i64 0, .int .i64 0, .int .i64 0, .int .i64 0, .int .i64 0, .int .i64 0, .int .i64 0, .int .i64 0, .int .i64 0]⟩
instance {x0 x1 x2 : Value} : CoeDep MC (.J28 x0 x1 x2) (Array Value) := ⟨#[.int .i64 5, (), x0, x1, x2, (), (), ()]⟩
instance : CoeDep MC .J29 (Array Value) := ⟨#[(), (), (), (), (), ()]⟩
instance {x0 x1 x2 : Value} : CoeDep MC (.J30 x0 x1 x2) (Array Value) := ⟨#[x0, .int .i64 1, x1, .int .i64 1, x2, .int .i64 1]⟩
instance : CoeDep MC .J31 (Array Value) := ⟨#[(), (), (), (), (), ""]⟩
instance {x0 x1 x2 x3 : Value} : CoeDep MC (.J32 x0 x1 x2 x3) (Array Value) := ⟨#[.int .i64 4, x0, x1, x2, x3, (), (), ()]⟩
instance : CoeDep MC .J33 (Array Value) := ⟨#[(), (), (), (), (), (), (), ()]⟩
instance : CoeDep MC .J34 (Array Value) := ⟨#[.int .i64 2, .int .i64 3, .int .i64 4, .int .i64 4, .int .i64 5]⟩
instance : CoeDep MC .J35 (Array Value) := ⟨#[(), (), (), (), ""]⟩
instance {x0 x1 x2 x3 x4 x5 : Value} : CoeDep MC (.J36 x0 x1 x2 x3 x4 x5) (Array Value) := ⟨#[.int .i64 4, x0, x1, x2, x3, .int .i64 0, .int .i64 0, .int .i64 0, .int .i64 0, .int .i64 0, .int .i64 0, .slice none 0 0, .int .i64 0, .int .i64 0, .int .i64 0, .int .i64 0, .slice none 0 0, .int .i64 0, .int .i64 0, .int .i64 0, .int .i64 0, .int .i64 0, .slice none 0 0, x0, x1, x2, x3, x4, .int .i64 0, x5, .int .i64 0, .int .i64 0, .int .i64 0, .int .i64 0, .int .i64 0, .slice none 0 0, .int .i64 0, .int .i64 0, .int .i64 0, .slice none 0 0, .int .i64 0, .slice none 0 0, .bool false, .int .i64 0, .int .i64 0, .int .i64 0, .slice none 0 0, .slice none 0 0, .int .i64 0, .int .i64 0, .int .i64 0, .slice none 0 0, .int .i64 0, .int .i64 0, .int .i64 0, .int .i64 0, .slice none 0 0]⟩
instance {x0 x1 x2 x3 x4 : Value} : CoeDep MC (.J37 x0 x1 x2 x3 x4) (Array Value) := ⟨#[.int .i64 5, .int .i64 0, x0, x1, x2, .int .i64 0, .int .i64 0, .int .i64 0, .int .i64 0, .int .i64 0, .int .i64 0, .slice none 0 0, .int .i64 0, .int .i64 0, .int .i64 0, .int .i64 0, .slice none 0 0, .int .i64 0, .int .i64 0, .int .i64 0, .int .i64 0, .int .i64 0, .slice none 0 0, .int .i64 0, .int .i64 0, .int .i64 0, .int .i64 0, .int .i64 0, .int .i64 0, .slice none 0 0, x0, x1, x2, x3, .int .i64 0, x4, .int .i64 0, .int .i64 0, .int .i64 0, .slice none 0 0, .int .i64 0, .slice none 0 0, .bool false, .int .i64 0, .int .i64 0, .int .i64 0, .slice none 0 0, .slice none 0 0, .int .i64 0, .int .i64 0, .int .i64 0, .slice none 0 0, .int .i64 0, .int .i64 0, .int .i64 0, .int .i64 0, .slice none 0 0]⟩
instance : CoeDep MC .J38 (Array Value) := ⟨#[.int .i64 1, .int .i64 1, .int .i64 1, .int .i64 1, .int .i64 1, .int .i64 1, "", .int .u64 0, .int .u64 0, .int .u64 0, .int .u64 0]⟩
instance : CoeDep MC .J39 (Array Value) := ⟨#[(), (), (), (), (), (), ""]⟩
instance {x0 x1 x2 : Value} : CoeDep MC (.J40 x0 x1 x2) (Array Value) := ⟨#[x0, .int .i64 1, x1, .int .i64 1, x2, .int .i64 1, "", .int .u64 0, .int .u64 0, .int .u64 0, .int .u64 0]⟩
instance {x0 x1 : Value} : CoeDep MC (.J41 x0 x1) (Array Value) := ⟨#[x0, x1, x0, x1, x0, x1]⟩
instance : CoeDep MC .J42 (Array Value) := ⟨#[(), .int .i64 1, (), .int .i64 1, (), .int .i64 1]⟩
instance : CoeDep MC .J43 (Array Value) := ⟨#[.bool false, (), (), (), ""]⟩
instance : CoeDep MC .J44 (Array Value) := ⟨#[.int .i64 2, (), (), (), (), (), (), ()]⟩
instance : CoeDep MC .J45 (Array Value) := ⟨#[.int .i64 3, (), (), (), (), (), (), ()]⟩
instance : CoeDep MC .J46 (Array Value) := ⟨#[.int .i64 4, (), (), (), (), (), (), ()]⟩
instance : CoeDep MC .J47 (Array Value) := ⟨#[.int .i64 5, (), (), (), (), (), (), ()]⟩
instance {x0 : Value} : CoeDep MC (.J48 x0) (Array Value) := ⟨#[x0, .int .i64 1, x0, .int .i64 1, x0, .int .i64 1]⟩
instance {x0 x1 x2 x3 : Value} : CoeDep MC (.J49 x0 x1 x2 x3) (Array Value) := ⟨#[x0, x1, x0, x1, x2, x3]⟩
end Go.Proofs.YtdipoojjlddohaaGreat
