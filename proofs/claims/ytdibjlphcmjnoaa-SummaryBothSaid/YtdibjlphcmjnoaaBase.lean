/- The last step of a law's row where of the world behind the call only 'below the old heap all is as it was' is known (the lemma is the guide's, to be copied); what is kept while a function runs. -/
import Derived.Below
import Derived.ChangeSame
import Derived.Test.YtdibjlphcmjnoaaHeap
set_option linter.unusedVariables false
set_option linter.unusedSimpArgs false
set_option linter.unusedSectionVars false
set_option linter.unnecessarySimpa false
namespace Go.Proofs.Ytdibjlphcmjnoaa
open Go.RowKit Go.WideShapes Go.ChangeShapes
section
variable {H : Type} {enc : TypeId × Value → H} {P : Program}
theorem post_of_below {f : Func} {s : ChangeSpec} {apart fresh handsOn again : Bool} {W W' : World} {args : Array Value} {v : Value} {ds gs : List (DataW H)} {before pa pv : List MemPlace}
    (hW : DataW.Whole enc P f.params.toList s.vars apart W args.toList ds gs before)
    (hres : ∀ (b : Nat) (sp : Nat → Bool) (hd : Bool), DataW.TrodAll enc P W' b sp hd f.resultTypes.toList (v.resultList f.resultTypes.size) (s.fn H (ds ++ gs)).results [])
    (hargs : ∀ sp : Nat → Bool, (∀ p ∈ before, sp p.block = true) → DataW.TrodAll enc P W' 0 sp true f.params.toList args.toList (s.fn H (ds ++ gs)).args pa)
    (hvars : ∀ sp : Nat → Bool, (∀ p ∈ before, sp p.block = true) → DataW.TrodVars enc P W' sp s.vars (s.fn H (ds ++ gs)).vars pv)
    (hps : before = pa ++ pv) (hb : Below W.heap.size W W')
    (hok : ∀ (j : Nat) (t : TypeId) (r : Value), f.resultTypes[j]? = some t → (v.resultList f.resultTypes.size)[j]? = some r → Value.okWide P W' .any 0 t r) :
    s.post enc P f apart fresh handsOn again W args v W' := by
  have hlt : ∀ p ∈ before, p.block < W.heap.size := fun p hp => hW.lt p hp
  have hold : ∀ p ∈ before, (fun b => decide (b < W.heap.size)) p.block = true := fun p hp => by simpa using hlt p hp
  refine ⟨ds, gs, before, [], pa, pv, hW, hres _ _ _, hargs _ hold, hvars _ hold, World.keptBut_mono (fun p hp => ⟨hp, ?_⟩) (hb.frame (· ∈ before)), fun _ => ?_⟩
  · rw [hps, List.mem_append] at hp
    exact Or.inr hp
  · obtain ⟨_, _, _, _, _, hz, hn⟩ := hW
    refine ⟨hok, _, _, ([] ++ pa) ++ pv, ⟨[] ++ pa, pv, trodAll_append (hargs _ (fun _ _ => rfl)) (hres _ _ _), hvars _ (fun _ _ => rfl), rfl, ?_, ?_⟩, ?_⟩
    · intro b off hp
      have hin : MemPlace.cell b off ∈ before := by rw [hps]; simpa using hp
      rw [hb.frozen (hlt _ hin)]
      exact hz b off hin
    · intro ha
      have := hn ha
      rw [hps] at this
      simpa using this
    · intro p hp _
      rw [hps]
      simpa using hp
end

/-- The blocks of a function's own that are known, and that what was there before the call is as it was. -/
def Kept (w w' : World) (L : List (Nat × TypeId × Array Value)) : Prop := (∀ x ∈ L, Row w' x.1 x.2.1 x.2.2) ∧ Below w.heap.size w w'
section
variable {w w' w'' : World} {L : List (Nat × TypeId × Array Value)}
theorem Kept.call (h : Kept w w' L) (k : Below w'.heap.size w' w'') : Kept w w'' L := ⟨fun x hx => row_call (h.1 x hx) k, h.2.trans (k.mono h.2.size)⟩
theorem Kept.alloc (h : Kept w w' L) (o : Obj) : Kept w (w'.alloc o) L := ⟨fun x hx => row_alloc (h.1 x hx) o, h.2.alloc h.2.size o⟩
theorem Kept.drew (h : Kept w w' L) : Kept w w'.drew L := ⟨fun x hx => h.1 x hx, h.2.drew⟩
theorem Kept.more {b : Nat} {t : TypeId} {cs : Array Value} (h : Kept w w' L) (r : Row w' b t cs) : Kept w w' ((b, t, cs) :: L) := ⟨fun x hx => by
  rcases List.mem_cons.1 hx with rfl | hx
  · exact r
  · exact h.1 x hx, h.2⟩
theorem Kept.less {L' : List (Nat × TypeId × Array Value)} (h : Kept w w' L) (k : ∀ x ∈ L', x ∈ L) : Kept w w' L' := ⟨fun x hx => h.1 x (k x hx), h.2⟩
end
end Go.Proofs.Ytdibjlphcmjnoaa
