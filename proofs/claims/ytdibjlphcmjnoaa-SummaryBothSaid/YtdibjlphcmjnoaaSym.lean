/- Guards that hang on values that are not known: an operation's value is there only if X is true. -/
import Derived.Test.YtdibjlphcmjnoaaFree
set_option linter.unusedVariables false
set_option linter.unusedSimpArgs false
set_option linter.unusedSectionVars false
set_option linter.unnecessarySimpa false
namespace Go.Proofs.Ytdibjlphcmjnoaa
open Go.RowKit
/-- A value that is there only if X is true. -/
def gv (X : Bool) (v : Value) : Value := match X with
  | true => v
  | false => undef
theorem gv_true {v : Value} : gv true v = v := rfl
theorem gv_false {v : Value} : gv false v = undef := rfl
theorem put_some (t : List Value) (ds : List Deferred) (d : Tmp) (v : Value) : Act.put ⟨t.toArray, ds⟩ (some d) v = ⟨(t.set d v).toArray, ds⟩ := by simp [Act.put]
section
variable {P : Program} {S : World → Prop} {HJ plan : List Nat} {R : Act → Prop} {t : List Value} {ds : List Deferred} {i j : Nat} {l : List Oper} {o oj : Oper} {d e : Tmp} {X Y : Bool}
theorem yield_at {b : Bool} (hj : l[j]? = some oj) (hd : oj.dst = some e) (ht : t[e]? = some (.bool b)) : yielded l.toArray t.toArray j = some b := by
  simp [yielded, hj, hd, ht]
theorem yield_undef (hj : l[j]? = some oj) (hd : oj.dst = some e) (ht : t[e]? = some undef) : yielded l.toArray t.toArray j = none := by
  simp [yielded, hj, hd, ht, undef]
theorem asks_not (hg : o.guard = some (j, false)) (hj : l[j]? = some oj) (hd : oj.dst = some e) (ht : t[e]? = some (.bool (!X))) : Region.wanted o (yielded l.toArray t.toArray) = X := by
  simp only [Region.wanted, hg, yield_at hj hd ht]
  cases X <;> rfl
theorem asks_yes (hg : o.guard = some (j, true)) (hj : l[j]? = some oj) (hd : oj.dst = some e) (ht : t[e]? = some (.bool X)) : Region.wanted o (yielded l.toArray t.toArray) = X := by
  simp only [Region.wanted, hg, yield_at hj hd ht]
  cases X <;> rfl
theorem asks_both (hg : o.guard = some (j, true)) (hj : l[j]? = some oj) (hd : oj.dst = some e) (ht : t[e]? = some (gv X (.bool Y))) : Region.wanted o (yielded l.toArray t.toArray) = (X && Y) := by
  cases X
  · simp only [Region.wanted, hg, yield_undef hj hd ht]
    rfl
  · simp only [Region.wanted, hg, yield_at hj hd ht]
    cases Y <;> rfl
theorem asks_but (hg : o.guard = some (j, false)) (hj : l[j]? = some oj) (hd : oj.dst = some e) (ht : t[e]? = some (gv X (.bool Y))) : Region.wanted o (yielded l.toArray t.toArray) = (X && !Y) := by
  cases X
  · simp only [Region.wanted, hg, yield_undef hj hd ht]
    rfl
  · simp only [Region.wanted, hg, yield_at hj hd ht]
    cases Y <;> rfl
theorem asks_so (hg : o.guard = some (j, true)) (hj : l[j]? = some oj) (hd : oj.dst = some e) (ht : t[e]? = some (gv X (.bool true))) : Region.wanted o (yielded l.toArray t.toArray) = X := by
  rw [asks_both hg hj hd ht, Bool.and_true]
theorem asks_never (hg : o.guard = some (j, true)) (hj : l[j]? = some oj) (hd : oj.dst = some e) (ht : t[e]? = some (gv X (.bool false))) : Region.wanted o (yielded l.toArray t.toArray) = false := by
  rw [asks_both hg hj hd ht, Bool.and_false]
theorem asks_gone (hg : o.guard = some (j, Y)) (hj : l[j]? = some oj) (hd : oj.dst = some e) (ht : t[e]? = some undef) : Region.wanted o (yielded l.toArray t.toArray) = false := by
  simp only [Region.wanted, hg, yield_undef hj hd ht]
  rfl
theorem asks_none (hg : o.guard = none) : Region.wanted o (yielded l.toArray t.toArray) = true := by simp [Region.wanted, hg]
theorem sym_val (v : Value) (ho : l[i]? = some o) (hd : o.dst = some d) (hg : o.guard = none) (hH : HJ.contains i = true)
    (h : ∀ w, S w → (execOp (Act.eval ⟨t.toArray, ds⟩) o).run P w = .ok (.value v) w) (k : wpPlan P l.toArray S HJ R plan ⟨(t.set d v).toArray, ds⟩) : wpPlan P l.toArray S HJ R (i :: plan) ⟨t.toArray, ds⟩ :=
  plan_val v ho (asks_none hg) hH h (by rw [hd, put_some]; exact k)
theorem sym_pure (v : Value) (ho : l[i]? = some o) (hd : o.dst = some d) (hg : o.guard = none)
    (h : ∀ w, (execOp (Act.eval ⟨t.toArray, ds⟩) o).run P w = .ok (.value v) w) (k : wpPlan P l.toArray S HJ R plan ⟨(t.set d v).toArray, ds⟩) : wpPlan P l.toArray S HJ R (i :: plan) ⟨t.toArray, ds⟩ :=
  plan_pure v ho (asks_none hg) h (by rw [hd, put_some]; exact k)
theorem sym_not (ho : l[i]? = some o) (hd : o.dst = some d) (hg : Region.wanted o (yielded l.toArray t.toArray) = false) (k : wpPlan P l.toArray S HJ R plan ⟨(t.set d undef).toArray, ds⟩) : wpPlan P l.toArray S HJ R (i :: plan) ⟨t.toArray, ds⟩ :=
  plan_not ho hg (by rw [hd, put_some]; exact k)
theorem sym_call (v : Value) (f : FuncId) (args : Array Value) (ho : l[i]? = some o) (hd : o.dst = some d) (hg : o.guard = none) (hH : HJ.contains i = true)
    (hS : ∀ w w', S w → Below w.heap.size w w' → S w') (h : ∀ w, S w → (execOp (Act.eval ⟨t.toArray, ds⟩) o).run P w = .ok (.enter f args) w) (c : ∀ w, S w → Calls P f args w fun e w' => e = .returned v ∧ Below w.heap.size w w')
    (k : wpPlan P l.toArray S HJ R plan ⟨(t.set d v).toArray, ds⟩) : wpPlan P l.toArray S HJ R (i :: plan) ⟨t.toArray, ds⟩ :=
  plan_call v f args ho (asks_none hg) hH hS h c (by rw [hd, put_some]; exact k)
theorem sym_val_if (X : Bool) (v : Value) (ho : l[i]? = some o) (hd : o.dst = some d) (hg : Region.wanted o (yielded l.toArray t.toArray) = X) (hH : HJ.contains i = true)
    (h : X = true → ∀ w, S w → (execOp (Act.eval ⟨t.toArray, ds⟩) o).run P w = .ok (.value v) w) (k : wpPlan P l.toArray S HJ R plan ⟨(t.set d (gv X v)).toArray, ds⟩) : wpPlan P l.toArray S HJ R (i :: plan) ⟨t.toArray, ds⟩ := by
  cases X with
  | true => exact plan_val v ho hg hH (h rfl) (by rw [hd, put_some]; exact k)
  | false => exact plan_not ho hg (by rw [hd, put_some]; exact k)
theorem sym_pure_if (X : Bool) (v : Value) (ho : l[i]? = some o) (hd : o.dst = some d) (hg : Region.wanted o (yielded l.toArray t.toArray) = X)
    (h : X = true → ∀ w, (execOp (Act.eval ⟨t.toArray, ds⟩) o).run P w = .ok (.value v) w) (k : wpPlan P l.toArray S HJ R plan ⟨(t.set d (gv X v)).toArray, ds⟩) : wpPlan P l.toArray S HJ R (i :: plan) ⟨t.toArray, ds⟩ := by
  cases X with
  | true => exact plan_pure v ho hg (h rfl) (by rw [hd, put_some]; exact k)
  | false => exact plan_not ho hg (by rw [hd, put_some]; exact k)
theorem sym_call_if (X : Bool) (v : Value) (f : FuncId) (args : Array Value) (ho : l[i]? = some o) (hd : o.dst = some d) (hg : Region.wanted o (yielded l.toArray t.toArray) = X) (hH : HJ.contains i = true)
    (hS : ∀ w w', S w → Below w.heap.size w w' → S w') (h : X = true → ∀ w, S w → (execOp (Act.eval ⟨t.toArray, ds⟩) o).run P w = .ok (.enter f args) w) (c : ∀ w, S w → Calls P f args w fun e w' => e = .returned v ∧ Below w.heap.size w w')
    (k : wpPlan P l.toArray S HJ R plan ⟨(t.set d (gv X v)).toArray, ds⟩) : wpPlan P l.toArray S HJ R (i :: plan) ⟨t.toArray, ds⟩ := by
  cases X with
  | true => exact plan_call v f args ho hg hH hS (h rfl) c (by rw [hd, put_some]; exact k)
  | false => exact plan_not ho hg (by rw [hd, put_some]; exact k)
end
end Go.Proofs.Ytdibjlphcmjnoaa
