/- What the law TopTwoWays needs, joined of its texts by a program (slim.py); part 1. -/
import Derived.OneCell
import Derived.WalkKit
import Derived.Below
import Derived.ChangeSame
import Derived.WideKeyArgs
import Derived.OpenShut
import Derived.Laws.OwnMore
import Derived.Deep.AppendLies
import Derived.Deep.Draws
import Derived.ChangeSlices
import Derived.Maps.AppendAt
import Derived.RegionTactic
import Derived.OwnWalk
import Derived.Laws.CopyOwn
import Derived.Lib.SliceRun
import Derived.StillTail
import Derived.OrdersHeld
import Derived.Test.YtdipoojjlddohaaGreatProg
import Derived.Lib.Hide
import Derived.Deep.Cut
import Derived.IntWalk
import Derived.WalkSpells
import Derived.Lib.BitFns
import Derived.Shelf.Spec.BitsCarry
import Derived.Test.YtdipoojjlddohaaGreatShelf
import Derived.Deep.RegionHeld3
import Derived.WalkSmall
import Derived.Laws.Bits64b
import Derived.ChangeAlike
import Derived.Outline
import Derived.Deep.LoopGhost
import Derived.Deep.QuietTactic
import Derived.BigQuiet
import Derived.Deep.DeepCutAuto
import Derived.Deep.CutBlock
import Derived.Laws.Rows
import Derived.Laws.Tables
import Derived.Laws.BitsLemmas
import Derived.Deep.Slices
import Derived.Deep.Fields
import Derived.Test.YtdipoojjlddohaaGreatRows
import Derived.ProofKit
import Derived.Lib.SmallJoins
import Derived.SizedLaws
import Derived.Carry
section
/- Blocks of memory known whole: what a block holds behind a new block, a call, a store, a draw. -/
set_option linter.unusedVariables false
set_option linter.unusedSimpArgs false
set_option linter.unusedSectionVars false
set_option linter.unnecessarySimpa false
namespace Go.Proofs.YtdipoojjlddohaaGreat
open Go.RowKit

/-- Block b holds the cells cs, none of them frozen. -/
def Row (w : World) (b : Nat) (t : TypeId) (cs : Array Value) : Prop := w.heap[b]? = some (.cells cs t (0, 0))
section
variable {w w' : World} {b : Nat} {t : TypeId} {cs : Array Value}
theorem row_cell (h : Row w b t cs) (i : Nat) : w.cell? ⟨b, i, none⟩ = cs[i]? := by
  unfold Row at h
  simp [World.cell?, h]
theorem row_free (h : Row w b t cs) (i : Nat) : w.frozen? ⟨b, i, none⟩ = false := by
  unfold Row at h
  simp [World.frozen?, h]
theorem row_lt (h : Row w b t cs) : b < w.heap.size := lt_of_block h
theorem row_new (hb : b = w.heap.size) : Row (w.alloc (.cells cs t)) b t cs := by
  subst hb
  unfold Row
  show (w.heap.push _)[w.heap.size]? = _
  simp
theorem row_alloc (h : Row w b t cs) (o : Obj) : Row (w.alloc o) b t cs := (Below.heap_alloc w o b (row_lt h)).trans h
theorem row_call (h : Row w b t cs) (hb : Below w.heap.size w w') : Row w' b t cs := (hb.block b (row_lt h)).trans h
theorem row_grown {r : Option Nat} (h : Row w b t cs) (hg : w.grownBy w' r) (hne : r ≠ some b) : Row w' b t cs := (hg.block b (row_lt h) (fun e => hne e.symm)).trans h
theorem row_drew (h : Row w b t cs) : Row w.drew b t cs := h
theorem row_other (h : Row w b t cs) {p : Addr} (hne : b ≠ p.block) (v : Value) : Row (w.setCell p v) b t cs := (Below.heap_setCell w p v b hne).trans h
theorem row_set (h : Row w b t cs) (i : Nat) (v : Value) : Row (w.setCell ⟨b, i, none⟩ v) b t (cs.setIfInBounds i v) := by
  have hlt := row_lt h
  unfold Row at *
  have h' : w.heap[b] = .cells cs t (0, 0) := by simpa [Array.getElem?_eq_getElem hlt] using h
  show (w.heap.modify b _)[b]? = _
  rw [Array.getElem?_eq_getElem (by simpa using hlt), Array.getElem_modify_self, h']
  rfl
theorem row_two {x y : Value} (h : Row w b t #[x, y]) : w.cell? ⟨b, 0, none⟩ = some x ∧ w.cell? ⟨b, 1, none⟩ = some y ∧ w.frozen? ⟨b, 0, none⟩ = false ∧ w.frozen? ⟨b, 1, none⟩ = false :=
  ⟨row_cell h 0, row_cell h 1, row_free h 0, row_free h 1⟩
theorem row_two_set {x y u v : Value} (h : Row w b t #[x, y]) : Row ((w.setCell ⟨b, 0, none⟩ u).setCell ⟨b, 1, none⟩ v) b t #[u, v] := row_set (row_set h 0 u) 1 v
theorem row_two_other {c : Nat} {u v : Value} (h : Row w b t cs) (hne : b ≠ c) : Row ((w.setCell ⟨c, 0, none⟩ u).setCell ⟨c, 1, none⟩ v) b t cs := row_other (row_other h hne u) hne v
theorem row_one {x : Value} (h : Row w b t #[x]) : w.cell? ⟨b, 0, none⟩ = some x ∧ w.frozen? ⟨b, 0, none⟩ = false := ⟨row_cell h 0, row_free h 0⟩
theorem size_setCell (p : Addr) (v : Value) : (w.setCell p v).heap.size = w.heap.size := by simp [World.setCell]
end
end Go.Proofs.YtdipoojjlddohaaGreat
end
section
/- The last step of a law's row where of the world behind the call only 'below the old heap all is as it was' is known (the lemma is the guide's, to be copied); what is kept while a function runs. -/
set_option linter.unusedVariables false
set_option linter.unusedSimpArgs false
set_option linter.unusedSectionVars false
set_option linter.unnecessarySimpa false
namespace Go.Proofs.YtdipoojjlddohaaGreat
open Go.RowKit Go.WideShapes Go.ChangeShapes
section
variable {H : Type} {enc : TypeId × Value → H} {P : Program}
theorem post_of_below {f : Func} {s : ChangeSpec} {apart fresh handsOn again : Bool} {W W' : World} {args : Array Value} {v : Value} {ds gs : List (DataW H)} {before pa pv : List MemPlace}
    (hW : DataW.Whole enc P f.params.toList s.vars apart W args.toList ds gs before)
    (hres : ∀ (b : Nat) (sp : Nat → Bool) (hd : Bool), DataW.TrodAll enc P W' b sp hd f.resultTypes.toList (v.resultList f.resultTypes.size) (s.fn H (ds ++ gs)).results [])
    (hargs : ∀ sp : Nat → Bool, (∀ p ∈ before, sp p.block = true) → DataW.TrodAll enc P W' 0 sp true f.params.toList args.toList (s.fn H (ds ++ gs)).args pa)
    (hvars : ∀ sp : Nat → Bool, (∀ p ∈ before, sp p.block = true) → DataW.TrodVars enc P W' sp s.vars (s.fn H (ds ++ gs)).vars pv)
    (hps : before = pa ++ pv) (hb : Below W.heap.size W W')
    (hok : ∀ (j : Nat) (t : TypeId) (r : Value), f.resultTypes[j]? = some t → (v.resultList f.resultTypes.size)[j]? = some r → Value.okWide P W' .any 0 t r) :
    s.post enc P f apart fresh handsOn again W args v W' := by
  have hlt : ∀ p ∈ before, p.block < W.heap.size := fun p hp => hW.lt p hp
  have hold : ∀ p ∈ before, (fun b => decide (b < W.heap.size)) p.block = true := fun p hp => by simpa using hlt p hp
  refine ⟨ds, gs, before, [], pa, pv, hW, hres _ _ _, hargs _ hold, hvars _ hold, World.keptBut_mono (fun p hp => ⟨hp, ?_⟩) (hb.frame (· ∈ before)), fun _ => ?_⟩
  · rw [hps, List.mem_append] at hp
    exact Or.inr hp
  · obtain ⟨_, _, _, _, _, hz, hn⟩ := hW
    refine ⟨hok, _, _, ([] ++ pa) ++ pv, ⟨[] ++ pa, pv, trodAll_append (hargs _ (fun _ _ => rfl)) (hres _ _ _), hvars _ (fun _ _ => rfl), rfl, ?_, ?_⟩, ?_⟩
    · intro b off hp
      have hin : MemPlace.cell b off ∈ before := by rw [hps]; simpa using hp
      rw [hb.frozen (hlt _ hin)]
      exact hz b off hin
    · intro ha
      have := hn ha
      rw [hps] at this
      simpa using this
    · intro p hp _
      rw [hps]
      simpa using hp
end

/-- The blocks of a function's own that are known, and that what was there before the call is as it was. -/
def Kept (w w' : World) (L : List (Nat × TypeId × Array Value)) : Prop := (∀ x ∈ L, Row w' x.1 x.2.1 x.2.2) ∧ Below w.heap.size w w'
section
variable {w w' w'' : World} {L : List (Nat × TypeId × Array Value)}
end
end Go.Proofs.YtdipoojjlddohaaGreat
end
section
/- What an argument reads is read again behind a call that changes nothing of what lay before; a slice that reads as a list. -/
set_option linter.unusedVariables false
set_option linter.unusedSimpArgs false
set_option linter.unusedSectionVars false
set_option linter.unnecessarySimpa false
namespace Go.Proofs.YtdipoojjlddohaaGreat
open Go.RowKit Go.WideShapes Go.ChangeShapes
section
variable {H : Type} {enc : TypeId × Value → H} {P : Program}
theorem trodAll_stays (hl : laidOutB P = true) {W W' : World} {sp' : Nat → Bool} (hb : Below W.heap.size W W') : ∀ {ts : List TypeId} {vs : List Value} {ds : List (DataW H)} {ps : List MemPlace},
    (∀ t ∈ ts, P.readableRec t = true ∧ t < P.types.size) → DataW.TrodAll enc P W 0 (fun _ => true) true ts vs ds ps → (∀ p ∈ ps, p.block < W.heap.size) → (∀ p ∈ ps, sp' p.block = true) → DataW.TrodAll enc P W' 0 sp' true ts vs ds ps
  | [], vs, ds, ps, _, h, _, _ => by
    obtain ⟨rfl, rfl, rfl⟩ := trodAll_nil h
    rfl
  | t :: ts, vs, ds, ps, ht, h, hlt, hs => by
    obtain ⟨v, vs', d, ds', p, q, rfl, rfl, rfl, h1, h2⟩ := trodAll_cons h
    have t1 := ht t (by simp)
    exact trodAll_cons_mk (WideElems.Trod_stays hl t1.1 t1.2 h1 (fun x hx => hb.same (hlt x (by simp [hx]))) (fun x hx => hs x (by simp [hx])))
      (trodAll_stays hl hb (fun t h => ht t (by simp [h])) h2 (fun x hx => hlt x (by simp [hx])) (fun x hx => hs x (by simp [hx])))
end

/-! A slice that reads as a list, nil let in (the words are the guide's, extra-words.md, copied as that page bids). -/
theorem block_of_add (a : Addr) (n : Nat) : (a.add n).block = a.block := by unfold Addr.add; split <;> rfl
theorem add_of_add (a : Addr) (i j : Nat) : (a.add i).add j = a.add (i + j) := by
  unfold Addr.add
  by_cases hi : i = 0 <;> by_cases hj : j = 0 <;> simp [hi, hj, Nat.add_assoc]
def Reads (w : World) (B size : Nat) (A : Option Addr) (n : Nat) (xs : List Value) : Prop :=
  xs.length = n * size ∧ (0 < n → ∃ ad, A = some ad ∧ ad.block < B ∧ ∀ j u, xs[j]? = some u → w.cell? (ad.add j) = some u)
section
variable {w w' : World} {B B' size n : Nat} {A : Option Addr} {xs : List Value}
theorem Reads.none_ : Reads w B size A 0 [] := ⟨by simp, fun h => absurd h (by omega)⟩
theorem Reads.keep (h : Reads w B size A n xs) (hk : ∀ p : Addr, p.block < B → w'.cell? p = w.cell? p) : Reads w' B size A n xs :=
  ⟨h.1, fun hn => by
    obtain ⟨ad, e, hb, hc⟩ := h.2 hn
    exact ⟨ad, e, hb, fun j u hu => (hk _ (by rw [block_of_add]; exact hb)).trans (hc j u hu)⟩⟩
theorem Reads.more (h : Reads w B size A n xs) (hB : B ≤ B') : Reads w B' size A n xs :=
  ⟨h.1, fun hn => by
    obtain ⟨ad, e, hb, hc⟩ := h.2 hn
    exact ⟨ad, e, by omega, hc⟩⟩
theorem Reads.below (h : Reads w B size A n xs) (hb : Below B w w') : Reads w' B size A n xs := h.keep fun _ hp => hb.cell hp
theorem Reads.call (h : Reads w B size A n xs) (hB : B ≤ w.heap.size) (hb : Below w.heap.size w w') : Reads w' B size A n xs := h.keep fun _ hp => hb.cell (by omega)
theorem Reads.alloc (h : Reads w B size A n xs) (hB : B ≤ w.heap.size) (o : Obj) : Reads (w.alloc o) B size A n xs := h.keep fun p hp => World.cell?_alloc_lt w o p (by omega)
theorem Reads.of_own {base : Nat} {e : TypeId} {c : Nat} (h : w.ownsRow base e size (.slice A n c) n xs) : Reads w w.heap.size size A n xs := by
  refine ⟨h.1, fun hn => ?_⟩
  obtain ⟨g, cap, hv, _, hlt⟩ := h.form hn
  have hA : A = some ⟨g, 0, none⟩ := by injection hv
  subst hA
  exact ⟨_, rfl, hlt, h.cells (g := g) rfl⟩
/-- The list of numbers that a slice of numbers reads as. -/
abbrev Nums (w : World) (B : Nat) (A : Option Addr) (n : Nat) (zs : List Int) : Prop := Reads w B 1 A n (zs.map (Value.int .i64))
end
end Go.Proofs.YtdipoojjlddohaaGreat
end
section
/- Append onto a row of the call's own, the source nil, empty or not (the words are the guide's, extra-words.md, copied as that page bids), and what a row of the call's own reads as. -/
set_option linter.unusedVariables false
set_option linter.unusedSimpArgs false
set_option linter.unusedSectionVars false
set_option linter.unnecessarySimpa false
namespace Go.Proofs.YtdipoojjlddohaaGreat
open Go.RowKit
section
variable {P : Program} (w : World)

theorem run_append_of_nil (base : Nat) (t ty e : TypeId) (i : TypeInfo) (size : Nat) (ht : P.underlying t = some (.slice e)) (hi : P.info? e = some i)
    (v : Value) (n : Nat) (xs : List Value) (hown : w.ownsRow base e size v n xs) (c : Nat) : (Builtin.append_ #[t, t] ty #[v, .slice none 0 c]).run P w = .ok v w := by
  rcases hown.2 with ⟨rfl, rfl⟩ | ⟨g, cap, cur, rfl, _, _, hnc, _⟩
  · simp [Builtin.append_, run_underlying ht, sizeOf, typeInfo, hi, Builtin.lenOf, Builtin.firstCells]
  · simp [Builtin.append_, run_underlying ht, sizeOf, typeInfo, hi, Builtin.lenOf, Builtin.firstCells, hnc, storeCells]

theorem run_append_any (base : Nat) (t ty e : TypeId) (i : TypeInfo) (z : Value) (size bytes : Nat) (ht : P.underlying t = some (.slice e)) (hi : P.info? e = some i) (hz : i.zero = some z)
    (hsize : i.size = size) (hby : i.bytes = bytes) (hzs : z.cells.size = size) (hsz : 0 < size)
    (v : Value) (n : Nat) (xs : List Value) (hown : w.ownsRow base e size v n xs)
    (B : Nat) (A : Option Addr) (m c : Nat) (news : List Value) (hr : Reads w B size A m news) (h1 : ∀ u ∈ news, u.oneCell' = true)
    (h63 : n + m ≤ maxLen) (hbytes : (n + m) * bytes ≤ 140737488355328) (hbase : base ≤ w.heap.size) :
    ∃ v' w', (Builtin.append_ #[t, t] ty #[v, .slice A m c]).run P w = .ok v' w' ∧ w'.ownsRow base e size v' (n + m) (xs ++ news) ∧ w.grownBy w' v.ownBlock ∧
      (v'.ownBlock = v.ownBlock ∨ v'.ownBlock = some w.heap.size) := by
  rcases A with _ | ad
  · have hm : m = 0 := by
      rcases Nat.eq_zero_or_pos m with h0 | h0
      · exact h0
      · obtain ⟨ad, h, _⟩ := hr.2 h0
        cases h
    subst hm
    have hn : news = [] := List.eq_nil_of_length_eq_zero (by simpa using hr.1)
    subst hn
    exact ⟨v, w, run_append_of_nil w base t ty e i size ht hi v n xs hown c, by simpa using hown, World.grownBy.refl w _, .inl rfl⟩
  · have hcells : ∀ j u, news[j]? = some u → w.cell? (ad.add j) = some u := by
      intro j u hu
      rcases Nat.eq_zero_or_pos m with h0 | h0
      · subst h0
        have hn : news = [] := List.eq_nil_of_length_eq_zero (by simpa using hr.1)
        subst hn
        simp at hu
      · obtain ⟨ad', h, _, hc⟩ := hr.2 h0
        injection h with h
        subst h
        exact hc j u hu
    obtain ⟨v', w', hrun, h2, h3, _, h5⟩ := run_append_own_at (P := P) w base t ty e i z size bytes ht hi hz hsize hby hzs hsz v n xs hown ad m c news hr.1 hcells h1 h63 hbytes hbase
    exact ⟨v', w', hrun, h2, h3, h5⟩

theorem wp_append_any {o : Oper} {a : Act} {K : Act → World → Prop} {Q : Exit → Act → World → Prop} (s x : Operand) (t : TypeId)
    (ho : o.op = .call { callee := .builtin .append, args := #[s, x], argTypes := #[t, t] })
    (base : Nat) (e : TypeId) (i : TypeInfo) (z : Value) (size bytes : Nat) (ht : P.underlying t = some (.slice e)) (hi : P.info? e = some i) (hz : i.zero = some z)
    (hsize : i.size = size) (hby : i.bytes = bytes) (hzs : z.cells.size = size) (hsz : 0 < size)
    (v : Value) (n : Nat) (xs : List Value) (hs : a.eval s = v) (hown : w.ownsRow base e size v n xs)
    (B : Nat) (A : Option Addr) (m c : Nat) (news : List Value) (hx : a.eval x = .slice A m c) (hr : Reads w B size A m news) (h1 : ∀ u ∈ news, u.oneCell' = true)
    (h63 : n + m ≤ maxLen) (hbytes : (n + m) * bytes ≤ 140737488355328) (hbase : base ≤ w.heap.size)
    (h : ∀ v' w', w'.ownsRow base e size v' (n + m) (xs ++ news) → w.grownBy w' v.ownBlock → (v'.ownBlock = v.ownBlock ∨ v'.ownBlock = some w.heap.size) → K (a.put o.dst v') w') : o.wp P a w K Q := by
  obtain ⟨v', w', hrun, h2, h3, h4⟩ := run_append_any (P := P) w base t o.type e i z size bytes ht hi hz hsize hby hzs hsz v n xs hown B A m c news hr h1 h63 hbytes hbase
  unfold Oper.wp execOp
  simp only [ho, resolve, invoke, builtin, Sem.run_bind, Sem.run_pure, Result.andThen_ok, List.map_toArray, List.map_cons, List.map_nil, hs, hx, hrun]
  exact h v' w' h2 h3 h4

theorem wpList_append_any {ops : Array Oper} {rest : List Oper} {o : Oper} {a : Act} {Q : Exit → Act → World → Prop} (hgd : o.guard = none) (s x : Operand) (t : TypeId)
    (ho : o.op = .call { callee := .builtin .append, args := #[s, x], argTypes := #[t, t] })
    (base : Nat) (e : TypeId) (i : TypeInfo) (z : Value) (size bytes : Nat) (ht : P.underlying t = some (.slice e)) (hi : P.info? e = some i) (hz : i.zero = some z)
    (hsize : i.size = size) (hby : i.bytes = bytes) (hzs : z.cells.size = size) (hsz : 0 < size)
    (v : Value) (n : Nat) (xs : List Value) (hs : a.eval s = v) (hown : w.ownsRow base e size v n xs)
    (B : Nat) (A : Option Addr) (m c : Nat) (news : List Value) (hx : a.eval x = .slice A m c) (hr : Reads w B size A m news) (h1 : ∀ u ∈ news, u.oneCell' = true)
    (h63 : n + m ≤ maxLen) (hbytes : (n + m) * bytes ≤ 140737488355328) (hbase : base ≤ w.heap.size)
    (h : ∀ v' w', w'.ownsRow base e size v' (n + m) (xs ++ news) → w.grownBy w' v.ownBlock → (v'.ownBlock = v.ownBlock ∨ v'.ownBlock = some w.heap.size) → wpList P ops Q rest (a.put o.dst v') w') : wpList P ops Q (o :: rest) a w :=
  wpList_plain hgd fun _ hK => wp_append_any w s x t ho base e i z size bytes ht hi hz hsize hby hzs hsz v n xs hs hown B A m c news hx hr h1 h63 hbytes hbase fun v' w' h2 h3 h4 => hK _ _ (h v' w' h2 h3 h4)

theorem step_append_any {ops : Array Oper} {o : Oper} {a : Act} {K : Act → World → Prop} {Q : Exit → Act → World → Prop} {E : Prop} (hgd : o.guard = none) (s x : Operand) (t : TypeId)
    (ho : o.op = .call { callee := .builtin .append, args := #[s, x], argTypes := #[t, t] })
    (base : Nat) (e : TypeId) (i : TypeInfo) (z : Value) (size bytes : Nat) (ht : P.underlying t = some (.slice e)) (hi : P.info? e = some i) (hz : i.zero = some z)
    (hsize : i.size = size) (hby : i.bytes = bytes) (hzs : z.cells.size = size) (hsz : 0 < size)
    (v : Value) (n : Nat) (xs : List Value) (hs : a.eval s = v) (hown : w.ownsRow base e size v n xs)
    (B : Nat) (A : Option Addr) (m c : Nat) (news : List Value) (hx : a.eval x = .slice A m c) (hr : Reads w B size A m news) (h1 : ∀ u ∈ news, u.oneCell' = true)
    (h63 : n + m ≤ maxLen) (hbytes : (n + m) * bytes ≤ 140737488355328) (hbase : base ≤ w.heap.size)
    (h : ∀ v' w', w'.ownsRow base e size v' (n + m) (xs ++ news) → w.grownBy w' v.ownBlock → (v'.ownBlock = v.ownBlock ∨ v'.ownBlock = some w.heap.size) → K (a.put o.dst v') w') :
    if Region.wanted o (yielded ops a.tmps) = true then Oper.wp P o a w K Q else E := by
  have hw : Region.wanted o (yielded ops a.tmps) = true := by simp [Region.wanted, hgd]
  rw [if_pos hw]
  exact wp_append_any w s x t ho base e i z size bytes ht hi hz hsize hby hzs hsz v n xs hs hown B A m c news hx hr h1 h63 hbytes hbase h
end
end Go.Proofs.YtdipoojjlddohaaGreat
end
section
/- A row of the call's own, known from its head on: what it holds behind a new block, a call, a store, an append. -/
set_option linter.unusedVariables false
set_option linter.unusedSimpArgs false
set_option linter.unusedSectionVars false
set_option linter.unnecessarySimpa false
namespace Go.Proofs.YtdipoojjlddohaaGreat
open Go.RowKit

/-- Block g is a row of the call's own of capacity c, whose first n elements (size cells each) are the cells xs. -/
def Own (w : World) (e : TypeId) (size g n c : Nat) (xs : List Value) : Prop :=
  xs.length = n * size ∧ ∃ cur : Array Value, w.heap[g]? = some (.cells cur e (0, 0)) ∧ n ≤ c ∧ c ≤ maxLen ∧ cur.size = c * size ∧ cur.toList.take (n * size) = xs
section
variable {w w' : World} {e : TypeId} {size g n c : Nat} {xs : List Value}
theorem Own.row (h : Own w e size g n c xs) {base : Nat} (hb : base ≤ g) : w.ownsRow base e size (.slice (some ⟨g, 0, none⟩) n c) n xs := by
  obtain ⟨h1, cur, h2, h3⟩ := h
  exact ⟨h1, .inr ⟨g, c, cur, rfl, hb, h2, h3⟩⟩
theorem own_of_row {base : Nat} (h : w.ownsRow base e size (.slice (some ⟨g, 0, none⟩) n c) n xs) : Own w e size g n c xs ∧ base ≤ g := by
  obtain ⟨h1, ⟨h2, _⟩ | ⟨g', c', cur, h2, hb, h3⟩⟩ := h
  · simp at h2
  · simp only [Value.slice.injEq, Option.some.injEq, Addr.mk.injEq, and_true, true_and] at h2
    obtain ⟨rfl, rfl⟩ := h2
    exact ⟨⟨h1, cur, h3⟩, hb⟩
theorem Own.len (h : Own w e size g n c xs) : xs.length = n * size := h.1
theorem Own.lt (h : Own w e size g n c xs) : g < w.heap.size := by
  obtain ⟨_, cur, h2, _⟩ := h
  exact (Array.getElem?_eq_some_iff.1 h2).1
theorem Own.cap (h : Own w e size g n c xs) : n ≤ c ∧ c ≤ maxLen := by
  obtain ⟨_, cur, _, h3, h4, _⟩ := h
  exact ⟨h3, h4⟩
theorem Own.cell (h : Own w e size g n c xs) {j : Nat} (hj : j < n * size) : w.cell? ⟨g, j, none⟩ = xs[j]? := (h.row (Nat.zero_le _)).cellAt j hj
theorem Own.free (h : Own w e size g n c xs) (j : Nat) : w.frozen? ⟨g, j, none⟩ = false := (h.row (Nat.zero_le _)).frozenAt j
theorem Own.keep (h : Own w e size g n c xs) (hg : w'.heap[g]? = w.heap[g]?) : Own w' e size g n c xs := by
  obtain ⟨h1, cur, h2, h3⟩ := h
  exact ⟨h1, cur, hg.trans h2, h3⟩
theorem Own.call (h : Own w e size g n c xs) (hb : Below w.heap.size w w') : Own w' e size g n c xs := h.keep (hb.block g h.lt)
theorem Own.set (h : Own w e size g n c xs) (j : Nat) (u : Value) : Own (w.setCell ⟨g, j, none⟩ u) e size g n c (xs.set j u) :=
  (own_of_row ((h.row (Nat.zero_le _)).stored j u).1).1
theorem Own.reads (h : Own w e size g n c xs) : Reads w w.heap.size size (some ⟨g, 0, none⟩) n xs := Reads.of_own (h.row (Nat.zero_le _))
theorem Own.cut (h : Own w e size g n c xs) {k : Nat} (hk : k ≤ n) : Own w e size g k c (xs.take (k * size)) := by
  obtain ⟨h1, cur, h2, h3, h4, h5, h6⟩ := h
  refine ⟨by rw [List.length_take, h1]; exact Nat.min_eq_left (Nat.mul_le_mul_right _ hk), cur, h2, by omega, h4, h5, ?_⟩
  rw [← h6, List.take_take, Nat.min_eq_left (Nat.mul_le_mul_right _ hk)]
theorem own_new {cs : Array Value} (hg : g = w.heap.size) (hm : n ≤ maxLen) (hs : cs.size = n * size) : Own (w.alloc (.cells cs e)) e size g n n cs.toList := by
  subst hg
  exact (own_of_row (World.ownsRow_lit (base := 0) w cs n (Nat.zero_le _) hm hs)).1
end

section
variable {w w' : World} {b : Nat} {t : TypeId}
theorem row_three {x0 x1 x2 : Value} (h : Row w b t #[x0, x1, x2]) : w.cell? ⟨b, 0, none⟩ = some x0 ∧ w.cell? ⟨b, 1, none⟩ = some x1 ∧ w.cell? ⟨b, 2, none⟩ = some x2 ∧
    w.frozen? ⟨b, 0, none⟩ = false ∧ w.frozen? ⟨b, 1, none⟩ = false ∧ w.frozen? ⟨b, 2, none⟩ = false :=
  ⟨row_cell h 0, row_cell h 1, row_cell h 2, row_free h 0, row_free h 1, row_free h 2⟩
theorem row_four {x0 x1 x2 x3 : Value} (h : Row w b t #[x0, x1, x2, x3]) : w.cell? ⟨b, 0, none⟩ = some x0 ∧ w.cell? ⟨b, 1, none⟩ = some x1 ∧ w.cell? ⟨b, 2, none⟩ = some x2 ∧ w.cell? ⟨b, 3, none⟩ = some x3 ∧
    w.frozen? ⟨b, 0, none⟩ = false ∧ w.frozen? ⟨b, 1, none⟩ = false ∧ w.frozen? ⟨b, 2, none⟩ = false ∧ w.frozen? ⟨b, 3, none⟩ = false :=
  ⟨row_cell h 0, row_cell h 1, row_cell h 2, row_cell h 3, row_free h 0, row_free h 1, row_free h 2, row_free h 3⟩
theorem row_six {x0 x1 x2 x3 x4 x5 : Value} (h : Row w b t #[x0, x1, x2, x3, x4, x5]) : w.cell? ⟨b, 0, none⟩ = some x0 ∧ w.cell? ⟨b, 1, none⟩ = some x1 ∧ w.cell? ⟨b, 2, none⟩ = some x2 ∧ w.cell? ⟨b, 3, none⟩ = some x3 ∧ w.cell? ⟨b, 4, none⟩ = some x4 ∧ w.cell? ⟨b, 5, none⟩ = some x5 ∧
    w.frozen? ⟨b, 0, none⟩ = false ∧ w.frozen? ⟨b, 1, none⟩ = false ∧ w.frozen? ⟨b, 2, none⟩ = false ∧ w.frozen? ⟨b, 3, none⟩ = false ∧ w.frozen? ⟨b, 4, none⟩ = false ∧ w.frozen? ⟨b, 5, none⟩ = false :=
  ⟨row_cell h 0, row_cell h 1, row_cell h 2, row_cell h 3, row_cell h 4, row_cell h 5, row_free h 0, row_free h 1, row_free h 2, row_free h 3, row_free h 4, row_free h 5⟩
theorem row_seven {x0 x1 x2 x3 x4 x5 x6 : Value} (h : Row w b t #[x0, x1, x2, x3, x4, x5, x6]) : w.cell? ⟨b, 0, none⟩ = some x0 ∧ w.cell? ⟨b, 1, none⟩ = some x1 ∧ w.cell? ⟨b, 2, none⟩ = some x2 ∧ w.cell? ⟨b, 3, none⟩ = some x3 ∧ w.cell? ⟨b, 4, none⟩ = some x4 ∧ w.cell? ⟨b, 5, none⟩ = some x5 ∧ w.cell? ⟨b, 6, none⟩ = some x6 ∧
    w.frozen? ⟨b, 0, none⟩ = false ∧ w.frozen? ⟨b, 1, none⟩ = false ∧ w.frozen? ⟨b, 2, none⟩ = false ∧ w.frozen? ⟨b, 3, none⟩ = false ∧ w.frozen? ⟨b, 4, none⟩ = false ∧ w.frozen? ⟨b, 5, none⟩ = false ∧ w.frozen? ⟨b, 6, none⟩ = false :=
  ⟨row_cell h 0, row_cell h 1, row_cell h 2, row_cell h 3, row_cell h 4, row_cell h 5, row_cell h 6, row_free h 0, row_free h 1, row_free h 2, row_free h 3, row_free h 4, row_free h 5, row_free h 6⟩
end

/-- Behind an append: all but the row appended to is as it was, and what lies below a bound. -/
theorem below_grown {B : Nat} {w0 w w' : World} (hb : Below B w0 w) {r : Option Nat} (hg : w.grownBy w' r) (hr : ∀ k, r = some k → B ≤ k) (hB : B ≤ w.heap.size) : Below B w0 w' :=
  hb.trans ⟨hg.os, hg.tape, hg.output, hg.size, fun k hk => hg.block k (by omega) (fun e => by have := hr k e.symm; omega)⟩

section
variable {P : Program}
/-- 'append([]T{}, xs...)': a row of one's own that holds xs; nothing that was there is touched. -/
theorem wpList_clone {w1 : World} {ops : Array Oper} {rest : List Oper} {o : Oper} {a : Act} {Q : Exit → Act → World → Prop} (hgd : o.guard = none) (s x : Operand) (t : TypeId)
    (ho : o.op = .call { callee := .builtin .append, args := #[s, x], argTypes := #[t, t] })
    (e : TypeId) (i : TypeInfo) (z : Value) (size bytes : Nat) (ht : P.underlying t = some (.slice e)) (hi : P.info? e = some i) (hz : i.zero = some z)
    (hsize : i.size = size) (hby : i.bytes = bytes) (hzs : z.cells.size = size) (hsz : 0 < size)
    (hs : a.eval s = .slice (some ⟨w1.heap.size, 0, none⟩) 0 0)
    (B : Nat) (A : Option Addr) (m c : Nat) (news : List Value) (hx : a.eval x = .slice A m c) (hr : Reads w1 B size A m news) (hB : B ≤ w1.heap.size) (h1 : ∀ u ∈ news, u.oneCell' = true)
    (h63 : m ≤ maxLen) (hbytes : m * bytes ≤ 140737488355328)
    (h : ∀ g c' w', Own w' e size g m c' news → w1.heap.size ≤ g → Below w1.heap.size w1 w' → w1.heap.size + 1 ≤ w'.heap.size → wpList P ops Q rest (a.put o.dst (.slice (some ⟨g, 0, none⟩) m c')) w') :
    wpList P ops Q (o :: rest) a (w1.alloc (.cells #[] e)) := by
  refine wpList_append_any (w1.alloc (.cells #[] e)) hgd s x t ho w1.heap.size e i z size bytes ht hi hz hsize hby hzs hsz (.slice (some ⟨w1.heap.size, 0, none⟩) 0 0) 0 [] hs
    ((own_new (n := 0) rfl (by unfold maxLen; omega) (by simp)).row (Nat.le_refl _)) B A m c news hx (hr.alloc hB _) h1 (by omega) (by simpa using hbytes) (by simp) ?_
  intro v' w' hown hg hat
  rw [Nat.zero_add, List.nil_append] at hown
  have hv : ∃ g c', v' = .slice (some ⟨g, 0, none⟩) m c' := by
    rcases hown.2 with ⟨hv, _⟩ | ⟨g, c', cur, hv, _⟩
    · subst hv
      simp [Value.ownBlock] at hat
    · exact ⟨g, c', hv⟩
  obtain ⟨g, c', rfl⟩ := hv
  obtain ⟨ho', hbg⟩ := own_of_row hown
  refine h g c' w' ho' hbg ?_ ?_
  · exact below_grown ((Below.refl _ _).alloc (Nat.le_refl _) _) hg (fun k hk => by simp [Value.ownBlock] at hk; omega) (by simp)
  · have := hg.size
    simpa using this

/-- 'out = append(out, x)': the element has been laid into a block of its own. -/
theorem wpList_push {w : World} {ops : Array Oper} {rest : List Oper} {o : Oper} {a : Act} {Q : Exit → Act → World → Prop} (hgd : o.guard = none) (s x : Operand) (t : TypeId)
    (ho : o.op = .call { callee := .builtin .append, args := #[s, x], argTypes := #[t, t] })
    (e : TypeId) (i : TypeInfo) (z : Value) (size bytes : Nat) (ht : P.underlying t = some (.slice e)) (hi : P.info? e = some i) (hz : i.zero = some z)
    (hsize : i.size = size) (hby : i.bytes = bytes) (hzs : z.cells.size = size) (hsz : 0 < size)
    (base : Nat) (v : Value) (n : Nat) (xs : List Value) (hs : a.eval s = v) (hown : w.ownsRow base e size v n xs)
    (news : Array Value) (hx : a.eval x = .slice (some ⟨w.heap.size, 0, none⟩) 1 1) (hn : news.size = size) (h1 : ∀ u ∈ news.toList, u.oneCell' = true)
    (h63 : n + 1 ≤ maxLen) (hbytes : (n + 1) * bytes ≤ 140737488355328) (hbase : base ≤ w.heap.size)
    (h : ∀ g c' w', Own w' e size g (n + 1) c' (xs ++ news.toList) → base ≤ g → (v.ownBlock = some g ∨ g = w.heap.size + 1) → (w.alloc (.cells news e)).grownBy w' v.ownBlock → wpList P ops Q rest (a.put o.dst (.slice (some ⟨g, 0, none⟩) (n + 1) c')) w') :
    wpList P ops Q (o :: rest) a (w.alloc (.cells news e)) := by
  refine wpList_append_any (w.alloc (.cells news e)) hgd s x t ho base e i z size bytes ht hi hz hsize hby hzs hsz v n xs hs (hown.alloc _) (w.heap.size + 1) (some ⟨w.heap.size, 0, none⟩) 1 1 news.toList hx ?_ h1 h63 hbytes (by simp; omega) ?_
  · have hq := (own_new (w := w) (e := e) (size := size) (n := 1) (cs := news) rfl (by unfold maxLen; omega) (by omega)).reads
    simpa using hq
  · intro v' w' hown' hg hat
    have hv : ∃ g c', v' = .slice (some ⟨g, 0, none⟩) (n + 1) c' := by
      rcases hown'.2 with ⟨_, h0⟩ | ⟨g, c', cur, hv, _⟩
      · omega
      · exact ⟨g, c', hv⟩
    obtain ⟨g, c', rfl⟩ := hv
    obtain ⟨ho', hbg⟩ := own_of_row hown'
    refine h g c' w' ho' hbg ?_ hg
    simp [Value.ownBlock] at hat
    rcases hat with hat | hat
    · exact .inl hat.symm
    · exact .inr hat

end
end Go.Proofs.YtdipoojjlddohaaGreat
end
section
/- A law on statements whose order is open: where each operation ahead of the tail gives one and the same value in every world that meets S, and leaves a world that meets S, the text's own order stands for all orders. -/
set_option linter.unusedVariables false
set_option linter.unusedSimpArgs false
set_option linter.unusedSectionVars false
set_option linter.unnecessarySimpa false
namespace Go.Proofs.YtdipoojjlddohaaGreat
open Go.RowKit
section
variable {P : Program} {ops : Array Oper} {md : Region.Mode} {S : World → Prop}

/-- An operation's outcome is the value v, in a world that meets S. -/
def Gives (P : Program) (S : World → Prop) (v : Value) : Result Next → Prop
  | .ok (.value u) w => u = v ∧ S w
  | .ok (.enter f args) w => Calls P f args w fun e w' => e = .returned v ∧ S w'
  | _ => False
/-- In the state a the operation o gives v, in whatever world that meets S. -/
def Det (P : Program) (ops : Array Oper) (S : World → Prop) (o : Oper) (v : Value) (a : Act) : Prop :=
  (Region.wanted o (yielded ops a.tmps) = true ∧ ∀ w, S w → Gives P S v ((execOp a.eval o).run P w)) ∨ (Region.wanted o (yielded ops a.tmps) = false ∧ v = undef)
theorem Det.same {o : Oper} {v : Value} {a a' : Act} (h : Det P ops S o v a) (he : execOp a'.eval o = execOp a.eval o)
    (hw : Region.wanted o (yielded ops a'.tmps) = Region.wanted o (yielded ops a.tmps)) : Det P ops S o v a' := by
  unfold Det at *
  rw [he, hw]
  exact h
theorem Det.run {i : Nat} {o : Oper} {v : Value} {a : Act} {w : World} {Q : Exit → Act → World → Prop} {K : Act → World → Prop} (hi : ops[i]? = some o) (h : Det P ops S o v a) (hS : S w)
    (hK : ∀ w', S w' → K (a.put o.dst v) w') : wpOp P ops Q i K a w := by
  unfold wpOp
  simp only [hi]
  rcases h with ⟨hw, hg⟩ | ⟨hw, rfl⟩
  · simp only [hw, if_true]
    refine .inl ?_
    have g := hg w hS
    unfold Oper.wp
    generalize (execOp a.eval o).run P w = r at g ⊢
    cases r with
    | halt x w' => exact g.elim
    | ok n w' =>
      cases n with
      | value u =>
        obtain ⟨rfl, hs⟩ := g
        exact hK _ hs
      | enter f args => exact Calls.mono g fun e w'' ⟨he, hs⟩ => by subst he; exact hK _ hs
      | _ => exact g.elim
  · simp only [hw, Bool.false_eq_true, if_false]
    exact hK _ hS

/-- All orders of what is left of the head: each operation that may come up gives its value. -/
def AllDet (P : Program) (md : Region.Mode) (ops : Array Oper) (S : World → Prop) (n : Nat) (L : Array Bool → Act → Prop) : Nat → Array Bool → Act → Prop
  | 0, listed, a => L listed a
  | f + 1, listed, a => Region.ready md ops listed ≠ [] ∧ ∀ i ∈ Region.ready md ops listed, i < n ∧ ∃ o v, ops[i]? = some o ∧ Det P ops S o v a ∧ AllDet P md ops S n L f (listed.setIfInBounds i true) (a.put o.dst v)

theorem allDet_any {n g : Nat} {L : Array Bool → Act → Prop} {Q : Exit → Act → World → Prop} (hL : ∀ listed a, L listed a → ∀ w, S w → wpAny P md ops Q g listed a w) :
    ∀ (f : Nat) (listed : Array Bool) (a : Act), AllDet P md ops S n L f listed a → ∀ w, S w → wpAny P md ops Q (f + g) listed a w := by
  intro f
  induction f with
  | zero =>
    intro listed a h w hS
    rw [Nat.zero_add]
    exact hL _ _ h w hS
  | succ f ih =>
    intro listed a h w hS
    rw [show f + 1 + g = (f + g) + 1 from by omega]
    refine ⟨fun h0 => absurd h0 h.1, fun i hi => ?_⟩
    obtain ⟨_, o, v, ho, hd, hr⟩ := h.2 i hi
    exact hd.run ho hS fun w' hS' => ih _ _ hr w' hS'

theorem allDet_first {n i : Nat} {oi : Oper} {v : Value} {L : Array Bool → Act → Prop} (hi : ops[i]? = some oi) (hsel : ∀ (j : Nat) (o : Oper) cs b, ops[j]? = some o → o.op ≠ .select cs b)
    (hs : Region.sinkB md ops n = true) (hc : Region.chainB md ops n = true) (hn : n < ops.size) (hin : i < n) (hL : ∀ listed a, L listed a → ∀ j ∈ Region.ready md ops listed, n ≤ j) :
    ∀ (f : Nat) (listed : Array Bool) (a : Act), HeadInv md ops n listed →
      (∀ j oj, ops[j]? = some oj → j ≠ i → listed.getD j true = false → (∀ e ∈ oj.after, Region.binds md e = true → e.on ≠ i) → oi.apart ops oj = true) →
      i ∈ Region.ready md ops listed → Det P ops S oi v a → AllDet P md ops S n L f (listed.setIfInBounds i true) (a.put oi.dst v) → AllDet P md ops S n L (f + 1) listed a := by
  intro f
  induction f with
  | zero =>
    intro listed a inv _ hr hd H
    refine ⟨fun h0 => by rw [h0] at hr; exact absurd hr (by simp), fun j hj => ?_⟩
    have hjn : j < n := Nat.lt_of_not_le fun hle => tail_waits hs hc hn inv _ i rfl hin (mem_ready.1 hr).1 j hle hj
    by_cases hji : j = i
    · subst hji
      exact ⟨hjn, oi, v, hi, hd, H⟩
    · exact absurd (hL _ _ H j (ready_mono hj hji)) (by omega)
  | succ f ih =>
    intro listed a inv hfree hr hd H
    refine ⟨fun h0 => by rw [h0] at hr; exact absurd hr (by simp), fun j hj => ?_⟩
    have hun := (mem_ready.1 hr).1
    have hjn : j < n := Nat.lt_of_not_le fun hle => tail_waits hs hc hn inv _ i rfl hin hun j hle hj
    by_cases hji : j = i
    · subst hji
      exact ⟨hjn, oi, v, hi, hd, H⟩
    · obtain ⟨_, oj, u, hoj, hdj, hrest⟩ := H.2 j (ready_mono hj hji)
      obtain ⟨hjun, oj', hoj', hall⟩ := mem_ready.1 hj
      have hsame : oj' = oj := Option.some.inj (hoj'.symm.trans hoj)
      subst hsame
      have hap := hfree j oj' hoj hji hjun fun e he hb heq => by
        have h1 := hall e he hb
        rw [heq, getD_both hun] at h1
        cases h1
      obtain ⟨p1, p2, p3⟩ := Oper.apart_spec hap
      have hsi : ∀ cs b, oi.op ≠ .select cs b := fun cs b => hsel i oi cs b hi
      have hsj : ∀ cs b, oj'.op ≠ .select cs b := fun cs b => hsel j oj' cs b hoj
      refine ⟨hjn, oj', u, hoj, hdj.same (execOp_put oj' hsj a oi.dst v p1).symm (wanted_put oj' a oi.dst v p1).symm, ?_⟩
      refine ih (listed.setIfInBounds j true) (a.put oj'.dst u) (inv.set hj hjn) (fun k ok hk hki hku hno => ?_) (ready_mono hr (Ne.symm hji))
        (hd.same (execOp_put oi hsi a oj'.dst u p3) (wanted_put oi a oj'.dst u p3)) ?_
      · refine hfree k ok hk hki ?_ hno
        by_cases hjk : j = k
        · subst hjk
          exact hjun
        · rw [getD_set_ne true hjk] at hku
          exact hku
      · rw [Array.setIfInBounds_comm _ _ hji, ← Act.put_comm a v u p2]
        exact hrest

/-- The walk in the text's own order. -/
def wpDet (P : Program) (ops : Array Oper) (S : World → Prop) (R : Act → Prop) : List Oper → Act → Prop
  | [], a => R a
  | o :: rest, a => ∃ v, Det P ops S o v a ∧ wpDet P ops S R rest (a.put o.dst v)

theorem allDet_lex {n g : Nat} {R : Act → Prop} (hsel : Region.noSelect ops = true) (hs : Region.sinkB md ops n = true) (hc : Region.chainB md ops n = true) (hn : n < ops.size) (l : List Oper) :
    ∀ (k : Nat) (listed : Array Bool) (a : Act), (∀ j, j < l.length → l[j]? = ops[k + j]?) → k + l.length = n → HeadInv md ops n listed →
    Region.lexHead md ops g l.length k listed = true → wpDet P ops S R l a → AllDet P md ops S n (fun listed' a' => Region.seqB md ops g n listed' = true ∧ R a') l.length listed a := by
  induction l with
  | nil =>
    intro k listed a _ hk _ hB h
    obtain rfl : k = n := by simpa using hk
    exact ⟨by simpa [Region.lexHead] using hB, h⟩
  | cons o l ih =>
    intro k listed a hl hk inv hB h
    have h0 : ops[k]? = some o := by simpa using (hl 0 (by simp)).symm
    simp only [List.length_cons, Region.lexHead, Bool.and_eq_true] at hB hk
    obtain ⟨⟨hr, hf⟩, hB'⟩ := hB
    have hr' : k ∈ Region.ready md ops listed := by simpa using hr
    obtain ⟨v, hd, hrest⟩ := h
    exact allDet_first h0 (Region.noSelect_spec hsel) hs hc hn (by omega) (fun _ _ hL => seqB_ready hL.1) l.length listed a inv (Region.free_spec h0 hf) hr' hd
      (ih (k + 1) _ _ (fun j hj => by have := hl (j + 1) (by simp; omega); simpa [Nat.add_assoc, Nat.add_comm 1 j] using this) (by omega) (inv.set hr' (by omega)) hB' hrest)

theorem wp_region_det {id : Nat} {Q : Exit → Act → World → Prop} {a : Act} {w : World} {l : List Oper} (n : Nat) (S : World → Prop) (hm : P.follows .mixedOrders = true) (hB : Region.lexTailB .any l.toArray n = true)
    (hS : S w.drew) (h : wpDet P l.toArray S (fun a' => ∀ w', S w' → wpList P l.toArray Q (l.drop n) a' w') (l.take n) a) : (Code.region id l.toArray true).wp P Q a w := by
  simp only [Region.lexTailB, Bool.and_eq_true, decide_eq_true_eq] at hB
  obtain ⟨⟨⟨⟨hsel, hn⟩, hs⟩, hc⟩, hlex⟩ := hB
  have hn' : n < l.length := by simpa using hn
  have htl : (l.take n).length = n := by simp; omega
  have hdl : (l.drop n).length = l.toArray.size - n := by simp
  have inv : HeadInv .any l.toArray n (Array.replicate l.toArray.size false) :=
    ⟨by simp, fun j oj _ hl => (by rw [getD_replicate_false] at hl; cases hl), fun t _ ht => getD_in (by simpa using ht) (getD_replicate_false _ _)⟩
  have H := allDet_lex (md := .any) (g := l.toArray.size - n) hsel hs hc hn (l.take n) 0 _ a (fun j hj => by
    have hj' : j < n := by rw [htl] at hj; exact hj
    simp [hj']) (by simpa using htl) inv (by rw [htl]; exact hlex) h
  refine wp_region_any hm ?_
  have := allDet_any (Q := Q) (g := l.toArray.size - n) (fun listed a' hL w' hS' => by
    have := wpAny_of_seq (md := .any) (Q' := Q) (l.drop n) n listed a' w' (fun j => by simp [List.getElem?_drop]) (by rw [hdl]; exact hL.1) (hL.2 w' hS')
    rwa [hdl] at this) _ _ _ H _ hS
  rw [htl, show n + (l.toArray.size - n) = l.toArray.size from by omega] at this
  exact this

theorem wpDet_nil {R : Act → Prop} {a : Act} (h : R a) : wpDet P ops S R [] a := h
/-- An operation that leaves the world alone. -/
theorem wpDet_val {R : Act → Prop} {a : Act} {o : Oper} {rest : List Oper} (v : Value) (hg : Region.wanted o (yielded ops a.tmps) = true) (h : ∀ w, S w → (execOp a.eval o).run P w = .ok (.value v) w)
    (k : wpDet P ops S R rest (a.put o.dst v)) : wpDet P ops S R (o :: rest) a :=
  ⟨v, .inl ⟨hg, fun w hw => by rw [h w hw]; exact ⟨rfl, hw⟩⟩, k⟩
/-- A call of a Go function. -/
theorem wpDet_call {R : Act → Prop} {a : Act} {o : Oper} {rest : List Oper} (v : Value) (f : FuncId) (args : Array Value) (hg : Region.wanted o (yielded ops a.tmps) = true)
    (h : ∀ w, S w → (execOp a.eval o).run P w = .ok (.enter f args) w) (c : ∀ w, S w → Calls P f args w fun e w' => e = .returned v ∧ S w')
    (k : wpDet P ops S R rest (a.put o.dst v)) : wpDet P ops S R (o :: rest) a :=
  ⟨v, .inl ⟨hg, fun w hw => by rw [h w hw]; exact c w hw⟩, k⟩
end
end Go.Proofs.YtdipoojjlddohaaGreat
end
section
/- Configurations: valid ones of each kind, walked. -/
set_option linter.unusedVariables false
set_option linter.unusedSimpArgs false
set_option linter.unusedSectionVars false
set_option linter.unnecessarySimpa false
namespace Go.Proofs.YtdipoojjlddohaaGreat
open Go.RowKit
theorem row_eight {w : World} {b : Nat} {t : TypeId} {x0 x1 x2 x3 x4 x5 x6 x7 : Value} (h : Row w b t #[x0, x1, x2, x3, x4, x5, x6, x7]) : w.cell? ⟨b, 0, none⟩ = some x0 ∧ w.cell? ⟨b, 1, none⟩ = some x1 ∧ w.cell? ⟨b, 2, none⟩ = some x2 ∧ w.cell? ⟨b, 3, none⟩ = some x3 ∧ w.cell? ⟨b, 4, none⟩ = some x4 ∧ w.cell? ⟨b, 5, none⟩ = some x5 ∧ w.cell? ⟨b, 6, none⟩ = some x6 ∧ w.cell? ⟨b, 7, none⟩ = some x7 ∧ w.frozen? ⟨b, 0, none⟩ = false ∧ w.frozen? ⟨b, 1, none⟩ = false ∧ w.frozen? ⟨b, 2, none⟩ = false ∧ w.frozen? ⟨b, 3, none⟩ = false ∧ w.frozen? ⟨b, 4, none⟩ = false ∧ w.frozen? ⟨b, 5, none⟩ = false ∧ w.frozen? ⟨b, 6, none⟩ = false ∧ w.frozen? ⟨b, 7, none⟩ = false :=
  ⟨row_cell h 0, row_cell h 1, row_cell h 2, row_cell h 3, row_cell h 4, row_cell h 5, row_cell h 6, row_cell h 7, row_free h 0, row_free h 1, row_free h 2, row_free h 3, row_free h 4, row_free h 5, row_free h 6, row_free h 7⟩
theorem pcin (n lo hi : Int) (w : World) (h0 : lo ≤ n) (h1 : n ≤ hi) : Calls Tryz.prog 201 #[.int .i64 n, .int .i64 lo, .int .i64 hi] w fun e w' => e = .returned (.bool true) ∧ w' = w := by
  go_enter Tryz.func201, Tryz.ntmps201
  go_wp2_with fail
  go_ret
  exact ⟨by first | rfl | exact ret_bool (by simp; omega) | exact ret_bool (by simp [*]), rfl⟩
set_option maxRecDepth 100000 in
theorem ptake1 (sb cb ob j : Nat) (cs : Array Value) (x : Value) (w : World) (S : Row w sb 291 #[.pointer (some ⟨cb, j, none⟩)]) (C : Row w cb 27 cs) (O : Row w ob 4 #[.bool true]) (hx : cs[j]? = some x) (n1 : cb ≠ ob) (n2 : sb ≠ ob) (n3 : sb ≠ cb) :
    Calls Tryz.prog 200 #[.bool true, .slice (some ⟨sb, 0, none⟩) 1 1, .pointer (some ⟨ob, 0, none⟩)] w fun e w' => e = .returned (.tuple #[]) ∧ w' = (w.setCell ⟨ob, 0, none⟩ (.bool true)).setCell ⟨cb, j, none⟩ (.int .i64 0) := by
  obtain ⟨O0, O1⟩ := row_one O
  go_enter Tryz.func200, Tryz.ntmps200
  go_upto_region 1 with (fail)
  have S' := row_other (p := ⟨ob, 0, none⟩) S n2 (.bool true)
  have C' := row_other (p := ⟨ob, 0, none⟩) C n1 (.bool true)
  generalize hw1 : w.setCell ⟨ob, 0, none⟩ (.bool true) = w1 at S' C' ⊢
  replace hw1 := Lib.hid hw1
  clear S C O O0 O1
  obtain ⟨S0, _⟩ := row_one S'
  have C0 := (row_cell C' j).trans hx
  have C1 := row_free C' j
  clear S' C'
  go_wp2
  go_loopw [6, 13] (fun _ i wr => (i = .int .i64 0 ∧ wr = w1) ∨ (i = .int .i64 1 ∧ wr = w1.setCell ⟨cb, j, none⟩ (.int .i64 0))) (fun _ i _ => 2 - (intOf i).toNat)
  case atStart => exact .inl ⟨rfl, rfl⟩
  case round =>
    rcases hrel with ⟨rfl, rfl⟩ | ⟨rfl, rfl⟩
    · go_wp2
      go_roundw
      case rel => exact .inr ⟨by go_num, by first | rfl | trivial⟩
      case measure => simp [intOf]
    · go_wp2
      go_end0
      exact ⟨rfl, by rw [hw1.out]⟩
set_option maxRecDepth 100000 in
set_option maxHeartbeats 2000000 in
theorem pcfgCount (kk cp wd : Int) (w : World) (hkk0 : 1 ≤ kk) (hkk1 : kk ≤ 64) (hcp0 : 1 ≤ cp) (hcp1 : cp ≤ 65536) (hwd0 : 1 ≤ wd) (hwd1 : wd ≤ 1048576) : Calls Tryz.prog 108 #[.agg #[.int .i64 2, .int .i64 0, .int .i64 wd, .int .i64 kk, .int .i64 cp, .int .i64 0, .int .i64 0, .int .i64 0]] w fun e w' => e = .returned (.int .i64 0) ∧ Below w.heap.size w w' := by
  have Pkk := Lib.hid (fun w => pcin kk 1 64 w hkk0 hkk1)
  have Pcp := Lib.hid (fun w => pcin cp 1 65536 w hcp0 hcp1)
  have Pwd := Lib.hid (fun w => pcin wd 1 1048576 w hwd0 hwd1)
  clear hkk0 hkk1 hcp0 hcp1 hwd0 hwd1
  go_enter Tryz.func108, Tryz.ntmps108
  go_upto_region 4 with (fail)
  have C : Row ((w.alloc (.cells #[.int .i64 2, .int .i64 0, .int .i64 wd, .int .i64 kk, .int .i64 cp, .int .i64 0, .int .i64 0, .int .i64 0] 27)).alloc (.cells #[.bool true] 4)) (w.heap.size) 27 #[.int .i64 2, .int .i64 0, .int .i64 wd, .int .i64 kk, .int .i64 cp, .int .i64 0, .int .i64 0, .int .i64 0] := row_alloc (row_new rfl) _
  have O : Row ((w.alloc (.cells #[.int .i64 2, .int .i64 0, .int .i64 wd, .int .i64 kk, .int .i64 cp, .int .i64 0, .int .i64 0, .int .i64 0] 27)).alloc (.cells #[.bool true] 4)) (w.heap.size + 1) 4 #[.bool true] := row_new (by simp)
  have o : Below w.heap.size w ((w.alloc (.cells #[.int .i64 2, .int .i64 0, .int .i64 wd, .int .i64 kk, .int .i64 cp, .int .i64 0, .int .i64 0, .int .i64 0] 27)).alloc (.cells #[.bool true] 4)) := by (repeat (first | exact Below.refl _ _ | refine Below.setCell ?_ (by first | (simp; done) | (simp; omega) | omega) _ | refine Below.alloc ?_ (by first | (simp; done) | (simp; omega) | omega) _ | refine Below.drew ?_ | refine Below.trans ?_ (Below.mono (by assumption) (by first | (simp; done) | (simp; omega) | omega))))
  generalize ((w.alloc (.cells #[.int .i64 2, .int .i64 0, .int .i64 wd, .int .i64 kk, .int .i64 cp, .int .i64 0, .int .i64 0, .int .i64 0] 27)).alloc (.cells #[.bool true] 4)) = w1 at C O o ⊢
  obtain ⟨C0, C1, C2, C3, C4, C5, C6, C7, Cf0, Cf1, Cf2, Cf3, Cf4, Cf5, Cf6, Cf7⟩ := row_eight C
  obtain ⟨O0, Of0⟩ := row_one O
  go_wp2_with fail
  refine (Pkk.out _).mono ?_
  rintro e wx ⟨rfl, hx⟩
  obtain rfl := hx.symm
  go_wp2_with fail
  have S : Row (w1.alloc (.cells #[.pointer (some ⟨w.heap.size, 3, none⟩)] 291)) w1.heap.size 291 #[.pointer (some ⟨w.heap.size, 3, none⟩)] := row_new rfl
  have zs := row_lt O
  replace C := row_alloc C (.cells #[.pointer (some ⟨w.heap.size, 3, none⟩)] 291)
  replace O := row_alloc O (.cells #[.pointer (some ⟨w.heap.size, 3, none⟩)] 291)
  replace o := o.alloc o.size (.cells #[.pointer (some ⟨w.heap.size, 3, none⟩)] 291)
  generalize w1.alloc (.cells #[.pointer (some ⟨w.heap.size, 3, none⟩)] 291) = w2 at S C O o ⊢
  generalize w1.heap.size = sb at S zs ⊢
  refine (ptake1 sb (w.heap.size) (w.heap.size + 1) 3 #[.int .i64 2, .int .i64 0, .int .i64 wd, .int .i64 kk, .int .i64 cp, .int .i64 0, .int .i64 0, .int .i64 0] (.int .i64 kk) w2 S C O rfl (by omega) (by omega) (by omega)).mono ?_
  rintro e w3 ⟨rfl, hw3⟩
  replace C : Row w3 (w.heap.size) 27 #[.int .i64 2, .int .i64 0, .int .i64 wd, .int .i64 0, .int .i64 cp, .int .i64 0, .int .i64 0, .int .i64 0] := by rw [hw3]; exact row_set (row_other (p := ⟨w.heap.size + 1, 0, none⟩) C (by show w.heap.size ≠ w.heap.size + 1; omega) (.bool true)) 3 (.int .i64 0)
  replace O : Row w3 (w.heap.size + 1) 4 #[.bool true] := by rw [hw3]; exact row_other (p := ⟨w.heap.size, 3, none⟩) (row_set O 0 (.bool true)) (by show w.heap.size + 1 ≠ w.heap.size; omega) (.int .i64 0)
  replace o : Below w.heap.size w w3 := by rw [hw3]; exact (o.setCell (p := ⟨w.heap.size + 1, 0, none⟩) (by show w.heap.size ≤ w.heap.size + 1; omega) (.bool true)).setCell (p := ⟨w.heap.size, 3, none⟩) (Nat.le_refl _) (.int .i64 0)
  clear hw3 S zs C0 C1 C2 C3 C4 C5 C6 C7 Cf0 Cf1 Cf2 Cf3 Cf4 Cf5 Cf6 Cf7 O0 Of0
  obtain ⟨w1, hw1⟩ : ∃ x, x = w3 := ⟨_, rfl⟩
  rw [← hw1] at C O o ⊢
  clear hw1 w3
  obtain ⟨C0, C1, C2, C3, C4, C5, C6, C7, Cf0, Cf1, Cf2, Cf3, Cf4, Cf5, Cf6, Cf7⟩ := row_eight C
  obtain ⟨O0, Of0⟩ := row_one O
  go_wp2_with fail
  refine (Pcp.out _).mono ?_
  rintro e wx ⟨rfl, hx⟩
  obtain rfl := hx.symm
  go_wp2_with fail
  have S : Row (w1.alloc (.cells #[.pointer (some ⟨w.heap.size, 4, none⟩)] 291)) w1.heap.size 291 #[.pointer (some ⟨w.heap.size, 4, none⟩)] := row_new rfl
  have zs := row_lt O
  replace C := row_alloc C (.cells #[.pointer (some ⟨w.heap.size, 4, none⟩)] 291)
  replace O := row_alloc O (.cells #[.pointer (some ⟨w.heap.size, 4, none⟩)] 291)
  replace o := o.alloc o.size (.cells #[.pointer (some ⟨w.heap.size, 4, none⟩)] 291)
  generalize w1.alloc (.cells #[.pointer (some ⟨w.heap.size, 4, none⟩)] 291) = w2 at S C O o ⊢
  generalize w1.heap.size = sb at S zs ⊢
  refine (ptake1 sb (w.heap.size) (w.heap.size + 1) 4 #[.int .i64 2, .int .i64 0, .int .i64 wd, .int .i64 0, .int .i64 cp, .int .i64 0, .int .i64 0, .int .i64 0] (.int .i64 cp) w2 S C O rfl (by omega) (by omega) (by omega)).mono ?_
  rintro e w3 ⟨rfl, hw3⟩
  replace C : Row w3 (w.heap.size) 27 #[.int .i64 2, .int .i64 0, .int .i64 wd, .int .i64 0, .int .i64 0, .int .i64 0, .int .i64 0, .int .i64 0] := by rw [hw3]; exact row_set (row_other (p := ⟨w.heap.size + 1, 0, none⟩) C (by show w.heap.size ≠ w.heap.size + 1; omega) (.bool true)) 4 (.int .i64 0)
  replace O : Row w3 (w.heap.size + 1) 4 #[.bool true] := by rw [hw3]; exact row_other (p := ⟨w.heap.size, 4, none⟩) (row_set O 0 (.bool true)) (by show w.heap.size + 1 ≠ w.heap.size; omega) (.int .i64 0)
  replace o : Below w.heap.size w w3 := by rw [hw3]; exact (o.setCell (p := ⟨w.heap.size + 1, 0, none⟩) (by show w.heap.size ≤ w.heap.size + 1; omega) (.bool true)).setCell (p := ⟨w.heap.size, 4, none⟩) (Nat.le_refl _) (.int .i64 0)
  clear hw3 S zs C0 C1 C2 C3 C4 C5 C6 C7 Cf0 Cf1 Cf2 Cf3 Cf4 Cf5 Cf6 Cf7 O0 Of0
  obtain ⟨w1, hw1⟩ : ∃ x, x = w3 := ⟨_, rfl⟩
  rw [← hw1] at C O o ⊢
  clear hw1 w3
  obtain ⟨C0, C1, C2, C3, C4, C5, C6, C7, Cf0, Cf1, Cf2, Cf3, Cf4, Cf5, Cf6, Cf7⟩ := row_eight C
  obtain ⟨O0, Of0⟩ := row_one O
  go_wp2_with fail
  refine (Pwd.out _).mono ?_
  rintro e wx ⟨rfl, hx⟩
  obtain rfl := hx.symm
  go_upto_region 36 with (fail)
  replace C := row_set (row_other (p := ⟨w.heap.size + 1, 0, none⟩) C (by show w.heap.size ≠ w.heap.size + 1; omega) (.bool true)) 2 (.int .i64 0)
  replace O := row_other (p := ⟨w.heap.size, 2, none⟩) (row_set O 0 (.bool true)) (by show w.heap.size + 1 ≠ w.heap.size; omega) (.int .i64 0)
  replace o := (o.setCell (p := ⟨w.heap.size + 1, 0, none⟩) (by show w.heap.size ≤ w.heap.size + 1; omega) (.bool true)).setCell (p := ⟨w.heap.size, 2, none⟩) (Nat.le_refl _) (.int .i64 0)
  replace C : Row ((w1.setCell ⟨w.heap.size + 1, 0, none⟩ (.bool true)).setCell ⟨w.heap.size, 2, none⟩ (.int .i64 0)) (w.heap.size) 27 #[.int .i64 2, .int .i64 0, .int .i64 0, .int .i64 0, .int .i64 0, .int .i64 0, .int .i64 0, .int .i64 0] := C
  replace O : Row ((w1.setCell ⟨w.heap.size + 1, 0, none⟩ (.bool true)).setCell ⟨w.heap.size, 2, none⟩ (.int .i64 0)) (w.heap.size + 1) 4 #[.bool true] := O
  generalize (w1.setCell ⟨w.heap.size + 1, 0, none⟩ (.bool true)).setCell ⟨w.heap.size, 2, none⟩ (.int .i64 0) = w2 at C O o ⊢
  clear C0 C1 C2 C3 C4 C5 C6 C7 Cf0 Cf1 Cf2 Cf3 Cf4 Cf5 Cf6 Cf7 O0 Of0
  obtain ⟨C0, C1, C2, C3, C4, C5, C6, C7, Cf0, Cf1, Cf2, Cf3, Cf4, Cf5, Cf6, Cf7⟩ := row_eight C
  obtain ⟨O0, Of0⟩ := row_one O
  go_wp2
  go_ret
  exact ⟨rfl, o⟩
set_option maxRecDepth 100000 in
set_option maxHeartbeats 2000000 in
theorem pcfgSmooth (ag kk cp wd : Int) (w : World) (hag0 : 1 ≤ ag) (hag1 : ag ≤ 4) (hkk0 : 1 ≤ kk) (hkk1 : kk ≤ 64) (hcp0 : 1 ≤ cp) (hcp1 : cp ≤ 65536) (hwd0 : 1 ≤ wd) (hwd1 : wd ≤ 1048576) : Calls Tryz.prog 108 #[.agg #[.int .i64 4, .int .i64 ag, .int .i64 wd, .int .i64 kk, .int .i64 cp, .int .i64 0, .int .i64 0, .int .i64 0]] w fun e w' => e = .returned (.int .i64 0) ∧ Below w.heap.size w w' := by
  have Pag := Lib.hid (fun w => pcin ag 1 4 w hag0 hag1)
  have Pkk := Lib.hid (fun w => pcin kk 1 64 w hkk0 hkk1)
  have Pcp := Lib.hid (fun w => pcin cp 1 65536 w hcp0 hcp1)
  have Pwd := Lib.hid (fun w => pcin wd 1 1048576 w hwd0 hwd1)
  clear hag0 hag1 hkk0 hkk1 hcp0 hcp1 hwd0 hwd1
  go_enter Tryz.func108, Tryz.ntmps108
  go_upto_region 4 with (fail)
  have C : Row ((w.alloc (.cells #[.int .i64 4, .int .i64 ag, .int .i64 wd, .int .i64 kk, .int .i64 cp, .int .i64 0, .int .i64 0, .int .i64 0] 27)).alloc (.cells #[.bool true] 4)) (w.heap.size) 27 #[.int .i64 4, .int .i64 ag, .int .i64 wd, .int .i64 kk, .int .i64 cp, .int .i64 0, .int .i64 0, .int .i64 0] := row_alloc (row_new rfl) _
  have O : Row ((w.alloc (.cells #[.int .i64 4, .int .i64 ag, .int .i64 wd, .int .i64 kk, .int .i64 cp, .int .i64 0, .int .i64 0, .int .i64 0] 27)).alloc (.cells #[.bool true] 4)) (w.heap.size + 1) 4 #[.bool true] := row_new (by simp)
  have o : Below w.heap.size w ((w.alloc (.cells #[.int .i64 4, .int .i64 ag, .int .i64 wd, .int .i64 kk, .int .i64 cp, .int .i64 0, .int .i64 0, .int .i64 0] 27)).alloc (.cells #[.bool true] 4)) := by (repeat (first | exact Below.refl _ _ | refine Below.setCell ?_ (by first | (simp; done) | (simp; omega) | omega) _ | refine Below.alloc ?_ (by first | (simp; done) | (simp; omega) | omega) _ | refine Below.drew ?_ | refine Below.trans ?_ (Below.mono (by assumption) (by first | (simp; done) | (simp; omega) | omega))))
  generalize ((w.alloc (.cells #[.int .i64 4, .int .i64 ag, .int .i64 wd, .int .i64 kk, .int .i64 cp, .int .i64 0, .int .i64 0, .int .i64 0] 27)).alloc (.cells #[.bool true] 4)) = w1 at C O o ⊢
  obtain ⟨C0, C1, C2, C3, C4, C5, C6, C7, Cf0, Cf1, Cf2, Cf3, Cf4, Cf5, Cf6, Cf7⟩ := row_eight C
  obtain ⟨O0, Of0⟩ := row_one O
  go_wp2_with fail
  refine (Pag.out _).mono ?_
  rintro e wx ⟨rfl, hx⟩
  obtain rfl := hx.symm
  go_wp2_with fail
  have S : Row (w1.alloc (.cells #[.pointer (some ⟨w.heap.size, 1, none⟩)] 291)) w1.heap.size 291 #[.pointer (some ⟨w.heap.size, 1, none⟩)] := row_new rfl
  have zs := row_lt O
  replace C := row_alloc C (.cells #[.pointer (some ⟨w.heap.size, 1, none⟩)] 291)
  replace O := row_alloc O (.cells #[.pointer (some ⟨w.heap.size, 1, none⟩)] 291)
  replace o := o.alloc o.size (.cells #[.pointer (some ⟨w.heap.size, 1, none⟩)] 291)
  generalize w1.alloc (.cells #[.pointer (some ⟨w.heap.size, 1, none⟩)] 291) = w2 at S C O o ⊢
  generalize w1.heap.size = sb at S zs ⊢
  refine (ptake1 sb (w.heap.size) (w.heap.size + 1) 1 #[.int .i64 4, .int .i64 ag, .int .i64 wd, .int .i64 kk, .int .i64 cp, .int .i64 0, .int .i64 0, .int .i64 0] (.int .i64 ag) w2 S C O rfl (by omega) (by omega) (by omega)).mono ?_
  rintro e w3 ⟨rfl, hw3⟩
  replace C : Row w3 (w.heap.size) 27 #[.int .i64 4, .int .i64 0, .int .i64 wd, .int .i64 kk, .int .i64 cp, .int .i64 0, .int .i64 0, .int .i64 0] := by rw [hw3]; exact row_set (row_other (p := ⟨w.heap.size + 1, 0, none⟩) C (by show w.heap.size ≠ w.heap.size + 1; omega) (.bool true)) 1 (.int .i64 0)
  replace O : Row w3 (w.heap.size + 1) 4 #[.bool true] := by rw [hw3]; exact row_other (p := ⟨w.heap.size, 1, none⟩) (row_set O 0 (.bool true)) (by show w.heap.size + 1 ≠ w.heap.size; omega) (.int .i64 0)
  replace o : Below w.heap.size w w3 := by rw [hw3]; exact (o.setCell (p := ⟨w.heap.size + 1, 0, none⟩) (by show w.heap.size ≤ w.heap.size + 1; omega) (.bool true)).setCell (p := ⟨w.heap.size, 1, none⟩) (Nat.le_refl _) (.int .i64 0)
  clear hw3 S zs C0 C1 C2 C3 C4 C5 C6 C7 Cf0 Cf1 Cf2 Cf3 Cf4 Cf5 Cf6 Cf7 O0 Of0
  obtain ⟨w1, hw1⟩ : ∃ x, x = w3 := ⟨_, rfl⟩
  rw [← hw1] at C O o ⊢
  clear hw1 w3
  obtain ⟨C0, C1, C2, C3, C4, C5, C6, C7, Cf0, Cf1, Cf2, Cf3, Cf4, Cf5, Cf6, Cf7⟩ := row_eight C
  obtain ⟨O0, Of0⟩ := row_one O
  go_wp2_with fail
  refine (Pkk.out _).mono ?_
  rintro e wx ⟨rfl, hx⟩
  obtain rfl := hx.symm
  go_wp2_with fail
  have S : Row (w1.alloc (.cells #[.pointer (some ⟨w.heap.size, 3, none⟩)] 291)) w1.heap.size 291 #[.pointer (some ⟨w.heap.size, 3, none⟩)] := row_new rfl
  have zs := row_lt O
  replace C := row_alloc C (.cells #[.pointer (some ⟨w.heap.size, 3, none⟩)] 291)
  replace O := row_alloc O (.cells #[.pointer (some ⟨w.heap.size, 3, none⟩)] 291)
  replace o := o.alloc o.size (.cells #[.pointer (some ⟨w.heap.size, 3, none⟩)] 291)
  generalize w1.alloc (.cells #[.pointer (some ⟨w.heap.size, 3, none⟩)] 291) = w2 at S C O o ⊢
  generalize w1.heap.size = sb at S zs ⊢
  refine (ptake1 sb (w.heap.size) (w.heap.size + 1) 3 #[.int .i64 4, .int .i64 0, .int .i64 wd, .int .i64 kk, .int .i64 cp, .int .i64 0, .int .i64 0, .int .i64 0] (.int .i64 kk) w2 S C O rfl (by omega) (by omega) (by omega)).mono ?_
  rintro e w3 ⟨rfl, hw3⟩
  replace C : Row w3 (w.heap.size) 27 #[.int .i64 4, .int .i64 0, .int .i64 wd, .int .i64 0, .int .i64 cp, .int .i64 0, .int .i64 0, .int .i64 0] := by rw [hw3]; exact row_set (row_other (p := ⟨w.heap.size + 1, 0, none⟩) C (by show w.heap.size ≠ w.heap.size + 1; omega) (.bool true)) 3 (.int .i64 0)
  replace O : Row w3 (w.heap.size + 1) 4 #[.bool true] := by rw [hw3]; exact row_other (p := ⟨w.heap.size, 3, none⟩) (row_set O 0 (.bool true)) (by show w.heap.size + 1 ≠ w.heap.size; omega) (.int .i64 0)
  replace o : Below w.heap.size w w3 := by rw [hw3]; exact (o.setCell (p := ⟨w.heap.size + 1, 0, none⟩) (by show w.heap.size ≤ w.heap.size + 1; omega) (.bool true)).setCell (p := ⟨w.heap.size, 3, none⟩) (Nat.le_refl _) (.int .i64 0)
  clear hw3 S zs C0 C1 C2 C3 C4 C5 C6 C7 Cf0 Cf1 Cf2 Cf3 Cf4 Cf5 Cf6 Cf7 O0 Of0
  obtain ⟨w1, hw1⟩ : ∃ x, x = w3 := ⟨_, rfl⟩
  rw [← hw1] at C O o ⊢
  clear hw1 w3
  obtain ⟨C0, C1, C2, C3, C4, C5, C6, C7, Cf0, Cf1, Cf2, Cf3, Cf4, Cf5, Cf6, Cf7⟩ := row_eight C
  obtain ⟨O0, Of0⟩ := row_one O
  go_wp2_with fail
  refine (Pcp.out _).mono ?_
  rintro e wx ⟨rfl, hx⟩
  obtain rfl := hx.symm
  go_wp2_with fail
  have S : Row (w1.alloc (.cells #[.pointer (some ⟨w.heap.size, 4, none⟩)] 291)) w1.heap.size 291 #[.pointer (some ⟨w.heap.size, 4, none⟩)] := row_new rfl
  have zs := row_lt O
  replace C := row_alloc C (.cells #[.pointer (some ⟨w.heap.size, 4, none⟩)] 291)
  replace O := row_alloc O (.cells #[.pointer (some ⟨w.heap.size, 4, none⟩)] 291)
  replace o := o.alloc o.size (.cells #[.pointer (some ⟨w.heap.size, 4, none⟩)] 291)
  generalize w1.alloc (.cells #[.pointer (some ⟨w.heap.size, 4, none⟩)] 291) = w2 at S C O o ⊢
  generalize w1.heap.size = sb at S zs ⊢
  refine (ptake1 sb (w.heap.size) (w.heap.size + 1) 4 #[.int .i64 4, .int .i64 0, .int .i64 wd, .int .i64 0, .int .i64 cp, .int .i64 0, .int .i64 0, .int .i64 0] (.int .i64 cp) w2 S C O rfl (by omega) (by omega) (by omega)).mono ?_
  rintro e w3 ⟨rfl, hw3⟩
  replace C : Row w3 (w.heap.size) 27 #[.int .i64 4, .int .i64 0, .int .i64 wd, .int .i64 0, .int .i64 0, .int .i64 0, .int .i64 0, .int .i64 0] := by rw [hw3]; exact row_set (row_other (p := ⟨w.heap.size + 1, 0, none⟩) C (by show w.heap.size ≠ w.heap.size + 1; omega) (.bool true)) 4 (.int .i64 0)
  replace O : Row w3 (w.heap.size + 1) 4 #[.bool true] := by rw [hw3]; exact row_other (p := ⟨w.heap.size, 4, none⟩) (row_set O 0 (.bool true)) (by show w.heap.size + 1 ≠ w.heap.size; omega) (.int .i64 0)
  replace o : Below w.heap.size w w3 := by rw [hw3]; exact (o.setCell (p := ⟨w.heap.size + 1, 0, none⟩) (by show w.heap.size ≤ w.heap.size + 1; omega) (.bool true)).setCell (p := ⟨w.heap.size, 4, none⟩) (Nat.le_refl _) (.int .i64 0)
  clear hw3 S zs C0 C1 C2 C3 C4 C5 C6 C7 Cf0 Cf1 Cf2 Cf3 Cf4 Cf5 Cf6 Cf7 O0 Of0
  obtain ⟨w1, hw1⟩ : ∃ x, x = w3 := ⟨_, rfl⟩
  rw [← hw1] at C O o ⊢
  clear hw1 w3
  obtain ⟨C0, C1, C2, C3, C4, C5, C6, C7, Cf0, Cf1, Cf2, Cf3, Cf4, Cf5, Cf6, Cf7⟩ := row_eight C
  obtain ⟨O0, Of0⟩ := row_one O
  go_wp2_with fail
  refine (Pwd.out _).mono ?_
  rintro e wx ⟨rfl, hx⟩
  obtain rfl := hx.symm
  go_upto_region 36 with (fail)
  replace C := row_set (row_other (p := ⟨w.heap.size + 1, 0, none⟩) C (by show w.heap.size ≠ w.heap.size + 1; omega) (.bool true)) 2 (.int .i64 0)
  replace O := row_other (p := ⟨w.heap.size, 2, none⟩) (row_set O 0 (.bool true)) (by show w.heap.size + 1 ≠ w.heap.size; omega) (.int .i64 0)
  replace o := (o.setCell (p := ⟨w.heap.size + 1, 0, none⟩) (by show w.heap.size ≤ w.heap.size + 1; omega) (.bool true)).setCell (p := ⟨w.heap.size, 2, none⟩) (Nat.le_refl _) (.int .i64 0)
  replace C : Row ((w1.setCell ⟨w.heap.size + 1, 0, none⟩ (.bool true)).setCell ⟨w.heap.size, 2, none⟩ (.int .i64 0)) (w.heap.size) 27 #[.int .i64 4, .int .i64 0, .int .i64 0, .int .i64 0, .int .i64 0, .int .i64 0, .int .i64 0, .int .i64 0] := C
  replace O : Row ((w1.setCell ⟨w.heap.size + 1, 0, none⟩ (.bool true)).setCell ⟨w.heap.size, 2, none⟩ (.int .i64 0)) (w.heap.size + 1) 4 #[.bool true] := O
  generalize (w1.setCell ⟨w.heap.size + 1, 0, none⟩ (.bool true)).setCell ⟨w.heap.size, 2, none⟩ (.int .i64 0) = w2 at C O o ⊢
  clear C0 C1 C2 C3 C4 C5 C6 C7 Cf0 Cf1 Cf2 Cf3 Cf4 Cf5 Cf6 Cf7 O0 Of0
  obtain ⟨C0, C1, C2, C3, C4, C5, C6, C7, Cf0, Cf1, Cf2, Cf3, Cf4, Cf5, Cf6, Cf7⟩ := row_eight C
  obtain ⟨O0, Of0⟩ := row_one O
  go_wp2
  go_ret
  exact ⟨rfl, o⟩
end Go.Proofs.YtdipoojjlddohaaGreat
end
section
/- Lists of buckets whose sizes are powers of two: which are valid, what an insertion, an expiry and a question keep; plain. -/
set_option linter.unusedVariables false
set_option linter.unusedSimpArgs false
set_option linter.unusedSectionVars false
set_option linter.unnecessarySimpa false
namespace Go.Proofs.YtdipoojjlddohaaGreat
/-- A bucket: the tick of its newest item, and its level. -/
structure Bk where
  t : Int
  lv : Nat
def bkAt (l : List Bk) (i : Nat) : Bk := l.getD i ⟨0, 0⟩
theorem bk_eq {l : List Bk} {i : Nat} (h : i < l.length) : l[i] = bkAt l i := by unfold bkAt; rw [List.getD_eq_getElem?_getD, List.getElem?_eq_getElem h]; rfl
theorem bk_mem {l : List Bk} {i : Nat} (h : i < l.length) : bkAt l i ∈ l := by rw [← bk_eq h]; exact List.getElem_mem _
theorem bk_left {a b : List Bk} {i : Nat} (h : i < a.length) : bkAt (a ++ b) i = bkAt a i := by
  unfold bkAt; rw [List.getD_eq_getElem?_getD, List.getD_eq_getElem?_getD, List.getElem?_append_left h]
theorem drop_bk {l : List Bk} {k : Nat} (h : k < l.length) : l.drop k = bkAt l k :: l.drop (k + 1) := by rw [List.drop_eq_getElem_cons h, bk_eq h]
theorem take_bk {l : List Bk} {k : Nat} (h : k < l.length) : l.take (k + 1) = l.take k ++ [bkAt l k] := by rw [List.take_succ_eq_append_getElem h, bk_eq h]
/-- How many buckets of a level there are. -/
def cnt (l : List Bk) (x : Nat) : Nat := (l.filter fun b => decide (b.lv = x)).length
theorem cnt_nil (x : Nat) : cnt [] x = 0 := rfl
theorem cnt_cons (b : Bk) (l : List Bk) (x : Nat) : cnt (b :: l) x = (if b.lv = x then 1 else 0) + cnt l x := by
  unfold cnt
  by_cases h : b.lv = x
  · simp [h]; omega
  · simp [h]
theorem cnt_append (a b : List Bk) (x : Nat) : cnt (a ++ b) x = cnt a x + cnt b x := by unfold cnt; rw [List.filter_append, List.length_append]
theorem cnt_le (l : List Bk) (x : Nat) : cnt l x ≤ l.length := List.length_filter_le _ _
theorem cnt_zero {l : List Bk} {x : Nat} (h : ∀ b ∈ l, b.lv ≠ x) : cnt l x = 0 := by
  unfold cnt
  rw [List.length_eq_zero_iff, List.filter_eq_nil_iff]
  intro b hb
  simpa using h b hb
theorem cnt_all {l : List Bk} {x : Nat} (h : ∀ b ∈ l, b.lv = x) : cnt l x = l.length := by
  unfold cnt
  rw [List.filter_eq_self.2 (fun b hb => by simpa using h b hb)]
/-- The number of unit items. -/
def btot : List Bk → Nat
  | [] => 0
  | b :: l => 2 ^ b.lv + btot l
theorem tot_append : ∀ a b : List Bk, btot (a ++ b) = btot a + btot b
  | [], b => by simp [btot]
  | x :: a, b => by rw [List.cons_append, btot, btot, tot_append a b]; omega
theorem tot_mem : ∀ {l : List Bk} {b : Bk}, b ∈ l → 2 ^ b.lv ≤ btot l
  | x :: l, b, h => by
    rw [btot]
    rcases List.mem_cons.1 h with rfl | h
    · exact Nat.le_add_right _ _
    · exact Nat.le_trans (tot_mem h) (Nat.le_add_left _ _)
theorem tot_len : ∀ l : List Bk, l.length ≤ btot l
  | [] => Nat.le_refl _
  | x :: l => by
    have := tot_len l
    have := Nat.one_le_two_pow (n := x.lv)
    rw [btot, List.length_cons]
    omega
def ordR (a b : Bk) : Prop := a.t ≤ b.t ∧ b.lv ≤ a.lv
def topL (l : List Bk) : Nat := (bkAt l 0).lv
theorem topL_append {a b : List Bk} (h : a ≠ []) : topL (a ++ b) = topL a := by
  unfold topL; rw [bk_left (List.length_pos_iff.2 h)]
theorem topL_cons (b : Bk) (l : List Bk) : topL (b :: l) = b.lv := rfl
/-- A valid list: what the insertions of unit items leave. -/
structure BV (k : Nat) (l : List Bk) : Prop where
  ord : l.Pairwise ordR
  tick : ∀ b ∈ l, 0 ≤ b.t ∧ b.t ≤ 16777216
  lev : ∀ b ∈ l, b.lv ≤ 30
  most : ∀ x, cnt l x ≤ k + 1
  least : ∀ x, x < topL l → k ≤ cnt l x
theorem BV.nil (k : Nat) : BV k [] := ⟨List.Pairwise.nil, (by simp), (by simp), fun x => by rw [cnt_nil]; omega, fun x h => by simp [topL, bkAt] at h⟩
theorem BV.asc {k : Nat} {l : List Bk} (h : BV k l) {i j : Nat} (hij : i < j) (hj : j < l.length) : (bkAt l i).t ≤ (bkAt l j).t ∧ (bkAt l j).lv ≤ (bkAt l i).lv := by
  have := (List.pairwise_iff_getElem.1 h.ord) i j (by omega) hj hij
  rwa [bk_eq, bk_eq] at this
/-- What is dropped ahead leaves a valid list. -/
theorem BV.drop {k : Nat} {l : List Bk} (h : BV k l) (j : Nat) : BV k (l.drop j) := by
  have e : l.take j ++ l.drop j = l := List.take_append_drop j l
  have ho := h.ord
  rw [← e] at ho
  have ho' := List.pairwise_append.1 ho
  refine ⟨ho'.2.1, fun b hb => h.tick b (List.mem_of_mem_drop hb), fun b hb => h.lev b (List.mem_of_mem_drop hb), fun x => ?_, fun x hx => ?_⟩
  · have := h.most x
    rw [← e, cnt_append] at this
    omega
  · by_cases hn : l.drop j = []
    · rw [hn] at hx
      simp [topL, bkAt] at hx
    · have hlen : 0 < (l.drop j).length := List.length_pos_iff.2 hn
      have hm : bkAt (l.drop j) 0 ∈ l.drop j := bk_mem hlen
      have hz : cnt (l.take j) x = 0 := cnt_zero fun b hb => by
        have := (ho'.2.2 b hb _ hm).2
        unfold topL at hx
        omega
      have h0 : x < topL l := by
        by_cases ht : l.take j = []
        · have : l.drop j = l := by rw [ht] at e; simpa using e
          rw [this] at hx
          exact hx
        · have hlt : 0 < (l.take j).length := List.length_pos_iff.2 ht
          have := (ho'.2.2 _ (bk_mem hlt) _ hm).2
          rw [← e, topL_append ht]
          unfold topL at hx ⊢
          omega
      have := h.least x h0
      rw [← e, cnt_append, hz] at this
      omega
/-- The ticks that the buckets of a list stand for, oldest first. -/
def Cov : List Int → List Bk → Prop
  | ts, [] => ts = []
  | ts, b :: l => ∃ c rest, ts = c ++ rest ∧ c.length = 2 ^ b.lv ∧ c.getLast? = some b.t ∧ Cov rest l
theorem Cov.len : ∀ {l : List Bk} {ts : List Int}, Cov ts l → ts.length = btot l
  | [], ts, h => by rw [show ts = [] from h]; rfl
  | b :: l, ts, ⟨c, rest, h1, h2, _, h4⟩ => by rw [h1, List.length_append, h2, h4.len, btot]
theorem Cov.append : ∀ {a b : List Bk} {ts us : List Int}, Cov ts a → Cov us b → Cov (ts ++ us) (a ++ b)
  | [], b, ts, us, h1, h2 => by rw [show ts = [] from h1]; exact h2
  | x :: a, b, ts, us, ⟨c, rest, h1, h2, h3, h4⟩, h5 => ⟨c, rest ++ us, by rw [h1, List.append_assoc], h2, h3, h4.append h5⟩
theorem Cov.split : ∀ {a b : List Bk} {ts : List Int}, Cov ts (a ++ b) → ∃ us vs, ts = us ++ vs ∧ Cov us a ∧ Cov vs b
  | [], b, ts, h => ⟨[], ts, rfl, rfl, h⟩
  | x :: a, b, ts, ⟨c, rest, h1, h2, h3, h4⟩ => by
    obtain ⟨us, vs, e, hu, hv⟩ := Cov.split h4
    exact ⟨c ++ us, vs, by rw [h1, e, List.append_assoc], ⟨c, us, rfl, h2, h3, hu⟩, hv⟩
theorem Cov.one {t : Int} {lv : Nat} {c : List Int} (h1 : c.length = 2 ^ lv) (h2 : c.getLast? = some t) : Cov c [⟨t, lv⟩] := ⟨c, [], by simp, h1, h2, rfl⟩
/-- Two buckets of one level become one of the next level. -/
theorem Cov.merge {G R : List Bk} {a b : Bk} {ts : List Int} (hl : a.lv = b.lv) (h : Cov ts (G ++ a :: b :: R)) : Cov ts (G ++ ⟨b.t, b.lv + 1⟩ :: R) := by
  obtain ⟨us, vs, e, hu, hv⟩ := h.split
  obtain ⟨c, rest, e1, l1, g1, c2, rest2, e2, l2, g2, h2⟩ := hv
  rw [e]
  refine hu.append ⟨c ++ c2, rest2, by rw [e1, e2, List.append_assoc], by rw [List.length_append, l1, l2, hl, Nat.pow_succ]; omega, ?_, h2⟩
  have hne : c2 ≠ [] := fun e => by rw [e] at l2; simp at l2; have := Nat.one_le_two_pow (n := b.lv); omega
  rw [List.getLast?_append, g2]
  rfl
theorem tot_merge {G R : List Bk} {a b : Bk} (hl : a.lv = b.lv) : btot (G ++ ⟨b.t, b.lv + 1⟩ :: R) = btot (G ++ a :: b :: R) := by
  rw [tot_append, tot_append, btot, btot, btot, hl, Nat.pow_succ]
  omega
/-- What holds while an item is inserted: the levels below L are done; P ends with the buckets of level L. -/
structure InsJ (k : Nat) (P Q : List Bk) (L : Nat) : Prop where
  ord : (P ++ Q).Pairwise ordR
  tick : ∀ b ∈ P ++ Q, 0 ≤ b.t ∧ b.t ≤ 16777216
  hiP : ∀ b ∈ P, L ≤ b.lv
  loQ : ∀ b ∈ Q, b.lv < L
  cntQ : ∀ x, x < L → k ≤ cnt Q x ∧ cnt Q x ≤ k + 1
  cntL : cnt P L ≤ k + 2
  cntP : ∀ x, L < x → cnt P x ≤ k + 1
  leastP : ∀ x, L ≤ x → x < topL P → k ≤ cnt P x
  ne : P ≠ []
theorem InsJ.start {k : Nat} {l : List Bk} {t : Int} (h : BV k l) (ht : 0 ≤ t ∧ t ≤ 16777216) (hl : ∀ b ∈ l, b.t ≤ t) : InsJ k (l ++ [⟨t, 0⟩]) [] 0 := by
  refine ⟨?_, fun b hb => ?_, fun _ _ => Nat.zero_le _, (by simp), fun x hx => by omega, ?_, fun x hx => ?_, fun x _ hx => ?_, (by simp)⟩
  · rw [List.append_nil]
    refine List.pairwise_append.2 ⟨h.ord, (by simp), fun a ha b hb => ?_⟩
    obtain rfl : b = ⟨t, 0⟩ := by simpa using hb
    exact ⟨hl a ha, Nat.zero_le _⟩
  · rw [List.append_nil] at hb
    rcases List.mem_append.1 hb with hb | hb
    · exact h.tick b hb
    · obtain rfl : b = ⟨t, 0⟩ := by simpa using hb
      exact ht
  · have := h.most 0
    rw [cnt_append, cnt_cons, cnt_nil, if_pos rfl]
    omega
  · have := h.most x
    rw [cnt_append, cnt_cons, cnt_nil, if_neg (show ¬ (0 : Nat) = x by omega)]
    omega
  · by_cases hn : l = []
    · subst hn
      rw [List.nil_append, topL_cons] at hx
      exact absurd hx (Nat.not_lt_zero _)
    · rw [topL_append hn] at hx
      have := h.least x hx
      rw [cnt_append]
      omega
/-- The buckets of level L are a suffix of P. -/
theorem InsJ.suffix {k : Nat} {P Q : List Bk} {L : Nat} (h : InsJ k P Q L) {b : Nat} (hb : b ≤ P.length) (h1 : ∀ x ∈ P.drop b, x.lv = L) (h2 : b = 0 ∨ (bkAt P (b - 1)).lv ≠ L) : cnt P L = P.length - b ∧ ∀ x ∈ P.take b, L < x.lv := by
  have hP := (List.pairwise_append.1 h.ord).1
  have ht : ∀ x ∈ P.take b, L < x.lv := by
    intro x hx
    rcases h2 with rfl | h2
    · simp at hx
    · by_cases b0 : b = 0
      · subst b0
        simp at hx
      obtain ⟨i, hi, e⟩ := List.getElem_of_mem hx
      rw [List.length_take] at hi
      rw [List.getElem_take] at e
      have hge := h.hiP _ (bk_mem (l := P) (i := b - 1) (by omega))
      have hxe : x = bkAt P i := by rw [← e]; exact bk_eq (by omega)
      by_cases hi2 : i = b - 1
      · rw [hxe, hi2]
        omega
      · have := (List.pairwise_iff_getElem.1 hP) i (b - 1) (by omega) (by omega) (by omega)
        rw [bk_eq, bk_eq] at this
        have := this.2
        rw [hxe]
        omega
  refine ⟨?_, ht⟩
  have e : P = P.take b ++ P.drop b := (List.take_append_drop b P).symm
  rw [e, cnt_append, cnt_zero (fun x hx => by have := ht x hx; omega), cnt_all h1, ← e, List.length_drop]
  omega
/-- Where there is room in level L the list is valid. -/
theorem InsJ.done {k : Nat} {P Q : List Bk} {L : Nat} (h : InsJ k P Q L) (hc : cnt P L < k + 2) (hlev : ∀ b ∈ P ++ Q, b.lv ≤ 30) : BV k (P ++ Q) := by
  refine ⟨h.ord, h.tick, hlev, fun x => ?_, fun x hx => ?_⟩
  · rw [cnt_append]
    rcases Nat.lt_trichotomy x L with g | g | g
    · rw [cnt_zero (l := P) (fun b hb => by have := h.hiP b hb; omega)]
      have := (h.cntQ x g).2
      omega
    · subst g
      rw [cnt_zero (l := Q) (fun b hb => by have := h.loQ b hb; omega)]
      omega
    · rw [cnt_zero (l := Q) (fun b hb => by have := h.loQ b hb; omega)]
      have := h.cntP x g
      omega
  · rw [topL_append h.ne] at hx
    rw [cnt_append]
    by_cases g : x < L
    · have := (h.cntQ x g).1
      omega
    · have := h.leastP x (by omega) hx
      omega
/-- The two oldest ones of level L become one. -/
theorem InsJ.step {k : Nat} {G R Q : List Bk} {a b : Bk} {L : Nat} (hk : 1 ≤ k) (h : InsJ k (G ++ a :: b :: R) Q L) (ha : a.lv = L) (hb : b.lv = L) (hR : ∀ x ∈ R, x.lv = L) (hn : R.length = k) (hG : ∀ x ∈ G, L < x.lv) :
    InsJ k (G ++ [⟨b.t, L + 1⟩]) (R ++ Q) (L + 1) := by
  have ho := h.ord
  have e1 : G ++ a :: b :: R ++ Q = G ++ (a :: b :: (R ++ Q)) := by simp
  rw [e1] at ho
  obtain ⟨oG, oT, oX⟩ := List.pairwise_append.1 ho
  obtain ⟨oa, oT⟩ := List.pairwise_cons.1 oT
  obtain ⟨ob, oT⟩ := List.pairwise_cons.1 oT
  have e2 : (G ++ [(⟨b.t, L + 1⟩ : Bk)]) ++ (R ++ Q) = G ++ (⟨b.t, L + 1⟩ :: (R ++ Q)) := by simp
  have cG0 : ∀ x, x ≤ L → cnt G x = 0 := fun x hx => cnt_zero fun y hy => by have := hG y hy; omega
  have cP : ∀ x, L < x → cnt (G ++ a :: b :: R) x = cnt G x := fun x hx => by
    rw [cnt_append, cnt_cons, cnt_cons, if_neg (by omega), if_neg (by omega), cnt_zero (l := R) (fun y hy => by have := hR y hy; omega)]
    omega
  refine ⟨?_, fun x hx => ?_, fun x hx => ?_, fun x hx => ?_, fun x hx => ?_, ?_, fun x hx => ?_, fun x h1 h2 => ?_, (by simp)⟩
  · rw [e2]
    refine List.pairwise_append.2 ⟨oG, List.pairwise_cons.2 ⟨fun y hy => ⟨(ob y hy).1, ?_⟩, oT⟩, fun y hy z hz => ?_⟩
    · have := (ob y hy).2
      show y.lv ≤ L + 1
      omega
    · rcases List.mem_cons.1 hz with rfl | hz
      · exact ⟨(oX y hy b (by simp)).1, hG y hy⟩
      · exact oX y hy z (List.mem_cons_of_mem _ (List.mem_cons_of_mem _ hz))
  · rw [e2] at hx
    have hT := h.tick
    rw [e1] at hT
    rcases List.mem_append.1 hx with hx | hx
    · exact hT x (List.mem_append_left _ hx)
    · rcases List.mem_cons.1 hx with rfl | hx
      · exact hT b (by simp)
      · exact hT x (List.mem_append_right _ (List.mem_cons_of_mem _ (List.mem_cons_of_mem _ hx)))
  · rcases List.mem_append.1 hx with hx | hx
    · exact hG x hx
    · obtain rfl : x = ⟨b.t, L + 1⟩ := by simpa using hx
      exact Nat.le_refl _
  · rcases List.mem_append.1 hx with hx | hx
    · have := hR x hx
      omega
    · have := h.loQ x hx
      omega
  · rw [cnt_append]
    by_cases g : x = L
    · subst g
      rw [cnt_all hR, cnt_zero (l := Q) (fun y hy => by have := h.loQ y hy; omega)]
      omega
    · rw [cnt_zero (l := R) (fun y hy => by have := hR y hy; omega)]
      have := h.cntQ x (by omega)
      omega
  · have := h.cntP (L + 1) (by omega)
    rw [cP _ (by omega)] at this
    rw [cnt_append, cnt_cons, cnt_nil, if_pos rfl]
    omega
  · have := h.cntP x (by omega)
    rw [cP _ (by omega)] at this
    rw [cnt_append, cnt_cons, cnt_nil, if_neg (by show ¬ L + 1 = x; omega)]
    omega
  · by_cases hn : G = []
    · subst hn
      rw [List.nil_append, topL_cons] at h2
      have : x < L + 1 := h2
      omega
    · rw [topL_append hn] at h2
      have := h.leastP x (by omega) (by rw [topL_append hn]; exact h2)
      rw [cP _ (by omega)] at this
      rw [cnt_append]
      omega
/-- How many ticks of a list lie behind a tick. -/
def liveT (f : Int) (ts : List Int) : Nat := (ts.filter fun x => decide (f < x)).length
theorem liveT_append (f : Int) (a b : List Int) : liveT f (a ++ b) = liveT f a + liveT f b := by unfold liveT; rw [List.filter_append, List.length_append]
theorem liveT_le (f : Int) (a : List Int) : liveT f a ≤ a.length := List.length_filter_le _ _
theorem liveT_zero {f : Int} {a : List Int} (h : ∀ x ∈ a, x ≤ f) : liveT f a = 0 := by
  unfold liveT
  rw [List.length_eq_zero_iff, List.filter_eq_nil_iff]
  intro x hx
  have := h x hx
  simp
  omega
theorem liveT_all {f : Int} {a : List Int} (h : ∀ x ∈ a, f < x) : liveT f a = a.length := by
  unfold liveT
  rw [List.filter_eq_self.2 (fun x hx => by simpa using h x hx)]
/-- What is known of a histogram of ticks: the dead ones ahead, what the buckets cover, and that each bucket lives. -/
structure BHist (ts : List Int) (now wd : Int) (l : List Bk) : Prop where
  asc : ts.Pairwise (· ≤ ·)
  rng : ∀ x ∈ ts, 0 ≤ x ∧ x ≤ now
  cov : ∃ dead live, ts = dead ++ live ∧ (∀ x ∈ dead, x ≤ now - wd) ∧ Cov live l
  live : ∀ b ∈ l, now - wd < b.t
theorem Cov.last : ∀ {l : List Bk} {ts : List Int}, Cov ts l → l ≠ [] → ∃ b ∈ l, ts.getLast? = some b.t
  | [], _, _, hn => absurd rfl hn
  | y :: a, ts, ⟨c, rest, h1, h2, h3, h4⟩, _ => by
    by_cases ha : a = []
    · subst ha
      rw [show rest = [] from h4, List.append_nil] at h1
      exact ⟨y, by simp, by rw [h1]; exact h3⟩
    · have hrne : rest ≠ [] := fun er => by
        have hq := h4.len
        have hq2 := tot_len a
        have hq3 := List.length_pos_iff.2 ha
        rw [er] at hq
        simp at hq
        omega
      obtain ⟨b, hb, hbl⟩ := h4.last ha
      exact ⟨b, List.mem_cons_of_mem _ hb, by rw [h1, List.getLast?_append, hbl]; rfl⟩
theorem BHist.nil (now wd : Int) : BHist [] now wd [] := ⟨List.Pairwise.nil, (by simp), ⟨[], [], rfl, (by simp), rfl⟩, (by simp)⟩
/-- The clock moves on: the buckets up to a place are dropped. -/
theorem BHist.expire {ts : List Int} {now wd tt9 : Int} {l : List Bk} (h : BHist ts now wd l) (hto : now ≤ tt9) (j : Nat) (hj : ∀ b ∈ l.take j, b.t ≤ tt9 - wd) (hl : ∀ b ∈ l.drop j, tt9 - wd < b.t) : BHist ts tt9 wd (l.drop j) := by
  obtain ⟨dead, live, e, hd, hc⟩ := h.cov
  refine ⟨h.asc, fun x hx => by have := h.rng x hx; omega, ?_, hl⟩
  rw [← List.take_append_drop j l] at hc
  obtain ⟨us, vs, e2, hu, hv⟩ := hc.split
  refine ⟨dead ++ us, vs, by rw [e, e2, List.append_assoc], fun x hx => ?_, hv⟩
  rcases List.mem_append.1 hx with hx | hx
  · have := hd x hx
    omega
  · by_cases hn : l.take j = []
    · rw [hn] at hu
      rw [show us = [] from hu] at hx
      cases hx
    · -- the last of us is the tick of the last bucket that was dropped
      have hne : us ≠ [] := fun e => by rw [e] at hx; cases hx
      have hlast := hu.last hn
      obtain ⟨b, hb, hbl⟩ := hlast
      have hle : x ≤ b.t := by
        have hasc := h.asc
        rw [e, e2] at hasc
        have h1 := (List.pairwise_append.1 (List.pairwise_append.1 hasc).2.1).1
        obtain ⟨ys, rfl⟩ : ∃ ys, us = ys ++ [b.t] := by
          obtain ⟨ys, hys⟩ := List.getLast?_eq_some_iff.1 hbl
          exact ⟨ys, hys⟩
        rcases List.mem_append.1 hx with hx | hx
        · exact (List.pairwise_append.1 h1).2.2 x hx b.t (by simp)
        · simp at hx
          omega
      have := hj b hb
      omega
/-- What an insertion of n unit items of a tick leaves. -/
structure Ins (k : Nat) (l : List Bk) (t : Int) (n : Nat) (l' : List Bk) : Prop where
  val : BV k l'
  cov : ∀ us, Cov us l → Cov (us ++ List.replicate n t) l'
  tot : btot l' = btot l + n
  ticks : ∀ b ∈ l', b.t = t ∨ ∃ b0 ∈ l, b.t = b0.t
/-- Unit items of now. -/
theorem BHist.add {k n : Nat} {ts : List Int} {now wd : Int} {l l' : List Bk} (h : BHist ts now wd l) (h0 : 0 ≤ now) (hw : 1 ≤ wd) (hi : Ins k l now n l') : BHist (ts ++ List.replicate n now) now wd l' := by
  obtain ⟨dead, live, e, hd, hcv⟩ := h.cov
  refine ⟨List.pairwise_append.2 ⟨h.asc, List.pairwise_replicate.2 (.inr (Int.le_refl _)), fun a ha b hb => ?_⟩, fun x hx => ?_, ⟨dead, live ++ List.replicate n now, by rw [e, List.append_assoc], hd, hi.cov live hcv⟩, fun b hb => ?_⟩
  · rw [(List.mem_replicate.1 hb).2]
    exact (h.rng a ha).2
  · rcases List.mem_append.1 hx with hx | hx
    · exact h.rng x hx
    · rw [(List.mem_replicate.1 hx).2]
      omega
  · rcases hi.ticks b hb with g | ⟨b0, hb0, g⟩
    · omega
    · have := h.live b0 hb0
      omega
/-- What the first bucket and the total tell of the number of the live. -/
theorem BHist.query {ts : List Int} {now wd : Int} {l : List Bk} (h : BHist ts now wd l) (hn : l ≠ []) : btot l + 1 ≤ liveT (now - wd) ts + 2 ^ topL l ∧ liveT (now - wd) ts ≤ btot l := by
  obtain ⟨dead, live, e, hd, hc⟩ := h.cov
  have hasc := h.asc
  rw [e] at hasc
  have hal := (List.pairwise_append.1 hasc).2.1
  have hlen := hc.len
  rw [e, liveT_append, liveT_zero hd, Nat.zero_add]
  refine ⟨?_, by rw [← hlen]; exact liveT_le _ _⟩
  cases l with
  | nil => exact absurd rfl hn
  | cons b l =>
    obtain ⟨c, rest, h1, h2, h3, h4⟩ := hc
    obtain ⟨ys, hys⟩ := List.getLast?_eq_some_iff.1 h3
    have hb := h.live b (by simp)
    rw [h1] at hal
    have hr : ∀ x ∈ rest, now - wd < x := fun x hx => by
      have := (List.pairwise_append.1 hal).2.2 b.t (by rw [hys]; simp) x hx
      omega
    rw [h1, liveT_append, liveT_all hr, hys, liveT_append, liveT_all (a := [b.t]) (fun x hx => by rw [List.mem_singleton.1 hx]; exact hb), topL_cons]
    rw [btot, h4.len]
    simp
    omega
theorem BHist.none {ts : List Int} {now wd : Int} (h : BHist ts now wd []) : liveT (now - wd) ts = 0 := by
  obtain ⟨dead, live, e, hd, hc⟩ := h.cov
  rw [e, show live = [] from hc, List.append_nil]
  exact liveT_zero hd
/-- The same by places: 'cur' is the list so far, the levels below L lie from place e on. -/
structure InsR (k : Nat) (l : List Bk) (t : Int) (cur : List Bk) (e L : Nat) : Prop where
  j : InsJ k (cur.take e) (cur.drop e) L
  el : e ≤ cur.length
  cov : ∀ us, Cov us l → Cov (us ++ [t]) cur
  tot : btot cur = btot l + 1
  ticks : ∀ b ∈ cur, b.t = t ∨ ∃ b0 ∈ l, b.t = b0.t
theorem InsR.start {k : Nat} {l : List Bk} {t : Int} (h : BV k l) (ht : 0 ≤ t ∧ t ≤ 16777216) (hl : ∀ b ∈ l, b.t ≤ t) : InsR k l t (l ++ [⟨t, 0⟩]) (l.length + 1) 0 := by
  have e : (l ++ [(⟨t, 0⟩ : Bk)]).length = l.length + 1 := by simp
  refine ⟨?_, by rw [e]; exact Nat.le_refl _, fun us hu => hu.append (Cov.one (by simp) (by simp)), by rw [tot_append]; rfl, fun b hb => ?_⟩
  · rw [List.take_of_length_le (by rw [e]; exact Nat.le_refl _), List.drop_eq_nil_of_le (by rw [e]; exact Nat.le_refl _)]
    exact InsJ.start h ht hl
  · rcases List.mem_append.1 hb with hb | hb
    · exact .inr ⟨b, hb, rfl⟩
    · exact .inl (by rw [List.mem_singleton.1 hb])
theorem two_pow_le {x : Nat} (h : 2 ^ x ≤ 1073741824) : x ≤ 30 := by
  rcases Nat.lt_or_ge 30 x with g | g
  · have := Nat.pow_le_pow_right (n := 2) (by decide) (show 31 ≤ x from g)
    omega
  · exact g
theorem InsR.suffix {k : Nat} {l cur : List Bk} {t : Int} {e L b : Nat} (h : InsR k l t cur e L) (hb : b ≤ e) (h1 : ∀ i, b ≤ i → i < e → (bkAt cur i).lv = L) (h2 : b = 0 ∨ (bkAt cur (b - 1)).lv ≠ L) :
    cnt (cur.take e) L = e - b ∧ ∀ x ∈ cur.take b, L < x.lv := by
  have hl : (cur.take e).length = e := by rw [List.length_take]; have := h.el; omega
  have hat : ∀ i, i < e → bkAt (cur.take e) i = bkAt cur i := fun i hi => by
    have := bk_left (a := cur.take e) (b := cur.drop e) (i := i) (by omega)
    rwa [List.take_append_drop, eq_comm] at this
  have := h.j.suffix (b := b) (by omega) (fun x hx => by
    obtain ⟨i, hi, rfl⟩ := List.getElem_of_mem hx
    rw [List.length_drop, hl] at hi
    rw [List.getElem_drop, bk_eq (by omega), hat _ (by omega)]
    exact h1 _ (by omega) (by omega)) (by
    rcases h2 with h2 | h2
    · exact .inl h2
    · by_cases b0 : b = 0
      · exact .inl b0
      · rw [hat _ (by omega)]
        exact .inr h2)
  rw [hl, List.take_take, Nat.min_eq_left hb] at this
  exact this
theorem InsR.done {k : Nat} {l cur : List Bk} {t : Int} {e L b : Nat} (h : InsR k l t cur e L) (hb : b ≤ e) (h1 : ∀ i, b ≤ i → i < e → (bkAt cur i).lv = L) (h2 : b = 0 ∨ (bkAt cur (b - 1)).lv ≠ L) (hc : e - b < k + 2) (hT : btot l + 1 ≤ 1073741824) : Ins k l t 1 cur := by
  have hs := (h.suffix hb h1 h2).1
  have := h.j.done (by omega) (fun x hx => by
    rw [List.take_append_drop] at hx
    have := tot_mem hx
    rw [h.tot] at this
    exact two_pow_le (by omega))
  rw [List.take_append_drop] at this
  exact ⟨this, h.cov, h.tot, h.ticks⟩
theorem InsR.step {k : Nat} {l cur : List Bk} {t : Int} {e L b : Nat} (hk : 1 ≤ k) (h : InsR k l t cur e L) (hb : b ≤ e) (h1 : ∀ i, b ≤ i → i < e → (bkAt cur i).lv = L) (h2 : b = 0 ∨ (bkAt cur (b - 1)).lv ≠ L) (hc : ¬ e - b < k + 2) :
    InsR k l t (cur.take b ++ ⟨(bkAt cur (b + 1)).t, L + 1⟩ :: cur.drop (b + 2)) (b + 1) (L + 1) := by
  obtain ⟨hs, hG⟩ := h.suffix hb h1 h2
  have hcl := h.j.cntL
  have hel := h.el
  have hl1 := h1 b (Nat.le_refl _) (by omega)
  have hl2 := h1 (b + 1) (by omega) (by omega)
  have e1 : cur = cur.take b ++ bkAt cur b :: bkAt cur (b + 1) :: cur.drop (b + 2) := by
    rw [← drop_bk (show b + 1 < cur.length by omega), ← drop_bk (show b < cur.length by omega), List.take_append_drop]
  have e2 : cur.take e = cur.take b ++ bkAt cur b :: bkAt cur (b + 1) :: (cur.drop (b + 2)).take (e - (b + 2)) := by
    have hb2 : (cur.take b).length = b := by rw [List.length_take]; omega
    conv => lhs; rw [e1]
    rw [List.take_append, hb2, List.take_of_length_le (by omega), show e - b = (e - (b + 2)) + 1 + 1 by omega, List.take_succ_cons, List.take_succ_cons]
  have hR : ∀ x ∈ (cur.drop (b + 2)).take (e - (b + 2)), x.lv = L := fun x hx => by
    obtain ⟨i, hi, rfl⟩ := List.getElem_of_mem hx
    rw [List.length_take, List.length_drop] at hi
    rw [List.getElem_take, List.getElem_drop, bk_eq (by omega)]
    exact h1 _ (by omega) (by omega)
  have hJ := h.j
  rw [e2] at hJ
  have st := hJ.step hk hl1 hl2 hR (by rw [List.length_take, List.length_drop]; omega) hG
  have e3 : (cur.drop (b + 2)).take (e - (b + 2)) ++ cur.drop e = cur.drop (b + 2) := by
    have := List.take_append_drop (e - (b + 2)) (cur.drop (b + 2))
    rwa [List.drop_drop, show b + 2 + (e - (b + 2)) = e by omega] at this
  rw [e3] at st
  have hb2 : (cur.take b).length = b := by rw [List.length_take]; omega
  refine ⟨?_, by simp; omega, fun us hu => ?_, ?_, fun x hx => ?_⟩
  · rw [List.take_append, hb2, List.take_of_length_le (by omega), show b + 1 - b = 1 by omega, List.take_succ_cons, List.take_zero, List.drop_append, hb2, List.drop_of_length_le (by omega), show b + 1 - b = 1 by omega, List.nil_append, List.drop_succ_cons, List.drop_zero]
    exact st
  · have := h.cov us hu
    rw [e1] at this
    have := this.merge (hl1.trans hl2.symm)
    rwa [hl2] at this
  · have := tot_merge (G := cur.take b) (R := cur.drop (b + 2)) (hl1.trans hl2.symm)
    rw [← e1, hl2, h.tot] at this
    exact this
  · rcases List.mem_append.1 hx with hx | hx
    · exact h.ticks x (List.mem_of_mem_take hx)
    · rcases List.mem_cons.1 hx with rfl | hx
      · exact h.ticks (bkAt cur (b + 1)) (bk_mem (show b + 1 < cur.length by omega))
      · exact h.ticks x (List.mem_of_mem_drop hx)
/-- The buckets ahead of the first one hold many. -/
theorem tot_below {k : Nat} {l : List Bk} (h : BV k l) : ∀ n, n ≤ topL l → k * (2 ^ n - 1) ≤ btot (l.filter fun b => decide (b.lv < n))
  | 0, _ => by simp
  | n + 1, hn => by
    have ih := tot_below h n (by omega)
    have hl := h.least n (by omega)
    have step : ∀ a : List Bk, btot (a.filter fun b => decide (b.lv < n + 1)) = btot (a.filter fun b => decide (b.lv < n)) + cnt a n * 2 ^ n := by
      intro a
      induction a with
      | nil => simp [btot, cnt_nil]
      | cons x a ih =>
        rw [cnt_cons]
        rcases Nat.lt_trichotomy x.lv n with g | g | g
        · rw [List.filter_cons_of_pos (by simp; omega), List.filter_cons_of_pos (by simpa using g), btot, btot, ih, if_neg (by omega)]
          simp
          omega
        · rw [List.filter_cons_of_pos (by simp; omega), List.filter_cons_of_neg (by simp; omega), btot, ih, if_pos g, Nat.add_mul, g]
          omega
        · rw [List.filter_cons_of_neg (by simp; omega), List.filter_cons_of_neg (by simp; omega), ih, if_neg (by omega)]
          simp
    rw [step]
    have h2 := Nat.mul_le_mul_right (2 ^ n) hl
    have h3 := Nat.one_le_two_pow (n := n)
    have h5 : 2 ^ (n + 1) - 1 = (2 ^ n - 1) + 2 ^ n := by
      rw [Nat.pow_succ]
      generalize 2 ^ n = p at h3 ⊢
      omega
    have h4 : k * (2 ^ (n + 1) - 1) = k * (2 ^ n - 1) + k * 2 ^ n := by rw [h5, Nat.mul_add]
    omega
theorem tot_filter_le (p : Bk → Bool) : ∀ l : List Bk, btot (l.filter p) ≤ btot l
  | [] => Nat.le_refl _
  | x :: l => by
    have ih := tot_filter_le p l
    by_cases h : p x = true
    · rw [List.filter_cons_of_pos h, btot, btot]; omega
    · rw [List.filter_cons_of_neg h, btot]; exact Nat.le_trans ih (Nat.le_add_left _ _)
/-- The first bucket is small against the others. -/
theorem BV.narrow {k : Nat} {l : List Bk} (h : BV k l) (hn : l ≠ []) : k * (2 ^ topL l - 1) + 2 ^ topL l ≤ btot l := by
  have h1 := tot_below h (topL l) (Nat.le_refl _)
  cases l with
  | nil => exact absurd rfl hn
  | cons x l =>
    rw [topL_cons] at h1 ⊢
    rw [List.filter_cons_of_neg (by simp)] at h1
    have := tot_filter_le (fun b => decide (b.lv < x.lv)) l
    rw [btot]
    omega
end Go.Proofs.YtdipoojjlddohaaGreat
end
section
/- Rows of the call's own that ownsRow tells of: what keeps them; what an argument reads behind a store elsewhere. -/
set_option linter.unusedVariables false
set_option linter.unusedSimpArgs false
set_option linter.unusedSectionVars false
set_option linter.unnecessarySimpa false
namespace Go.Proofs.YtdipoojjlddohaaGreat
open Go.RowKit
theorem orow_keep {w w' : World} {base : Nat} {e : TypeId} {size : Nat} {v : Value} {n : Nat} {xs : List Value} (h : w.ownsRow base e size v n xs) (hg : ∀ g, v.ownBlock = some g → w'.heap[g]? = w.heap[g]?) : w'.ownsRow base e size v n xs := by
  refine ⟨h.1, ?_⟩
  rcases h.2 with hn | ⟨g, cap, cur, rfl, hb, hgg, rest⟩
  · exact .inl hn
  · exact .inr ⟨g, cap, cur, rfl, hb, by rw [hg g rfl]; exact hgg, rest⟩
theorem orow_other {w : World} {base : Nat} {e : TypeId} {size : Nat} {v : Value} {n : Nat} {xs : List Value} (h : w.ownsRow base e size v n xs) {p : Addr} (hne : v.ownBlock ≠ some p.block) (u : Value) : (w.setCell p u).ownsRow base e size v n xs :=
  orow_keep h fun g he => Below.heap_setCell w p u g (fun x => hne (x ▸ he))
theorem orow_new {w : World} {base : Nat} {e : TypeId} {size : Nat} {v : Value} {n b : Nat} {xs : List Value} (h : w.ownsRow base e size v n xs) (hb : w.heap.size ≤ b) : v.ownBlock ≠ some b := fun e => by
  have := (h.lt b e).2
  omega
theorem orow_forms {w : World} {base : Nat} {e : TypeId} {size : Nat} {v : Value} {n : Nat} {xs : List Value} (h : w.ownsRow base e size v n xs) :
    ∃ A c, v = .slice A n c ∧ Reads w w.heap.size size A n xs ∧ n ≤ c ∧ c ≤ maxLen ∧ ∀ a, A = some a → base ≤ a.block ∧ a.block < w.heap.size := by
  rcases h.2 with ⟨rfl, rfl⟩ | ⟨g, cap, cur, rfl, hb, hgg, h1, h2, _⟩
  · exact ⟨none, 0, rfl, Reads.of_own h, Nat.le_refl _, Nat.zero_le _, fun a e => by cases e⟩
  · exact ⟨_, cap, rfl, Reads.of_own h, h1, h2, fun a e => by cases e; exact h.lt _ rfl⟩
theorem reads_keep {w w' : World} {B size n : Nat} {A : Option Addr} {xs : List Value} (h : Reads w B size A n xs) (hk : ∀ a, A = some a → a.block < B → w'.heap[a.block]? = w.heap[a.block]?) : Reads w' B size A n xs := by
  refine ⟨h.1, fun hn => ?_⟩
  obtain ⟨ad, e, hb, hc⟩ := h.2 hn
  refine ⟨ad, e, hb, fun j u hu => ?_⟩
  have hq : (ad.add j).block = ad.block := block_of_add ..
  exact (World.cell?_of_block (w := w) (w' := w') (a := ad.add j) (by rw [hq]; exact hk ad e hb)).trans (hc j u hu)
theorem reads_set {w : World} {B size n : Nat} {A : Option Addr} {xs : List Value} (h : Reads w B size A n xs) {p : Addr} (hp : ∀ a, A = some a → a.block ≠ p.block) (u : Value) : Reads (w.setCell p u) B size A n xs :=
  reads_keep h fun a e _ => Below.heap_setCell w p u a.block (hp a e)
end Go.Proofs.YtdipoojjlddohaaGreat
end
section
/- A second law on statements whose order is open: calls and loads next to new variables, whose blocks' numbers hang on the order. -/
set_option linter.unusedVariables false
set_option linter.unusedSimpArgs false
set_option linter.unusedSectionVars false
set_option linter.unnecessarySimpa false
namespace Go.Proofs.YtdipoojjlddohaaGreat
open Go.RowKit
section
variable {P : Program} {ops : Array Oper} {md : Region.Mode} {S : World → Prop} {Q : Exit → Act → World → Prop}

/-- An operation's outcome is the value v, in a world that meets S and in which what was there is as it was. -/
def GivesB (P : Program) (S : World → Prop) (v : Value) (w : World) : Result Next → Prop
  | .ok (.value u) w' => u = v ∧ S w' ∧ Below w.heap.size w w'
  | .ok (.enter f args) w0 => w0 = w ∧ Calls P f args w fun e w' => e = .returned v ∧ S w' ∧ Below w.heap.size w w'
  | _ => False
/-- In the state a the operation o gives v, in whatever world that meets S. -/
def DetB (P : Program) (ops : Array Oper) (S : World → Prop) (o : Oper) (v : Value) (a : Act) : Prop :=
  (Region.wanted o (yielded ops a.tmps) = true ∧ ∀ w, S w → GivesB P S v w ((execOp a.eval o).run P w)) ∨ (Region.wanted o (yielded ops a.tmps) = false ∧ v = undef)
theorem DetB.same {o : Oper} {v : Value} {a a' : Act} (h : DetB P ops S o v a) (he : execOp a'.eval o = execOp a.eval o)
    (hw : Region.wanted o (yielded ops a'.tmps) = Region.wanted o (yielded ops a.tmps)) : DetB P ops S o v a' := by
  unfold DetB at *
  rw [he, hw]
  exact h
theorem DetB.run {i : Nat} {o : Oper} {v : Value} {a : Act} {w : World} {K : Act → World → Prop} (hi : ops[i]? = some o) (h : DetB P ops S o v a) (hS : S w)
    (hK : ∀ w', S w' → Below w.heap.size w w' → K (a.put o.dst v) w') : wpOp P ops Q i K a w := by
  unfold wpOp
  simp only [hi]
  rcases h with ⟨hw, hg⟩ | ⟨hw, rfl⟩
  · simp only [hw, if_true]
    refine .inl ?_
    have g := hg w hS
    unfold Oper.wp
    generalize (execOp a.eval o).run P w = r at g ⊢
    cases r with
    | halt x w' => exact g.elim
    | ok n w' =>
      cases n with
      | value u =>
        obtain ⟨rfl, hs, hb⟩ := g
        exact hK _ hs hb
      | enter f args =>
        obtain ⟨rfl, g⟩ := g
        exact Calls.mono g fun e w'' ⟨he, hs, hb⟩ => by subst he; exact hK _ hs hb
      | _ => exact g.elim
  · simp only [hw, Bool.false_eq_true, if_false]
    exact hK _ hS (Below.refl _ _)

/-- Operation i makes a new variable: a block of type t with the cells z. -/
def Makes (P : Program) (ops : Array Oper) (i : Nat) (t : TypeId) (z : Array Value) : Prop :=
  ∃ o d, ops[i]? = some o ∧ o.dst = some d ∧ o.guard = none ∧ ∀ ρ w, (execOp ρ o).run P w = .ok (.value (.pointer (some ⟨w.heap.size, 0, none⟩))) (w.alloc (.cells z t))
/-- What the temporary of operation i holds. -/
def slotOf (ops : Array Oper) (i : Nat) (a : Act) : Option Value := (ops[i]?.bind (·.dst)).bind (a.tmps[·]?)
/-- The new variables that are there: each has a block of its own. -/
def Held (ops : Array Oper) (J : List (Nat × TypeId × Array Value)) (base : Nat) (listed : Array Bool) (a : Act) (w : World) : Prop :=
  base ≤ w.heap.size ∧ (∀ x ∈ J, listed.getD x.1 false = true → ∃ g, slotOf ops x.1 a = some (.pointer (some ⟨g, 0, none⟩)) ∧ Row w g x.2.1 x.2.2 ∧ base ≤ g) ∧
  (∀ x ∈ J, ∀ y ∈ J, x.1 ≠ y.1 → listed.getD x.1 false = true → listed.getD y.1 false = true → slotOf ops x.1 a ≠ slotOf ops y.1 a)
/-- The temporaries of the new variables are apart from those of all other operations. -/
def ownDst (ops : Array Oper) (J : List (Nat × TypeId × Array Value)) (n : Nat) : Bool :=
  J.all fun x => (List.range ops.size).all fun j => j == x.1 || match ops[j]?, ops[x.1]? with
    | some oj, some ox => oj.dst != ox.dst
    | _, _ => false

theorem slotOf_put {i j : Nat} {oi oj : Oper} {a : Act} {v : Value} (hi : ops[i]? = some oi) (hj : ops[j]? = some oj) (h : oj.dst ≠ oi.dst) : slotOf ops i (a.put oj.dst v) = slotOf ops i a := by
  unfold slotOf
  simp only [hi, Option.bind_some]
  cases hd : oi.dst with
  | none => rfl
  | some d =>
    cases he : oj.dst with
    | none => rfl
    | some e =>
      have hne : e ≠ d := fun x => h (by rw [hd, he, x])
      simp [Act.put, Array.getElem?_setIfInBounds_ne hne]

theorem held_det {J : List (Nat × TypeId × Array Value)} {base j : Nat} {listed : Array Bool} {a : Act} {w w' : World} {oj : Oper} {v : Value} (hd : ownDst ops J 0 = true) (hM : ∀ x ∈ J, Makes P ops x.1 x.2.1 x.2.2)
    (hj : ops[j]? = some oj) (hjJ : ∀ x ∈ J, x.1 ≠ j) (h : Held ops J base listed a w) (hb : Below w.heap.size w w') : Held ops J base (listed.setIfInBounds j true) (a.put oj.dst v) w' := by
  obtain ⟨h0, h1, h2⟩ := h
  have hs : ∀ x ∈ J, slotOf ops x.1 (a.put oj.dst v) = slotOf ops x.1 a := fun x hx => by
    obtain ⟨o, d, ho, hdst, _⟩ := hM x hx
    refine slotOf_put ho hj ?_
    have hlt : j < ops.size := (Array.getElem?_eq_some_iff.1 hj).1
    have := List.all_eq_true.1 (List.all_eq_true.1 hd x hx) j (List.mem_range.2 hlt)
    simp only [hj, ho, Bool.or_eq_true, beq_iff_eq, bne_iff_ne] at this
    rcases this with h | h
    · exact absurd h.symm (hjJ x hx)
    · exact h
  have hl : ∀ x ∈ J, (listed.setIfInBounds j true).getD x.1 false = listed.getD x.1 false := fun x hx => getD_set_ne false (Ne.symm (hjJ x hx))
  refine ⟨Nat.le_trans h0 hb.size, fun x hx hlx => ?_, fun x hx y hy hne hlx hly => ?_⟩
  · rw [hl x hx] at hlx
    obtain ⟨g, e, r, b⟩ := h1 x hx hlx
    exact ⟨g, by rw [hs x hx]; exact e, row_call r hb, b⟩
  · rw [hl x hx] at hlx
    rw [hl y hy] at hly
    rw [hs x hx, hs y hy]
    exact h2 x hx y hy hne hlx hly

theorem held_make {J : List (Nat × TypeId × Array Value)} {base : Nat} {listed : Array Bool} {a : Act} {w : World} {x : Nat × TypeId × Array Value} {o : Oper} {d : Tmp} (hd : ownDst ops J 0 = true) (hM : ∀ x ∈ J, Makes P ops x.1 x.2.1 x.2.2)
    (hJ : ∀ x ∈ J, ∀ y ∈ J, x.1 = y.1 → x = y) (hx : x ∈ J) (ho : ops[x.1]? = some o) (hod : o.dst = some d) (hsz : d < a.tmps.size) (hun : listed.getD x.1 false = false) (h : Held ops J base listed a w) :
    Held ops J base (listed.setIfInBounds x.1 true) (a.put o.dst (.pointer (some ⟨w.heap.size, 0, none⟩))) (w.alloc (.cells x.2.2 x.2.1)) := by
  obtain ⟨h0, h1, h2⟩ := h
  have hown : slotOf ops x.1 (a.put o.dst (.pointer (some ⟨w.heap.size, 0, none⟩))) = some (.pointer (some ⟨w.heap.size, 0, none⟩)) := by
    simp [slotOf, ho, hod, Act.put, hsz]
  have hs : ∀ y ∈ J, y.1 ≠ x.1 → slotOf ops y.1 (a.put o.dst (.pointer (some ⟨w.heap.size, 0, none⟩))) = slotOf ops y.1 a := fun y hy hne => by
    obtain ⟨oy, dy, hoy, _, _⟩ := hM y hy
    refine slotOf_put hoy ho ?_
    have hlt : x.1 < ops.size := (Array.getElem?_eq_some_iff.1 ho).1
    have := List.all_eq_true.1 (List.all_eq_true.1 hd y hy) x.1 (List.mem_range.2 hlt)
    simp only [ho, hoy, Bool.or_eq_true, beq_iff_eq, bne_iff_ne] at this
    rcases this with h | h
    · exact absurd h (Ne.symm hne)
    · exact h
  have old : ∀ y ∈ J, y.1 ≠ x.1 → (listed.setIfInBounds x.1 true).getD y.1 false = true → ∃ g, slotOf ops y.1 a = some (.pointer (some ⟨g, 0, none⟩)) ∧ Row w g y.2.1 y.2.2 ∧ base ≤ g := fun y hy hne hl => by
    rw [getD_set_ne false (Ne.symm hne)] at hl
    exact h1 y hy hl
  refine ⟨by simp; omega, fun y hy hl => ?_, fun y hy z hz hne hly hlz => ?_⟩
  · by_cases hyx : y.1 = x.1
    · obtain rfl := hJ y hy x hx hyx
      exact ⟨w.heap.size, hown, row_new rfl, h0⟩
    · obtain ⟨g, e, r, b⟩ := old y hy hyx hl
      exact ⟨g, by rw [hs y hy hyx]; exact e, row_alloc r _, b⟩
  · by_cases hyx : y.1 = x.1
    · have hzx : z.1 ≠ x.1 := fun e => hne (hyx.trans e.symm)
      obtain ⟨g, e, r, b⟩ := old z hz hzx hlz
      rw [hyx, hown, hs z hz hzx, e]
      have := row_lt r
      intro he
      first | (simp at he; done) | (simp at he; omega)
    · by_cases hzx : z.1 = x.1
      · obtain ⟨g, e, r, b⟩ := old y hy hyx hly
        rw [hzx, hown, hs y hy hyx, e]
        have := row_lt r
        intro he
        first | (simp at he; done) | (simp at he; omega)
      · rw [hs y hy hyx, hs z hz hzx]
        rw [getD_set_ne false (Ne.symm hyx)] at hly
        rw [getD_set_ne false (Ne.symm hzx)] at hlz
        exact h2 y hy z hz hne hly hlz

/-- All operations of the list are done. -/
def doneB (HJ : List Nat) (listed : Array Bool) : Bool := HJ.all fun i => listed.getD i false
/-- The rest, in whatever order, from any world that meets S and holds the new variables. -/
def Leaf (P : Program) (md : Region.Mode) (ops : Array Oper) (Q : Exit → Act → World → Prop) (S : World → Prop) (J : List (Nat × TypeId × Array Value)) (base f : Nat) (listed : Array Bool) (a : Act) : Prop :=
  ∀ w, S w → Held ops J base listed a w → wpAny P md ops Q f listed a w
/-- Whatever order is picked: operations give their values, new variables may have any block, till all of HJ are done. -/
def AllA (P : Program) (md : Region.Mode) (ops : Array Oper) (Q : Exit → Act → World → Prop) (S : World → Prop) (J : List (Nat × TypeId × Array Value)) (HJ : List Nat) (base : Nat) : Nat → Array Bool → Act → Prop
  | 0, listed, a => doneB HJ listed = true ∧ Leaf P md ops Q S J base 0 listed a
  | f + 1, listed, a => (doneB HJ listed = true ∧ Leaf P md ops Q S J base (f + 1) listed a) ∨
    (doneB HJ listed = false ∧ Region.ready md ops listed ≠ [] ∧ ∀ i ∈ Region.ready md ops listed, ∃ o, ops[i]? = some o ∧
      (((∃ x ∈ J, x.1 = i) ∧ ∀ v, AllA P md ops Q S J HJ base f (listed.setIfInBounds i true) (a.put o.dst v)) ∨
       ((∀ x ∈ J, x.1 ≠ i) ∧ ∃ v, DetB P ops S o v a ∧ AllA P md ops Q S J HJ base f (listed.setIfInBounds i true) (a.put o.dst v))))

theorem put_size (a : Act) (d : Option Tmp) (v : Value) : (a.put d v).tmps.size = a.tmps.size := by cases d <;> simp [Act.put]
/-- What is asked of the new variables. -/
structure Fits (P : Program) (ops : Array Oper) (S : World → Prop) (J : List (Nat × TypeId × Array Value)) (n : Nat) : Prop where
  own : ownDst ops J 0 = true
  makes : ∀ x ∈ J, Makes P ops x.1 x.2.1 x.2.2
  uniq : ∀ x ∈ J, ∀ y ∈ J, x.1 = y.1 → x = y
  room : ∀ x ∈ J, ∀ o d, ops[x.1]? = some o → o.dst = some d → d < n
  keeps : ∀ x ∈ J, ∀ w, S w → S (w.alloc (.cells x.2.2 x.2.1))

theorem allA_any {J : List (Nat × TypeId × Array Value)} {HJ : List Nat} {base n : Nat} (F : Fits P ops S J n) : ∀ (f : Nat) (listed : Array Bool) (a : Act), a.tmps.size = n → AllA P md ops Q S J HJ base f listed a →
    ∀ w, S w → Held ops J base listed a w → wpAny P md ops Q f listed a w := by
  intro f
  induction f with
  | zero => exact fun listed a _ h w hS hH => h.2 w hS hH
  | succ f ih =>
    intro listed a hn h w hS hH
    rcases h with ⟨_, h⟩ | ⟨_, hne, h⟩
    · exact h w hS hH
    · refine ⟨fun h0 => absurd h0 hne, fun i hi => ?_⟩
      obtain ⟨o, ho, ⟨⟨x, hx, hxi⟩, hv⟩ | ⟨hJ, v, hd, hr⟩⟩ := h i hi
      · subst hxi
        obtain ⟨o', d, ho', hod, hg, hm⟩ := F.makes x hx
        obtain rfl : o' = o := Option.some.inj (ho'.symm.trans ho)
        unfold wpOp
        simp only [ho]
        rw [if_pos (by simp [Region.wanted, hg])]
        refine .inl ?_
        unfold Oper.wp
        rw [hm]
        exact ih _ _ (by rw [put_size]; exact hn) (hv _) _ (F.keeps x hx w hS) (held_make F.own F.makes F.uniq hx ho hod (by rw [hn]; exact F.room x hx o' d ho hod) (getD_both (mem_ready.1 hi).1) hH)
      · exact hd.run ho hS fun w' hS' hb => ih _ _ (by rw [put_size]; exact hn) hr _ hS' (held_det F.own F.makes ho hJ hH hb)

/-- What is done waits for nothing that is not done. -/
def Closed (md : Region.Mode) (ops : Array Oper) (listed : Array Bool) : Prop :=
  listed.size = ops.size ∧ ∀ j oj, ops[j]? = some oj → listed.getD j false = true → ∀ e ∈ oj.after, Region.binds md e = true → listed.getD e.on false = true
theorem Closed.set {i : Nat} {listed : Array Bool} (c : Closed md ops listed) (hi : i ∈ Region.ready md ops listed) : Closed md ops (listed.setIfInBounds i true) := by
  obtain ⟨_, oi, hoi, hall⟩ := mem_ready.1 hi
  refine ⟨by simp [c.1], fun j oj hj hl e he hb => ?_⟩
  by_cases hij : i = j
  · subst hij
    obtain rfl : oj = oi := Option.some.inj (hj.symm.trans hoi)
    exact getD_set_true (hall e he hb)
  · rw [getD_set_ne false hij] at hl
    exact getD_set_true (c.2 j oj hj hl e he hb)
/-- Operation t waits for operation h, at one or more removes. -/
def needsB (md : Region.Mode) (ops : Array Oper) : Nat → Nat → Nat → Bool
  | 0, _, _ => false
  | k + 1, t, h => match ops[t]? with
    | some o => o.after.any fun e => Region.binds md e && (e.on == h || (decide (h < e.on) && needsB md ops k e.on h))
    | none => false
theorem needs_listed {listed : Array Bool} (c : Closed md ops listed) : ∀ (k t h : Nat) (o : Oper), ops[t]? = some o → (∀ e ∈ o.after, Region.binds md e = true → listed.getD e.on false = true) → needsB md ops k t h = true → listed.getD h false = true
  | 0, _, _, _, _, _, hn => by simp [needsB] at hn
  | k + 1, t, h, o, ho, hall, hn => by
    simp only [needsB, ho, Array.any_eq_true'] at hn
    obtain ⟨e, he, hb⟩ := hn
    simp only [Bool.and_eq_true, Bool.or_eq_true, beq_iff_eq] at hb
    obtain ⟨hb, hor⟩ := hb
    have hl := hall e he hb
    rcases hor with rfl | ⟨_, hk⟩
    · exact hl
    · cases hoe : ops[e.on]? with
      | none => cases k <;> simp [needsB, hoe] at hk
      | some o' => exact needs_listed c k e.on h o' hoe (fun e' he' hb' => c.2 e.on o' hoe hl e' he' hb') hk

/-- Every operation beyond HJ and X waits for all of HJ. -/
def tailB (md : Region.Mode) (ops : Array Oper) (HJ X : List Nat) : Bool :=
  (List.range ops.size).all fun t => HJ.contains t || X.contains t || HJ.all fun h => needsB md ops ops.size t h
/-- Behind the operations of 'did' operation i may be taken. -/
def stepB (md : Region.Mode) (ops : Array Oper) (HJ X did : List Nat) (i : Nat) : Bool :=
  !HJ.contains i || X.all (fun x => did.contains x) || HJ.any fun h => h != i && needsB md ops ops.size h i

theorem allA_last {HJ X did : List Nat} {i j : Nat} {listed : Array Bool} (hT : tailB md ops HJ X = true) (hst : stepB md ops HJ X did i = true) (c : Closed md ops listed) (hdid : ∀ x ∈ did, listed.getD x false = true)
    (hr : i ∈ Region.ready md ops listed) (hj : j ∈ Region.ready md ops listed) (hji : j ≠ i) (hdn : doneB HJ listed = false) (hdone : doneB HJ (listed.setIfInBounds i true) = true) : False := by
  have hiun := getD_both (mem_ready.1 hr).1
  obtain ⟨hjun, oj, hoj, hdeps⟩ := mem_ready.1 hj
  have hjun' := getD_both hjun
  have all : ∀ x ∈ HJ, x ≠ i → listed.getD x false = true := fun x hx hxi => by
    have := List.all_eq_true.1 hdone x hx
    rwa [getD_set_ne false (Ne.symm hxi)] at this
  have hiH : i ∈ HJ := by
    by_cases h : i ∈ HJ
    · exact h
    · have : doneB HJ listed = true := List.all_eq_true.2 fun x hx => all x hx fun e => h (e ▸ hx)
      rw [this] at hdn
      cases hdn
  have hlt : j < ops.size := (Array.getElem?_eq_some_iff.1 hoj).1
  have ht := List.all_eq_true.1 hT j (List.mem_range.2 hlt)
  simp only [Bool.or_eq_true, List.contains_iff_mem] at ht
  rcases ht with (h | h) | h
  · rw [all j h hji] at hjun'
    cases hjun'
  · simp only [stepB, Bool.or_eq_true] at hst
    rcases hst with (hx | hx) | hh
    · have : HJ.contains i = true := by simpa using hiH
      rw [this] at hx
      cases hx
    · have := hdid j (by simpa using List.all_eq_true.1 hx j h)
      rw [this] at hjun'
      cases hjun'
    · obtain ⟨h', hh', hk⟩ := List.any_eq_true.1 hh
      simp only [Bool.and_eq_true, bne_iff_ne] at hk
      have hl := all h' hh' hk.1
      cases ho : ops[h']? with
      | none =>
        have := hk.2
        cases hs : ops.size <;> simp [hs, needsB, ho] at this
      | some o' =>
        have := needs_listed c _ h' i o' ho (fun e he hb => c.2 h' o' ho hl e he hb) hk.2
        rw [hiun] at this
        cases this
  · have := needs_listed c _ j i oj hoj hdeps (List.all_eq_true.1 h i hiH)
    rw [hiun] at this
    cases this

theorem allA_first {J : List (Nat × TypeId × Array Value)} {HJ X did : List Nat} {base i : Nat} {oi : Oper} {v : Value} (hi : ops[i]? = some oi) (hiJ : ∀ x ∈ J, x.1 ≠ i) (hsel : Region.noSelect ops = true)
    (hQ : ∀ c a w, Q (.panic c) (a.put oi.dst v) w → Q (.panic c) a w) (hown : ownDst ops J 0 = true) (hM : ∀ x ∈ J, Makes P ops x.1 x.2.1 x.2.2) (hT : tailB md ops HJ X = true) (hst : stepB md ops HJ X did i = true) :
    ∀ (f : Nat) (listed : Array Bool) (a : Act), Closed md ops listed → (∀ x ∈ did, listed.getD x false = true) →
      (∀ j oj, ops[j]? = some oj → j ≠ i → listed.getD j true = false → (∀ e ∈ oj.after, Region.binds md e = true → e.on ≠ i) → oi.apart ops oj = true) →
      i ∈ Region.ready md ops listed → DetB P ops S oi v a → (HJ.contains i = false → Yields P ops oi v a) → AllA P md ops Q S J HJ base f (listed.setIfInBounds i true) (a.put oi.dst v) →
      AllA P md ops Q S J HJ base (f + 1) listed a := by
  have hsi : ∀ cs b, oi.op ≠ .select cs b := fun cs b => Region.noSelect_spec hsel i oi cs b hi
  intro f
  induction f with
  | zero =>
    intro listed a c hdid hfree hr hd hy H
    obtain ⟨hdone, hleaf⟩ := H
    have hun := getD_both (mem_ready.1 hr).1
    by_cases hdn : doneB HJ listed = true
    · have hnot : HJ.contains i = false := by
        cases hc : HJ.contains i with
        | false => rfl
        | true =>
          have := List.all_eq_true.1 hdn i (by simpa using hc)
          rw [hun] at this
          cases this
      exact .inl ⟨hdn, fun w hS hH => wpAny_first hi (Region.noSelect_spec hsel) hQ 0 listed a w hfree hr (hy hnot) (hleaf w hS (held_det hown hM hi hiJ hH (Below.refl _ _)))⟩
    · refine .inr ⟨by simpa using hdn, fun h0 => by rw [h0] at hr; exact absurd hr (by simp), fun j hj => ?_⟩
      by_cases hji : j = i
      · subst hji
        exact ⟨oi, hi, .inr ⟨hiJ, v, hd, hdone, hleaf⟩⟩
      · exact (allA_last hT hst c hdid hr hj hji (by simpa using hdn) hdone).elim
  | succ f ih =>
    intro listed a c hdid hfree hr hd hy H
    have hun := getD_both (mem_ready.1 hr).1
    by_cases hdn : doneB HJ listed = true
    · have hnot : HJ.contains i = false := by
        cases hc : HJ.contains i with
        | false => rfl
        | true =>
          have := List.all_eq_true.1 hdn i (by simpa using hc)
          rw [hun] at this
          cases this
      have hdn' : doneB HJ (listed.setIfInBounds i true) = true := List.all_eq_true.2 fun x hx => getD_set_true (List.all_eq_true.1 hdn x hx)
      rcases H with ⟨_, hleaf⟩ | ⟨hno, _⟩
      · exact .inl ⟨hdn, fun w hS hH => wpAny_first hi (Region.noSelect_spec hsel) hQ (f + 1) listed a w hfree hr (hy hnot) (hleaf w hS (held_det hown hM hi hiJ hH (Below.refl _ _)))⟩
      · rw [hdn'] at hno
        cases hno
    · refine .inr ⟨by simpa using hdn, fun h0 => by rw [h0] at hr; exact absurd hr (by simp), fun j hj => ?_⟩
      by_cases hji : j = i
      · subst hji
        exact ⟨oi, hi, .inr ⟨hiJ, v, hd, H⟩⟩
      · rcases H with ⟨hdone, _⟩ | ⟨_, _, hall⟩
        · exact (allA_last hT hst c hdid hr hj hji (by simpa using hdn) hdone).elim
        · obtain ⟨hjun, oj', hoj', hdeps⟩ := mem_ready.1 hj
          obtain ⟨oj, hoj, hcase⟩ := hall j (ready_mono hj hji)
          obtain rfl : oj' = oj := Option.some.inj (hoj'.symm.trans hoj)
          have hap := hfree j oj' hoj hji hjun fun e he hb heq => by
            have h1 := hdeps e he hb
            rw [heq, hun] at h1
            cases h1
          obtain ⟨p1, p2, p3⟩ := Oper.apart_spec hap
          have hsj : ∀ cs b, oj'.op ≠ .select cs b := fun cs b => Region.noSelect_spec hsel j oj' cs b hoj
          have next : ∀ u, AllA P md ops Q S J HJ base f ((listed.setIfInBounds i true).setIfInBounds j true) ((a.put oi.dst v).put oj'.dst u) → AllA P md ops Q S J HJ base (f + 1) (listed.setIfInBounds j true) (a.put oj'.dst u) := fun u hu => by
            refine ih (listed.setIfInBounds j true) (a.put oj'.dst u) (c.set hj) (fun x hx => getD_set_true (hdid x hx)) (fun k ok hk hki hku hno => ?_) (ready_mono hr (Ne.symm hji))
              (hd.same (execOp_put oi hsi a oj'.dst u p3) (wanted_put oi a oj'.dst u p3)) (fun hc => (hy hc).of_same (execOp_put oi hsi a oj'.dst u p3) (wanted_put oi a oj'.dst u p3)) ?_
            · refine hfree k ok hk hki ?_ hno
              by_cases hjk : j = k
              · subst hjk
                exact hjun
              · rw [getD_set_ne true hjk] at hku
                exact hku
            · rw [Array.setIfInBounds_comm _ _ hji, ← Act.put_comm a v u p2]
              exact hu
          refine ⟨oj', hoj, ?_⟩
          rcases hcase with ⟨hx, hv⟩ | ⟨hx, u, hdj, hu⟩
          · exact .inl ⟨hx, fun u => next u (hv u)⟩
          · exact .inr ⟨hx, u, hdj.same (execOp_put oj' hsj a oi.dst v p1).symm (wanted_put oj' a oi.dst v p1).symm, next u hu⟩

/-- The plan: operations that are taken first, in this order. -/
def planB (md : Region.Mode) (ops : Array Oper) (HJ X : List Nat) : List Nat → List Nat → Array Bool → Bool
  | [], _, _ => true
  | i :: rest, did, listed => (Region.ready md ops listed).contains i && Region.free md ops listed i && stepB md ops HJ X did i && planB md ops HJ X rest (i :: did) (listed.setIfInBounds i true)
def afterPlan (plan : List Nat) (listed : Array Bool) : Array Bool := plan.foldl (fun l i => l.setIfInBounds i true) listed
/-- The walk along the plan. -/
def wpPlan (P : Program) (ops : Array Oper) (S : World → Prop) (HJ : List Nat) (R : Act → Prop) : List Nat → Act → Prop
  | [], a => R a
  | i :: rest, a => ∃ o v, ops[i]? = some o ∧ DetB P ops S o v a ∧ (HJ.contains i = false → Yields P ops o v a) ∧ wpPlan P ops S HJ R rest (a.put o.dst v)

theorem allA_plan {J : List (Nat × TypeId × Array Value)} {HJ X : List Nat} {base f n : Nat} {R : Act → Prop} (hsel : Region.noSelect ops = true)
    (hQ : ∀ c a d v w, Q (.panic c) (a.put d v) w → Q (.panic c) a w) (hown : ownDst ops J 0 = true) (hM : ∀ x ∈ J, Makes P ops x.1 x.2.1 x.2.2) (hT : tailB md ops HJ X = true) (plan : List Nat) :
    ∀ (did : List Nat) (listed : Array Bool) (a : Act), (∀ i ∈ plan, ∀ x ∈ J, x.1 ≠ i) → Closed md ops listed → (∀ x ∈ did, listed.getD x false = true) → a.tmps.size = n → planB md ops HJ X plan did listed = true → wpPlan P ops S HJ R plan a →
    (∀ a', R a' → a'.tmps.size = n → AllA P md ops Q S J HJ base f (afterPlan plan listed) a') → AllA P md ops Q S J HJ base (f + plan.length) listed a := by
  induction plan with
  | nil => exact fun did listed a _ _ _ hn _ h k => k a h hn
  | cons i rest ih =>
    intro did listed a hJ c hdid hn hB h k
    obtain ⟨o, v, ho, hd, hy, hrest⟩ := h
    simp only [planB, Bool.and_eq_true] at hB
    obtain ⟨⟨⟨hr, hf⟩, hst⟩, hB'⟩ := hB
    have hr' : i ∈ Region.ready md ops listed := by simpa using hr
    have hlt : i < listed.size := by rw [c.1]; exact (Array.getElem?_eq_some_iff.1 ho).1
    have hnext := ih (i :: did) (listed.setIfInBounds i true) (a.put o.dst v) (fun j hj => hJ j (List.mem_cons_of_mem _ hj)) (c.set hr') (fun x hx => by
      rcases List.mem_cons.1 hx with rfl | hx
      · simp [hlt]
      · exact getD_set_true (hdid x hx)) (by rw [put_size]; exact hn) hB' hrest k
    rw [List.length_cons, ← Nat.add_assoc]
    exact allA_first ho (hJ i (List.mem_cons_self ..)) hsel (fun c a w => hQ c a o.dst v w) hown hM hT hst (f + rest.length) listed a c hdid (Region.free_spec ho hf) hr' hd hy hnext

theorem closed_start (md : Region.Mode) (ops : Array Oper) : Closed md ops (Array.replicate ops.size false) :=
  ⟨by simp, fun j oj _ hl => by rw [getD_replicate_false] at hl; cases hl⟩

/-- No new variable. -/
theorem wp_region_free0 {id : Nat} {a : Act} {w : World} {l : List Oper} (plan X HJ : List Nat) (n : Nat) (S : World → Prop) (hm : P.follows .mixedOrders = true)
    (hB : (Region.noSelect l.toArray && tailB .any l.toArray HJ X && planB .any l.toArray HJ X plan [] (Array.replicate l.length false) && doneB HJ (afterPlan plan (Array.replicate l.length false)) &&
      decide (n + (l.drop n).length = l.length) && decide (n = plan.length) && Region.seqB .any l.toArray (l.drop n).length n (afterPlan plan (Array.replicate l.length false))) = true)
    (hQ : ∀ c a d v w, Q (.panic c) (a.put d v) w → Q (.panic c) a w) (hS : S w.drew)
    (h : wpPlan P l.toArray S HJ (fun a' => ∀ w', S w' → wpList P l.toArray Q (l.drop n) a' w') plan a) : (Code.region id l.toArray true).wp P Q a w := by
  simp only [Bool.and_eq_true, decide_eq_true_eq] at hB
  obtain ⟨⟨⟨⟨⟨⟨hsel, hT⟩, hpl⟩, hdone⟩, hlen⟩, hn⟩, hseq⟩ := hB
  have H := allA_plan (J := []) (base := 0) (f := (l.drop n).length) (Q := Q) hsel hQ rfl (fun _ h => by cases h) hT plan [] (Array.replicate l.toArray.size false) a (fun _ _ _ h => by cases h) (closed_start _ _) (fun _ h => by cases h) rfl (by simpa using hpl) h
    (fun a' hR _ => by
      have leaf : Leaf P .any l.toArray Q S [] 0 (l.drop n).length (afterPlan plan (Array.replicate l.toArray.size false)) a' := fun w' hS' _ =>
        wpAny_of_seq (l.drop n) n _ a' w' (fun j => by simp [List.getElem?_drop]) (by simpa using hseq) (hR w' hS')
      have hd : doneB HJ (afterPlan plan (Array.replicate l.toArray.size false)) = true := by simpa using hdone
      generalize (l.drop n).length = f at leaf ⊢
      cases f with
      | zero => exact ⟨hd, leaf⟩
      | succ f => exact .inl ⟨hd, leaf⟩)
  refine wp_region_any hm ?_
  have R := allA_any (Q := Q) (S := S) (J := []) (n := a.tmps.size) (md := .any) ⟨rfl, (fun _ h => by cases h), (fun _ h => by cases h), (fun _ h => by cases h), (fun _ h => by cases h)⟩ _ _ a rfl H w.drew hS ⟨Nat.zero_le _, (fun _ h => by cases h), (fun _ h => by cases h)⟩
  rw [← hn, Nat.add_comm, hlen] at R
  simpa using R

theorem leaf_all {J : List (Nat × TypeId × Array Value)} {HJ : List Nat} {base f : Nat} {listed : Array Bool} {a : Act} (hd : doneB HJ listed = true) (h : Leaf P md ops Q S J base f listed a) : AllA P md ops Q S J HJ base f listed a := by
  cases f with
  | zero => exact ⟨hd, h⟩
  | succ f => exact .inl ⟨hd, h⟩
/-- The next operation is a new variable. -/
theorem allA_new {J : List (Nat × TypeId × Array Value)} {HJ : List Nat} {base f : Nat} {listed : Array Bool} {a : Act} {x : Nat × TypeId × Array Value} (hx : x ∈ J) (hM : Makes P ops x.1 x.2.1 x.2.2) (hd : doneB HJ listed = false) (hr : Region.ready md ops listed = [x.1])
    (h : ∀ o v, ops[x.1]? = some o → AllA P md ops Q S J HJ base f (listed.setIfInBounds x.1 true) (a.put o.dst v)) : AllA P md ops Q S J HJ base (f + 1) listed a := by
  refine .inr ⟨hd, by rw [hr]; simp, fun i hi => ?_⟩
  rw [hr] at hi
  obtain rfl : i = x.1 := by simpa using hi
  obtain ⟨o, d, ho, _⟩ := hM
  exact ⟨o, ho, .inl ⟨⟨x, hx, rfl⟩, fun v => h o v ho⟩⟩

/-- One new variable. -/
theorem wp_region_free1 {id : Nat} {a : Act} {w : World} {l : List Oper} (plan X HJ : List Nat) (x : Nat × TypeId × Array Value) (dx : Tmp) (n : Nat) (S : World → Prop) (hm : P.follows .mixedOrders = true)
    (hB : (Region.noSelect l.toArray && tailB .any l.toArray HJ X && planB .any l.toArray HJ X plan [] (Array.replicate l.length false) && ownDst l.toArray [x] 0 && plan.all (fun i => i != x.1) &&
      !doneB HJ (afterPlan plan (Array.replicate l.length false)) && decide (Region.ready .any l.toArray (afterPlan plan (Array.replicate l.length false)) = [x.1]) && doneB HJ ((afterPlan plan (Array.replicate l.length false)).setIfInBounds x.1 true) &&
      decide (n + (l.drop n).length = l.length) && decide (n = plan.length + 1) && Region.seqB .any l.toArray (l.drop n).length n ((afterPlan plan (Array.replicate l.length false)).setIfInBounds x.1 true) && (afterPlan plan (Array.replicate l.length false)).size == l.length) = true)
    (hM : Makes P l.toArray x.1 x.2.1 x.2.2) (hdx : (l.toArray[x.1]?).bind (·.dst) = some dx) (hroom : dx < a.tmps.size) (hkeep : ∀ w, S w → S (w.alloc (.cells x.2.2 x.2.1)))
    (hQ : ∀ c a d v w, Q (.panic c) (a.put d v) w → Q (.panic c) a w) (hS : S w.drew)
    (h : wpPlan P l.toArray S HJ (fun a' => ∀ g w', S w' → Row w' g x.2.1 x.2.2 → w.heap.size ≤ g → wpList P l.toArray Q (l.drop n) (a'.put (some dx) (.pointer (some ⟨g, 0, none⟩))) w') plan a) : (Code.region id l.toArray true).wp P Q a w := by
  simp only [Bool.and_eq_true, decide_eq_true_eq, beq_iff_eq, Bool.not_eq_true'] at hB
  obtain ⟨⟨⟨⟨⟨⟨⟨⟨⟨⟨⟨hsel, hT⟩, hpl⟩, hown⟩, hnot⟩, hund⟩, hrd⟩, hdone⟩, hlen⟩, hn⟩, hseq⟩, hsz⟩ := hB
  have hMx : ∀ y ∈ [x], Makes P l.toArray y.1 y.2.1 y.2.2 := fun y hy => by
    obtain rfl : y = x := by simpa using hy
    exact hM
  have hlt : x.1 < l.length := by
    obtain ⟨o, d, ho, _⟩ := hM
    simpa using (Array.getElem?_eq_some_iff.1 ho).1
  have H := allA_plan (J := [x]) (base := w.heap.size) (f := (l.drop n).length + 1) (Q := Q) hsel hQ hown hMx hT plan [] (Array.replicate l.toArray.size false) a (fun i hi y hy => by
      obtain rfl : y = x := by simpa using hy
      have := List.all_eq_true.1 hnot i hi
      exact fun e => by simp [e] at this) (closed_start _ _) (fun _ h => by cases h) rfl (by simpa using hpl) h
    (fun a' hR ha' => by
      rw [List.size_toArray]
      refine allA_new (x := x) (by simp) hM hund hrd fun o v ho => leaf_all hdone fun w' hS' hH => ?_
      have hod : o.dst = some dx := by simpa [ho] using hdx
      obtain ⟨g, e, r, b⟩ := hH.2.1 x (by simp) (by simp [hsz, hlt])
      have hv : v = .pointer (some ⟨g, 0, none⟩) := by simpa [slotOf, ho, hod, Act.put, ha', hroom] using e
      subst hv
      rw [hod]
      exact wpAny_of_seq (l.drop n) n _ _ w' (fun j => by simp [List.getElem?_drop]) hseq (hR g w' hS' r b))
  refine wp_region_any hm ?_
  have R := allA_any (Q := Q) (S := S) (J := [x]) (n := a.tmps.size) (md := .any) ⟨hown, hMx, (fun y hy z hz _ => by simp at hy hz; rw [hy, hz]), (fun y hy o d ho hd => by
    obtain rfl : y = x := by simpa using hy
    obtain rfl : d = dx := by simpa [ho, hd] using hdx
    exact hroom), (fun y hy => by
    obtain rfl : y = x := by simpa using hy
    exact hkeep)⟩ _ _ a rfl H w.drew hS ⟨Nat.le_refl _, (fun y hy hl => by rw [getD_replicate_false] at hl; cases hl), (fun y hy z hz _ hl => by rw [getD_replicate_false] at hl; cases hl)⟩
  have e : (l.drop n).length + 1 + plan.length = l.toArray.size := by simp only [List.size_toArray]; omega
  rw [e] at R
  exact R

/-- Two new variables. -/
theorem wp_region_free2 {id : Nat} {a : Act} {w : World} {l : List Oper} (plan X HJ : List Nat) (x y : Nat × TypeId × Array Value) (dx dy : Tmp) (n : Nat) (S : World → Prop) (hm : P.follows .mixedOrders = true)
    (hB : (Region.noSelect l.toArray && tailB .any l.toArray HJ X && planB .any l.toArray HJ X plan [] (Array.replicate l.length false) && ownDst l.toArray [x, y] 0 && plan.all (fun i => i != x.1 && i != y.1) &&
      !doneB HJ (afterPlan plan (Array.replicate l.length false)) && decide (Region.ready .any l.toArray (afterPlan plan (Array.replicate l.length false)) = [x.1, y.1]) &&
      !doneB HJ ((afterPlan plan (Array.replicate l.length false)).setIfInBounds x.1 true) && decide (Region.ready .any l.toArray ((afterPlan plan (Array.replicate l.length false)).setIfInBounds x.1 true) = [y.1]) &&
      !doneB HJ ((afterPlan plan (Array.replicate l.length false)).setIfInBounds y.1 true) && decide (Region.ready .any l.toArray ((afterPlan plan (Array.replicate l.length false)).setIfInBounds y.1 true) = [x.1]) &&
      doneB HJ (((afterPlan plan (Array.replicate l.length false)).setIfInBounds x.1 true).setIfInBounds y.1 true) &&
      decide (n + (l.drop n).length = l.length) && decide (n = plan.length + 2) && Region.seqB .any l.toArray (l.drop n).length n (((afterPlan plan (Array.replicate l.length false)).setIfInBounds x.1 true).setIfInBounds y.1 true) && (afterPlan plan (Array.replicate l.length false)).size == l.length && x.1 != y.1 && dx != dy) = true)
    (hMx : Makes P l.toArray x.1 x.2.1 x.2.2) (hMy : Makes P l.toArray y.1 y.2.1 y.2.2) (hdx : (l.toArray[x.1]?).bind (·.dst) = some dx) (hdy : (l.toArray[y.1]?).bind (·.dst) = some dy) (hrx : dx < a.tmps.size) (hry : dy < a.tmps.size)
    (hkx : ∀ w, S w → S (w.alloc (.cells x.2.2 x.2.1))) (hky : ∀ w, S w → S (w.alloc (.cells y.2.2 y.2.1)))
    (hQ : ∀ c a d v w, Q (.panic c) (a.put d v) w → Q (.panic c) a w) (hS : S w.drew)
    (h : wpPlan P l.toArray S HJ (fun a' => ∀ g k w', S w' → Row w' g x.2.1 x.2.2 → Row w' k y.2.1 y.2.2 → g ≠ k → w.heap.size ≤ g → w.heap.size ≤ k →
      wpList P l.toArray Q (l.drop n) ((a'.put (some dx) (.pointer (some ⟨g, 0, none⟩))).put (some dy) (.pointer (some ⟨k, 0, none⟩))) w') plan a) : (Code.region id l.toArray true).wp P Q a w := by
  simp only [Bool.and_eq_true, decide_eq_true_eq, beq_iff_eq, bne_iff_ne, Bool.not_eq_true'] at hB
  obtain ⟨⟨⟨⟨⟨⟨⟨⟨⟨⟨⟨⟨⟨⟨⟨⟨⟨hsel, hT⟩, hpl⟩, hown⟩, hnot⟩, hu0⟩, hr0⟩, hux⟩, hrdx⟩, huy⟩, hrdy⟩, hdone⟩, hlen⟩, hn⟩, hseq⟩, hsz⟩, hxy⟩, hdd⟩ := hB
  have mem : ∀ z ∈ [x, y], z = x ∨ z = y := fun z hz => by simpa using hz
  have hM : ∀ z ∈ [x, y], Makes P l.toArray z.1 z.2.1 z.2.2 := fun z hz => by
    rcases mem z hz with rfl | rfl
    · exact hMx
    · exact hMy
  have hltx : x.1 < l.length := by
    obtain ⟨o, d, ho, _⟩ := hMx
    simpa using (Array.getElem?_eq_some_iff.1 ho).1
  have hlty : y.1 < l.length := by
    obtain ⟨o, d, ho, _⟩ := hMy
    simpa using (Array.getElem?_eq_some_iff.1 ho).1
  have last : ∀ a' : Act, (∀ g k w', S w' → Row w' g x.2.1 x.2.2 → Row w' k y.2.1 y.2.2 → g ≠ k → w.heap.size ≤ g → w.heap.size ≤ k →
      wpList P l.toArray Q (l.drop n) ((a'.put (some dx) (.pointer (some ⟨g, 0, none⟩))).put (some dy) (.pointer (some ⟨k, 0, none⟩))) w') → a'.tmps.size = a.tmps.size → ∀ v u,
      Leaf P .any l.toArray Q S [x, y] w.heap.size (l.drop n).length (((afterPlan plan (Array.replicate l.length false)).setIfInBounds x.1 true).setIfInBounds y.1 true) ((a'.put (some dx) v).put (some dy) u) := by
    intro a' hR ha' v u w' hS' hH
    obtain ⟨ox, _, hox, _⟩ := hMx
    obtain ⟨oy, _, hoy, _⟩ := hMy
    have hodx : ox.dst = some dx := by simpa [hox] using hdx
    have hody : oy.dst = some dy := by simpa [hoy] using hdy
    have hlx : (((afterPlan plan (Array.replicate l.length false)).setIfInBounds x.1 true).setIfInBounds y.1 true).getD x.1 false = true := by rw [getD_set_ne false (Ne.symm hxy)]; simp [hsz, hltx]
    have hly : (((afterPlan plan (Array.replicate l.length false)).setIfInBounds x.1 true).setIfInBounds y.1 true).getD y.1 false = true := by simp [hsz, hlty]
    obtain ⟨g, ex, rx, bx⟩ := hH.2.1 x (by simp) hlx
    obtain ⟨k, ey, ry, bk⟩ := hH.2.1 y (by simp) hly
    have hne := hH.2.2 x (by simp) y (by simp) hxy hlx hly
    rw [ex, ey] at hne
    have e1 : slotOf l.toArray x.1 ((a'.put (some dx) v).put (some dy) u) = some v := by
      rw [← hody, slotOf_put hox hoy (by rw [hodx, hody]; intro e; injection e with e; exact hdd e.symm)]
      simp [slotOf, hox, hodx, Act.put, ha', hrx]
    have hv : v = .pointer (some ⟨g, 0, none⟩) := by
      rw [e1] at ex
      injection ex
    have hu : u = .pointer (some ⟨k, 0, none⟩) := by simpa [slotOf, hoy, hody, Act.put, ha', hry] using ey
    subst hv hu
    exact wpAny_of_seq (l.drop n) n _ _ w' (fun j => by simp [List.getElem?_drop]) hseq (hR g k w' hS' rx ry (fun e => hne (by rw [e])) bx bk)
  have H := allA_plan (J := [x, y]) (base := w.heap.size) (f := (l.drop n).length + 1 + 1) (Q := Q) hsel hQ hown hM hT plan [] (Array.replicate l.toArray.size false) a (fun i hi z hz => by
      have := List.all_eq_true.1 hnot i hi
      simp only [Bool.and_eq_true, bne_iff_ne] at this
      rcases mem z hz with rfl | rfl
      · exact fun e => this.1 e.symm
      · exact fun e => this.2 e.symm) (closed_start _ _) (fun _ h => by cases h) rfl (by simpa using hpl) h
    (fun a' hR ha' => by
      show AllA P .any l.toArray Q S [x, y] HJ w.heap.size ((l.drop n).length + 1 + 1) (afterPlan plan (Array.replicate l.length false)) a'
      refine .inr ⟨hu0, by rw [hr0]; simp, fun i hi => ?_⟩
      rw [hr0] at hi
      obtain ⟨ox, _, hox, _⟩ := hMx
      obtain ⟨oy, _, hoy, _⟩ := hMy
      have hodx : ox.dst = some dx := by simpa [hox] using hdx
      have hody : oy.dst = some dy := by simpa [hoy] using hdy
      rcases (show i = x.1 ∨ i = y.1 from by simpa using hi) with rfl | rfl
      · refine ⟨ox, hox, .inl ⟨⟨x, by simp, rfl⟩, fun v => allA_new (x := y) (by simp) (hM y (by simp)) hux hrdx fun o u ho => ?_⟩⟩
        obtain rfl : o = oy := Option.some.inj (ho.symm.trans hoy)
        rw [hodx, hody]
        exact leaf_all hdone (last a' hR ha' v u)
      · refine ⟨oy, hoy, .inl ⟨⟨y, by simp, rfl⟩, fun u => allA_new (x := x) (by simp) (hM x (by simp)) huy hrdy fun o v ho => ?_⟩⟩
        obtain rfl : o = ox := Option.some.inj (ho.symm.trans hox)
        rw [hodx, hody, Array.setIfInBounds_comm _ _ (Ne.symm hxy), Act.put_comm a' u v (fun d hd he => hdd (by simp at hd he; rw [he, hd]))]
        exact leaf_all hdone (last a' hR ha' v u))
  refine wp_region_any hm ?_
  have R := allA_any (Q := Q) (S := S) (J := [x, y]) (n := a.tmps.size) (md := .any) ⟨hown, hM, (fun z hz t ht e => by
    rcases mem z hz with rfl | rfl <;> rcases mem t ht with rfl | rfl
    · rfl
    · exact absurd e hxy
    · exact absurd e.symm hxy
    · rfl), (fun z hz o d ho hd => by
    rcases mem z hz with rfl | rfl
    · obtain rfl : d = dx := by simpa [ho, hd] using hdx
      exact hrx
    · obtain rfl : d = dy := by simpa [ho, hd] using hdy
      exact hry), (fun z hz => by
    rcases mem z hz with rfl | rfl
    · exact hkx
    · exact hky)⟩ _ _ a rfl H w.drew hS ⟨Nat.le_refl _, (fun y hy hl => by rw [getD_replicate_false] at hl; cases hl), (fun y hy z hz _ hl => by rw [getD_replicate_false] at hl; cases hl)⟩
  have e : (l.drop n).length + 1 + 1 + plan.length = l.toArray.size := by simp only [List.size_toArray]; omega
  rw [e] at R
  exact R

theorem plan_nil {HJ : List Nat} {R : Act → Prop} {a : Act} (h : R a) : wpPlan P ops S HJ R [] a := h
/-- An operation that leaves the world alone. -/
theorem plan_val {HJ plan : List Nat} {R : Act → Prop} {a : Act} {i : Nat} {l : List Oper} {o : Oper} (v : Value) (ho : l[i]? = some o) (hg : Region.wanted o (yielded l.toArray a.tmps) = true) (hH : HJ.contains i = true)
    (h : ∀ w, S w → (execOp a.eval o).run P w = .ok (.value v) w) (k : wpPlan P l.toArray S HJ R plan (a.put o.dst v)) : wpPlan P l.toArray S HJ R (i :: plan) a :=
  ⟨o, v, (by simpa using ho), .inl ⟨hg, fun w hw => by rw [h w hw]; exact ⟨rfl, hw, Below.refl _ _⟩⟩, (fun c => (by rw [hH] at c; cases c)), k⟩
/-- An operation that asks nothing of the world. -/
theorem plan_pure {HJ plan : List Nat} {R : Act → Prop} {a : Act} {i : Nat} {l : List Oper} {o : Oper} (v : Value) (ho : l[i]? = some o) (hg : Region.wanted o (yielded l.toArray a.tmps) = true)
    (h : ∀ w, (execOp a.eval o).run P w = .ok (.value v) w) (k : wpPlan P l.toArray S HJ R plan (a.put o.dst v)) : wpPlan P l.toArray S HJ R (i :: plan) a :=
  ⟨o, v, (by simpa using ho), .inl ⟨hg, fun w hw => by rw [h w]; exact ⟨rfl, hw, Below.refl _ _⟩⟩, fun _ => .inl ⟨hg, h⟩, k⟩
/-- A guarded operation that is passed over. -/
theorem plan_not {HJ plan : List Nat} {R : Act → Prop} {a : Act} {i : Nat} {l : List Oper} {o : Oper} (ho : l[i]? = some o) (hg : Region.wanted o (yielded l.toArray a.tmps) = false)
    (k : wpPlan P l.toArray S HJ R plan (a.put o.dst undef)) : wpPlan P l.toArray S HJ R (i :: plan) a := ⟨o, undef, (by simpa using ho), .inr ⟨hg, rfl⟩, fun _ => .inr ⟨hg, rfl⟩, k⟩
/-- A call of a Go function. -/
theorem plan_call {HJ plan : List Nat} {R : Act → Prop} {a : Act} {i : Nat} {l : List Oper} {o : Oper} (v : Value) (f : FuncId) (args : Array Value) (ho : l[i]? = some o) (hg : Region.wanted o (yielded l.toArray a.tmps) = true) (hH : HJ.contains i = true)
    (hS : ∀ w w', S w → Below w.heap.size w w' → S w') (h : ∀ w, S w → (execOp a.eval o).run P w = .ok (.enter f args) w) (c : ∀ w, S w → Calls P f args w fun e w' => e = .returned v ∧ Below w.heap.size w w')
    (k : wpPlan P l.toArray S HJ R plan (a.put o.dst v)) : wpPlan P l.toArray S HJ R (i :: plan) a :=
  ⟨o, v, (by simpa using ho), .inl ⟨hg, fun w hw => by rw [h w hw]; exact ⟨rfl, (c w hw).mono fun e w' ⟨he, hb⟩ => ⟨he, hS w w' hw hb, hb⟩⟩⟩, (fun c => (by rw [hH] at c; cases c)), k⟩
end
end Go.Proofs.YtdipoojjlddohaaGreat
end
section
/- What makes arguments out of any numbers, walked. -/
set_option linter.unusedVariables false
set_option linter.unusedSimpArgs false
set_option linter.unusedSectionVars false
set_option linter.unnecessarySimpa false
namespace Go.Proofs.YtdipoojjlddohaaGreat
open Go.RowKit
theorem tmod_mod {a n : Int} (hn : 1 ≤ n) : a % n = if a.tmod n < 0 then a.tmod n + n else a.tmod n := by
  rw [Int.tmod_eq_emod]
  have h0 := Int.emod_nonneg a (show n ≠ 0 by omega)
  have h1 := Int.emod_lt_of_pos a (show 0 < n by omega)
  have hd : n.natAbs = n := by omega
  split
  · rw [if_neg (by omega)]
    omega
  · rename_i h
    rw [not_or] at h
    have h2 : a % n ≠ 0 := fun e => h.2 (Int.dvd_of_emod_eq_zero e)
    rw [if_pos (by omega)]
    omega
theorem tmod_bd {a n : Int} (hn : 1 ≤ n) : -n < a.tmod n ∧ a.tmod n < n := by
  have := tmod_mod (a := a) hn
  have h0 := Int.emod_nonneg a (show n ≠ 0 by omega)
  have h1 := Int.emod_lt_of_pos a (show 0 < n by omega)
  rw [Int.tmod_eq_emod]
  have hd : n.natAbs = n := by omega
  split
  · omega
  · rename_i h
    rw [not_or] at h
    have h2 : a % n ≠ 0 := fun e => h.2 (Int.dvd_of_emod_eq_zero e)
    omega
theorem pmod (a n : Int) (hn : 1 ≤ n) (hn2 : n ≤ 4611686018427387904) (w : World) : Calls Tryz.prog 8 #[.int .i64 a, .int .i64 n] w fun e w' => e = .returned (.int .i64 (a % n)) ∧ w' = w := by
  rw [tmod_mod hn]
  have hb := tmod_bd (a := a) hn
  have hz : n ≠ 0 := by omega
  have hm1 : ¬ n = -1 := by omega
  obtain ⟨b1, b2⟩ := hb
  have hw : IntKind.i64.wrap (a.tmod n) = a.tmod n := IntWalk.i64_in _ (by omega)
  by_cases h : a.tmod n < 0
  · rw [if_pos h]
    have hw2 : IntKind.i64.wrap (a.tmod n + n) = a.tmod n + n := IntWalk.i64_in _ (by omega)
    go_enter Tryz.func8, Tryz.ntmps8
    go_wp2
    go_ret
    exact ⟨by first | rfl | simp_all, rfl⟩
  · rw [if_neg h]
    have h' : 0 ≤ a.tmod n := by omega
    go_enter Tryz.func8, Tryz.ntmps8
    go_wp2
    go_ret
    exact ⟨by first | rfl | simp_all, rfl⟩
theorem pint (a n : Int) (hn : 1 ≤ n) (hn2 : n ≤ 4611686018427387904) (w : World) : Calls Tryz.prog 9 #[.int .i64 a, .int .i64 n] w fun e w' => e = .returned (.int .i64 (a % n)) ∧ w' = w := by
  have PM := Lib.hid (fun w => pmod a n hn hn2 w)
  have h0 := Int.emod_nonneg a (show n ≠ 0 by omega)
  have h1 := Int.emod_lt_of_pos a (show 0 < n by omega)
  generalize a % n = r at PM h0 h1 ⊢
  go_enter Tryz.func9, Tryz.ntmps9
  go_wp2_with (go_at_call 8; with_reducible refine (PM.out _).mono ?_; rintro e w9 ⟨rfl, rfl⟩)
  go_ret
  exact ⟨rfl, rfl⟩
/-- The value that a number is turned into. -/
def mval (a : Int) : Int := if a % 8 = 0 then a.tdiv 8 % 8193 - 4096 else if a % 8 = 1 then 4096 * (2 * (a.tdiv 8 % 2) - 1) else a.tdiv 8 % 13 - 6
theorem mval_bd (a : Int) : -4096 ≤ mval a ∧ mval a ≤ 4096 := by unfold mval; split <;> (try split) <;> omega
/-- The step of the clock that a number is turned into. -/
def mgap (a w : Int) : Int := if a % 8 = 0 then a.tdiv 8 % (2 * w + 2) else if a % 8 = 1 ∨ a % 8 = 2 then 1 + a.tdiv 8 % 3 else 0
theorem mgap_bd (a : Int) {w : Int} (hw : 1 ≤ w) : 0 ≤ mgap a w ∧ mgap a w ≤ 2 * w + 1 := by
  unfold mgap
  have h0 := Int.emod_nonneg (a.tdiv 8) (show 2 * w + 2 ≠ 0 by omega)
  have h1 := Int.emod_lt_of_pos (a.tdiv 8) (show 0 < 2 * w + 2 by omega)
  split <;> (try split) <;> omega
theorem tdiv8_bd {a : Int} (h : -9223372036854775808 ≤ a ∧ a ≤ 9223372036854775807) : -9223372036854775808 ≤ a.tdiv 8 ∧ a.tdiv 8 ≤ 9223372036854775807 := by
  rw [Int.tdiv_eq_ediv, show Int.sign 8 = 1 from rfl]
  split <;> omega
theorem pval_0 (a : Int) (ha : -9223372036854775808 ≤ a ∧ a ≤ 9223372036854775807) (h : a % 8 = 0) (w0 : World) : Calls Tryz.prog 36 #[.int .i64 a] w0 fun e w' => e = .returned (.int .i64 (mval a)) ∧ w' = w0 := by
  rw [mval, if_pos h]
  have hbb := tdiv8_bd ha
  have hw : IntKind.i64.wrap (a.tdiv 8) = a.tdiv 8 := IntWalk.i64_in _ hbb
  have P8 := fun w => pmod a 8 (by decide) (by decide) w
  rw [h] at P8
  have PB := fun w => pmod (a.tdiv 8) 8193 (by decide) (by decide) w
  have b0 := Int.emod_nonneg (a.tdiv 8) (show (8193 : Int) ≠ 0 by decide)
  have b1 := Int.emod_lt_of_pos (a.tdiv 8) (show (0 : Int) < 8193 by decide)
  generalize a.tdiv 8 % 8193 = q at PB b0 b1 ⊢
  have P8 := Lib.hid P8
  have PB := Lib.hid PB
  clear h hbb
  go_enter Tryz.func36, Tryz.ntmps36
  go_wp2_with (first | (go_at_call 8; with_reducible refine (P8.out _).mono ?_; rintro e w9 ⟨rfl, rfl⟩) | (go_at_call 8; with_reducible refine (PB.out _).mono ?_; rintro e w9 ⟨rfl, rfl⟩))
  go_ret
  exact ⟨rfl, rfl⟩
theorem pval_1 (a : Int) (ha : -9223372036854775808 ≤ a ∧ a ≤ 9223372036854775807) (h0 : ¬ a % 8 = 0) (h : a % 8 = 1) (w0 : World) : Calls Tryz.prog 36 #[.int .i64 a] w0 fun e w' => e = .returned (.int .i64 (mval a)) ∧ w' = w0 := by
  rw [mval, if_neg h0, if_pos h]
  have hbb := tdiv8_bd ha
  have hw : IntKind.i64.wrap (a.tdiv 8) = a.tdiv 8 := IntWalk.i64_in _ hbb
  have P8 := fun w => pmod a 8 (by decide) (by decide) w
  rw [h] at P8
  have PB := fun w => pmod (a.tdiv 8) 2 (by decide) (by decide) w
  have b0 := Int.emod_nonneg (a.tdiv 8) (show (2 : Int) ≠ 0 by decide)
  have b1 := Int.emod_lt_of_pos (a.tdiv 8) (show (0 : Int) < 2 by decide)
  generalize a.tdiv 8 % 2 = q at PB b0 b1 ⊢
  have P8 := Lib.hid P8
  have PB := Lib.hid PB
  clear h0 h hbb
  go_enter Tryz.func36, Tryz.ntmps36
  go_wp2_with (first | (go_at_call 8; with_reducible refine (P8.out _).mono ?_; rintro e w9 ⟨rfl, rfl⟩) | (go_at_call 8; with_reducible refine (PB.out _).mono ?_; rintro e w9 ⟨rfl, rfl⟩))
  go_ret
  exact ⟨rfl, rfl⟩
theorem pval_2 (a : Int) (ha : -9223372036854775808 ≤ a ∧ a ≤ 9223372036854775807) (h0 : ¬ a % 8 = 0) (h : ¬ a % 8 = 1) (w0 : World) : Calls Tryz.prog 36 #[.int .i64 a] w0 fun e w' => e = .returned (.int .i64 (mval a)) ∧ w' = w0 := by
  rw [mval, if_neg h0, if_neg h]
  have hbb := tdiv8_bd ha
  have hw : IntKind.i64.wrap (a.tdiv 8) = a.tdiv 8 := IntWalk.i64_in _ hbb
  have P8 := fun w => pmod a 8 (by decide) (by decide) w
  generalize a % 8 = r8 at P8 h0 h
  have c0 : (r8 == 0) = false := by simpa using h0
  have c1 : (r8 == 1) = false := by simpa using h
  have PB := fun w => pmod (a.tdiv 8) 13 (by decide) (by decide) w
  have b0 := Int.emod_nonneg (a.tdiv 8) (show (13 : Int) ≠ 0 by decide)
  have b1 := Int.emod_lt_of_pos (a.tdiv 8) (show (0 : Int) < 13 by decide)
  generalize a.tdiv 8 % 13 = q at PB b0 b1 ⊢
  have P8 := Lib.hid P8
  have PB := Lib.hid PB
  clear h0 h hbb
  go_enter Tryz.func36, Tryz.ntmps36
  go_wp2_with (first | (go_at_call 8; with_reducible refine (P8.out _).mono ?_; rintro e w9 ⟨rfl, rfl⟩) | (go_at_call 8; with_reducible refine (PB.out _).mono ?_; rintro e w9 ⟨rfl, rfl⟩))
  go_ret
  exact ⟨rfl, rfl⟩
theorem pval (a : Int) (ha : -9223372036854775808 ≤ a ∧ a ≤ 9223372036854775807) (w : World) : Calls Tryz.prog 36 #[.int .i64 a] w fun e w' => e = .returned (.int .i64 (mval a)) ∧ w' = w := by
  by_cases h0 : a % 8 = 0
  · exact pval_0 a ha h0 w
  · by_cases h1 : a % 8 = 1
    · exact pval_1 a ha h0 h1 w
    · exact pval_2 a ha h0 h1 w
theorem pgap_0 (a : Int) (w : Int) (hw1 : 1 ≤ w) (hw2 : w ≤ 1048576) (ha : -9223372036854775808 ≤ a ∧ a ≤ 9223372036854775807) (h : a % 8 = 0) (w0 : World) : Calls Tryz.prog 35 #[.int .i64 a, .int .i64 w] w0 fun e w' => e = .returned (.int .i64 (mgap a w)) ∧ w' = w0 := by
  rw [mgap, if_pos h]
  have hbb := tdiv8_bd ha
  have hw : IntKind.i64.wrap (a.tdiv 8) = a.tdiv 8 := IntWalk.i64_in _ hbb
  have P8 := fun w => pmod a 8 (by decide) (by decide) w
  rw [h] at P8
  have PB := fun w' => pmod (a.tdiv 8) (2 * w + 2) (by omega) (by omega) w'
  have b0 := Int.emod_nonneg (a.tdiv 8) (show ((2 * w + 2) : Int) ≠ 0 by omega)
  have b1 := Int.emod_lt_of_pos (a.tdiv 8) (show (0 : Int) < (2 * w + 2) by omega)
  generalize a.tdiv 8 % (2 * w + 2) = q at PB b0 b1 ⊢
  have PB := Lib.hid PB
  have P8 := Lib.hid P8
  clear h hbb
  go_enter Tryz.func35, Tryz.ntmps35
  go_wp2_with (first | (go_at_call 8; with_reducible refine (P8.out _).mono ?_; rintro e w9 ⟨rfl, rfl⟩) | (go_at_call 8; with_reducible refine (PB.out _).mono ?_; rintro e w9 ⟨rfl, rfl⟩))
  go_ret
  exact ⟨rfl, rfl⟩
theorem pgap_1 (a : Int) (w : Int) (hw1 : 1 ≤ w) (hw2 : w ≤ 1048576) (ha : -9223372036854775808 ≤ a ∧ a ≤ 9223372036854775807) (h0 : ¬ a % 8 = 0) (h : a % 8 = 1) (w0 : World) : Calls Tryz.prog 35 #[.int .i64 a, .int .i64 w] w0 fun e w' => e = .returned (.int .i64 (mgap a w)) ∧ w' = w0 := by
  rw [mgap, if_neg h0, if_pos (Or.inl h)]
  have hbb := tdiv8_bd ha
  have hw : IntKind.i64.wrap (a.tdiv 8) = a.tdiv 8 := IntWalk.i64_in _ hbb
  have P8 := fun w => pmod a 8 (by decide) (by decide) w
  rw [h] at P8
  have PB := fun w' => pmod (a.tdiv 8) 3 (by omega) (by omega) w'
  have b0 := Int.emod_nonneg (a.tdiv 8) (show (3 : Int) ≠ 0 by omega)
  have b1 := Int.emod_lt_of_pos (a.tdiv 8) (show (0 : Int) < 3 by omega)
  generalize a.tdiv 8 % 3 = q at PB b0 b1 ⊢
  have PB := Lib.hid PB
  have P8 := Lib.hid P8
  clear h0 h hbb
  go_enter Tryz.func35, Tryz.ntmps35
  go_wp2_with (first | (go_at_call 8; with_reducible refine (P8.out _).mono ?_; rintro e w9 ⟨rfl, rfl⟩) | (go_at_call 8; with_reducible refine (PB.out _).mono ?_; rintro e w9 ⟨rfl, rfl⟩))
  go_ret
  exact ⟨rfl, rfl⟩
theorem pgap_2 (a : Int) (w : Int) (hw1 : 1 ≤ w) (hw2 : w ≤ 1048576) (ha : -9223372036854775808 ≤ a ∧ a ≤ 9223372036854775807) (h0 : ¬ a % 8 = 0) (h : a % 8 = 2) (w0 : World) : Calls Tryz.prog 35 #[.int .i64 a, .int .i64 w] w0 fun e w' => e = .returned (.int .i64 (mgap a w)) ∧ w' = w0 := by
  rw [mgap, if_neg h0, if_pos (Or.inr h)]
  have hbb := tdiv8_bd ha
  have hw : IntKind.i64.wrap (a.tdiv 8) = a.tdiv 8 := IntWalk.i64_in _ hbb
  have P8 := fun w => pmod a 8 (by decide) (by decide) w
  rw [h] at P8
  have PB := fun w' => pmod (a.tdiv 8) 3 (by omega) (by omega) w'
  have b0 := Int.emod_nonneg (a.tdiv 8) (show (3 : Int) ≠ 0 by omega)
  have b1 := Int.emod_lt_of_pos (a.tdiv 8) (show (0 : Int) < 3 by omega)
  generalize a.tdiv 8 % 3 = q at PB b0 b1 ⊢
  have PB := Lib.hid PB
  have P8 := Lib.hid P8
  clear h0 h hbb
  go_enter Tryz.func35, Tryz.ntmps35
  go_wp2_with (first | (go_at_call 8; with_reducible refine (P8.out _).mono ?_; rintro e w9 ⟨rfl, rfl⟩) | (go_at_call 8; with_reducible refine (PB.out _).mono ?_; rintro e w9 ⟨rfl, rfl⟩))
  go_ret
  exact ⟨rfl, rfl⟩
theorem pgap_3 (a : Int) (w : Int) (hw1 : 1 ≤ w) (hw2 : w ≤ 1048576) (ha : -9223372036854775808 ≤ a ∧ a ≤ 9223372036854775807) (h0 : ¬ a % 8 = 0) (h : ¬ (a % 8 = 1 ∨ a % 8 = 2)) (w0 : World) : Calls Tryz.prog 35 #[.int .i64 a, .int .i64 w] w0 fun e w' => e = .returned (.int .i64 (mgap a w)) ∧ w' = w0 := by
  rw [mgap, if_neg h0, if_neg h]
  have hbb := tdiv8_bd ha
  have hw : IntKind.i64.wrap (a.tdiv 8) = a.tdiv 8 := IntWalk.i64_in _ hbb
  have P8 := fun w => pmod a 8 (by decide) (by decide) w
  generalize a % 8 = r8 at P8 h0 h
  rw [not_or] at h
  have c0 : (r8 == 0) = false := by simpa using h0
  have c1 : (r8 == 1) = false := by simpa using h.1
  have c2 : (r8 == 2) = false := by simpa using h.2
  have P8 := Lib.hid P8
  clear h0 h hbb
  go_enter Tryz.func35, Tryz.ntmps35
  go_wp2_with (first | (go_at_call 8; with_reducible refine (P8.out _).mono ?_; rintro e w9 ⟨rfl, rfl⟩))
  go_ret
  exact ⟨rfl, rfl⟩
theorem pgap (a w : Int) (ha : -9223372036854775808 ≤ a ∧ a ≤ 9223372036854775807) (hw1 : 1 ≤ w) (hw2 : w ≤ 1048576) (w0 : World) : Calls Tryz.prog 35 #[.int .i64 a, .int .i64 w] w0 fun e w' => e = .returned (.int .i64 (mgap a w)) ∧ w' = w0 := by
  by_cases h0 : a % 8 = 0
  · exact pgap_0 a w hw1 hw2 ha h0 w0
  · by_cases h1 : a % 8 = 1 ∨ a % 8 = 2
    · rcases h1 with h1 | h1
      · exact pgap_1 a w hw1 hw2 ha h0 h1 w0
      · exact pgap_2 a w hw1 hw2 ha h0 h1 w0
    · exact pgap_3 a w hw1 hw2 ha h0 h1 w0
end Go.Proofs.YtdipoojjlddohaaGreat
end
section
/- Items made out of any numbers, walked. -/
set_option linter.unusedVariables false
set_option linter.unusedSimpArgs false
set_option linter.unusedSectionVars false
set_option linter.unnecessarySimpa false
namespace Go.Proofs.YtdipoojjlddohaaGreat
open Go.RowKit
/-- An item. -/
structure Itm where
  t : Int
  v : Int
def itmAt (l : List Itm) (i : Nat) : Itm := l.getD i ⟨0, 0⟩
def icells (l : List Itm) : List Value := l.flatMap fun x => [.int .i64 x.t, .int .i64 x.v]
theorem icells_cons (x : Itm) (l : List Itm) : icells (x :: l) = .int .i64 x.t :: .int .i64 x.v :: icells l := rfl
theorem icells_append (a b : List Itm) : icells (a ++ b) = icells a ++ icells b := by unfold icells; rw [List.flatMap_append]
theorem icells_len : ∀ l : List Itm, (icells l).length = l.length * 2
  | [] => rfl
  | x :: l => by rw [icells_cons]; simp only [List.length_cons, icells_len l]; omega
theorem icells_at : ∀ (l : List Itm) (i : Nat), i < l.length → (icells l)[i * 2]? = some (.int .i64 (itmAt l i).t) ∧ (icells l)[i * 2 + 1]? = some (.int .i64 (itmAt l i).v)
  | [], i, h => absurd h (by simp)
  | x :: l, 0, _ => ⟨rfl, rfl⟩
  | x :: l, i + 1, h => by
    have ih := icells_at l i (by simpa using h)
    rw [icells_cons, show (i + 1) * 2 = i * 2 + 1 + 1 by omega, show i * 2 + 1 + 1 + 1 = (i * 2 + 1) + 1 + 1 by omega]
    simp only [List.getElem?_cons_succ]
    exact ih
theorem addr_lit (a : Addr) (j : Nat) (h : j ≠ 0) : a.add j = ⟨a.block, a.off + j, none⟩ := by unfold Addr.add; rw [if_neg h]
/-- The two cells of an item. -/
def ItmCells (w : World) (a : Addr) (x : Itm) : Prop := w.cell? a = some (.int .i64 x.t) ∧ w.cell? ⟨a.block, a.off + 1, none⟩ = some (.int .i64 x.v)
section
variable {w w' : World} {B m : Nat} {A : Option Addr} {l : List Itm}
theorem ItmCells.below {a : Addr} {x : Itm} (h : ItmCells w a x) (hb : Below B w w') (hlt : a.block < B) : ItmCells w' a x :=
  ⟨(hb.cell hlt).trans h.1, (hb.cell (p := ⟨a.block, a.off + 1, none⟩) hlt).trans h.2⟩
theorem Reads.itm_len (h : Reads w B 2 A m (icells l)) : l.length = m := by have := h.1; rw [icells_len] at this; omega
theorem Reads.itm {i : Nat} (h : Reads w B 2 A m (icells l)) (hi : i < m) : ∃ ad, A = some ad ∧ ad.block < B ∧ ItmCells w (ad.add (i * 2)) (itmAt l i) := by
  obtain ⟨ad, e, hb, hc⟩ := h.2 (by omega)
  have ht := icells_at l i (by rw [h.itm_len]; exact hi)
  refine ⟨ad, e, hb, hc _ _ ht.1, ?_⟩
  rw [← addr_lit _ 1 (by decide), add_of_add]
  exact hc _ _ ht.2
end
/-- Raw items as an argument. -/
structure RIn (A : Option Addr) (m c : Nat) (l : List Itm) (w : World) : Prop where
  reads : Reads w w.heap.size 2 A m (icells l)
  tB : ∀ i, -9223372036854775808 ≤ (itmAt l i).t ∧ (itmAt l i).t ≤ 9223372036854775807
  vB : ∀ i, -9223372036854775808 ≤ (itmAt l i).v ∧ (itmAt l i).v ≤ 9223372036854775807
  mc : m ≤ c
  cB : c ≤ maxLen
theorem RIn.below {A : Option Addr} {m c : Nat} {l : List Itm} {w w' : World} (h : RIn A m c l w) (hb : Below w.heap.size w w') : RIn A m c l w' := ⟨(h.reads.below hb).more hb.size, h.tB, h.vB, h.mc, h.cB⟩
/-- Items as they are made: their ticks ascend by at most so much a step, their values lie between bounds. -/
def Made (st lo hi last : Int) (l : List Itm) : Prop :=
  (∀ i, i < l.length → 0 ≤ (itmAt l i).t ∧ (itmAt l i).t ≤ last ∧ (∀ j, j ≤ i → (itmAt l j).t ≤ (itmAt l i).t) ∧ lo ≤ (itmAt l i).v ∧ (itmAt l i).v ≤ hi) ∧ 0 ≤ last ∧ last ≤ st * l.length
theorem itm_left {l : List Itm} {x : Itm} {i : Nat} (h : i < l.length) : itmAt (l ++ [x]) i = itmAt l i := by
  unfold itmAt
  rw [List.getD_eq_getElem?_getD, List.getD_eq_getElem?_getD, List.getElem?_append_left h]
theorem itm_last {l : List Itm} {x : Itm} : itmAt (l ++ [x]) l.length = x := by
  unfold itmAt
  rw [List.getD_eq_getElem?_getD, List.getElem?_append_right (Nat.le_refl _)]
  simp
theorem made_nil {st lo hi : Int} : Made st lo hi 0 [] := ⟨fun i h => absurd h (by simp), Int.le_refl _, by simp⟩
theorem made_snoc {st lo hi last g v : Int} {l : List Itm} (h : Made st lo hi last l) (g0 : 0 ≤ g) (g1 : g ≤ st) (v0 : lo ≤ v) (v1 : v ≤ hi) : Made st lo hi (last + g) (l ++ [⟨last + g, v⟩]) := by
  obtain ⟨h1, h2, h3⟩ := h
  refine ⟨fun i hi => ?_, by omega, ?_⟩
  · rw [List.length_append, List.length_singleton] at hi
    by_cases c : i < l.length
    · have q := h1 i c
      rw [itm_left c]
      refine ⟨q.1, by omega, fun j hj => ?_, q.2.2.2⟩
      rw [itm_left (by omega)]
      exact q.2.2.1 j hj
    · obtain rfl : i = l.length := by omega
      rw [itm_last]
      refine ⟨(show 0 ≤ last + g by omega), Int.le_refl _, fun j hj => ?_, v0, v1⟩
      by_cases c2 : j < l.length
      · rw [itm_left c2]
        have := (h1 j c2).2.1
        show _ ≤ last + g
        omega
      · obtain rfl : j = l.length := by omega
        rw [itm_last]
        exact Int.le_refl _
  · rw [List.length_append, List.length_singleton]
    have e : st * ((l.length + 1 : Nat) : Int) = st * (l.length : Int) + st := by rw [Int.natCast_succ, Int.mul_add, Int.mul_one]
    rw [e]
    omega
theorem made_bound {st lo hi last : Int} {l : List Itm} (h : Made st lo hi last l) (hs0 : 0 ≤ st) (hs : st ≤ 2097153) (hl : l.length ≤ 1000000) : last ≤ 2097153000000 := by
  have h3 := h.2.2
  have : st * (l.length : Int) ≤ 2097153 * 1000000 := Int.mul_le_mul hs (by omega) (by omega) (by omega)
  omega
theorem info_itm : (Tryz.prog.info? 90).map (fun i => (i.zero, i.size, i.bytes)) = some (some (.agg #[.int .i64 0, .int .i64 0]), 2, 16) := by kernel_rfl
/-- What the making of items leaves: a slice of the call's own (nil where there is none) that reads as made items. -/
def IRet (most : Nat) (st lo hi : Int) (w : World) (e : Ending) (w' : World) : Prop :=
  ∃ (v : Value) (l : List Itm) (last : Int), e = .returned v ∧ w'.ownsRow w.heap.size 90 2 v l.length (icells l) ∧ l.length ≤ most ∧ Made st lo hi last l ∧ Below w.heap.size w w'
set_option maxHeartbeats 2000000 in
theorem pitems (A : Option Addr) (m c : Nat) (l : List Itm) (wd most : Nat) (w : World) (hin : RIn A m c l w) (hw1 : 1 ≤ wd) (hw2 : wd ≤ 1048576) (hmost : most ≤ 100000) :
    Calls Tryz.prog 10 #[.slice A m c, .int .i64 wd, .int .i64 most] w (IRet most (2 * (wd : Int) + 1) (-4096) 4096 w) := by
  have HR := Lib.hid hin
  have hmB : m ≤ 9223372036854775807 := by have := hin.mc; have := hin.cB; unfold maxLen at *; omega
  obtain ⟨i1, hi1, iz0, iz1, iz2⟩ := info_parts info_itm
  clear hin
  go_enter Tryz.func10, Tryz.ntmps10
  go_wp2
  go_loopw [7, 8, 9] (fun v tt i wr => ∃ (l' : List Itm) (last : Int), l'.length ≤ m ∧ l'.length ≤ most ∧ i = .int .i64 (l'.length : Nat) ∧ tt = .int .i64 last ∧ wr.ownsRow w.heap.size 90 2 v l'.length (icells l') ∧ RowKit.Hid (Made (2 * (wd : Int) + 1) (-4096) 4096 last l') ∧ Below w.heap.size w wr) (fun _ _ i _ => m - (intOf i).toNat)
  case atStart => exact ⟨[], 0, by simp, by simp, rfl, rfl, World.ownsRow_nil _ _ _ _, Lib.hid made_nil, Below.refl _ _⟩
  case round =>
    obtain ⟨l', last, hk1, hk2, rfl, rfl, own, HM, hb⟩ := hrel
    have lb := made_bound HM.out (by omega) (by omega) (by omega)
    have lb0 := HM.out.2.1
    generalize hk : l'.length = k at hk1 hk2 own ⊢
    have HK := Lib.hid hk
    clear hk
    by_cases hlt : k < m
    · by_cases hlt2 : k < most
      · obtain ⟨ad, rfl, hadb, hi0⟩ := HR.out.reads.itm hlt
        obtain ⟨c0, c1⟩ := hi0.below hb (by rw [block_of_add]; exact hadb)
        have tB := HR.out.tB k
        have vB := HR.out.vB k
        have PG := Lib.hid (fun w => pgap (itmAt l k).t (wd : Int) tB (by omega) (by omega) w)
        have PV := Lib.hid (fun w => pval (itmAt l k).v vB w)
        have gB := mgap_bd (itmAt l k).t (w := (wd : Int)) (by omega)
        have wB := mval_bd (itmAt l k).v
        generalize mgap (itmAt l k).t (wd : Int) = g at PG gB
        generalize mval (itmAt l k).v = v at PV wB
        generalize (itmAt l k).t = rt at c0 PG
        generalize (itmAt l k).v = rv at c1 PV
        obtain ⟨gB0, gB1⟩ := gB
        obtain ⟨wB0, wB1⟩ := wB
        have HM2 := Lib.hid (made_snoc HM.out gB0 gB1 wB0 wB1)
        have i2 : (k : Int) < (m : Int) := by omega
        have i3 : (k : Int) < (most : Int) := by omega
        have i4 : (0 : Int) ≤ (k : Int) := by omega
        have hbl := own.lt
        have OWN := Lib.hid own
        have zb := hb.size
        clear hi0 tB vB own
        go_wp2_with (first | (go_at_call 35; with_reducible refine (PG.out _).mono ?_; rintro e w9 ⟨rfl, rfl⟩) | (go_at_call 36; with_reducible refine (PV.out _).mono ?_; rintro e w9 ⟨rfl, rfl⟩) | (at_builtin; refine wpList_push rfl _ _ 22 rfl 90 i1 (.agg #[.int .i64 0, .int .i64 0]) 2 16 Tryz.underlying22 hi1 iz0 iz1 iz2 rfl (by decide) w.heap.size u7 k (icells l') rfl OWN.out #[.int .i64 (last + g), .int .i64 v] rfl rfl (by simp [Value.oneCell']) (by unfold maxLen; omega) (by omega) zb ?_; intro g' c4 w8 own8 hg8 hat8 hgr8))
        have L8 : w8.ownsRow w.heap.size 90 2 (.slice (some ⟨g', 0, none⟩) (k + 1) c4) (l' ++ [(⟨last + g, v⟩ : Itm)]).length (icells (l' ++ [(⟨last + g, v⟩ : Itm)])) := by
          rw [icells_append, List.length_append, HK.out]
          exact own8.row hg8
        have L9 : Below w.heap.size w w8 := below_grown (hb.alloc zb _) hgr8 (fun b e => (hbl b e).1) (by simp; omega)
        have hlen : (l' ++ [(⟨last + g, v⟩ : Itm)]).length = k + 1 := by rw [List.length_append, HK.out]; rfl
        clear own8 hgr8 hat8
        go_roundw
        case rel => exact ⟨l' ++ [(⟨last + g, v⟩ : Itm)], last + g, by omega, by omega, by rw [hlen]; go_num, rfl, L8, HM2, L9⟩
        case measure => simp [intOf]; omega
      · have i2 : (k : Int) < (m : Int) := by omega
        have i3 : ¬ (k : Int) < (most : Int) := by omega
        go_wp2
        go_ret
        exact ⟨_, l', last, rfl, by rw [HK.out]; exact own, by rw [HK.out]; omega, HM.out, hb⟩
    · have i2 : ¬ (k : Int) < (m : Int) := by omega
      go_wp2
      go_ret
      exact ⟨_, l', last, rfl, by rw [HK.out]; exact own, by rw [HK.out]; omega, HM.out, hb⟩
/-- An item whose value is turned into its remainder. -/
def imod (q : Int) (x : Itm) : Itm := { x with v := x.v % q }
def ipart (q : Int) (l : List Itm) (k : Nat) : List Itm := (l.take k).map (imod q) ++ l.drop k
theorem itm_eq {l : List Itm} {i : Nat} (h : i < l.length) : l[i] = itmAt l i := by unfold itmAt; rw [List.getD_eq_getElem?_getD, List.getElem?_eq_getElem h]; rfl
end Go.Proofs.YtdipoojjlddohaaGreat
end
section
/- Buckets in memory. -/
set_option linter.unusedVariables false
set_option linter.unusedSimpArgs false
set_option linter.unusedSectionVars false
set_option linter.unnecessarySimpa false
namespace Go.Proofs.YtdipoojjlddohaaGreat
open Go.RowKit
def bcells (l : List Bk) : List Value := l.flatMap fun x => [.int .i64 x.t, .int .i64 (x.lv : Nat)]
theorem bcells_cons (x : Bk) (l : List Bk) : bcells (x :: l) = .int .i64 x.t :: .int .i64 (x.lv : Nat) :: bcells l := rfl
theorem bcells_append (a b : List Bk) : bcells (a ++ b) = bcells a ++ bcells b := by unfold bcells; rw [List.flatMap_append]
theorem bcells_len : ∀ l : List Bk, (bcells l).length = l.length * 2
  | [] => rfl
  | x :: l => by rw [bcells_cons]; simp only [List.length_cons, bcells_len l]; omega
theorem bcells_at : ∀ (l : List Bk) (i : Nat), i < l.length → (bcells l)[i * 2]? = some (.int .i64 (bkAt l i).t) ∧ (bcells l)[i * 2 + 1]? = some (.int .i64 ((bkAt l i).lv : Nat))
  | [], i, h => absurd h (by simp)
  | x :: l, 0, _ => ⟨rfl, rfl⟩
  | x :: l, i + 1, h => by
    have ih := bcells_at l i (by simpa using h)
    rw [bcells_cons, show (i + 1) * 2 = i * 2 + 1 + 1 by omega, show i * 2 + 1 + 1 + 1 = (i * 2 + 1) + 1 + 1 by omega]
    simp only [List.getElem?_cons_succ]
    exact ih
theorem bcells_set (l : List Bk) (i : Nat) (h : i < l.length) (b : Bk) : ((bcells l).set (i * 2) (.int .i64 b.t)).set (i * 2 + 1) (.int .i64 (b.lv : Nat)) = bcells (l.set i b) := by
  induction l generalizing i with
  | nil => exact absurd h (by simp)
  | cons x l ih =>
    cases i with
    | zero => rfl
    | succ i =>
      have := ih i (by simpa using h)
      rw [bcells_cons, show (i + 1) * 2 = i * 2 + 1 + 1 by omega, show i * 2 + 1 + 1 + 1 = (i * 2 + 1) + 1 + 1 by omega]
      simp only [List.set_cons_succ]
      rw [this]
      rfl
theorem bcells_one (l : List Bk) : ∀ u ∈ bcells l, u.oneCell' = true := by
  intro u hu
  unfold bcells at hu
  rw [List.mem_flatMap] at hu
  obtain ⟨x, _, hx⟩ := hu
  simp at hx
  rcases hx with rfl | rfl <;> rfl
theorem bcells_take (l : List Bk) (k : Nat) : (bcells l).take (k * 2) = bcells (l.take k) := by
  induction l generalizing k with
  | nil => simp [bcells]
  | cons x l ih =>
    cases k with
    | zero => simp [bcells]
    | succ k => rw [bcells_cons, List.take_succ_cons, bcells_cons, show (k + 1) * 2 = k * 2 + 1 + 1 by omega, List.take_succ_cons, List.take_succ_cons, ih]
theorem bcells_drop (l : List Bk) (k : Nat) : (bcells l).drop (k * 2) = bcells (l.drop k) := by
  induction l generalizing k with
  | nil => simp [bcells]
  | cons x l ih =>
    cases k with
    | zero => simp [bcells]
    | succ k => rw [bcells_cons, List.drop_succ_cons, show (k + 1) * 2 = k * 2 + 1 + 1 by omega, List.drop_succ_cons, List.drop_succ_cons, ih]
/-- The two cells of a bucket. -/
def BkCells (w : World) (a : Addr) (x : Bk) : Prop := w.cell? a = some (.int .i64 x.t) ∧ w.cell? ⟨a.block, a.off + 1, none⟩ = some (.int .i64 (x.lv : Nat))
section
variable {w w' : World} {B m : Nat} {A : Option Addr} {l : List Bk}
theorem BkCells.below {a : Addr} {x : Bk} (h : BkCells w a x) (hb : Below B w w') (hlt : a.block < B) : BkCells w' a x :=
  ⟨(hb.cell hlt).trans h.1, (hb.cell (p := ⟨a.block, a.off + 1, none⟩) hlt).trans h.2⟩
theorem Reads.bk_len (h : Reads w B 2 A m (bcells l)) : l.length = m := by have := h.1; rw [bcells_len] at this; omega
theorem Reads.bk {i : Nat} (h : Reads w B 2 A m (bcells l)) (hi : i < m) : ∃ ad, A = some ad ∧ ad.block < B ∧ BkCells w (ad.add (i * 2)) (bkAt l i) := by
  obtain ⟨ad, e, hb, hc⟩ := h.2 (by omega)
  have ht := bcells_at l i (by rw [h.bk_len]; exact hi)
  refine ⟨ad, e, hb, hc _ _ ht.1, ?_⟩
  rw [← addr_lit _ 1 (by decide), add_of_add]
  exact hc _ _ ht.2
end
/-- Buckets as an argument. -/
structure BIn (A : Option Addr) (m c : Nat) (l : List Bk) (w : World) : Prop where
  reads : Reads w w.heap.size 2 A m (bcells l)
  mc : m ≤ c
  cB : c ≤ maxLen
theorem BIn.below {A : Option Addr} {m c : Nat} {l : List Bk} {w w' : World} (h : BIn A m c l w) (hb : Below w.heap.size w w') : BIn A m c l w' := ⟨(h.reads.below hb).more hb.size, h.mc, h.cB⟩
theorem BIn.len {A : Option Addr} {m c : Nat} {l : List Bk} {w : World} (h : BIn A m c l w) : l.length = m := h.reads.bk_len
theorem BIn.nil {w : World} : BIn none 0 0 [] w := ⟨by simpa [bcells] using Reads.none_, Nat.le_refl _, Nat.zero_le _⟩
theorem BIn.of_own {g m c : Nat} {l : List Bk} {w : World} (h : Own w 318 2 g m c (bcells l)) : BIn (some ⟨g, 0, none⟩) m c l w := ⟨h.reads, h.cap.1, h.cap.2⟩
theorem BIn.tail {ad : Addr} {m c : Nat} {a : Bk} {l : List Bk} {w : World} (h : BIn (some ad) m c (a :: l) w) : BIn (some ⟨ad.block, ad.off + 2, none⟩) (m - 1) (c - 1) l w := by
  rw [← addr_lit ad 2 (by decide)]
  have hl := h.len
  simp at hl
  refine ⟨⟨by have := h.reads.1; rw [bcells_cons] at this; simp at this; omega, fun hn => ?_⟩, by have := h.mc; omega, by have := h.cB; omega⟩
  obtain ⟨ad', e', hb, hc⟩ := h.reads.2 (by omega)
  obtain rfl : ad = ad' := by injection e'
  refine ⟨_, rfl, by rw [block_of_add]; exact hb, fun j u hu => ?_⟩
  rw [add_of_add]
  exact hc (2 + j) u (by rw [bcells_cons, show 2 + j = j + 1 + 1 by omega]; simpa using hu)
/-- What a call leaves that answers buckets: what they satisfy, and that they lie in memory of the call's own or where the argument lies. -/
def BRet (P : List Bk → Prop) (w : World) (e : Ending) (w' : World) : Prop :=
  ∃ (A : Option Addr) (m c : Nat) (l : List Bk), e = .returned (.slice A m c) ∧ BIn A m c l w' ∧ P l ∧ Below w.heap.size w w' ∧ ∀ a, A = some a → w.heap.size ≤ a.block
theorem info_bk : (Tryz.prog.info? 318).map (fun i => (i.zero, i.size, i.bytes)) = some (some (.agg #[.int .i64 0, .int .i64 0]), 2, 16) := by kernel_rfl
end Go.Proofs.YtdipoojjlddohaaGreat
end
section
/- Plain arithmetic of numbers of 128 bits kept in two words: no program is in sight. -/
set_option linter.unusedVariables false
set_option linter.unusedSimpArgs false
set_option linter.unusedSectionVars false
set_option linter.unnecessarySimpa false
namespace Go.Proofs.YtdipoojjlddohaaGreat
open Go.RowKit

/-- Two to the 128th power. -/
def big : Nat := 340282366920938463463374607431768211456
/-- The high word. -/
def hi (n : Nat) : Int := ((n / 18446744073709551616 : Nat) : Int)
/-- The low word. -/
def lo (n : Nat) : Int := ((n % 18446744073709551616 : Nat) : Int)
/-- The value of a wide number. -/
abbrev W (n : Nat) : Value := .agg #[.int .u64 (hi n), .int .u64 (lo n)]
/-- A word. -/
def Word (x : Int) : Prop := 0 ≤ x ∧ x < 18446744073709551616

theorem hi_word {n : Nat} (h : n < big) : Word (hi n) := by unfold Word hi big at *; omega
theorem lo_word (n : Nat) : Word (lo n) := by unfold Word lo; omega
theorem hi_inj {a b : Nat} (h : hi a = hi b) (k : lo a = lo b) : a = b := by unfold hi lo at *; omega

/-- The borrow. -/
def bor (x y : Int) : Int := if x < y then 1 else 0
theorem bor_0 (x y : Int) : 0 ≤ bor x y := by unfold bor; split <;> omega
theorem bor_1 (x y : Int) : bor x y ≤ 1 := by unfold bor; split <;> omega
/-- The order of two numbers. -/
def cmp (a b : Nat) : Int := if a < b then -1 else if a = b then 0 else 1
theorem cmp_lt {a b : Nat} (h : a < b) : cmp a b = -1 := by simp [cmp, h]
theorem cmp_eq (a : Nat) : cmp a a = 0 := by simp [cmp]
theorem cmp_gt {a b : Nat} (h : b < a) : cmp a b = 1 := by unfold cmp; rw [if_neg (by omega), if_neg (by omega)]
theorem lt_words {a b : Nat} (h : a < b) : hi a < hi b ∨ hi a = hi b ∧ lo a < lo b := by unfold hi lo; omega

theorem hi_small {n : Nat} (h : n < 18446744073709551616) : hi n = 0 := by unfold hi; omega
theorem lo_small {n : Nat} (h : n < 18446744073709551616) : lo n = n := by unfold lo; omega
theorem lo_toNat (n : Nat) : (lo n).toNat = n % 18446744073709551616 := by unfold lo; omega
theorem hi_toNat (n : Nat) : (hi n).toNat = n / 18446744073709551616 := by unfold hi; omega
theorem bcell {W w1 : World} (hb : Below W.heap.size W w1) : (∀ b o, b < W.heap.size → w1.cell? ⟨b, o, none⟩ = W.cell? ⟨b, o, none⟩) ∧ (∀ b o, b < W.heap.size → w1.frozen? ⟨b, o, none⟩ = W.frozen? ⟨b, o, none⟩) :=
  ⟨fun b o h => hb.cell (p := ⟨b, o, none⟩) h, fun b o h => hb.frozen (p := ⟨b, o, none⟩) h⟩

theorem cmp_nonneg {a b : Nat} (h : b ≤ a) : 0 ≤ cmp a b := by
  unfold cmp
  rw [if_neg (by omega)]
  split <;> omega
end Go.Proofs.YtdipoojjlddohaaGreat
end
section
/- Spreads of marks: which marks have one; plain. -/
set_option linter.unusedVariables false
set_option linter.unusedSimpArgs false
set_option linter.unusedSectionVars false
set_option linter.unnecessarySimpa false
namespace Go.Proofs.YtdipoojjlddohaaGreat
def rightP (n s q : Int) : Prop := 1 ≤ n ∧ n ≤ 65536 ∧ -n * 4096 ≤ s ∧ s ≤ n * 4096 ∧ 0 ≤ q ∧ q ≤ n * 4096 * 4096 ∧ s * s ≤ n * q
instance (n s q : Int) : Decidable (rightP n s q) := by unfold rightP; infer_instance
theorem sq_bound {s B : Int} (h0 : -B ≤ s) (h1 : s ≤ B) : 0 ≤ s * s ∧ s * s ≤ B * B := by
  have hB : 0 ≤ B := by omega
  constructor
  · rcases Int.le_total 0 s with h | h
    · exact Int.mul_nonneg h h
    · exact Int.mul_nonneg_of_nonpos_of_nonpos h h
  · rcases Int.le_total 0 s with h | h
    · exact Int.mul_le_mul h1 h1 h hB
    · have : s * s = (-s) * (-s) := by rw [Int.neg_mul_neg]
      rw [this]
      exact Int.mul_le_mul (by omega) (by omega) (by omega) hB
/-- The spread times the number. -/
def topN (n s q : Int) : Nat := (n * q - s * s).toNat
end Go.Proofs.YtdipoojjlddohaaGreat
end
section
/- The model words for the sum and the difference of two words with a carry. -/
set_option linter.unusedVariables false
set_option linter.unusedSimpArgs false
set_option linter.unusedSectionVars false
set_option linter.unnecessarySimpa false
namespace Go.Proofs.YtdipoojjlddohaaGreat
open Go.RowKit Go.Shelf

theorem sub64 (x y b : Int) (hx : 0 ≤ x) (hy : 0 ≤ y) (hy' : y < 18446744073709551616) (hb0 : 0 ≤ b) (hb : b ≤ 1) (w : World) : (callFunc 247 #[.int .u64 x, .int .u64 y, .int .u64 b]).run Tryz.prog w =
    .ok (.value (.tuple #[.int .u64 ((x - y - b) % 18446744073709551616), .int .u64 (bor x (y + b))])) w := by
  obtain ⟨x, rfl⟩ := Int.eq_ofNat_of_zero_le hx
  obtain ⟨y, rfl⟩ := Int.eq_ofNat_of_zero_le hy
  obtain ⟨b, rfl⟩ := Int.eq_ofNat_of_zero_le hb0
  have e1 : (((x + 18446744073709551616 - y - b) % 18446744073709551616 : Nat) : Int) = ((x : Int) - y - b) % 18446744073709551616 := by omega
  have e2 : ((if x < y + b then 1 else 0 : Nat) : Int) = bor (x : Int) ((y : Int) + b) := by unfold bor; split <;> split <;> omega
  rw [← e1, ← e2, run_callFunc_extern Tryz.func247 (by kernel_rfl) (by kernel_rfl) (by kernel_rfl) (e := sub64Entry) (by kernel_rfl), run_sub64 x y b (by omega)]
  rfl
theorem sub64_0 (x y : Int) (hx : 0 ≤ x) (hy : 0 ≤ y) (hy' : y < 18446744073709551616) (w : World) : (callFunc 247 #[.int .u64 x, .int .u64 y, .int .u64 0]).run Tryz.prog w =
    .ok (.value (.tuple #[.int .u64 ((x - y) % 18446744073709551616), .int .u64 (bor x y)])) w := by
  simpa using sub64 x y 0 hx hy hy' (Int.le_refl 0) (by decide) w
end Go.Proofs.YtdipoojjlddohaaGreat
end
section
/- Sums, differences and the order of wide numbers, walked: the program and the reference. -/
set_option linter.unusedVariables false
set_option linter.unusedSimpArgs false
set_option linter.unusedSectionVars false
set_option linter.unnecessarySimpa false
namespace Go.Proofs.YtdipoojjlddohaaGreat
open Go.RowKit Go.Shelf

theorem pcmp_any (a b : Nat) (w : World) :
    Calls Tryz.prog 235 #[W a, W b] w fun e w' => e = .returned (.int .i64 (cmp a b)) ∧ Below w.heap.size w w' := by
  rcases Nat.lt_trichotomy a b with h | h | h
  · rw [cmp_lt h]
    rcases lt_words h with k | ⟨k, l⟩
    all_goals
      go_enter Tryz.func235, Tryz.ntmps235
      go_wp2
      go_ret
      exact ⟨rfl, (((Below.refl _ _).alloc (Nat.le_refl _) _).alloc (by simp) _)⟩
  · subst h
    rw [cmp_eq]
    go_enter Tryz.func235, Tryz.ntmps235
    go_wp2
    go_ret
    exact ⟨rfl, (((Below.refl _ _).alloc (Nat.le_refl _) _).alloc (by simp) _)⟩
  · rw [cmp_gt h]
    rcases lt_words h with k | ⟨k, l⟩
    all_goals
      go_enter Tryz.func235, Tryz.ntmps235
      go_wp2
      go_ret
      exact ⟨rfl, (((Below.refl _ _).alloc (Nat.le_refl _) _).alloc (by simp) _)⟩
theorem rcmp_any (a b : Nat) (w : World) :
    Calls Tryz.prog 304 #[W a, W b] w fun e w' => e = .returned (.int .i64 (cmp a b)) ∧ Below w.heap.size w w' := by
  rcases Nat.lt_trichotomy a b with h | h | h
  · rw [cmp_lt h]
    rcases lt_words h with k | ⟨k, l⟩
    all_goals
      go_enter Tryz.func304, Tryz.ntmps304
      go_wp2
      go_ret
      exact ⟨rfl, (((Below.refl _ _).alloc (Nat.le_refl _) _).alloc (by simp) _)⟩
  · subst h
    rw [cmp_eq]
    go_enter Tryz.func304, Tryz.ntmps304
    go_wp2
    go_ret
    exact ⟨rfl, (((Below.refl _ _).alloc (Nat.le_refl _) _).alloc (by simp) _)⟩
  · rw [cmp_gt h]
    rcases lt_words h with k | ⟨k, l⟩
    all_goals
      go_enter Tryz.func304, Tryz.ntmps304
      go_wp2
      go_ret
      exact ⟨rfl, (((Below.refl _ _).alloc (Nat.le_refl _) _).alloc (by simp) _)⟩
end Go.Proofs.YtdipoojjlddohaaGreat
end
section
/- Small functions on wide numbers, walked: the program and the reference. -/
set_option linter.unusedVariables false
set_option linter.unusedSimpArgs false
set_option linter.unusedSectionVars false
set_option linter.unnecessarySimpa false
namespace Go.Proofs.YtdipoojjlddohaaGreat
open Go.RowKit Go.Shelf

theorem len64 (x : Int) (w : World) (h0 : 0 ≤ x) (h1 : x ≤ 18446744073709551615) :
    Calls Tryz.prog 245 #[.int .u64 x] w fun e w' => e = .returned (.int .i64 (Lib.bitLen x.toNat)) ∧ w' = w := Tryz.bits_Len64 x w h0 h1
theorem mul64 (x y : Int) (hx : Word x) (hy : Word y) (w : World) :
    Calls Tryz.prog 181 #[.int .u64 x, .int .u64 y] w fun e w' => e = .returned (.tuple #[.int .u64 (hi (x.toNat * y.toNat)), .int .u64 (lo (x.toNat * y.toNat))]) ∧ w' = w := by
  obtain ⟨x, rfl⟩ := Int.eq_ofNat_of_zero_le hx.1
  obtain ⟨y, rfl⟩ := Int.eq_ofNat_of_zero_le hy.1
  exact Tryz.bits_Mul64 x y (by have := hx.2; omega) (by have := hy.2; omega) w

theorem pproduct (x y : Int) (hx : Word x) (hy : Word y) (w : World) :
    Calls Tryz.prog 89 #[.int .u64 x, .int .u64 y] w fun e w' => e = .returned (W (x.toNat * y.toNat)) ∧ Below w.heap.size w w' := by
  go_enter Tryz.func89, Tryz.ntmps89
  go_wp2_with (go_at_call 181; refine (mul64 x y hx hy _).mono ?_; rintro e w' ⟨rfl, rfl⟩)
  simp [bodyPost, results, Tryz.results89, go_sem]
  exact ((Below.refl _ _).alloc (Nat.le_refl _) _)
theorem pof (n : Nat) (hn : n < 18446744073709551616) (w : World) :
    Calls Tryz.prog 76 #[.int .u64 n] w fun e w' => e = .returned (W n) ∧ Below w.heap.size w w' := by
  have e1 := hi_small hn
  have e2 := lo_small hn
  go_enter Tryz.func76, Tryz.ntmps76
  go_wp2
  simp [bodyPost, results, Tryz.results76, go_sem, e1, e2]
  exact ((Below.refl _ _).alloc (Nat.le_refl _) _)
theorem rof (n : Nat) (hn : n < 18446744073709551616) (w : World) :
    Calls Tryz.prog 243 #[.int .u64 n] w fun e w' => e = .returned (W n) ∧ Below w.heap.size w w' := by
  have e1 := hi_small hn
  have e2 := lo_small hn
  go_enter Tryz.func243, Tryz.ntmps243
  go_wp2
  simp [bodyPost, results, Tryz.results243, go_sem, e1, e2]
  exact ((Below.refl _ _).alloc (Nat.le_refl _) _)
theorem pzero (n : Nat) (w : World) :
    Calls Tryz.prog 163 #[W n] w fun e w' => e = .returned (.bool (decide (n = 0))) ∧ Below w.heap.size w w' := by
  by_cases h : n = 0
  · subst h
    go_enter Tryz.func163, Tryz.ntmps163
    go_wp2
    go_ret
    exact ⟨rfl, (Below.refl _ _).alloc (Nat.le_refl _) _⟩
  · have hd : decide (n = 0) = false := by simpa using h
    rw [hd]
    clear hd
    by_cases k : hi n = 0
    · have l : ¬ lo n = 0 := fun l => h (hi_inj (b := 0) k l)
      have l' : (lo n == 0) = false := by simpa using l
      go_enter Tryz.func163, Tryz.ntmps163
      go_wp2
      go_ret
      exact ⟨rfl, (Below.refl _ _).alloc (Nat.le_refl _) _⟩
    · have k' : (hi n == 0) = false := by simpa using k
      go_enter Tryz.func163, Tryz.ntmps163
      go_wp2
      go_ret
      exact ⟨rfl, (Below.refl _ _).alloc (Nat.le_refl _) _⟩
end Go.Proofs.YtdipoojjlddohaaGreat
end
section
/- Plain arithmetic of long division in two words: no program is in sight. -/
set_option linter.unusedVariables false
set_option linter.unusedSimpArgs false
set_option linter.unusedSectionVars false
set_option linter.unnecessarySimpa false
namespace Go.Proofs.YtdipoojjlddohaaGreat
open Go.RowKit

/-- Binary digit n. -/
def dig (a n : Nat) : Int := ((a / 2 ^ n % 2 : Nat) : Int)
theorem dig_0 (a n : Nat) : 0 ≤ dig a n := by unfold dig; omega
theorem dig_1 (a n : Nat) : dig a n ≤ 1 := by unfold dig; omega
theorem bit_hi_eq {a : Nat} {n : Int} (ha : a < big) (h : 64 ≤ n) : bits BinOp.and IntKind.u64 (hi a / 2 ^ (n - 64).toNat) 1 = dig a n.toNat := by
  have hb := hi_word ha
  have e : hi a / 2 ^ (n - 64).toNat = ((a / 2 ^ n.toNat : Nat) : Int) := by
    unfold hi
    have e2 : (2 : Int) ^ (n - 64).toNat = ((2 ^ (n - 64).toNat : Nat) : Int) := by simp
    rw [e2, ← Int.natCast_ediv, Nat.div_div_eq_div_mul]
    have e3 : 18446744073709551616 * 2 ^ (n - 64).toNat = 2 ^ n.toNat := by
      rw [show (18446744073709551616 : Nat) = 2 ^ 64 from by decide, ← Nat.pow_add]
      congr 1; omega
    rw [e3]
  have l : 0 ≤ hi a / 2 ^ (n - 64).toNat := by rw [e]; exact Int.natCast_nonneg _
  have u : hi a / 2 ^ (n - 64).toNat ≤ 18446744073709551615 := by
    have := Int.ediv_le_self (a := hi a) (2 ^ (n - 64).toNat) hb.1
    have := hb.2
    omega
  rw [and_one_u64 _ l u, e]
  unfold dig
  omega
theorem bit_lo_eq {a : Nat} {n : Int} (h0 : 0 ≤ n) (h : n < 64) : bits BinOp.and IntKind.u64 (lo a / 2 ^ n.toNat) 1 = dig a n.toNat := by
  have hb := lo_word a
  have e2 : (2 : Int) ^ n.toNat = ((2 ^ n.toNat : Nat) : Int) := by simp
  have e : lo a / 2 ^ n.toNat = ((a % 2 ^ 64 / 2 ^ n.toNat : Nat) : Int) := by
    unfold lo
    rw [e2, ← Int.natCast_ediv]
  have l : 0 ≤ lo a / 2 ^ n.toNat := by rw [e]; exact Int.natCast_nonneg _
  have u : lo a / 2 ^ n.toNat ≤ 18446744073709551615 := by
    have := Int.ediv_le_self (a := lo a) (2 ^ n.toNat) hb.1
    have := hb.2
    omega
  rw [and_one_u64 _ l u, e]
  unfold dig
  have t := Nat.testBit_mod_two_pow a 64 n.toNat
  rw [Nat.testBit_eq_decide_div_mod_eq, Nat.testBit_eq_decide_div_mod_eq] at t
  have hd : decide (n.toNat < 64) = true := by simp; omega
  rw [hd, Bool.true_and, decide_eq_decide] at t
  omega

/-- Twice r and a digit, without what is beyond 128 digits. -/
def dbl (r : Nat) (d : Int) : Nat := (2 * r + d.toNat) % big
theorem dbl_lt (r : Nat) (d : Int) : dbl r d < big := Nat.mod_lt _ (by unfold big; omega)
theorem or_even {x b : Int} (h0 : 0 ≤ b) (h1 : b ≤ 1) : bits BinOp.or IntKind.u64 (IntKind.u64.wrap (x * 2)) b = x * 2 % 18446744073709551616 + b := by
  have e : IntKind.u64.wrap (x * 2) = ((2 ^ 1 * ((x * 2 % 18446744073709551616).toNat / 2) : Nat) : Int) := by rw [IntKind.wrap_u64]; omega
  obtain ⟨c, rfl⟩ := Int.eq_ofNat_of_zero_le h0
  rw [e, bits_or_u64_nat _ c (by omega) (by omega), ← Nat.two_pow_add_eq_or_of_lt (by omega)]
  omega
theorem dbl_hi {r : Nat} {d : Int} (hr : r < big) (h0 : 0 ≤ d) (h1 : d ≤ 1) : bits BinOp.or IntKind.u64 (IntKind.u64.wrap (hi r * 2)) (lo r / 9223372036854775808) = hi (dbl r d) := by
  rw [or_even (by unfold lo; omega) (by unfold lo; omega)]
  unfold hi lo dbl big at *
  omega
theorem dbl_lo {r : Nat} {d : Int} (h0 : 0 ≤ d) (h1 : d ≤ 1) : bits BinOp.or IntKind.u64 (IntKind.u64.wrap (lo r * 2)) d = lo (dbl r d) := by
  rw [or_even h0 h1]
  unfold lo dbl big at *
  omega
theorem dbl_lo0 (r : Nat) : IntKind.u64.wrap (lo r * 2) = lo (dbl r 0) := by
  rw [IntKind.wrap_u64]
  unfold lo dbl big at *
  omega
/-- The digit beyond the 128. -/
def topd (r : Nat) : Int := hi r / 9223372036854775808
theorem topd_eq (r : Nat) : hi r / 9223372036854775808 = topd r := rfl
theorem topd_1 {r : Nat} (h : r < big) : topd r = 0 ∧ 2 * r + 1 < big ∨ topd r = 1 ∧ big ≤ 2 * r := by unfold topd hi big at *; omega
theorem or_one {q : Nat} : bits BinOp.or IntKind.u64 (lo (dbl q 0)) 1 = lo (dbl q 1) := by
  rw [← dbl_lo0, dbl_lo (by omega) (by omega)]
theorem hi_one {q : Nat} : hi (dbl q 0) = hi (dbl q 1) := by unfold hi dbl big; omega
/-- The difference without borrow out. -/
def subw (x b : Nat) : Nat := (x + big - b) % big
theorem subw_lo {x b : Nat} (hx : x < big) (hb : b < big) : (lo x - lo b) % 18446744073709551616 = lo (subw x b) := by unfold lo subw big at *; omega
theorem subw_hi {x b : Nat} (hx : x < big) (hb : b < big) : (hi x - hi b - bor (lo x) (lo b)) % 18446744073709551616 = hi (subw x b) := by unfold hi lo subw bor big at *; split <;> omega

/-- The number of binary digits. -/
def blen (a : Nat) : Nat := if a / 18446744073709551616 = 0 then Lib.bitLen (a % 18446744073709551616) else 64 + Lib.bitLen (a / 18446744073709551616)
theorem bitLen_bound : ∀ (f x : Nat), x < 2 ^ f → x < 2 ^ Lib.bitLenAux f x
  | 0, x, h => by simpa [Lib.bitLenAux] using h
  | f + 1, x, h => by
    unfold Lib.bitLenAux
    by_cases hx : x = 0
    · simp [hx]
    · rw [if_neg hx, Nat.add_comm, Nat.pow_succ]
      have := bitLen_bound f (x / 2) (by rw [Nat.pow_succ] at h; omega)
      omega
theorem bitLen_max (x : Nat) (h : x < 18446744073709551616) : Lib.bitLen x ≤ 64 := Lib.bitLenAux_le 64 x 64 (by simpa using h)
theorem blen_le {a : Nat} (h : a < big) : blen a ≤ 128 := by
  unfold blen big at *
  have := bitLen_max (a % 18446744073709551616) (by omega)
  have := bitLen_max (a / 18446744073709551616) (by omega)
  split <;> omega
theorem lt_blen {a : Nat} (h : a < big) : a < 2 ^ blen a := by
  unfold blen
  unfold big at h
  split
  · have := bitLen_bound 64 (a % 18446744073709551616) (by omega)
    unfold Lib.bitLen
    omega
  · have := bitLen_bound 64 (a / 18446744073709551616) (by omega)
    rw [Nat.pow_add]
    unfold Lib.bitLen
    generalize 2 ^ Lib.bitLenAux 64 (a / 18446744073709551616) = z at *
    omega

/-- The number of binary digits of a word. -/
def lenw (x : Int) : Int := Lib.bitLen x.toNat
theorem lenw_0 (x : Int) : 0 ≤ lenw x := by unfold lenw; omega
theorem lenw_64 {x : Int} (h : x < 18446744073709551616) : lenw x ≤ 64 := by have := bitLen_max x.toNat (by omega); unfold lenw; omega
/-- The number of binary digits, as an integer. -/
def blenI (a : Nat) : Int := blen a
theorem blenI_lo {a : Nat} (h : a / 18446744073709551616 = 0) : blenI a = lenw (lo a) := by unfold blenI lenw blen; rw [if_pos h, lo_toNat]
theorem blenI_hi {a : Nat} (h : ¬ a / 18446744073709551616 = 0) : blenI a = 64 + lenw (hi a) := by unfold blenI lenw blen; rw [if_neg h, hi_toNat]; omega

/-- Division with k digits still to come: the quotient and the remainder so far. -/
def qat (a b k : Nat) : Nat := a / 2 ^ k / b
def rat (a b k : Nat) : Nat := a / 2 ^ k % b
theorem half_step (a k : Nat) : a / 2 ^ k = 2 * (a / 2 ^ (k + 1)) + (dig a k).toNat := by
  unfold dig
  rw [Nat.pow_succ, ← Nat.div_div_eq_div_mul]
  omega
theorem qat_le (a b k : Nat) : qat a b k ≤ a := Nat.le_trans (Nat.div_le_self _ _) (Nat.div_le_self _ _)
theorem rat_lt {a b k : Nat} (hb : b ≠ 0) : rat a b k < b := Nat.mod_lt _ (by omega)
theorem qat_start {a b k : Nat} (h : a < 2 ^ k) : qat a b k = 0 := by unfold qat; rw [Nat.div_eq_of_lt h, Nat.zero_div]
theorem rat_start {a b k : Nat} (h : a < 2 ^ k) : rat a b k = 0 := by unfold rat; rw [Nat.div_eq_of_lt h, Nat.zero_mod]
theorem div_mod_of {x b c d : Nat} (e : x = c * b + d) (h : d < b) : x / b = c ∧ x % b = d := by
  subst e
  rw [Nat.mul_comm, Nat.mul_add_div (by omega), Nat.mul_add_mod, Nat.div_eq_of_lt h, Nat.mod_eq_of_lt h]
  omega
/-- The digit is 1. -/
theorem step_one {a b k : Nat} (ha : a < big) (hb : b ≠ 0) (hbb : b < big) (h : b ≤ 2 * rat a b (k + 1) + (dig a k).toNat) :
    subw (dbl (rat a b (k + 1)) (dig a k)) b = rat a b k ∧ dbl (qat a b (k + 1)) 1 = qat a b k := by
  have hr := rat_lt (a := a) (k := k + 1) hb
  have hs := half_step a k
  have hd := dig_1 a k
  have hm := Nat.div_add_mod (a / 2 ^ (k + 1)) b
  have hq : a / 2 ^ k / b = 2 * qat a b (k + 1) + 1 ∧ a / 2 ^ k % b = 2 * rat a b (k + 1) + (dig a k).toNat - b := by
    unfold qat rat at *
    have e : a / 2 ^ k = (2 * (a / 2 ^ (k + 1) / b) + 1) * b + (2 * (a / 2 ^ (k + 1) % b) + (dig a k).toNat - b) := by
      rw [hs, Nat.add_mul, Nat.mul_assoc, Nat.mul_comm (a / 2 ^ (k + 1) / b) b]
      omega
    exact div_mod_of e (by omega)
  have hle := qat_le a b k
  have h1 : rat a b k = _ := hq.2
  have h2 : qat a b k = _ := hq.1
  rw [h2] at hle
  rw [h1, h2]
  generalize rat a b (k + 1) = r at *
  generalize qat a b (k + 1) = q at *
  generalize dig a k = d at *
  clear hq h1 h2 hm hs
  unfold subw dbl big at *
  omega
/-- The digit is 0. -/
theorem step_none {a b k : Nat} (ha : a < big) (hbb : b < big) (h : 2 * rat a b (k + 1) + (dig a k).toNat < b) :
    dbl (rat a b (k + 1)) (dig a k) = rat a b k ∧ dbl (qat a b (k + 1)) 0 = qat a b k := by
  have hs := half_step a k
  have hm := Nat.div_add_mod (a / 2 ^ (k + 1)) b
  have hq : a / 2 ^ k / b = 2 * qat a b (k + 1) ∧ a / 2 ^ k % b = 2 * rat a b (k + 1) + (dig a k).toNat := by
    unfold qat rat at *
    have e : a / 2 ^ k = (2 * (a / 2 ^ (k + 1) / b)) * b + (2 * (a / 2 ^ (k + 1) % b) + (dig a k).toNat) := by
      rw [hs, Nat.mul_assoc, Nat.mul_comm (a / 2 ^ (k + 1) / b) b]
      omega
    exact div_mod_of e h
  have hle := qat_le a b k
  have h1 : rat a b k = _ := hq.2
  have h2 : qat a b k = _ := hq.1
  rw [h2] at hle
  rw [h1, h2]
  generalize rat a b (k + 1) = r at *
  generalize qat a b (k + 1) = q at *
  generalize dig a k = d at *
  clear hq h1 h2 hm hs
  unfold dbl big at *
  omega
/-- Which of the two the program takes. -/
theorem takes {a b k : Nat} (hb : b ≠ 0) (hbb : b < big) : (topd (rat a b (k + 1)) = 1 ∨ (topd (rat a b (k + 1)) = 0 ∧ b ≤ dbl (rat a b (k + 1)) (dig a k))) ∧ b ≤ 2 * rat a b (k + 1) + (dig a k).toNat ∨
    (topd (rat a b (k + 1)) = 0 ∧ dbl (rat a b (k + 1)) (dig a k) < b) ∧ 2 * rat a b (k + 1) + (dig a k).toNat < b := by
  have hr := rat_lt (a := a) (k := k + 1) hb
  have hd := dig_1 a k
  have ht := topd_1 (r := rat a b (k + 1)) (by omega)
  have e : 2 * rat a b (k + 1) + 1 < big → dbl (rat a b (k + 1)) (dig a k) = 2 * rat a b (k + 1) + (dig a k).toNat := fun h => by unfold dbl; rw [Nat.mod_eq_of_lt]; omega
  omega
theorem blenI_0 (a : Nat) : 0 ≤ blenI a := by unfold blenI; omega
theorem blenI_128 {a : Nat} (h : a < big) : blenI a ≤ 128 := by have := blen_le h; unfold blenI; omega
theorem qat_0 (a b : Nat) : qat a b 0 = a / b := by unfold qat; simp
theorem rat_0 (a b : Nat) : rat a b 0 = a % b := by unfold rat; simp
theorem hi_0 : hi 0 = 0 := by decide
theorem lo_0 : lo 0 = 0 := by decide
end Go.Proofs.YtdipoojjlddohaaGreat
end
section
/- Digits, doubles and lengths of wide numbers, walked: the program and the reference. -/
set_option linter.unusedVariables false
set_option linter.unusedSimpArgs false
set_option linter.unusedSectionVars false
set_option linter.unnecessarySimpa false
namespace Go.Proofs.YtdipoojjlddohaaGreat
open Go.RowKit Go.Shelf

theorem pbit (a : Nat) (n : Int) (ha : a < big) (h0 : 0 ≤ n) (h1 : n < 128) (w : World) :
    Calls Tryz.prog 249 #[W a, .int .i64 n] w fun e w' => e = .returned (.int .u64 (dig a n.toNat)) ∧ Below w.heap.size w w' := by
  by_cases h : 64 ≤ n
  · have E := bit_hi_eq ha h
    obtain ⟨a1, a2⟩ := hi_word ha
    go_enter Tryz.func249, Tryz.ntmps249
    go_wp2
    go_ret
    exact ⟨rfl, (Below.refl _ _).alloc (Nat.le_refl _) _⟩
  · have E := bit_lo_eq (a := a) h0 (by omega)
    obtain ⟨a1, a2⟩ := lo_word a
    go_enter Tryz.func249, Tryz.ntmps249
    go_wp2
    go_ret
    exact ⟨rfl, (Below.refl _ _).alloc (Nat.le_refl _) _⟩
theorem rbit (a : Nat) (n : Int) (ha : a < big) (h0 : 0 ≤ n) (h1 : n < 128) (w : World) :
    Calls Tryz.prog 303 #[W a, .int .i64 n] w fun e w' => e = .returned (.int .u64 (dig a n.toNat)) ∧ Below w.heap.size w w' := by
  by_cases h : 64 ≤ n
  · have E := bit_hi_eq ha h
    obtain ⟨a1, a2⟩ := hi_word ha
    go_enter Tryz.func303, Tryz.ntmps303
    go_wp2
    go_ret
    exact ⟨rfl, (Below.refl _ _).alloc (Nat.le_refl _) _⟩
  · have E := bit_lo_eq (a := a) h0 (by omega)
    obtain ⟨a1, a2⟩ := lo_word a
    go_enter Tryz.func303, Tryz.ntmps303
    go_wp2
    go_ret
    exact ⟨rfl, (Below.refl _ _).alloc (Nat.le_refl _) _⟩
theorem rdouble (a : Nat) (b : Int) (ha : a < big) (hb : 0 ≤ b) (hb1 : b ≤ 1) (w : World) :
    Calls Tryz.prog 302 #[W a, .int .u64 b] w fun e w' => e = .returned (.tuple #[W (dbl a b), .int .u64 (topd a)]) ∧ Below w.heap.size w w' := by
  obtain ⟨a1, a2⟩ := hi_word ha
  obtain ⟨b1, b2⟩ := lo_word a
  have E1 := dbl_hi ha hb hb1
  have E2 := dbl_lo (r := a) hb hb1
  have E3 := topd_eq a
  go_enter Tryz.func302, Tryz.ntmps302
  go_wp2
  go_region
  go_wp2
  simp [bodyPost, results, Tryz.results302, go_sem]
  (repeat (first | exact Below.refl _ _ | refine Below.setCell ?_ (by first | (simp; done) | (simp; omega) | omega) _ | refine Below.alloc ?_ (by first | (simp; done) | (simp; omega) | omega) _ | refine Below.drew ?_ | refine Below.trans ?_ (Below.mono (by assumption) (by first | (simp; done) | (simp; omega) | omega))))
theorem lenw64 (x : Int) (w : World) (h0 : 0 ≤ x) (h1 : x < 18446744073709551616) :
    Calls Tryz.prog 245 #[.int .u64 x] w fun e w' => e = .returned (.int .i64 (lenw x)) ∧ w' = w := len64 x w h0 (by omega)
theorem pbits (a : Nat) (ha : a < big) (w : World) :
    Calls Tryz.prog 164 #[W a] w fun e w' => e = .returned (.int .i64 (blenI a)) ∧ Below w.heap.size w w' := by
  obtain ⟨a1, a2⟩ := hi_word ha
  obtain ⟨b1, b2⟩ := lo_word a
  by_cases h : a / 18446744073709551616 = 0
  · have e1 : hi a = 0 := by unfold hi; omega
    rw [blenI_lo h]
    clear h
    go_enter Tryz.func164, Tryz.ntmps164
    go_wp2_with (go_at_call 245; refine (lenw64 (lo a) _ b1 b2).mono ?_; rintro e w' ⟨rfl, rfl⟩)
    go_ret
    exact ⟨rfl, (Below.refl _ _).alloc (Nat.le_refl _) _⟩
  · have e1 : (hi a != 0) = true := by rw [bne_iff_ne]; unfold hi; omega
    rw [blenI_hi h]
    clear h
    have e3 := lenw_64 a2
    have e4 := lenw_0 (hi a)
    go_enter Tryz.func164, Tryz.ntmps164
    go_wp2_with (go_at_call 245; refine (lenw64 (hi a) _ a1 a2).mono ?_; rintro e w' ⟨rfl, rfl⟩)
    go_ret
    exact ⟨rfl, (Below.refl _ _).alloc (Nat.le_refl _) _⟩
end Go.Proofs.YtdipoojjlddohaaGreat
end
section
/- What memory holds while a long division runs. -/
set_option linter.unusedVariables false
set_option linter.unusedSimpArgs false
set_option linter.unusedSectionVars false
set_option linter.unnecessarySimpa false
namespace Go.Proofs.YtdipoojjlddohaaGreat
open Go.RowKit
/-- The two words of a wide number. -/
abbrev Wc (n : Nat) : Array Value := #[.int .u64 (hi n), .int .u64 (lo n)]
/-- Block b holds a wide number. -/
abbrev WB (w : World) (b n : Nat) : Prop := Row w b 67 (Wc n)
/-- The blocks of a division: the two numbers, the two results (still 0), the quotient and the remainder so far. -/
structure DivS (w w' : World) (b0 b1 b2 b3 g0 g1 a b q r : Nat) : Prop where
  ra : WB w' b0 a
  rb : WB w' b1 b
  r2 : Row w' b2 67 #[.int .u64 0, .int .u64 0]
  r3 : Row w' b3 67 #[.int .u64 0, .int .u64 0]
  rq : WB w' g0 q
  rr : WB w' g1 r
  n0 : b0 ≠ g0
  n1 : b1 ≠ g0
  n2 : b2 ≠ g0
  n3 : b3 ≠ g0
  m0 : b0 ≠ g1
  m1 : b1 ≠ g1
  m2 : b2 ≠ g1
  m3 : b3 ≠ g1
  gg : g0 ≠ g1
  old : w.heap.size ≤ g0
  old1 : w.heap.size ≤ g1
  below : Below w.heap.size w w'
section
variable {w w' w'' : World} {b0 b1 b2 b3 g0 g1 a b q r : Nat}
theorem DivS.drew (h : DivS w w' b0 b1 b2 b3 g0 g1 a b q r) : DivS w w'.drew b0 b1 b2 b3 g0 g1 a b q r :=
  { ra := h.ra, rb := h.rb, r2 := h.r2, r3 := h.r3, rq := h.rq, rr := h.rr, n0 := h.n0, n1 := h.n1, n2 := h.n2, n3 := h.n3, m0 := h.m0, m1 := h.m1, m2 := h.m2, m3 := h.m3, gg := h.gg, old := h.old, old1 := h.old1, below := h.below.drew }
theorem DivS.call (h : DivS w w' b0 b1 b2 b3 g0 g1 a b q r) (k : Below w'.heap.size w' w'') : DivS w w'' b0 b1 b2 b3 g0 g1 a b q r :=
  { ra := row_call h.ra k, rb := row_call h.rb k, r2 := row_call h.r2 k, r3 := row_call h.r3 k, rq := row_call h.rq k, rr := row_call h.rr k, n0 := h.n0, n1 := h.n1, n2 := h.n2, n3 := h.n3, m0 := h.m0, m1 := h.m1, m2 := h.m2, m3 := h.m3, gg := h.gg, old := h.old, old1 := h.old1, below := h.below.trans (k.mono h.below.size) }
theorem DivS.setr (h : DivS w w' b0 b1 b2 b3 g0 g1 a b q r) (r' : Nat) : DivS w ((w'.setCell ⟨g1, 0, none⟩ (.int .u64 (hi r'))).setCell ⟨g1, 1, none⟩ (.int .u64 (lo r'))) b0 b1 b2 b3 g0 g1 a b q r' :=
  { ra := row_two_other h.ra h.m0, rb := row_two_other h.rb h.m1, r2 := row_two_other h.r2 h.m2, r3 := row_two_other h.r3 h.m3, rq := row_two_other h.rq h.gg, rr := row_two_set h.rr, n0 := h.n0, n1 := h.n1, n2 := h.n2, n3 := h.n3, m0 := h.m0, m1 := h.m1, m2 := h.m2, m3 := h.m3, gg := h.gg, old := h.old, old1 := h.old1, below := (h.below.setCell h.old1 _).setCell h.old1 _ }
theorem DivS.setq (h : DivS w w' b0 b1 b2 b3 g0 g1 a b q r) (q' : Nat) : DivS w ((w'.setCell ⟨g0, 0, none⟩ (.int .u64 (hi q'))).setCell ⟨g0, 1, none⟩ (.int .u64 (lo q'))) b0 b1 b2 b3 g0 g1 a b q' r :=
  { ra := row_two_other h.ra h.n0, rb := row_two_other h.rb h.n1, r2 := row_two_other h.r2 h.n2, r3 := row_two_other h.r3 h.n3, rq := row_two_set h.rq, rr := row_two_other h.rr h.gg.symm, n0 := h.n0, n1 := h.n1, n2 := h.n2, n3 := h.n3, m0 := h.m0, m1 := h.m1, m2 := h.m2, m3 := h.m3, gg := h.gg, old := h.old, old1 := h.old1, below := (h.below.setCell h.old _).setCell h.old _ }
theorem DivS.setq1 (h : DivS w w' b0 b1 b2 b3 g0 g1 a b q r) (q' : Nat) (e : hi q = hi q') : DivS w (w'.setCell ⟨g0, 1, none⟩ (.int .u64 (lo q'))) b0 b1 b2 b3 g0 g1 a b q' r :=
  { ra := row_other h.ra h.n0 _, rb := row_other h.rb h.n1 _, r2 := row_other h.r2 h.n2 _, r3 := row_other h.r3 h.n3 _, rq := (by have x := row_set h.rq 1 (.int .u64 (lo q')); unfold WB Wc; rw [← e]; exact x), rr := row_other h.rr h.gg.symm _, n0 := h.n0, n1 := h.n1, n2 := h.n2, n3 := h.n3, m0 := h.m0, m1 := h.m1, m2 := h.m2, m3 := h.m3, gg := h.gg, old := h.old, old1 := h.old1, below := h.below.setCell h.old _ }
end
end Go.Proofs.YtdipoojjlddohaaGreat
end
section
/- The long division of the program, walked. -/
set_option linter.unusedVariables false
set_option linter.unusedSimpArgs false
set_option linter.unusedSectionVars false
set_option linter.unnecessarySimpa false
namespace Go.Proofs.YtdipoojjlddohaaGreat
open Go.RowKit Go.Shelf
set_option maxHeartbeats 4000000 in
theorem pdiv_yes (a b : Nat) (ha : a < big) (hb : b < big) (h : b ≠ 0) (w : World) :
    Calls Tryz.prog 177 #[W a, W b] w fun e w' => e = .returned (.tuple #[W (a / b), W (a % b), .bool true]) ∧ Below w.heap.size w w' := by
  have hz : decide (b = 0) = false := by simpa using h
  have l0 := blenI_0 a
  have l1 := blenI_128 ha
  go_enter Tryz.func177, Tryz.ntmps177
  go_wp2_with (first | (go_at_call 163; refine (pzero b _).mono ?_; rintro e w1 ⟨rfl, hb1⟩; obtain ⟨hc1, hf1⟩ := bcell hb1; have hz1 := hb1.size; simp at hz1; have q1_0 : w.heap.size < w1.heap.size := (by omega); have q1_1 : w.heap.size + 1 < w1.heap.size := (by omega); have q1_2 : w.heap.size + 1 + 1 < w1.heap.size := (by omega); have q1_3 : w.heap.size + 1 + 1 + 1 < w1.heap.size := (by omega)) | (go_at_call 164; refine (pbits a ha _).mono ?_; rintro e w2 ⟨rfl, hb2⟩; obtain ⟨hc2, hf2⟩ := bcell hb2; have hz2 := hb2.size; simp at hz2; have q2_0 : w.heap.size < w2.heap.size := (by omega); have q2_1 : w.heap.size + 1 < w2.heap.size := (by omega); have q2_2 : w.heap.size + 1 + 1 < w2.heap.size := (by omega); have q2_3 : w.heap.size + 1 + 1 + 1 < w2.heap.size := (by omega); have q2_4 : w1.heap.size < w2.heap.size := (by omega); have q2_5 : w1.heap.size + 1 < w2.heap.size := (by omega)))
  have T0 := hi_0
  have T1 := lo_0
  have L : DivS w w2 (w.heap.size) (w.heap.size + 1) (w.heap.size + 1 + 1) (w.heap.size + 1 + 1 + 1) (w1.heap.size) (w1.heap.size + 1) a b 0 0 := by
    have j0 : Row w1 (w.heap.size) 67 (Wc a) := row_call (by (repeat (first | assumption | (refine row_new ?_; (first | (simp; done) | omega)) | refine row_alloc ?_ _ | refine row_drew ?_ | refine row_call ?_ (by assumption)))) hb1
    have j1 : Row w1 (w.heap.size + 1) 67 (Wc b) := row_call (by (repeat (first | assumption | (refine row_new ?_; (first | (simp; done) | omega)) | refine row_alloc ?_ _ | refine row_drew ?_ | refine row_call ?_ (by assumption)))) hb1
    have j2 : Row w1 (w.heap.size + 1 + 1) 67 #[.int .u64 0, .int .u64 0] := row_call (by (repeat (first | assumption | (refine row_new ?_; (first | (simp; done) | omega)) | refine row_alloc ?_ _ | refine row_drew ?_ | refine row_call ?_ (by assumption)))) hb1
    have j3 : Row w1 (w.heap.size + 1 + 1 + 1) 67 #[.int .u64 0, .int .u64 0] := row_call (by (repeat (first | assumption | (refine row_new ?_; (first | (simp; done) | omega)) | refine row_alloc ?_ _ | refine row_drew ?_ | refine row_call ?_ (by assumption)))) hb1
    have o2 : Below w.heap.size w w2 := by (repeat (first | exact Below.refl _ _ | refine Below.setCell ?_ (by first | (simp; done) | (simp; omega) | omega) _ | refine Below.alloc ?_ (by first | (simp; done) | (simp; omega) | omega) _ | refine Below.drew ?_ | refine Below.trans ?_ (Below.mono (by assumption) (by first | (simp; done) | (simp; omega) | omega))))
    refine ⟨row_call (by (repeat (first | assumption | (refine row_new ?_; (first | (simp; done) | omega)) | refine row_alloc ?_ _ | refine row_drew ?_ | refine row_call ?_ (by assumption)))) hb2, row_call (by (repeat (first | assumption | (refine row_new ?_; (first | (simp; done) | omega)) | refine row_alloc ?_ _ | refine row_drew ?_ | refine row_call ?_ (by assumption)))) hb2, row_call (by (repeat (first | assumption | (refine row_new ?_; (first | (simp; done) | omega)) | refine row_alloc ?_ _ | refine row_drew ?_ | refine row_call ?_ (by assumption)))) hb2, row_call (by (repeat (first | assumption | (refine row_new ?_; (first | (simp; done) | omega)) | refine row_alloc ?_ _ | refine row_drew ?_ | refine row_call ?_ (by assumption)))) hb2, row_call (w := (w1.alloc (.cells #[.int .u64 0, .int .u64 0] 67)).alloc (.cells #[.int .u64 0, .int .u64 0] 67)) ?_ hb2, row_call (w := (w1.alloc (.cells #[.int .u64 0, .int .u64 0] 67)).alloc (.cells #[.int .u64 0, .int .u64 0] 67)) ?_ hb2, by omega, by omega, by omega, by omega, by omega, by omega, by omega, by omega, by omega, by omega, by omega, o2⟩
    · rw [Wc, T0, T1]
      (repeat (first | assumption | (refine row_new ?_; (first | (simp; done) | omega)) | refine row_alloc ?_ _ | refine row_drew ?_ | refine row_call ?_ (by assumption)))
    · rw [Wc, T0, T1]
      (repeat (first | assumption | (refine row_new ?_; (first | (simp; done) | omega)) | refine row_alloc ?_ _ | refine row_drew ?_ | refine row_call ?_ (by assumption)))
  clear T0 T1 hc1 hf1 hc2 hf2 hb1 hb2
  go_loopw [9] (fun i wr => ∃ n : Nat, n ≤ blen a ∧ i = .int .i64 ((n : Int) - 1) ∧ DivS w wr (w.heap.size) (w.heap.size + 1) (w.heap.size + 1 + 1) (w.heap.size + 1 + 1 + 1) (w1.heap.size) (w1.heap.size + 1) a b (qat a b n) (rat a b n)) (fun i _ => (intOf i + 1).toNat)
  case atStart =>
    refine ⟨blen a, Nat.le_refl _, rfl, ?_⟩
    rw [qat_start (lt_blen ha), rat_start (lt_blen ha)]
    exact L
  case round =>
    clear L
    obtain ⟨n, hn, rfl, L⟩ := hrel
    rcases n with _ | k
    · rw [qat_0, rat_0] at L
      obtain ⟨A0, A1, _, _⟩ := row_two L.ra; obtain ⟨B0, B1, _, _⟩ := row_two L.rb; obtain ⟨Q0, Q1, U0, U1⟩ := row_two L.rq; obtain ⟨R0, R1, V0, V1⟩ := row_two L.rr
      obtain ⟨Z0, Z1, Z2, Z3⟩ := row_two L.r2
      obtain ⟨Y0, Y1, Y2, Y3⟩ := row_two L.r3
      have hx := L.below
      go_wp2
      go_region
      go_wp2
      simp [bodyPost, results, Tryz.results177, go_sem, Z0, Z1, Y0, Y1]
      (repeat (first | exact Below.refl _ _ | refine Below.setCell ?_ (by first | (simp; done) | (simp; omega) | omega) _ | refine Below.alloc ?_ (by first | (simp; done) | (simp; omega) | omega) _ | refine Below.drew ?_ | refine Below.trans ?_ (Below.mono (by assumption) (by first | (simp; done) | (simp; omega) | omega))))
    · have ei : (((k + 1 : Nat) : Int) - 1) = (k : Int) := by omega
      have C := pbit a k ha (by omega) (by have := blen_le ha; omega)
      rw [Int.toNat_natCast] at C
      rw [ei]
      have hk : k < 128 := by have := blen_le ha; omega
      have D0 := dig_0 a k
      have D1 := dig_1 a k
      have hrb : rat a b (k + 1) < big := Nat.lt_trans (rat_lt h) hb
      have hkn : k ≤ blen a := by omega
      have hqb : qat a b (k + 1) < big := Nat.lt_of_le_of_lt (qat_le a b (k + 1)) ha
      have HT := Lib.hid (takes (a := a) (k := k) h hb)
      have HE1 := Lib.hid (fun hge => step_one (k := k) ha h hb hge)
      have HE0 := Lib.hid (fun hlt => step_none (b := b) (k := k) ha hb hlt)
      generalize rat a b (k + 1) = r at *
      generalize qat a b (k + 1) = q at *
      have F1 := dbl_hi hrb D0 D1
      have F2 := dbl_lo (r := r) D0 D1
      have F3 := topd_eq r
      have F4 := dbl_hi (d := 0) hqb (by omega) (by omega)
      have F5 := dbl_lo0 q
      have HC := Lib.hid C
      clear ei C
      obtain ⟨A0, A1, _, _⟩ := row_two L.ra; obtain ⟨B0, B1, _, _⟩ := row_two L.rb; obtain ⟨Q0, Q1, U0, U1⟩ := row_two L.rq; obtain ⟨R0, R1, V0, V1⟩ := row_two L.rr
      go_upto_region 8 with (fail)
      refine wp_region_det 15 (fun w' => DivS w w' (w.heap.size) (w.heap.size + 1) (w.heap.size + 1 + 1) (w.heap.size + 1 + 1 + 1) (w1.heap.size) (w1.heap.size + 1) a b q r) (by kernel_rfl) (by kernel_rfl) L.drew ?_
      simp only [List.take_succ_cons, List.take_zero, List.drop_succ_cons, List.drop_zero]
      clear A0 A1 B0 B1 Q0 Q1 U0 U1 R0 R1 V0 V1
      repeat (first | refine wpDet_nil ?_ | (refine wpDet_val ?_ rfl (fun w' hS => ?_) ?_; rotate_left; (obtain ⟨A0, A1, _, _⟩ := row_two hS.ra; obtain ⟨B0, B1, _, _⟩ := row_two hS.rb; obtain ⟨Q0, Q1, U0, U1⟩ := row_two hS.rq; obtain ⟨R0, R1, V0, V1⟩ := row_two hS.rr; go_simp; try with_reducible rfl); simp only [Act.put, List.setIfInBounds_toArray, List.set_cons_zero, List.set_cons_succ]))
      refine wpDet_call (.int .u64 (dig a k)) 249 #[W a, .int .i64 k] rfl (fun w' hS => by go_simp) (fun w' hS => (HC.out w').mono fun e w'' ⟨he, hb⟩ => ⟨he, hS.call hb⟩) ?_
      simp only [Act.put, List.setIfInBounds_toArray, List.set_cons_zero, List.set_cons_succ]
      repeat (first | refine wpDet_nil ?_ | (refine wpDet_val ?_ rfl (fun w' hS => ?_) ?_; rotate_left; (obtain ⟨A0, A1, _, _⟩ := row_two hS.ra; obtain ⟨B0, B1, _, _⟩ := row_two hS.rb; obtain ⟨Q0, Q1, U0, U1⟩ := row_two hS.rq; obtain ⟨R0, R1, V0, V1⟩ := row_two hS.rr; go_simp; try with_reducible rfl); simp only [Act.put, List.setIfInBounds_toArray, List.set_cons_zero, List.set_cons_succ]))
      intro w3 L3
      clear L
      obtain ⟨A0, A1, _, _⟩ := row_two L3.ra; obtain ⟨B0, B1, _, _⟩ := row_two L3.rb; obtain ⟨Q0, Q1, U0, U1⟩ := row_two L3.rq; obtain ⟨R0, R1, V0, V1⟩ := row_two L3.rr
      go_upto_region 9 with (fail)
      clear A0 A1 B0 B1 Q0 Q1 U0 U1 R0 R1 V0 V1
      have L4 := L3.setr (dbl r (dig a k))
      generalize (w3.setCell ⟨w1.heap.size + 1, 0, none⟩ (.int .u64 (hi (dbl r (dig a k))))).setCell ⟨w1.heap.size + 1, 1, none⟩ (.int .u64 (lo (dbl r (dig a k)))) = w4 at L4 ⊢
      clear L3
      obtain ⟨A0, A1, _, _⟩ := row_two L4.ra; obtain ⟨B0, B1, _, _⟩ := row_two L4.rb; obtain ⟨Q0, Q1, U0, U1⟩ := row_two L4.rq; obtain ⟨R0, R1, V0, V1⟩ := row_two L4.rr
      go_upto_region 10 with (fail)
      clear A0 A1 B0 B1 Q0 Q1 U0 U1 R0 R1 V0 V1 F1 F2 F4
      have L5 := L4.setq (dbl q 0)
      generalize (w4.setCell ⟨w1.heap.size, 0, none⟩ (.int .u64 (hi (dbl q 0)))).setCell ⟨w1.heap.size, 1, none⟩ (.int .u64 (lo (dbl q 0))) = w5 at L5 ⊢
      clear L4 F3 F5
      have hxb := dbl_lt r (dig a k)
      generalize dbl r (dig a k) = x at *
      obtain ⟨A0, A1, _, _⟩ := row_two L5.ra; obtain ⟨B0, B1, _, _⟩ := row_two L5.rb; obtain ⟨Q0, Q1, U0, U1⟩ := row_two L5.rq; obtain ⟨R0, R1, V0, V1⟩ := row_two L5.rr
      have KK : {x0 : Nat // x0 = 0} := ⟨0, rfl⟩
      clear KK
      have S1 := subw_lo hxb hb
      have S2 := subw_hi hxb hb
      have S5 := @or_one q
      obtain ⟨e1, e2⟩ := hi_word hxb
      obtain ⟨e3, e4⟩ := lo_word x
      obtain ⟨e5, e6⟩ := hi_word hb
      obtain ⟨e7, e8⟩ := lo_word b
      have S3 := bor_0 (lo x) (lo b)
      have S4 := bor_1 (lo x) (lo b)
      have CM := Lib.hid (fun w' => pcmp_any x b w')
      rcases HT.out with ⟨ht, hge⟩ | ⟨⟨ht, hlt⟩, hnb⟩
      · obtain ⟨E1, E2⟩ := HE1.out hge
        have G1 := Lib.hid E1
        have G2 := Lib.hid E2
        clear E1 E2 hge HE1 HE0 HT
        rcases ht with ht | ⟨ht, hle⟩
        · go_upto_region 11 with (fail)
          go_upto_region 13 with (first | simp only [sub64_0 (lo x) (lo b) e3 e7 e8] | simp only [sub64 (hi x) (hi b) _ e1 e5 e6 S3 S4])
          clear A0 A1 B0 B1 Q0 Q1 U0 U1 R0 R1 V0 V1
          obtain ⟨A0, A1, _, _⟩ := row_two L5.ra; obtain ⟨B0, B1, _, _⟩ := row_two L5.rb; obtain ⟨Q0, Q1, U0, U1⟩ := row_two L5.rq; obtain ⟨R0, R1, V0, V1⟩ := row_two L5.rr
          go_upto_region 14 with (fail)
          have L7 := L5.setr (subw x b)
          generalize (w5.setCell ⟨w1.heap.size + 1, 0, none⟩ (.int .u64 (hi (subw x b)))).setCell ⟨w1.heap.size + 1, 1, none⟩ (.int .u64 (lo (subw x b))) = w7 at L7 ⊢
          clear L5 A0 A1 B0 B1 Q0 Q1 U0 U1 R0 R1 V0 V1 S1 S2 S3 S4
          obtain ⟨A0, A1, _, _⟩ := row_two L7.ra; obtain ⟨B0, B1, _, _⟩ := row_two L7.rb; obtain ⟨Q0, Q1, U0, U1⟩ := row_two L7.rq; obtain ⟨R0, R1, V0, V1⟩ := row_two L7.rr
          go_upto_region 6 with (fail)
          have L8 := L7.setq1 (dbl q 1) hi_one
          rw [G1.out, G2.out] at L8
          generalize hw8 : w7.setCell ⟨w1.heap.size, 1, none⟩ (.int .u64 (lo (dbl q 1))) = w8 at *
          rw [G2.out] at hw8
          rw [hw8] at L8
          clear L7 A0 A1 B0 B1 Q0 Q1 U0 U1 R0 R1 V0 V1 hw8
          go_wp2
          go_roundw
          case rel => exact ⟨k, hkn, by go_num, L8⟩
          case measure => first | (simp [intOf]; done) | (simp [intOf]; omega)
        · have hcm : ¬ cmp x b < 0 := by have := cmp_nonneg hle; omega
          go_upto_region 11 with ((go_at_call 235; refine (CM.out _).mono ?_; rintro e w6 ⟨rfl, hb6⟩))
          have L6 := L5.call hb6
          clear L5 A0 A1 B0 B1 Q0 Q1 U0 U1 R0 R1 V0 V1 hb6
          obtain ⟨w5, rfl⟩ : ∃ x : World, x = w6 := ⟨_, rfl⟩
          have L5 := L6
          clear L6
          obtain ⟨A0, A1, _, _⟩ := row_two L5.ra; obtain ⟨B0, B1, _, _⟩ := row_two L5.rb; obtain ⟨Q0, Q1, U0, U1⟩ := row_two L5.rq; obtain ⟨R0, R1, V0, V1⟩ := row_two L5.rr
          go_upto_region 13 with (first | simp only [sub64_0 (lo x) (lo b) e3 e7 e8] | simp only [sub64 (hi x) (hi b) _ e1 e5 e6 S3 S4])
          clear A0 A1 B0 B1 Q0 Q1 U0 U1 R0 R1 V0 V1
          obtain ⟨A0, A1, _, _⟩ := row_two L5.ra; obtain ⟨B0, B1, _, _⟩ := row_two L5.rb; obtain ⟨Q0, Q1, U0, U1⟩ := row_two L5.rq; obtain ⟨R0, R1, V0, V1⟩ := row_two L5.rr
          go_upto_region 14 with (fail)
          have L7 := L5.setr (subw x b)
          generalize (w5.setCell ⟨w1.heap.size + 1, 0, none⟩ (.int .u64 (hi (subw x b)))).setCell ⟨w1.heap.size + 1, 1, none⟩ (.int .u64 (lo (subw x b))) = w7 at L7 ⊢
          clear L5 A0 A1 B0 B1 Q0 Q1 U0 U1 R0 R1 V0 V1 S1 S2 S3 S4
          obtain ⟨A0, A1, _, _⟩ := row_two L7.ra; obtain ⟨B0, B1, _, _⟩ := row_two L7.rb; obtain ⟨Q0, Q1, U0, U1⟩ := row_two L7.rq; obtain ⟨R0, R1, V0, V1⟩ := row_two L7.rr
          go_upto_region 6 with (fail)
          have L8 := L7.setq1 (dbl q 1) hi_one
          rw [G1.out, G2.out] at L8
          generalize hw8 : w7.setCell ⟨w1.heap.size, 1, none⟩ (.int .u64 (lo (dbl q 1))) = w8 at *
          rw [G2.out] at hw8
          rw [hw8] at L8
          clear L7 A0 A1 B0 B1 Q0 Q1 U0 U1 R0 R1 V0 V1 hw8
          go_wp2
          go_roundw
          case rel => exact ⟨k, hkn, by go_num, L8⟩
          case measure => first | (simp [intOf]; done) | (simp [intOf]; omega)
      · have G3 := Lib.hid (HE0.out hnb)
        have CL := CM.out
        rw [cmp_lt hlt] at CL
        have CM := Lib.hid CL
        clear CL
        clear HE1 HE0 HT hnb hlt
        go_upto_region 6 with ((go_at_call 235; refine (CM.out _).mono ?_; rintro e w6 ⟨rfl, hb6⟩))
        have L6 := L5.call hb6
        rw [G3.out.1, G3.out.2] at L6
        clear L5 A0 A1 B0 B1 Q0 Q1 U0 U1 R0 R1 V0 V1 hb6
        go_wp2
        go_roundw
        case rel => exact ⟨k, hkn, by go_num, L6⟩
        case measure => first | (simp [intOf]; done) | (simp [intOf]; omega)
end Go.Proofs.YtdipoojjlddohaaGreat
end
section
/- The long division of the reference, walked. -/
set_option linter.unusedVariables false
set_option linter.unusedSimpArgs false
set_option linter.unusedSectionVars false
set_option linter.unnecessarySimpa false
namespace Go.Proofs.YtdipoojjlddohaaGreat
open Go.RowKit Go.Shelf
set_option maxHeartbeats 4000000 in
theorem rdiv_yes (a b : Nat) (ha : a < big) (hb : b < big) (h : b ≠ 0) (w : World) :
    Calls Tryz.prog 275 #[W a, W b] w fun e w' => e = .returned (.tuple #[W (a / b), W (a % b), .bool true]) ∧ Below w.heap.size w w' := by
  have hz : ∀ w' : World, (binOp .eql 67 (.agg #[.int .u64 (hi b), .int .u64 (lo b)]) (.agg #[.int .u64 0, .int .u64 0])).run Tryz.prog w' = .ok (.bool false) w' := fun w' => by
    go_simp
    exact fun h1 h2 => h (hi_inj (b := 0) h1 h2)
  go_enter Tryz.func275, Tryz.ntmps275
  go_upto_region 4 with (fail)
  have T0 := hi_0
  have T1 := lo_0
  have L : DivS w ((((((w.alloc (.cells (Wc a) 67)).alloc (.cells (Wc b) 67)).alloc (.cells #[.int .u64 0, .int .u64 0] 67)).alloc (.cells #[.int .u64 0, .int .u64 0] 67)).alloc (.cells #[.int .u64 0, .int .u64 0] 67)).alloc (.cells #[.int .u64 0, .int .u64 0] 67)) (w.heap.size) (w.heap.size + 1) (w.heap.size + 1 + 1) (w.heap.size + 1 + 1 + 1) (w.heap.size + 1 + 1 + 1 + 1) (w.heap.size + 1 + 1 + 1 + 1 + 1) a b 0 0 := by
    refine ⟨by (repeat (first | assumption | (refine row_new ?_; (first | (simp; done) | omega)) | refine row_alloc ?_ _ | refine row_drew ?_ | refine row_call ?_ (by assumption))), by (repeat (first | assumption | (refine row_new ?_; (first | (simp; done) | omega)) | refine row_alloc ?_ _ | refine row_drew ?_ | refine row_call ?_ (by assumption))), by (repeat (first | assumption | (refine row_new ?_; (first | (simp; done) | omega)) | refine row_alloc ?_ _ | refine row_drew ?_ | refine row_call ?_ (by assumption))), by (repeat (first | assumption | (refine row_new ?_; (first | (simp; done) | omega)) | refine row_alloc ?_ _ | refine row_drew ?_ | refine row_call ?_ (by assumption))), by unfold WB Wc; rw [T0, T1]; (repeat (first | assumption | (refine row_new ?_; (first | (simp; done) | omega)) | refine row_alloc ?_ _ | refine row_drew ?_ | refine row_call ?_ (by assumption))), by unfold WB Wc; rw [T0, T1]; (repeat (first | assumption | (refine row_new ?_; (first | (simp; done) | omega)) | refine row_alloc ?_ _ | refine row_drew ?_ | refine row_call ?_ (by assumption))), by omega, by omega, by omega, by omega, by omega, by omega, by omega, by omega, by omega, by omega, by omega, by (repeat (first | exact Below.refl _ _ | refine Below.setCell ?_ (by first | (simp; done) | (simp; omega) | omega) _ | refine Below.alloc ?_ (by first | (simp; done) | (simp; omega) | omega) _ | refine Below.drew ?_ | refine Below.trans ?_ (Below.mono (by assumption) (by first | (simp; done) | (simp; omega) | omega))))⟩
  generalize ((((((w.alloc (.cells (Wc a) 67)).alloc (.cells (Wc b) 67)).alloc (.cells #[.int .u64 0, .int .u64 0] 67)).alloc (.cells #[.int .u64 0, .int .u64 0] 67)).alloc (.cells #[.int .u64 0, .int .u64 0] 67)).alloc (.cells #[.int .u64 0, .int .u64 0] 67)) = w2 at L ⊢
  clear T0 T1 hz
  go_wp2_with fail
  go_loopw [9] (fun i wr => ∃ n : Nat, n ≤ 128 ∧ i = .int .i64 ((n : Int) - 1) ∧ DivS w wr (w.heap.size) (w.heap.size + 1) (w.heap.size + 1 + 1) (w.heap.size + 1 + 1 + 1) (w.heap.size + 1 + 1 + 1 + 1) (w.heap.size + 1 + 1 + 1 + 1 + 1) a b (qat a b n) (rat a b n)) (fun i _ => (intOf i + 1).toNat)
  case atStart =>
    refine ⟨128, Nat.le_refl _, rfl, ?_⟩
    have h128 : a < 2 ^ 128 := Nat.lt_of_lt_of_le ha (by decide)
    rw [qat_start h128, rat_start h128]
    exact L
  case round =>
    clear L
    obtain ⟨n, hn, rfl, L⟩ := hrel
    rcases n with _ | k
    · rw [qat_0, rat_0] at L
      obtain ⟨A0, A1, _, _⟩ := row_two L.ra; obtain ⟨B0, B1, _, _⟩ := row_two L.rb; obtain ⟨Q0, Q1, U0, U1⟩ := row_two L.rq; obtain ⟨R0, R1, V0, V1⟩ := row_two L.rr
      obtain ⟨Z0, Z1, Z2, Z3⟩ := row_two L.r2
      obtain ⟨Y0, Y1, Y2, Y3⟩ := row_two L.r3
      have hx := L.below
      go_wp2
      go_region
      go_wp2
      simp [bodyPost, results, Tryz.results275, go_sem, Z0, Z1, Y0, Y1]
      (repeat (first | exact Below.refl _ _ | refine Below.setCell ?_ (by first | (simp; done) | (simp; omega) | omega) _ | refine Below.alloc ?_ (by first | (simp; done) | (simp; omega) | omega) _ | refine Below.drew ?_ | refine Below.trans ?_ (Below.mono (by assumption) (by first | (simp; done) | (simp; omega) | omega))))
    · have ei : (((k + 1 : Nat) : Int) - 1) = (k : Int) := by omega
      have C := rbit a k ha (by omega) (by omega)
      rw [Int.toNat_natCast] at C
      rw [ei]
      have hk : k < 128 := by omega
      have D0 := dig_0 a k
      have D1 := dig_1 a k
      have hrb : rat a b (k + 1) < big := Nat.lt_trans (rat_lt h) hb
      have hkn : k ≤ 128 := by omega
      have hqb : qat a b (k + 1) < big := Nat.lt_of_le_of_lt (qat_le a b (k + 1)) ha
      have HT := Lib.hid (takes (a := a) (k := k) h hb)
      have HE1 := Lib.hid (fun hge => step_one (k := k) ha h hb hge)
      have HE0 := Lib.hid (fun hlt => step_none (b := b) (k := k) ha hb hlt)
      generalize rat a b (k + 1) = r at *
      generalize qat a b (k + 1) = q at *
      have HC := Lib.hid C
      clear ei C hn
      obtain ⟨A0, A1, _, _⟩ := row_two L.ra; obtain ⟨B0, B1, _, _⟩ := row_two L.rb; obtain ⟨Q0, Q1, U0, U1⟩ := row_two L.rq; obtain ⟨R0, R1, V0, V1⟩ := row_two L.rr
      go_upto_region 8 with (fail)
      clear A0 A1 B0 B1 Q0 Q1 U0 U1 R0 R1 V0 V1
      refine wp_region_free0 [0, 1, 2, 3, 4, 5, 7, 6] [7] [0, 1, 2, 3, 4, 5, 6] 8 (fun w' => DivS w w' (w.heap.size) (w.heap.size + 1) (w.heap.size + 1 + 1) (w.heap.size + 1 + 1 + 1) (w.heap.size + 1 + 1 + 1 + 1) (w.heap.size + 1 + 1 + 1 + 1 + 1) a b q r) (by kernel_rfl) (by kernel_rfl) (fun _ _ d _ _ h => by cases d <;> exact h) ?_ ?_
      · exact L.drew
      (refine plan_val ?_ rfl rfl rfl (fun w' hS => ?_) ?_; rotate_left; (obtain ⟨A0, A1, _, _⟩ := row_two hS.ra; obtain ⟨B0, B1, _, _⟩ := row_two hS.rb; obtain ⟨Q0, Q1, U0, U1⟩ := row_two hS.rq; obtain ⟨R0, R1, V0, V1⟩ := row_two hS.rr; go_simp; try with_reducible rfl); simp only [Act.put, List.setIfInBounds_toArray, List.set_cons_zero, List.set_cons_succ])
      (refine plan_val ?_ rfl rfl rfl (fun w' hS => ?_) ?_; rotate_left; (obtain ⟨A0, A1, _, _⟩ := row_two hS.ra; obtain ⟨B0, B1, _, _⟩ := row_two hS.rb; obtain ⟨Q0, Q1, U0, U1⟩ := row_two hS.rq; obtain ⟨R0, R1, V0, V1⟩ := row_two hS.rr; go_simp; try with_reducible rfl); simp only [Act.put, List.setIfInBounds_toArray, List.set_cons_zero, List.set_cons_succ])
      (refine plan_pure ?_ rfl rfl (fun w' => ?_) ?_; rotate_left; (go_simp; try with_reducible rfl); simp only [Act.put, List.setIfInBounds_toArray, List.set_cons_zero, List.set_cons_succ])
      refine plan_call (.int .u64 (dig a k)) 303 #[W a, .int .i64 k] rfl rfl rfl (fun w' w'' h hb => h.call hb) (fun w' hS => by obtain ⟨A0, A1, _, _⟩ := row_two hS.ra; obtain ⟨B0, B1, _, _⟩ := row_two hS.rb; obtain ⟨Q0, Q1, U0, U1⟩ := row_two hS.rq; obtain ⟨R0, R1, V0, V1⟩ := row_two hS.rr; go_simp) (fun w' hS => (HC.out w')) ?_
      simp only [Act.put, List.setIfInBounds_toArray, List.set_cons_zero, List.set_cons_succ]
      refine plan_call (.tuple #[W (dbl r (dig a k)), .int .u64 (topd r)]) 302 #[W r, .int .u64 (dig a k)] rfl rfl rfl (fun w' w'' h hb => h.call hb) (fun w' hS => by obtain ⟨A0, A1, _, _⟩ := row_two hS.ra; obtain ⟨B0, B1, _, _⟩ := row_two hS.rb; obtain ⟨Q0, Q1, U0, U1⟩ := row_two hS.rq; obtain ⟨R0, R1, V0, V1⟩ := row_two hS.rr; go_simp) (fun w' hS => rdouble r (dig a k) hrb D0 D1 w') ?_
      simp only [Act.put, List.setIfInBounds_toArray, List.set_cons_zero, List.set_cons_succ]
      (refine plan_pure ?_ rfl rfl (fun w' => ?_) ?_; rotate_left; (go_simp; try with_reducible rfl); simp only [Act.put, List.setIfInBounds_toArray, List.set_cons_zero, List.set_cons_succ])
      (refine plan_pure ?_ rfl rfl (fun w' => ?_) ?_; rotate_left; (go_simp; try with_reducible rfl); simp only [Act.put, List.setIfInBounds_toArray, List.set_cons_zero, List.set_cons_succ])
      (refine plan_pure ?_ rfl rfl (fun w' => ?_) ?_; rotate_left; (go_simp; try with_reducible rfl); simp only [Act.put, List.setIfInBounds_toArray, List.set_cons_zero, List.set_cons_succ])
      refine plan_nil ?_
      intro w3 L3
      simp only [List.drop_succ_cons, List.drop_zero]
      try simp only [Act.put, List.setIfInBounds_toArray, List.set_cons_zero, List.set_cons_succ]
      clear L
      obtain ⟨A0, A1, _, _⟩ := row_two L3.ra; obtain ⟨B0, B1, _, _⟩ := row_two L3.rb; obtain ⟨Q0, Q1, U0, U1⟩ := row_two L3.rq; obtain ⟨R0, R1, V0, V1⟩ := row_two L3.rr
      go_upto_region 9 with (fail)
      clear A0 A1 B0 B1 Q0 Q1 U0 U1 R0 R1 V0 V1
      have L5 := L3.setr (dbl r (dig a k))
      generalize (w3.setCell ⟨w.heap.size + 1 + 1 + 1 + 1 + 1, 0, none⟩ (.int .u64 (hi (dbl r (dig a k))))).setCell ⟨w.heap.size + 1 + 1 + 1 + 1 + 1, 1, none⟩ (.int .u64 (lo (dbl r (dig a k)))) = w5 at L5 ⊢
      clear L3
      have hxb := dbl_lt r (dig a k)
      generalize dbl r (dig a k) = x at *
      obtain ⟨A0, A1, _, _⟩ := row_two L5.ra; obtain ⟨B0, B1, _, _⟩ := row_two L5.rb; obtain ⟨Q0, Q1, U0, U1⟩ := row_two L5.rq; obtain ⟨R0, R1, V0, V1⟩ := row_two L5.rr
      have S1 := subw_lo hxb hb
      have S2 := subw_hi hxb hb
      obtain ⟨e1, e2⟩ := hi_word hxb
      obtain ⟨e3, e4⟩ := lo_word x
      obtain ⟨e5, e6⟩ := hi_word hb
      obtain ⟨e7, e8⟩ := lo_word b
      have S3 := bor_0 (lo x) (lo b)
      have S4 := bor_1 (lo x) (lo b)
      rcases HT.out with ⟨ht, hge⟩ | ⟨⟨ht, hlt⟩, hnb⟩
      · obtain ⟨E1, E2⟩ := HE1.out hge
        have G1 := Lib.hid E1
        have G2 := Lib.hid E2
        have DB := Lib.hid (fun w' => rdouble q 1 hqb (by omega) (by omega) w')
        clear E1 E2 hge HE1 HE0 HT HC D0 D1
        rcases ht with ht | ⟨ht, hle⟩
        · go_upto_region 11 with (fail)
          go_upto_region 13 with (first | simp only [sub64_0 (lo x) (lo b) e3 e7 e8] | simp only [sub64 (hi x) (hi b) _ e1 e5 e6 S3 S4])
          clear A0 A1 B0 B1 Q0 Q1 U0 U1 R0 R1 V0 V1
          obtain ⟨A0, A1, _, _⟩ := row_two L5.ra; obtain ⟨B0, B1, _, _⟩ := row_two L5.rb; obtain ⟨Q0, Q1, U0, U1⟩ := row_two L5.rq; obtain ⟨R0, R1, V0, V1⟩ := row_two L5.rr
          go_upto_region 14 with (fail)
          have L7 := L5.setr (subw x b)
          generalize (w5.setCell ⟨w.heap.size + 1 + 1 + 1 + 1 + 1, 0, none⟩ (.int .u64 (hi (subw x b)))).setCell ⟨w.heap.size + 1 + 1 + 1 + 1 + 1, 1, none⟩ (.int .u64 (lo (subw x b))) = w7 at L7 ⊢
          clear L5 A0 A1 B0 B1 Q0 Q1 U0 U1 R0 R1 V0 V1 S1 S2 S3 S4
          obtain ⟨A0, A1, _, _⟩ := row_two L7.ra; obtain ⟨B0, B1, _, _⟩ := row_two L7.rb; obtain ⟨Q0, Q1, U0, U1⟩ := row_two L7.rq; obtain ⟨R0, R1, V0, V1⟩ := row_two L7.rr
          go_wp2_with fail
          refine (DB.out _).mono ?_
          rintro e w8 ⟨rfl, hb8⟩
          have L8 := L7.call hb8
          clear L7 A0 A1 B0 B1 Q0 Q1 U0 U1 R0 R1 V0 V1 hb8
          obtain ⟨A0, A1, _, _⟩ := row_two L8.ra; obtain ⟨B0, B1, _, _⟩ := row_two L8.rb; obtain ⟨Q0, Q1, U0, U1⟩ := row_two L8.rq; obtain ⟨R0, R1, V0, V1⟩ := row_two L8.rr
          go_upto_region 6 with (fail)
          have L9 := L8.setq (dbl q 1)
          generalize (w8.setCell ⟨w.heap.size + 1 + 1 + 1 + 1, 0, none⟩ (.int .u64 (hi (dbl q 1)))).setCell ⟨w.heap.size + 1 + 1 + 1 + 1, 1, none⟩ (.int .u64 (lo (dbl q 1))) = w9 at L9 ⊢
          rw [G1.out, G2.out] at L9
          clear L8 A0 A1 B0 B1 Q0 Q1 U0 U1 R0 R1 V0 V1
          go_wp2
          go_roundw
          case rel => exact ⟨k, hkn, by go_num, L9⟩
          case measure => first | (simp [intOf]; done) | (simp [intOf]; omega)
        · have CL := fun w' => rcmp_any x b w'
          rcases Nat.lt_or_eq_of_le hle with hlt | hxe
          · rw [cmp_gt hlt] at CL
            have CM := Lib.hid CL
            clear CL hle hlt
            go_upto_region 11 with ((go_at_call 304; refine (CM.out _).mono ?_; rintro e w6 ⟨rfl, hb6⟩))
            have L6 := L5.call hb6
            clear L5 A0 A1 B0 B1 Q0 Q1 U0 U1 R0 R1 V0 V1 hb6
            obtain ⟨w5, rfl⟩ : ∃ x : World, x = w6 := ⟨_, rfl⟩
            have L5 := L6
            clear L6
            obtain ⟨A0, A1, _, _⟩ := row_two L5.ra; obtain ⟨B0, B1, _, _⟩ := row_two L5.rb; obtain ⟨Q0, Q1, U0, U1⟩ := row_two L5.rq; obtain ⟨R0, R1, V0, V1⟩ := row_two L5.rr
            go_upto_region 13 with (first | simp only [sub64_0 (lo x) (lo b) e3 e7 e8] | simp only [sub64 (hi x) (hi b) _ e1 e5 e6 S3 S4])
            clear A0 A1 B0 B1 Q0 Q1 U0 U1 R0 R1 V0 V1
            obtain ⟨A0, A1, _, _⟩ := row_two L5.ra; obtain ⟨B0, B1, _, _⟩ := row_two L5.rb; obtain ⟨Q0, Q1, U0, U1⟩ := row_two L5.rq; obtain ⟨R0, R1, V0, V1⟩ := row_two L5.rr
            go_upto_region 14 with (fail)
            have L7 := L5.setr (subw x b)
            generalize (w5.setCell ⟨w.heap.size + 1 + 1 + 1 + 1 + 1, 0, none⟩ (.int .u64 (hi (subw x b)))).setCell ⟨w.heap.size + 1 + 1 + 1 + 1 + 1, 1, none⟩ (.int .u64 (lo (subw x b))) = w7 at L7 ⊢
            clear L5 A0 A1 B0 B1 Q0 Q1 U0 U1 R0 R1 V0 V1 S1 S2 S3 S4
            obtain ⟨A0, A1, _, _⟩ := row_two L7.ra; obtain ⟨B0, B1, _, _⟩ := row_two L7.rb; obtain ⟨Q0, Q1, U0, U1⟩ := row_two L7.rq; obtain ⟨R0, R1, V0, V1⟩ := row_two L7.rr
            go_wp2_with fail
            refine (DB.out _).mono ?_
            rintro e w8 ⟨rfl, hb8⟩
            have L8 := L7.call hb8
            clear L7 A0 A1 B0 B1 Q0 Q1 U0 U1 R0 R1 V0 V1 hb8
            obtain ⟨A0, A1, _, _⟩ := row_two L8.ra; obtain ⟨B0, B1, _, _⟩ := row_two L8.rb; obtain ⟨Q0, Q1, U0, U1⟩ := row_two L8.rq; obtain ⟨R0, R1, V0, V1⟩ := row_two L8.rr
            go_upto_region 6 with (fail)
            have L9 := L8.setq (dbl q 1)
            generalize (w8.setCell ⟨w.heap.size + 1 + 1 + 1 + 1, 0, none⟩ (.int .u64 (hi (dbl q 1)))).setCell ⟨w.heap.size + 1 + 1 + 1 + 1, 1, none⟩ (.int .u64 (lo (dbl q 1))) = w9 at L9 ⊢
            rw [G1.out, G2.out] at L9
            clear L8 A0 A1 B0 B1 Q0 Q1 U0 U1 R0 R1 V0 V1
            go_wp2
            go_roundw
            case rel => exact ⟨k, hkn, by go_num, L9⟩
            case measure => first | (simp [intOf]; done) | (simp [intOf]; omega)
          · have c0 : cmp x b = 0 := by subst hxe; exact cmp_eq _
            rw [c0] at CL
            have CM := Lib.hid CL
            clear CL hle hxe c0
            go_upto_region 11 with ((go_at_call 304; refine (CM.out _).mono ?_; rintro e w6 ⟨rfl, hb6⟩))
            have L6 := L5.call hb6
            clear L5 A0 A1 B0 B1 Q0 Q1 U0 U1 R0 R1 V0 V1 hb6
            obtain ⟨w5, rfl⟩ : ∃ x : World, x = w6 := ⟨_, rfl⟩
            have L5 := L6
            clear L6
            obtain ⟨A0, A1, _, _⟩ := row_two L5.ra; obtain ⟨B0, B1, _, _⟩ := row_two L5.rb; obtain ⟨Q0, Q1, U0, U1⟩ := row_two L5.rq; obtain ⟨R0, R1, V0, V1⟩ := row_two L5.rr
            go_upto_region 13 with (first | simp only [sub64_0 (lo x) (lo b) e3 e7 e8] | simp only [sub64 (hi x) (hi b) _ e1 e5 e6 S3 S4])
            clear A0 A1 B0 B1 Q0 Q1 U0 U1 R0 R1 V0 V1
            obtain ⟨A0, A1, _, _⟩ := row_two L5.ra; obtain ⟨B0, B1, _, _⟩ := row_two L5.rb; obtain ⟨Q0, Q1, U0, U1⟩ := row_two L5.rq; obtain ⟨R0, R1, V0, V1⟩ := row_two L5.rr
            go_upto_region 14 with (fail)
            have L7 := L5.setr (subw x b)
            generalize (w5.setCell ⟨w.heap.size + 1 + 1 + 1 + 1 + 1, 0, none⟩ (.int .u64 (hi (subw x b)))).setCell ⟨w.heap.size + 1 + 1 + 1 + 1 + 1, 1, none⟩ (.int .u64 (lo (subw x b))) = w7 at L7 ⊢
            clear L5 A0 A1 B0 B1 Q0 Q1 U0 U1 R0 R1 V0 V1 S1 S2 S3 S4
            obtain ⟨A0, A1, _, _⟩ := row_two L7.ra; obtain ⟨B0, B1, _, _⟩ := row_two L7.rb; obtain ⟨Q0, Q1, U0, U1⟩ := row_two L7.rq; obtain ⟨R0, R1, V0, V1⟩ := row_two L7.rr
            go_wp2_with fail
            refine (DB.out _).mono ?_
            rintro e w8 ⟨rfl, hb8⟩
            have L8 := L7.call hb8
            clear L7 A0 A1 B0 B1 Q0 Q1 U0 U1 R0 R1 V0 V1 hb8
            obtain ⟨A0, A1, _, _⟩ := row_two L8.ra; obtain ⟨B0, B1, _, _⟩ := row_two L8.rb; obtain ⟨Q0, Q1, U0, U1⟩ := row_two L8.rq; obtain ⟨R0, R1, V0, V1⟩ := row_two L8.rr
            go_upto_region 6 with (fail)
            have L9 := L8.setq (dbl q 1)
            generalize (w8.setCell ⟨w.heap.size + 1 + 1 + 1 + 1, 0, none⟩ (.int .u64 (hi (dbl q 1)))).setCell ⟨w.heap.size + 1 + 1 + 1 + 1, 1, none⟩ (.int .u64 (lo (dbl q 1))) = w9 at L9 ⊢
            rw [G1.out, G2.out] at L9
            clear L8 A0 A1 B0 B1 Q0 Q1 U0 U1 R0 R1 V0 V1
            go_wp2
            go_roundw
            case rel => exact ⟨k, hkn, by go_num, L9⟩
            case measure => first | (simp [intOf]; done) | (simp [intOf]; omega)
      · have G3 := Lib.hid (HE0.out hnb)
        have DB := Lib.hid (fun w' => rdouble q 0 hqb (by omega) (by omega) w')
        have CL := fun w' => rcmp_any x b w'
        rw [cmp_lt hlt] at CL
        have CM := Lib.hid CL
        clear CL HE1 HE0 HT hnb hlt HC D0 D1
        go_upto_region 14 with ((go_at_call 304; refine (CM.out _).mono ?_; rintro e w6 ⟨rfl, hb6⟩))
        have L6 := L5.call hb6
        clear L5 A0 A1 B0 B1 Q0 Q1 U0 U1 R0 R1 V0 V1 hb6
        have L7 := L6
        clear L6
        obtain ⟨w7, rfl⟩ : ∃ x : World, x = w6 := ⟨_, rfl⟩
        obtain ⟨A0, A1, _, _⟩ := row_two L7.ra; obtain ⟨B0, B1, _, _⟩ := row_two L7.rb; obtain ⟨Q0, Q1, U0, U1⟩ := row_two L7.rq; obtain ⟨R0, R1, V0, V1⟩ := row_two L7.rr
        go_wp2_with fail
        refine (DB.out _).mono ?_
        rintro e w8 ⟨rfl, hb8⟩
        have L8 := L7.call hb8
        clear L7 A0 A1 B0 B1 Q0 Q1 U0 U1 R0 R1 V0 V1 hb8
        obtain ⟨A0, A1, _, _⟩ := row_two L8.ra; obtain ⟨B0, B1, _, _⟩ := row_two L8.rb; obtain ⟨Q0, Q1, U0, U1⟩ := row_two L8.rq; obtain ⟨R0, R1, V0, V1⟩ := row_two L8.rr
        go_upto_region 6 with (fail)
        have L9 := L8.setq (dbl q 0)
        generalize (w8.setCell ⟨w.heap.size + 1 + 1 + 1 + 1, 0, none⟩ (.int .u64 (hi (dbl q 0)))).setCell ⟨w.heap.size + 1 + 1 + 1 + 1, 1, none⟩ (.int .u64 (lo (dbl q 0))) = w9 at L9 ⊢
        rw [G3.out.1, G3.out.2] at L9
        clear L8 A0 A1 B0 B1 Q0 Q1 U0 U1 R0 R1 V0 V1
        go_wp2
        go_roundw
        case rel => exact ⟨k, hkn, by go_num, L9⟩
        case measure => first | (simp [intOf]; done) | (simp [intOf]; omega)
end Go.Proofs.YtdipoojjlddohaaGreat
end
section
/- Greatest common divisors, and division by 0, walked: the program and the reference. -/
set_option linter.unusedVariables false
set_option linter.unusedSimpArgs false
set_option linter.unusedSectionVars false
set_option linter.unnecessarySimpa false
namespace Go.Proofs.YtdipoojjlddohaaGreat
open Go.RowKit Go.Shelf
theorem run_neq_zero {b : Nat} (h : b ≠ 0) (w' : World) : (binOp .neq 67 (.agg #[.int .u64 (hi b), .int .u64 (lo b)]) (.agg #[.int .u64 0, .int .u64 0])).run Tryz.prog w' = .ok (.bool true) w' := by
  go_simp
  exact fun h1 h2 => h (hi_inj (b := 0) h1 h2)
theorem run_eql_zero {b : Nat} (h : b ≠ 0) (w' : World) : (binOp .eql 67 (.agg #[.int .u64 (hi b), .int .u64 (lo b)]) (.agg #[.int .u64 0, .int .u64 0])).run Tryz.prog w' = .ok (.bool false) w' := by
  go_simp
  exact fun h1 h2 => h (hi_inj (b := 0) h1 h2)
/-- The state of the search for a divisor. -/
def GcdS (w w' : World) (a b x y : Nat) : Prop := x < big ∧ y < big ∧ Nat.gcd x y = Nat.gcd a b ∧ Row w' (w.heap.size) 67 (Wc x) ∧ Row w' (w.heap.size + 1) 67 (Wc y) ∧ Row w' (w.heap.size + 1 + 1) 67 #[.int .u64 0, .int .u64 0] ∧ Below w.heap.size w w'
theorem GcdS.call {w w' w'' : World} {a b x y : Nat} (h : GcdS w w' a b x y) (k : Below w'.heap.size w' w'') : GcdS w w'' a b x y :=
  ⟨h.1, h.2.1, h.2.2.1, row_call h.2.2.2.1 k, row_call h.2.2.2.2.1 k, row_call h.2.2.2.2.2.1 k, h.2.2.2.2.2.2.trans (k.mono h.2.2.2.2.2.2.size)⟩
theorem GcdS.drew {w w' : World} {a b x y : Nat} (h : GcdS w w' a b x y) : GcdS w w'.drew a b x y := ⟨h.1, h.2.1, h.2.2.1, h.2.2.2.1, h.2.2.2.2.1, h.2.2.2.2.2.1, h.2.2.2.2.2.2.drew⟩
theorem GcdS.step {w w' : World} {a b x y : Nat} (h : GcdS w w' a b x y) (hy : y ≠ 0) : GcdS w ((((w'.setCell ⟨w.heap.size, 0, none⟩ (.int .u64 (hi y))).setCell ⟨w.heap.size, 1, none⟩ (.int .u64 (lo y))).setCell ⟨w.heap.size + 1, 0, none⟩ (.int .u64 (hi (x % y)))).setCell ⟨w.heap.size + 1, 1, none⟩ (.int .u64 (lo (x % y)))) a b y (x % y) := by
  obtain ⟨h1, h2, h3, h4, h5, h6, h7⟩ := h
  refine ⟨h2, Nat.lt_trans (Nat.mod_lt _ (by omega)) h2, ?_, row_two_other (row_two_set h4) (by omega), row_two_set (row_two_other h5 (by omega)), row_two_other (row_two_other h6 (by omega)) (by omega), ?_⟩
  · rw [← h3, Nat.gcd_comm x y, Nat.gcd_rec y x, Nat.gcd_comm]
  · exact (((h7.setCell (by simp) _).setCell (by simp) _).setCell (by simp) _).setCell (by simp) _
set_option maxHeartbeats 2000000 in
theorem pgcd (a b : Nat) (ha : a < big) (hb : b < big) (w : World) :
    Calls Tryz.prog 154 #[W a, W b] w fun e w' => e = .returned (W (Nat.gcd a b)) ∧ Below w.heap.size w w' := by
  go_enter Tryz.func154, Tryz.ntmps154
  go_wp2_with fail
  have L : GcdS w (((w.alloc (.cells (Wc a) 67)).alloc (.cells (Wc b) 67)).alloc (.cells #[.int .u64 0, .int .u64 0] 67)) a b a b := by
    refine ⟨ha, hb, rfl, ?_, ?_, ?_, ?_⟩
    · (repeat (first | assumption | (refine row_new ?_; (first | (simp; done) | omega)) | refine row_alloc ?_ _ | refine row_drew ?_ | refine row_call ?_ (by assumption)))
    · (repeat (first | assumption | (refine row_new ?_; (first | (simp; done) | omega)) | refine row_alloc ?_ _ | refine row_drew ?_ | refine row_call ?_ (by assumption)))
    · (repeat (first | assumption | (refine row_new ?_; (first | (simp; done) | omega)) | refine row_alloc ?_ _ | refine row_drew ?_ | refine row_call ?_ (by assumption)))
    · (repeat (first | exact Below.refl _ _ | refine Below.setCell ?_ (by first | (simp; done) | (simp; omega) | omega) _ | refine Below.alloc ?_ (by first | (simp; done) | (simp; omega) | omega) _ | refine Below.drew ?_ | refine Below.trans ?_ (Below.mono (by assumption) (by first | (simp; done) | (simp; omega) | omega))))
  generalize (((w.alloc (.cells (Wc a) 67)).alloc (.cells (Wc b) 67)).alloc (.cells #[.int .u64 0, .int .u64 0] 67)) = w2 at L ⊢
  go_loopg [] b (fun y wr => ∃ x, GcdS w wr a b x y)
  case atStart => exact ⟨a, L⟩
  case round =>
    clear L
    obtain ⟨x, L⟩ := hrel
    have hx := L.1
    have hy := L.2.1
    have HG := Lib.hid L.2.2.1
    by_cases h0 : gk = 0
    · subst h0
      have L1 := L.2.2.2
      obtain ⟨A00, A01, A02, A03⟩ := row_two L1.1; obtain ⟨A10, A11, A12, A13⟩ := row_two L1.2.1; obtain ⟨A20, A21, A22, A23⟩ := row_two L1.2.2.1
      go_upto_region 4 with (go_at_call 163; refine (pzero 0 _).mono ?_; rintro e w2 ⟨rfl, hb2⟩; obtain ⟨hc2, hf2⟩ := bcell hb2; have hz2 := hb2.size; (try simp at hz2))
      have M0 := row_call L1.1 hb2
      have M2 := row_call L1.2.2.1 hb2
      have B2 := L1.2.2.2.trans (hb2.mono L1.2.2.2.size)
      obtain ⟨C0, C1, _, _⟩ := row_two M0
      obtain ⟨D0, D1, D2, D3⟩ := row_two M2
      have e : Nat.gcd a b = x := by rw [← HG.out, Nat.gcd_zero_right]
      clear L L1 A00 A01 A02 A03 A10 A11 A12 A13 A20 A21 A22 A23 hb2 hc2 hf2
      go_wp2
      simp [bodyPost, results, Tryz.results154, go_sem, D0, D1, e]
      (repeat (first | exact Below.refl _ _ | refine Below.setCell ?_ (by first | (simp; done) | (simp; omega) | omega) _ | refine Below.alloc ?_ (by first | (simp; done) | (simp; omega) | omega) _ | refine Below.drew ?_ | refine Below.trans ?_ (Below.mono (by assumption) (by first | (simp; done) | (simp; omega) | omega))))
    · have hz : decide (gk = 0) = false := by simpa using h0
      have hq := run_eql_zero h0
      have L1 := L.2.2.2
      obtain ⟨A00, A01, A02, A03⟩ := row_two L1.1; obtain ⟨A10, A11, A12, A13⟩ := row_two L1.2.1; obtain ⟨A20, A21, A22, A23⟩ := row_two L1.2.2.1
      go_upto_region 2 with (go_at_call 163; refine (pzero gk _).mono ?_; rintro e w2 ⟨rfl, hb2⟩; obtain ⟨hc2, hf2⟩ := bcell hb2; have hz2 := hb2.size; (try simp at hz2))
      have L3 := L.call hb2
      clear L L1 A00 A01 A02 A03 A10 A11 A12 A13 A20 A21 A22 A23 hb2 hc2 hf2 hz2
      have L1 := L3.2.2.2
      obtain ⟨A00, A01, A02, A03⟩ := row_two L1.1; obtain ⟨A10, A11, A12, A13⟩ := row_two L1.2.1; obtain ⟨A20, A21, A22, A23⟩ := row_two L1.2.2.1
      clear hq hz
      have HD := Lib.hid (fun w' => pdiv_yes x gk hx hy h0 w')
      go_wp2_with fail
      refine (HD.out _).mono ?_
      rintro e w4 ⟨rfl, hb4⟩
      have L4 := L3.call hb4
      clear L3 L1 A00 A01 A02 A03 A10 A11 A12 A13 A20 A21 A22 A23 hb4
      have L1 := L4.2.2.2
      obtain ⟨A00, A01, A02, A03⟩ := row_two L1.1; obtain ⟨A10, A11, A12, A13⟩ := row_two L1.2.1; obtain ⟨A20, A21, A22, A23⟩ := row_two L1.2.2.1
      have s4 := row_lt L1.2.2.1
      have L5 : GcdS w ((w4.alloc (.cells (Wc (x / gk)) 67)).alloc (.cells (Wc (x % gk)) 67)) a b x gk :=
        ⟨L4.1, L4.2.1, L4.2.2.1, row_alloc (row_alloc L1.1 _) _, row_alloc (row_alloc L1.2.1 _) _, row_alloc (row_alloc L1.2.2.1 _) _, (L1.2.2.2.alloc (by omega) _).alloc (by simp; omega) _⟩
      have N0 : Row ((w4.alloc (.cells (Wc (x / gk)) 67)).alloc (.cells (Wc (x % gk)) 67)) (w4.heap.size + 1) 67 (Wc (x % gk)) := by (repeat (first | assumption | (refine row_new ?_; (first | (simp; done) | omega)) | refine row_alloc ?_ _ | refine row_drew ?_ | refine row_call ?_ (by assumption)))
      go_upto_region 3 with (fail)
      clear L4 L1 A00 A01 A02 A03 A10 A11 A12 A13 A20 A21 A22 A23
      generalize ((w4.alloc (.cells (Wc (x / gk)) 67)).alloc (.cells (Wc (x % gk)) 67)) = w5 at L5 N0 ⊢
      have L1 := L5.2.2.2
      obtain ⟨A00, A01, A02, A03⟩ := row_two L1.1; obtain ⟨A10, A11, A12, A13⟩ := row_two L1.2.1; obtain ⟨A20, A21, A22, A23⟩ := row_two L1.2.2.1
      obtain ⟨C0, C1, _, _⟩ := row_two N0
      have L6 := L5.step h0
      go_region
      have L7 := L6.drew
      clear L6 L5 N0 L1 A00 A01 A02 A03 A10 A11 A12 A13 A20 A21 A22 A23 C0 C1
      generalize ((((w5.setCell ⟨w.heap.size, 0, none⟩ (.int .u64 (hi gk))).setCell ⟨w.heap.size, 1, none⟩ (.int .u64 (lo gk))).setCell ⟨w.heap.size + 1, 0, none⟩ (.int .u64 (hi (x % gk)))).setCell ⟨w.heap.size + 1, 1, none⟩ (.int .u64 (lo (x % gk)))).drew = w7 at L7 ⊢
      go_wp2
      go_roundg (x % gk)
      case measure => exact Nat.mod_lt _ (by omega)
      case rel => exact ⟨gk, L7⟩
set_option maxHeartbeats 2000000 in
theorem rgcd (a b : Nat) (ha : a < big) (hb : b < big) (w : World) :
    Calls Tryz.prog 242 #[W a, W b] w fun e w' => e = .returned (W (Nat.gcd a b)) ∧ Below w.heap.size w w' := by
  go_enter Tryz.func242, Tryz.ntmps242
  go_wp2_with fail
  have L : GcdS w (((w.alloc (.cells (Wc a) 67)).alloc (.cells (Wc b) 67)).alloc (.cells #[.int .u64 0, .int .u64 0] 67)) a b a b := by
    refine ⟨ha, hb, rfl, ?_, ?_, ?_, ?_⟩
    · (repeat (first | assumption | (refine row_new ?_; (first | (simp; done) | omega)) | refine row_alloc ?_ _ | refine row_drew ?_ | refine row_call ?_ (by assumption)))
    · (repeat (first | assumption | (refine row_new ?_; (first | (simp; done) | omega)) | refine row_alloc ?_ _ | refine row_drew ?_ | refine row_call ?_ (by assumption)))
    · (repeat (first | assumption | (refine row_new ?_; (first | (simp; done) | omega)) | refine row_alloc ?_ _ | refine row_drew ?_ | refine row_call ?_ (by assumption)))
    · (repeat (first | exact Below.refl _ _ | refine Below.setCell ?_ (by first | (simp; done) | (simp; omega) | omega) _ | refine Below.alloc ?_ (by first | (simp; done) | (simp; omega) | omega) _ | refine Below.drew ?_ | refine Below.trans ?_ (Below.mono (by assumption) (by first | (simp; done) | (simp; omega) | omega))))
  generalize (((w.alloc (.cells (Wc a) 67)).alloc (.cells (Wc b) 67)).alloc (.cells #[.int .u64 0, .int .u64 0] 67)) = w2 at L ⊢
  go_loopg [] b (fun y wr => ∃ x, GcdS w wr a b x y)
  case atStart => exact ⟨a, L⟩
  case round =>
    clear L
    obtain ⟨x, L⟩ := hrel
    have hx := L.1
    have hy := L.2.1
    have HG := Lib.hid L.2.2.1
    by_cases h0 : gk = 0
    · subst h0
      have T0 := hi_0
      have T1 := lo_0
      have L1 := L.2.2.2
      obtain ⟨A00, A01, A02, A03⟩ := row_two L1.1; obtain ⟨A10, A11, A12, A13⟩ := row_two L1.2.1; obtain ⟨A20, A21, A22, A23⟩ := row_two L1.2.2.1
      go_upto_region 4 with (fail)
      have M0 := L1.1
      have M2 := L1.2.2.1
      have B2 := L1.2.2.2
      obtain ⟨C0, C1, _, _⟩ := row_two M0
      obtain ⟨D0, D1, D2, D3⟩ := row_two M2
      have e : Nat.gcd a b = x := by rw [← HG.out, Nat.gcd_zero_right]
      clear L L1 A00 A01 A02 A03 A10 A11 A12 A13 A20 A21 A22 A23
      go_wp2
      simp [bodyPost, results, Tryz.results242, go_sem, D0, D1, e]
      (repeat (first | exact Below.refl _ _ | refine Below.setCell ?_ (by first | (simp; done) | (simp; omega) | omega) _ | refine Below.alloc ?_ (by first | (simp; done) | (simp; omega) | omega) _ | refine Below.drew ?_ | refine Below.trans ?_ (Below.mono (by assumption) (by first | (simp; done) | (simp; omega) | omega))))
    · have hz : decide (gk = 0) = false := by simpa using h0
      have hq := run_neq_zero h0
      have L1 := L.2.2.2
      obtain ⟨A00, A01, A02, A03⟩ := row_two L1.1; obtain ⟨A10, A11, A12, A13⟩ := row_two L1.2.1; obtain ⟨A20, A21, A22, A23⟩ := row_two L1.2.2.1
      go_upto_region 2 with (fail)
      have L3 := L
      clear L
      clear hq hz
      have HD := Lib.hid (fun w' => rdiv_yes x gk hx hy h0 w')
      go_wp2_with fail
      refine (HD.out _).mono ?_
      rintro e w4 ⟨rfl, hb4⟩
      have L4 := L3.call hb4
      clear L3 L1 A00 A01 A02 A03 A10 A11 A12 A13 A20 A21 A22 A23 hb4
      have L1 := L4.2.2.2
      obtain ⟨A00, A01, A02, A03⟩ := row_two L1.1; obtain ⟨A10, A11, A12, A13⟩ := row_two L1.2.1; obtain ⟨A20, A21, A22, A23⟩ := row_two L1.2.2.1
      have s4 := row_lt L1.2.2.1
      have L5 : GcdS w ((w4.alloc (.cells (Wc (x / gk)) 67)).alloc (.cells (Wc (x % gk)) 67)) a b x gk :=
        ⟨L4.1, L4.2.1, L4.2.2.1, row_alloc (row_alloc L1.1 _) _, row_alloc (row_alloc L1.2.1 _) _, row_alloc (row_alloc L1.2.2.1 _) _, (L1.2.2.2.alloc (by omega) _).alloc (by simp; omega) _⟩
      have N0 : Row ((w4.alloc (.cells (Wc (x / gk)) 67)).alloc (.cells (Wc (x % gk)) 67)) (w4.heap.size + 1) 67 (Wc (x % gk)) := by (repeat (first | assumption | (refine row_new ?_; (first | (simp; done) | omega)) | refine row_alloc ?_ _ | refine row_drew ?_ | refine row_call ?_ (by assumption)))
      go_upto_region 3 with (fail)
      clear L4 L1 A00 A01 A02 A03 A10 A11 A12 A13 A20 A21 A22 A23
      generalize ((w4.alloc (.cells (Wc (x / gk)) 67)).alloc (.cells (Wc (x % gk)) 67)) = w5 at L5 N0 ⊢
      have L1 := L5.2.2.2
      obtain ⟨A00, A01, A02, A03⟩ := row_two L1.1; obtain ⟨A10, A11, A12, A13⟩ := row_two L1.2.1; obtain ⟨A20, A21, A22, A23⟩ := row_two L1.2.2.1
      obtain ⟨C0, C1, _, _⟩ := row_two N0
      have L6 := L5.step h0
      go_region
      have L7 := L6.drew
      clear L6 L5 N0 L1 A00 A01 A02 A03 A10 A11 A12 A13 A20 A21 A22 A23 C0 C1
      generalize ((((w5.setCell ⟨w.heap.size, 0, none⟩ (.int .u64 (hi gk))).setCell ⟨w.heap.size, 1, none⟩ (.int .u64 (lo gk))).setCell ⟨w.heap.size + 1, 0, none⟩ (.int .u64 (hi (x % gk)))).setCell ⟨w.heap.size + 1, 1, none⟩ (.int .u64 (lo (x % gk)))).drew = w7 at L7 ⊢
      go_wp2
      go_roundg (x % gk)
      case measure => exact Nat.mod_lt _ (by omega)
      case rel => exact ⟨gk, L7⟩
end Go.Proofs.YtdipoojjlddohaaGreat
end
section
/- Spreads of marks: which marks have one, walked. -/
set_option linter.unusedVariables false
set_option linter.unusedSimpArgs false
set_option linter.unusedSectionVars false
set_option linter.unnecessarySimpa false
namespace Go.Proofs.YtdipoojjlddohaaGreat
open Go.RowKit Go.Shelf
theorem ret_i64 {k : IntKind} {a b : Int} (h : a = b) : Ending.returned (.int k a) = .returned (.int k b) := by rw [h]
theorem ret_bool {a b : Bool} (h : a = b) : Ending.returned (.bool a) = .returned (.bool b) := by rw [h]
end Go.Proofs.YtdipoojjlddohaaGreat
end
section
/- Spreads of marks: the spread of a mark, walked. -/
set_option linter.unusedVariables false
set_option linter.unusedSimpArgs false
set_option linter.unusedSectionVars false
set_option linter.unnecessarySimpa false
namespace Go.Proofs.YtdipoojjlddohaaGreat
open Go.RowKit Go.Shelf
theorem psize (a : Nat) (h : a < 9223372036854775808) (w : World) : Calls Tryz.prog 155 #[.int .i64 a] w fun e w' => e = .returned (.int .u64 a) ∧ w' = w := by
  have h0 : ¬ (a : Int) < 0 := by omega
  have wa : IntKind.u64.wrap (a : Int) = (a : Int) := IntWalk.u64_in _ (by omega)
  go_enter Tryz.func155, Tryz.ntmps155
  go_wp2
  go_ret
  exact ⟨rfl, rfl⟩
def ratA (n s q : Int) : Int := ((topN n s q / Nat.gcd (topN n s q) n.toNat : Nat) : Int)
def ratB (n s q : Int) : Int := ((n.toNat / Nat.gcd (topN n s q) n.toNat : Nat) : Int)
end Go.Proofs.YtdipoojjlddohaaGreat
end
section
/- Spreads of marks: parameters; the empty histograms; the bound of the number of marks; the example, walked. -/
set_option linter.unusedVariables false
set_option linter.unusedSimpArgs false
set_option linter.unusedSectionVars false
set_option linter.unnecessarySimpa false
namespace Go.Proofs.YtdipoojjlddohaaGreat
open Go.RowKit Go.Shelf
theorem pgood_0 (wd k cap now : Int) (w : World)  (h : wd < 1) : Calls Tryz.prog 205 #[.int .i64 wd, .int .i64 k, .int .i64 cap, .int .i64 now] w fun e w' => e = .returned (.bool false) ∧ w' = w := by
  go_enter Tryz.func205, Tryz.ntmps205
  go_wp2_with fail
  go_ret
  exact ⟨by first | rfl | exact ret_bool (by simp; omega), rfl⟩
theorem pgood_1 (wd k cap now : Int) (w : World) (h0 : 1 ≤ wd) (h : 1048576 < wd) : Calls Tryz.prog 205 #[.int .i64 wd, .int .i64 k, .int .i64 cap, .int .i64 now] w fun e w' => e = .returned (.bool false) ∧ w' = w := by
  go_enter Tryz.func205, Tryz.ntmps205
  go_wp2_with fail
  go_ret
  exact ⟨by first | rfl | exact ret_bool (by simp; omega), rfl⟩
theorem pgood_2 (wd k cap now : Int) (w : World) (h0 : 1 ≤ wd) (h1 : wd ≤ 1048576) (h : k < 1) : Calls Tryz.prog 205 #[.int .i64 wd, .int .i64 k, .int .i64 cap, .int .i64 now] w fun e w' => e = .returned (.bool false) ∧ w' = w := by
  go_enter Tryz.func205, Tryz.ntmps205
  go_wp2_with fail
  go_ret
  exact ⟨by first | rfl | exact ret_bool (by simp; omega), rfl⟩
theorem pgood_3 (wd k cap now : Int) (w : World) (h0 : 1 ≤ wd) (h1 : wd ≤ 1048576) (h2 : 1 ≤ k) (h : 64 < k) : Calls Tryz.prog 205 #[.int .i64 wd, .int .i64 k, .int .i64 cap, .int .i64 now] w fun e w' => e = .returned (.bool false) ∧ w' = w := by
  go_enter Tryz.func205, Tryz.ntmps205
  go_wp2_with fail
  go_ret
  exact ⟨by first | rfl | exact ret_bool (by simp; omega), rfl⟩
theorem pgood_4 (wd k cap now : Int) (w : World) (h0 : 1 ≤ wd) (h1 : wd ≤ 1048576) (h2 : 1 ≤ k) (h3 : k ≤ 64) (h : cap < 1) : Calls Tryz.prog 205 #[.int .i64 wd, .int .i64 k, .int .i64 cap, .int .i64 now] w fun e w' => e = .returned (.bool false) ∧ w' = w := by
  go_enter Tryz.func205, Tryz.ntmps205
  go_wp2_with fail
  go_ret
  exact ⟨by first | rfl | exact ret_bool (by simp; omega), rfl⟩
theorem pgood_5 (wd k cap now : Int) (w : World) (h0 : 1 ≤ wd) (h1 : wd ≤ 1048576) (h2 : 1 ≤ k) (h3 : k ≤ 64) (h4 : 1 ≤ cap) (h : 65536 < cap) : Calls Tryz.prog 205 #[.int .i64 wd, .int .i64 k, .int .i64 cap, .int .i64 now] w fun e w' => e = .returned (.bool false) ∧ w' = w := by
  go_enter Tryz.func205, Tryz.ntmps205
  go_wp2_with fail
  go_ret
  exact ⟨by first | rfl | exact ret_bool (by simp; omega), rfl⟩
theorem pgood_6 (wd k cap now : Int) (w : World) (h0 : 1 ≤ wd) (h1 : wd ≤ 1048576) (h2 : 1 ≤ k) (h3 : k ≤ 64) (h4 : 1 ≤ cap) (h5 : cap ≤ 65536) (h : now < 0) : Calls Tryz.prog 205 #[.int .i64 wd, .int .i64 k, .int .i64 cap, .int .i64 now] w fun e w' => e = .returned (.bool false) ∧ w' = w := by
  go_enter Tryz.func205, Tryz.ntmps205
  go_wp2_with fail
  go_ret
  exact ⟨by first | rfl | exact ret_bool (by simp; omega), rfl⟩
theorem pgood_7 (wd k cap now : Int) (w : World) (h0 : 1 ≤ wd) (h1 : wd ≤ 1048576) (h2 : 1 ≤ k) (h3 : k ≤ 64) (h4 : 1 ≤ cap) (h5 : cap ≤ 65536) (h6 : 0 ≤ now) (h : 16777216 < now) : Calls Tryz.prog 205 #[.int .i64 wd, .int .i64 k, .int .i64 cap, .int .i64 now] w fun e w' => e = .returned (.bool false) ∧ w' = w := by
  go_enter Tryz.func205, Tryz.ntmps205
  go_wp2_with fail
  go_ret
  exact ⟨by first | rfl | exact ret_bool (by simp; omega), rfl⟩
theorem pgood_8 (wd k cap now : Int) (w : World) (h0 : 1 ≤ wd) (h1 : wd ≤ 1048576) (h2 : 1 ≤ k) (h3 : k ≤ 64) (h4 : 1 ≤ cap) (h5 : cap ≤ 65536) (h6 : 0 ≤ now) (h7 : now ≤ 16777216) : Calls Tryz.prog 205 #[.int .i64 wd, .int .i64 k, .int .i64 cap, .int .i64 now] w fun e w' => e = .returned (.bool true) ∧ w' = w := by
  go_enter Tryz.func205, Tryz.ntmps205
  go_wp2_with fail
  go_ret
  exact ⟨by first | rfl | exact ret_bool (by simp; omega), rfl⟩
theorem pgood (wd k cap now : Int) (w : World) : Calls Tryz.prog 205 #[.int .i64 wd, .int .i64 k, .int .i64 cap, .int .i64 now] w fun e w' => e = .returned (.bool (decide (1 ≤ wd ∧ wd ≤ 1048576 ∧ 1 ≤ k ∧ k ≤ 64 ∧ 1 ≤ cap ∧ cap ≤ 65536 ∧ 0 ≤ now ∧ now ≤ 16777216))) ∧ w' = w := by
  by_cases h0 : 1 ≤ wd
  · skip
    by_cases h1 : wd ≤ 1048576
    · skip
      by_cases h2 : 1 ≤ k
      · skip
        by_cases h3 : k ≤ 64
        · skip
          by_cases h4 : 1 ≤ cap
          · skip
            by_cases h5 : cap ≤ 65536
            · skip
              by_cases h6 : 0 ≤ now
              · skip
                by_cases h7 : now ≤ 16777216
                · skip
                  rw [show decide (1 ≤ wd ∧ wd ≤ 1048576 ∧ 1 ≤ k ∧ k ≤ 64 ∧ 1 ≤ cap ∧ cap ≤ 65536 ∧ 0 ≤ now ∧ now ≤ 16777216) = true from decide_eq_true ⟨h0, h1, h2, h3, h4, h5, h6, h7⟩]
                  exact pgood_8 wd k cap now w h0 h1 h2 h3 h4 h5 h6 h7
                · rw [show decide (1 ≤ wd ∧ wd ≤ 1048576 ∧ 1 ≤ k ∧ k ≤ 64 ∧ 1 ≤ cap ∧ cap ≤ 65536 ∧ 0 ≤ now ∧ now ≤ 16777216) = false from decide_eq_false (fun a => h7 a.2.2.2.2.2.2.2)]
                  exact pgood_7 wd k cap now w h0 h1 h2 h3 h4 h5 h6 (by omega)
              · rw [show decide (1 ≤ wd ∧ wd ≤ 1048576 ∧ 1 ≤ k ∧ k ≤ 64 ∧ 1 ≤ cap ∧ cap ≤ 65536 ∧ 0 ≤ now ∧ now ≤ 16777216) = false from decide_eq_false (fun a => h6 a.2.2.2.2.2.2.1)]
                exact pgood_6 wd k cap now w h0 h1 h2 h3 h4 h5 (by omega)
            · rw [show decide (1 ≤ wd ∧ wd ≤ 1048576 ∧ 1 ≤ k ∧ k ≤ 64 ∧ 1 ≤ cap ∧ cap ≤ 65536 ∧ 0 ≤ now ∧ now ≤ 16777216) = false from decide_eq_false (fun a => h5 a.2.2.2.2.2.1)]
              exact pgood_5 wd k cap now w h0 h1 h2 h3 h4 (by omega)
          · rw [show decide (1 ≤ wd ∧ wd ≤ 1048576 ∧ 1 ≤ k ∧ k ≤ 64 ∧ 1 ≤ cap ∧ cap ≤ 65536 ∧ 0 ≤ now ∧ now ≤ 16777216) = false from decide_eq_false (fun a => h4 a.2.2.2.2.1)]
            exact pgood_4 wd k cap now w h0 h1 h2 h3 (by omega)
        · rw [show decide (1 ≤ wd ∧ wd ≤ 1048576 ∧ 1 ≤ k ∧ k ≤ 64 ∧ 1 ≤ cap ∧ cap ≤ 65536 ∧ 0 ≤ now ∧ now ≤ 16777216) = false from decide_eq_false (fun a => h3 a.2.2.2.1)]
          exact pgood_3 wd k cap now w h0 h1 h2 (by omega)
      · rw [show decide (1 ≤ wd ∧ wd ≤ 1048576 ∧ 1 ≤ k ∧ k ≤ 64 ∧ 1 ≤ cap ∧ cap ≤ 65536 ∧ 0 ≤ now ∧ now ≤ 16777216) = false from decide_eq_false (fun a => h2 a.2.2.1)]
        exact pgood_2 wd k cap now w h0 h1 (by omega)
    · rw [show decide (1 ≤ wd ∧ wd ≤ 1048576 ∧ 1 ≤ k ∧ k ≤ 64 ∧ 1 ≤ cap ∧ cap ≤ 65536 ∧ 0 ≤ now ∧ now ≤ 16777216) = false from decide_eq_false (fun a => h1 a.2.1)]
      exact pgood_1 wd k cap now w h0 (by omega)
  · rw [show decide (1 ≤ wd ∧ wd ≤ 1048576 ∧ 1 ≤ k ∧ k ≤ 64 ∧ 1 ≤ cap ∧ cap ≤ 65536 ∧ 0 ≤ now ∧ now ≤ 16777216) = false from decide_eq_false (fun a => h0 a.1)]
    exact pgood_0 wd k cap now w  (by omega)
def mostV (k cap : Int) : Int := (if 1 ≤ k ∧ k ≤ 64 ∧ 1 ≤ cap ∧ cap ≤ 65536 then 12 * k * (3 * (Lib.bitLen cap.toNat : Nat) + 24) + 4 else 0)
end Go.Proofs.YtdipoojjlddohaaGreat
end
section
/- Marks of smooth histograms: which lists of marks are valid, a value more, marks that fall away; plain. -/
set_option linter.unusedVariables false
set_option linter.unusedSimpArgs false
set_option linter.unusedSectionVars false
set_option linter.unnecessarySimpa false
namespace Go.Proofs.YtdipoojjlddohaaGreat
/-- A mark. -/
structure Mk where
  seq : Int
  t : Int
  n : Int
  s : Int
  q : Int
  lo : Int
  hi : Int
def Mk.zero : Mk := ⟨0, 0, 0, 0, 0, 0, 0⟩
def mkAt (l : List Mk) (i : Nat) : Mk := l.getD i Mk.zero
theorem mkAt_zero (m : Mk) (l : List Mk) : mkAt (m :: l) 0 = m := rfl
theorem mkAt_succ (m : Mk) (l : List Mk) (i : Nat) : mkAt (m :: l) (i + 1) = mkAt l i := rfl
theorem mkAt_mem {l : List Mk} {i : Nat} (h : i < l.length) : mkAt l i ∈ l := by
  unfold mkAt
  rw [List.getD_eq_getElem?_getD, List.getElem?_eq_getElem h]
  exact List.getElem_mem h
theorem drop_mk {l : List Mk} {i : Nat} (h : i < l.length) : l.drop i = mkAt l i :: l.drop (i + 1) := by
  rw [List.drop_eq_getElem_cons h]
  unfold mkAt
  rw [List.getD_eq_getElem?_getD, List.getElem?_eq_getElem h]
  rfl
theorem mkAt_append_left {a b : List Mk} {i : Nat} (h : i < a.length) : mkAt (a ++ b) i = mkAt a i := by
  unfold mkAt
  rw [List.getD_eq_getElem?_getD, List.getD_eq_getElem?_getD, List.getElem?_append_left h]
theorem mkAt_append_right {a b : List Mk} {i : Nat} (h : a.length ≤ i) : mkAt (a ++ b) i = mkAt b (i - a.length) := by
  unfold mkAt
  rw [List.getD_eq_getElem?_getD, List.getD_eq_getElem?_getD, List.getElem?_append_right h]
theorem mkAt_drop (l : List Mk) (k i : Nat) : mkAt (l.drop k) i = mkAt l (k + i) := by
  unfold mkAt
  rw [List.getD_eq_getElem?_getD, List.getD_eq_getElem?_getD, List.getElem?_drop]
theorem mkAt_map {f : Mk → Mk} {l : List Mk} {i : Nat} (h : i < l.length) : mkAt (l.map f) i = f (mkAt l i) := by
  unfold mkAt
  rw [List.getD_eq_getElem?_getD, List.getD_eq_getElem?_getD, List.getElem?_map, List.getElem?_eq_getElem h]
  rfl
/-- The parts: n items with values from lo to hi may have the sum s and the sum of squares q. -/
def partP (n lo hi s q : Int) : Prop := n * lo ≤ s ∧ s ≤ n * hi ∧ 0 ≤ q ∧ q ≤ n * 4096 * 4096 ∧ s * s ≤ n * q
instance (n lo hi s q : Int) : Decidable (partP n lo hi s q) := by unfold partP; infer_instance
/-- The conditions on one mark. -/
def oneP (seq cap now w least : Int) (m : Mk) : Prop :=
  1 ≤ m.seq ∧ m.seq ≤ seq ∧ m.n = seq - m.seq + 1 ∧ m.n ≤ cap ∧ 0 ≤ m.t ∧ m.t ≤ now ∧ least ≤ m.lo ∧ m.hi ≤ 4096 ∧ m.lo ≤ m.hi ∧ partP m.n m.lo m.hi m.s m.q
instance (seq cap now w least : Int) (m : Mk) : Decidable (oneP seq cap now w least m) := by unfold oneP; infer_instance
/-- The conditions on a mark and the one behind it. -/
def twoP (o m : Mk) : Prop := o.seq < m.seq ∧ o.t ≤ m.t ∧ o.lo ≤ m.lo ∧ m.hi ≤ o.hi ∧ partP (o.n - m.n) o.lo o.hi (o.s - m.s) (o.q - m.q)
instance (o m : Mk) : Decidable (twoP o m) := by unfold twoP; infer_instance
def lastP (seq : Int) (m : Mk) : Prop := m.seq = seq ∧ m.lo = m.s ∧ m.hi = m.s ∧ m.q = m.s * m.s
instance (seq : Int) (m : Mk) : Decidable (lastP seq m) := by unfold lastP; infer_instance
/-- The conditions on the mark at a place. -/
def atP (l : List Mk) (seq cap now w least : Int) (i : Nat) : Prop :=
  oneP seq cap now w least (mkAt l i) ∧ ((0 < i ∨ l.length = 1) → now - w < (mkAt l i).t) ∧ (0 < i → twoP (mkAt l (i - 1)) (mkAt l i))
instance (l : List Mk) (seq cap now w least : Int) (i : Nat) : Decidable (atP l seq cap now w least i) := by unfold atP; infer_instance
/-- A valid list of marks. -/
def mvalid (l : List Mk) (seq cap now w least : Int) : Prop :=
  0 ≤ seq ∧ seq ≤ 1099511627776 ∧ (∀ i, i < l.length → atP l seq cap now w least i) ∧ (l.length ≠ 0 → lastP seq (mkAt l (l.length - 1)))
instance (l : List Mk) (seq cap now w least : Int) : Decidable (mvalid l seq cap now w least) := by unfold mvalid; infer_instance
/-- A value more in a mark. -/
def inc (v : Int) (m : Mk) : Mk := ⟨m.seq, m.t, m.n + 1, m.s + v, m.q + v * v, min m.lo v, max m.hi v⟩
def newMk (seq t v : Int) : Mk := ⟨seq, t, 1, v, v * v, v, v⟩
/-- A value more in all marks, and its own mark. -/
def incl (l : List Mk) (seq t v : Int) : List Mk := l.map (inc v) ++ [newMk seq t v]
theorem incl_len (l : List Mk) (seq t v : Int) : (incl l seq t v).length = l.length + 1 := by unfold incl; simp
/-- The place of the last one that fulfils a condition; 0 if none does. -/
def lastN (f : Mk → Bool) : List Mk → Nat
  | [] => 0
  | x :: xs => if xs.any f then lastN f xs + 1 else 0
theorem lastN_le (f : Mk → Bool) : ∀ l, l ≠ [] → lastN f l < l.length
  | [], h => absurd rfl h
  | x :: xs, _ => by
    unfold lastN
    split
    · rename_i h
      have : xs ≠ [] := by rintro rfl; simp at h
      have := lastN_le f xs this
      simp; omega
    · simp
theorem lastN_none {f : Mk → Bool} {l : List Mk} (h : ∀ i, i < l.length → f (mkAt l i) = false) : lastN f l = 0 := by
  cases l with
  | nil => rfl
  | cons x xs =>
    unfold lastN
    rw [if_neg]
    intro ha
    rw [List.any_eq_true] at ha
    obtain ⟨m, hm, hf⟩ := ha
    obtain ⟨i, hi, e⟩ := List.getElem_of_mem hm
    have := h (i + 1) (by simpa using hi)
    rw [mkAt_succ] at this
    unfold mkAt at this
    rw [List.getD_eq_getElem?_getD, List.getElem?_eq_getElem hi] at this
    simp only [Option.getD_some, e] at this
    rw [hf] at this
    cases this
theorem lastN_is {f : Mk → Bool} : ∀ {l : List Mk} {p : Nat}, p < l.length → f (mkAt l p) = true → (∀ i, p < i → i < l.length → f (mkAt l i) = false) → lastN f l = p
  | [], p, h, _, _ => absurd h (by simp)
  | x :: xs, 0, _, _, h => by
    refine lastN_none' ?_
    intro i hi
    have := h (i + 1) (by omega) (by simpa using hi)
    rwa [mkAt_succ] at this
  | x :: xs, p + 1, hp, hf, h => by
    have hp' : p < xs.length := by simpa using hp
    rw [mkAt_succ] at hf
    have ih := lastN_is hp' hf (fun i h1 h2 => by have := h (i + 1) (by omega) (by simpa using h2); rwa [mkAt_succ] at this)
    unfold lastN
    rw [if_pos, ih]
    rw [List.any_eq_true]
    exact ⟨_, mkAt_mem hp', hf⟩
where
  lastN_none' {f : Mk → Bool} {x : Mk} {xs : List Mk} (h : ∀ i, i < xs.length → f (mkAt xs i) = false) : lastN f (x :: xs) = 0 := by
    unfold lastN
    rw [if_neg]
    intro ha
    rw [List.any_eq_true] at ha
    obtain ⟨m, hm, hf⟩ := ha
    obtain ⟨i, hi, e⟩ := List.getElem_of_mem hm
    have := h i hi
    unfold mkAt at this
    rw [List.getD_eq_getElem?_getD, List.getElem?_eq_getElem hi] at this
    simp only [Option.getD_some, e] at this
    rw [hf] at this
    cases this
/-- Either none fulfils the condition, or the place is that of the last one that does. -/
theorem lastN_spec (f : Mk → Bool) : ∀ (l : List Mk), (∀ i, i < l.length → f (mkAt l i) = false) ∨ (lastN f l < l.length ∧ f (mkAt l (lastN f l)) = true ∧ ∀ i, lastN f l < i → i < l.length → f (mkAt l i) = false)
  | [] => .inl (fun i h => absurd h (by simp))
  | x :: xs => by
    rcases lastN_spec f xs with h | ⟨h1, h2, h3⟩
    · cases hx : f x with
      | false =>
        refine .inl (fun i hi => ?_)
        cases i with
        | zero => exact hx
        | succ i => exact h i (by simpa using hi)
      | true =>
        have e : lastN f (x :: xs) = 0 := lastN_is (p := 0) (by simp) hx (fun i h1 h2 => by
          cases i with
          | zero => omega
          | succ i => exact h i (by simpa using h2))
        rw [e]
        exact .inr ⟨by simp, hx, fun i h1 h2 => by
          cases i with
          | zero => omega
          | succ i => exact h i (by simpa using h2)⟩
    · have e : lastN f (x :: xs) = lastN f xs + 1 := lastN_is (by simpa using h1) h2 (fun i h4 h5 => by
        cases i with
        | zero => omega
        | succ i => exact h3 i (by omega) (by simpa using h5))
      rw [e]
      exact .inr ⟨by simpa using h1, h2, fun i h4 h5 => by
        cases i with
        | zero => omega
        | succ i => exact h3 i (by omega) (by simpa using h5)⟩
/-- The marks between each mark and the last one behind it that is close to it fall away. -/
def prune (near : Mk → Mk → Bool) : List Mk → List Mk
  | [] => []
  | a :: r => a :: prune near (r.drop (lastN (near a) r))
termination_by l => l.length
decreasing_by simp; omega
theorem prune_nil (near : Mk → Mk → Bool) : prune near [] = [] := by rw [prune]
theorem prune_cons (near : Mk → Mk → Bool) (a : Mk) (r : List Mk) : prune near (a :: r) = a :: prune near (r.drop (lastN (near a) r)) := by rw [prune]
theorem prune_len (near : Mk → Mk → Bool) : ∀ (k : Nat) (l : List Mk), l.length ≤ k → (prune near l).length ≤ l.length
  | 0, l, h => by
    have : l = [] := by cases l <;> simp_all
    subst this
    simp [prune_nil]
  | k + 1, [], _ => by simp [prune_nil]
  | k + 1, a :: r, h => by
    rw [prune_cons]
    have := prune_len near k (r.drop (lastN (near a) r)) (by simp at h ⊢; omega)
    simp at this ⊢
    omega
/-- Marks fall away that a later tick makes superfluous. -/
def dropM (now w : Int) : List Mk → List Mk
  | [] => []
  | [a] => if now - w < a.t then [a] else []
  | a :: b :: r => if now - w < b.t then a :: b :: r else dropM now w (b :: r)
theorem dropM_nil (now w : Int) : dropM now w [] = [] := by rw [dropM]
theorem dropM_one (now w : Int) (a : Mk) : dropM now w [a] = if now - w < a.t then [a] else [] := by rw [dropM]
theorem dropM_two (now w : Int) (a b : Mk) (r : List Mk) : dropM now w (a :: b :: r) = if now - w < b.t then a :: b :: r else dropM now w (b :: r) := by rw [dropM]
theorem dropM_suffix (now w : Int) : ∀ l, ∃ k, k ≤ l.length ∧ dropM now w l = l.drop k
  | [] => ⟨0, by simp, by rw [dropM_nil]; rfl⟩
  | [a] => by
    rw [dropM_one]
    split
    · exact ⟨0, by simp, rfl⟩
    · exact ⟨1, by simp, rfl⟩
  | a :: b :: r => by
    rw [dropM_two]
    split
    · exact ⟨0, by simp, rfl⟩
    · obtain ⟨k, hk, e⟩ := dropM_suffix now w (b :: r)
      exact ⟨k + 1, by simpa using hk, by rw [e]; rfl⟩
end Go.Proofs.YtdipoojjlddohaaGreat
end
