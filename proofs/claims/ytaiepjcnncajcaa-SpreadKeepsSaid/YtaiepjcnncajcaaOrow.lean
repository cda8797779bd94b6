/- Rows of the call's own that ownsRow tells of: what keeps them; what an argument reads behind a store elsewhere. -/
import Derived.Test.YtaiepjcnncajcaaVec
import Derived.OwnWalk
set_option linter.unusedVariables false
set_option linter.unusedSimpArgs false
set_option linter.unusedSectionVars false
set_option linter.unnecessarySimpa false
namespace Go.Proofs.Ytaiepjcnncajcaa
open Go.RowKit
theorem orow_keep {w w' : World} {base : Nat} {e : TypeId} {size : Nat} {v : Value} {n : Nat} {xs : List Value} (h : w.ownsRow base e size v n xs) (hg : ∀ g, v.ownBlock = some g → w'.heap[g]? = w.heap[g]?) : w'.ownsRow base e size v n xs := by
  refine ⟨h.1, ?_⟩
  rcases h.2 with hn | ⟨g, cap, cur, rfl, hb, hgg, rest⟩
  · exact .inl hn
  · exact .inr ⟨g, cap, cur, rfl, hb, by rw [hg g rfl]; exact hgg, rest⟩
theorem orow_other {w : World} {base : Nat} {e : TypeId} {size : Nat} {v : Value} {n : Nat} {xs : List Value} (h : w.ownsRow base e size v n xs) {p : Addr} (hne : v.ownBlock ≠ some p.block) (u : Value) : (w.setCell p u).ownsRow base e size v n xs :=
  orow_keep h fun g he => Below.heap_setCell w p u g (fun x => hne (x ▸ he))
theorem orow_new {w : World} {base : Nat} {e : TypeId} {size : Nat} {v : Value} {n b : Nat} {xs : List Value} (h : w.ownsRow base e size v n xs) (hb : w.heap.size ≤ b) : v.ownBlock ≠ some b := fun e => by
  have := (h.lt b e).2
  omega
theorem orow_old {w : World} {base : Nat} {e : TypeId} {size : Nat} {v : Value} {n b : Nat} {xs : List Value} (h : w.ownsRow base e size v n xs) (hb : b < base) : v.ownBlock ≠ some b := fun e => by
  have := (h.lt b e).1
  omega
theorem orow_forms {w : World} {base : Nat} {e : TypeId} {size : Nat} {v : Value} {n : Nat} {xs : List Value} (h : w.ownsRow base e size v n xs) :
    ∃ A c, v = .slice A n c ∧ Reads w w.heap.size size A n xs ∧ n ≤ c ∧ c ≤ maxLen ∧ ∀ a, A = some a → base ≤ a.block ∧ a.block < w.heap.size := by
  rcases h.2 with ⟨rfl, rfl⟩ | ⟨g, cap, cur, rfl, hb, hgg, h1, h2, _⟩
  · exact ⟨none, 0, rfl, Reads.of_own h, Nat.le_refl _, Nat.zero_le _, fun a e => by cases e⟩
  · exact ⟨_, cap, rfl, Reads.of_own h, h1, h2, fun a e => by cases e; exact h.lt _ rfl⟩
theorem reads_keep {w w' : World} {B size n : Nat} {A : Option Addr} {xs : List Value} (h : Reads w B size A n xs) (hk : ∀ a, A = some a → a.block < B → w'.heap[a.block]? = w.heap[a.block]?) : Reads w' B size A n xs := by
  refine ⟨h.1, fun hn => ?_⟩
  obtain ⟨ad, e, hb, hc⟩ := h.2 hn
  refine ⟨ad, e, hb, fun j u hu => ?_⟩
  have hq : (ad.add j).block = ad.block := block_of_add ..
  exact (World.cell?_of_block (w := w) (w' := w') (a := ad.add j) (by rw [hq]; exact hk ad e hb)).trans (hc j u hu)
theorem reads_grown {w w' : World} {B size n : Nat} {A : Option Addr} {xs : List Value} (h : Reads w B size A n xs) {r : Option Nat} (hg : w.grownBy w' r) (hr : ∀ k, r = some k → B ≤ k) (hB : B ≤ w.heap.size) : Reads w' B size A n xs :=
  reads_keep h fun a _ hb => hg.block a.block (by omega) (fun e => by have := hr _ e.symm; omega)
theorem reads_set {w : World} {B size n : Nat} {A : Option Addr} {xs : List Value} (h : Reads w B size A n xs) {p : Addr} (hp : ∀ a, A = some a → a.block ≠ p.block) (u : Value) : Reads (w.setCell p u) B size A n xs :=
  reads_keep h fun a e _ => Below.heap_setCell w p u a.block (hp a e)
end Go.Proofs.Ytaiepjcnncajcaa
