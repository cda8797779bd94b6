/- The counter of the items of two: plain. -/
import Derived.Test.YtpbhagikndamnaaMathHalve6
namespace Go.Proofs.Ytpbhagikndamnaa
theorem ccsum_append (l m : List Itm) (now : Int) (e : Nat) : ccsum (l ++ m) now e = ccsum l now e + ccsum m now e := by unfold ccsum; simp
theorem cst_append (a : Nat) (l m : List Itm) (now : Int) : hsums (cst a l now) (cst a m now) a = cst a (l ++ m) now := by
  unfold hsums
  conv => rhs; unfold cst
  apply List.map_congr_left
  intro e he
  rw [List.mem_range] at he
  rw [ccsum_append, hsum, cst_at he, cst_at he]
/-- Merging two counters of items gives the counter of the items of both. -/
theorem hmer_cst {a : Nat} {l m : List Itm} {now : Int} (ha : 1 ≤ a) (ha2 : a ≤ 64) (h0 : 0 ≤ now) (h1 : now ≤ 16777216) (hl : l.length ≤ 10000) (hm : m.length ≤ 10000)
    (hv : ∀ x ∈ l, 0 ≤ x.v ∧ x.v ≤ 4096) (hv' : ∀ x ∈ m, 0 ≤ x.v ∧ x.v ≤ 4096) (ht : ∀ x ∈ l, 0 ≤ x.t) (ht' : ∀ x ∈ m, 0 ≤ x.t) :
    hmer now (cst a l now) now (cst a m now) = ⟨now, cst a (l ++ m) now, 0⟩ := by
  rw [hmer_ok (cst_valid ha ha2 h0 h1 (by omega) hv ht) (cst_valid ha ha2 h0 h1 (by omega) hv' ht') (by rw [cst_len, cst_len]), cst_len, cst_append]
  intro e he
  rw [cst_len] at he
  unfold hsum
  rw [cst_at he, cst_at he]
  have b1 := ccsum_bound (by decide) l now e hv
  have b2 := ccsum_bound (by decide) m now e hv'
  omega
end Go.Proofs.Ytpbhagikndamnaa
