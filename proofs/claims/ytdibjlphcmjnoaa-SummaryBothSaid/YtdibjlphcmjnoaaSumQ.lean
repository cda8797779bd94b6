/- Summaries of a stream: the reference's small functions, walked. -/
import Derived.Test.YtdibjlphcmjnoaaSumG
set_option linter.unusedVariables false
set_option linter.unusedSimpArgs false
set_option linter.unusedSectionVars false
set_option linter.unnecessarySimpa false
namespace Go.Proofs.Ytdibjlphcmjnoaa
open Go.RowKit
theorem rvalue (v : Int) (w : World) : Calls Try.prog 37 #[.int .i64 v] w fun e w' => e = .returned (.bool (decide (-4096 ≤ v ∧ v ≤ 4096))) ∧ w' = w := by
  by_cases h0 : -4096 ≤ v
  · by_cases h1 : v ≤ 4096
    · go_enter Try.func37, Try.ntmps37
      go_wp2
      go_ret
      exact ⟨ret_bool (by simp; omega), rfl⟩
    · go_enter Try.func37, Try.ntmps37
      go_wp2
      go_ret
      exact ⟨ret_bool (by simp; omega), rfl⟩
  · go_enter Try.func37, Try.ntmps37
    go_wp2
    go_ret
    exact ⟨ret_bool (by simp; omega), rfl⟩
theorem rvalueB (v : Int) (w : World) : Calls Try.prog 37 #[.int .i64 v] w fun e w' => e = .returned (.bool (decide (-4096 ≤ v ∧ v ≤ 4096))) ∧ Below w.heap.size w w' := (rvalue v w).mono fun e w' h => ⟨h.1, by rw [h.2]; exact Below.refl _ _⟩
theorem rmost (k cap n : Int) (A : Option Addr) (m c : Nat) (ts : List Tup) (h0 : 0 ≤ n) (h1 : n ≤ 1099511627776) (hk : 1 ≤ k) (w : World) : Calls Try.prog 40 #[.agg #[.int .i64 k, .int .i64 cap, .int .i64 n, .slice A m c]] w fun e w' => e = .returned (.int .i64 (smost n k)) ∧ Below w.heap.size w w' := by
  have hz : k ≠ 0 := by omega
  have hb : n / k ≤ n := Int.ediv_le_self _ h0
  have hb0 : 0 ≤ n / k := Int.ediv_nonneg h0 (by omega)
  have ht : n.tdiv k = n / k := Int.tdiv_eq_ediv_of_nonneg h0
  have hw : IntKind.i64.wrap (n / k) = n / k := IntWalk.i64_in _ (by omega)
  unfold smost
  generalize n / k = q at hb hb0 ht hw ⊢
  go_enter Try.func40, Try.ntmps40
  go_wp2
  all_goals
    go_ret
    exact ⟨ret_i64 (by omega), by (repeat (first | exact Below.refl _ _ | refine Below.setCell ?_ (by first | (simp; done) | (simp; omega) | omega) _ | refine Below.alloc ?_ (by first | (simp; done) | (simp; omega) | omega) _ | refine Below.drew ?_ | refine Below.trans ?_ (Below.mono (by assumption) (by first | (simp; done) | (simp; omega) | omega))))⟩
theorem gsum_step {m : Int} {ts : List Tup} {a : Nat} (h : ∀ j, j < ts.length → tOK m ts j = true) : ∀ b, a ≤ b → b ≤ ts.length → gsum ts a ≤ gsum ts b
  | 0, h1, _ => by rw [show a = 0 by omega]; exact Int.le_refl _
  | b + 1, h1, h2 => by
    rcases Nat.lt_or_ge b a with c | c
    · rw [show a = b + 1 by omega]; exact Int.le_refl _
    · have ih := gsum_step h b c (by omega)
      have a := tOK_of (h b (by omega))
      show gsum ts _ ≤ gsum ts b + (tupAt ts b).g
      omega
end Go.Proofs.Ytdibjlphcmjnoaa
