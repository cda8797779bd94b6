/- Summaries of a stream: what a call that answers a state leaves; New, walked. -/
import Derived.Test.YtdibjlphcmjnoaaSumC
import Derived.Test.YtdibjlphcmjnoaaSumV
import Derived.Test.YtdibjlphcmjnoaaMathSum3
import Derived.Deep.DeepCutAuto
set_option linter.unusedVariables false
set_option linter.unusedSimpArgs false
set_option linter.unusedSectionVars false
set_option linter.unnecessarySimpa false
namespace Go.Proofs.Ytdibjlphcmjnoaa
open Go.RowKit
theorem T64.of {B : Int} {t : Tup} (h : TB B t) (hB : B ≤ 9223372036854775807) : T64 t := by
  unfold TB at h
  unfold T64
  omega
/-- What a call of a summary's operation leaves: a summary and an error. -/
def SRet (r : SOut) (w : World) (e : Ending) (w' : World) : Prop :=
  ∃ A m c, e = .returned (.tuple #[.agg #[.int .i64 r.k, .int .i64 r.cap, .int .i64 r.n, .slice A m c], .int .i64 r.f]) ∧ SIn r.k r.cap r.n A m c r.ts w' ∧ Below w.heap.size w w' ∧ ∀ a, A = some a → w.heap.size ≤ a.block ∧ a.block < w'.heap.size
theorem sin_new {k cap : Int} {w : World} (hk : -9223372036854775808 ≤ k ∧ k ≤ 9223372036854775807) (hc : -9223372036854775808 ≤ cap ∧ cap ≤ 9223372036854775807) : SIn k cap 0 none 0 0 [] w :=
  ⟨by simpa [tcells_nil] using Reads.none_, hk, hc, by decide, fun i => by simp [tupAt, Tup.zero, T64], Nat.le_refl _, Nat.zero_le _⟩
theorem sret_new {w w' : World} {k cap f : Int} (hk : -9223372036854775808 ≤ k ∧ k ≤ 9223372036854775807) (hc : -9223372036854775808 ≤ cap ∧ cap ≤ 9223372036854775807) (hb : Below w.heap.size w w') : SRet ⟨k, cap, 0, [], f⟩ w (.returned (.tuple #[.agg #[.int .i64 k, .int .i64 cap, .int .i64 0, .slice none 0 0], .int .i64 f])) w' :=
  ⟨none, 0, 0, rfl, sin_new hk hc, hb, fun a h => by cases h⟩
theorem sret_zero {w w' : World} {f : Int} (hb : Below w.heap.size w w') : SRet (szero f) w (.returned (.tuple #[.agg #[.int .i64 0, .int .i64 0, .int .i64 0, .slice none 0 0], .int .i64 f])) w' := sret_new (by decide) (by decide) hb
theorem sret_own {w w' : World} {k cap n f : Int} {ts : List Tup} {g m c : Nat} (ho : Own w' 66 3 g m c (tcells ts)) (hk : -9223372036854775808 ≤ k ∧ k ≤ 9223372036854775807) (hc : -9223372036854775808 ≤ cap ∧ cap ≤ 9223372036854775807)
    (hn : -9223372036854775808 ≤ n ∧ n ≤ 9223372036854775807) (hT : ∀ t ∈ ts, TB 4398046511104 t) (hb : Below w.heap.size w w') (hg : w.heap.size ≤ g) : SRet ⟨k, cap, n, ts, f⟩ w (.returned (.tuple #[.agg #[.int .i64 k, .int .i64 cap, .int .i64 n, .slice (some ⟨g, 0, none⟩) m c], .int .i64 f])) w' :=
  ⟨some ⟨g, 0, none⟩, m, c, rfl, ⟨ho.reads, hk, hc, hn, fun i => T64.of (TB_at (by decide) hT i) (by decide), ho.cap.1, ho.cap.2⟩, hb, fun a h => by cases h; exact ⟨hg, ho.lt⟩⟩
theorem sret_at {r : SOut} {k cap n f : Int} {ts : List Tup} {w w' : World} {e : Ending} (hr : r = ⟨k, cap, n, ts, f⟩) (h : SRet r w e w') :
    ∃ A m c, e = .returned (.tuple #[.agg #[.int .i64 k, .int .i64 cap, .int .i64 n, .slice A m c], .int .i64 f]) ∧ SIn k cap n A m c ts w' ∧ Below w.heap.size w w' ∧ ∀ a, A = some a → w.heap.size ≤ a.block ∧ a.block < w'.heap.size := by
  subst hr
  exact h
theorem info_tup : (Try.prog.info? 66).map (fun i => (i.zero, i.size, i.bytes)) = some (some (.agg #[.int .i64 0, .int .i64 0, .int .i64 0]), 3, 24) := by kernel_rfl
theorem rmayk (k : Int) (w : World) : Calls Try.prog 34 #[.int .i64 k] w fun e w' => e = .returned (.bool (decide (1 ≤ k ∧ k ≤ 64))) ∧ w' = w := by
  by_cases h0 : 1 ≤ k
  · by_cases h1 : k ≤ 64
    · go_enter Try.func34, Try.ntmps34
      go_wp2
      go_ret
      exact ⟨ret_bool (by simp; omega), rfl⟩
    · go_enter Try.func34, Try.ntmps34
      go_wp2
      go_ret
      exact ⟨ret_bool (by simp; omega), rfl⟩
  · go_enter Try.func34, Try.ntmps34
    go_wp2
    go_ret
    exact ⟨ret_bool (by simp; omega), rfl⟩
theorem psnew_a (k cap : Int) (w : World) (h : k < 1) : Calls Try.prog 10 #[.int .i64 k, .int .i64 cap] w fun e w' => SRet (snew k cap) w e w' := by
  rw [snew_no (by omega)]
  go_enter Try.func10, Try.ntmps10
  go_wp2_with fail
  exact bodyPost_ret (v := .tuple #[.agg #[.int .i64 0, .int .i64 0, .int .i64 0, .slice none 0 0], .int .i64 1]) (by simp [results, Try.results10, go_sem, List.getElem?_toArray]) rfl (sret_zero (by (repeat (first | exact Below.refl _ _ | refine Below.setCell ?_ (by first | (simp; done) | (simp; omega) | omega) _ | refine Below.alloc ?_ (by first | (simp; done) | (simp; omega) | omega) _ | refine Below.drew ?_ | refine Below.trans ?_ (Below.mono (by assumption) (by first | (simp; done) | (simp; omega) | omega))))))
theorem psnew_b (k cap : Int) (w : World) (h0 : 1 ≤ k) (h : 64 < k) : Calls Try.prog 10 #[.int .i64 k, .int .i64 cap] w fun e w' => SRet (snew k cap) w e w' := by
  rw [snew_no (by omega)]
  go_enter Try.func10, Try.ntmps10
  go_wp2_with fail
  exact bodyPost_ret (v := .tuple #[.agg #[.int .i64 0, .int .i64 0, .int .i64 0, .slice none 0 0], .int .i64 1]) (by simp [results, Try.results10, go_sem, List.getElem?_toArray]) rfl (sret_zero (by (repeat (first | exact Below.refl _ _ | refine Below.setCell ?_ (by first | (simp; done) | (simp; omega) | omega) _ | refine Below.alloc ?_ (by first | (simp; done) | (simp; omega) | omega) _ | refine Below.drew ?_ | refine Below.trans ?_ (Below.mono (by assumption) (by first | (simp; done) | (simp; omega) | omega))))))
theorem psnew_c (k cap : Int) (w : World) (h0 : 1 ≤ k) (h1 : k ≤ 64) (h : cap < 2) : Calls Try.prog 10 #[.int .i64 k, .int .i64 cap] w fun e w' => SRet (snew k cap) w e w' := by
  rw [snew_no (by omega)]
  go_enter Try.func10, Try.ntmps10
  go_wp2_with fail
  exact bodyPost_ret (v := .tuple #[.agg #[.int .i64 0, .int .i64 0, .int .i64 0, .slice none 0 0], .int .i64 1]) (by simp [results, Try.results10, go_sem, List.getElem?_toArray]) rfl (sret_zero (by (repeat (first | exact Below.refl _ _ | refine Below.setCell ?_ (by first | (simp; done) | (simp; omega) | omega) _ | refine Below.alloc ?_ (by first | (simp; done) | (simp; omega) | omega) _ | refine Below.drew ?_ | refine Below.trans ?_ (Below.mono (by assumption) (by first | (simp; done) | (simp; omega) | omega))))))
theorem psnew_d (k cap : Int) (w : World) (h0 : 1 ≤ k) (h1 : k ≤ 64) (h2 : 2 ≤ cap) (h : 65536 < cap) : Calls Try.prog 10 #[.int .i64 k, .int .i64 cap] w fun e w' => SRet (snew k cap) w e w' := by
  rw [snew_no (by omega)]
  go_enter Try.func10, Try.ntmps10
  go_wp2_with fail
  exact bodyPost_ret (v := .tuple #[.agg #[.int .i64 0, .int .i64 0, .int .i64 0, .slice none 0 0], .int .i64 1]) (by simp [results, Try.results10, go_sem, List.getElem?_toArray]) rfl (sret_zero (by (repeat (first | exact Below.refl _ _ | refine Below.setCell ?_ (by first | (simp; done) | (simp; omega) | omega) _ | refine Below.alloc ?_ (by first | (simp; done) | (simp; omega) | omega) _ | refine Below.drew ?_ | refine Below.trans ?_ (Below.mono (by assumption) (by first | (simp; done) | (simp; omega) | omega))))))
theorem psnew_ok (k cap : Int) (w : World) (h0 : 1 ≤ k) (h1 : k ≤ 64) (h2 : 2 ≤ cap) (h3 : cap ≤ 65536) : Calls Try.prog 10 #[.int .i64 k, .int .i64 cap] w fun e w' => SRet (snew k cap) w e w' := by
  rw [snew_yes h0 h1 h2 h3]
  go_enter Try.func10, Try.ntmps10
  go_wp2_with fail
  exact bodyPost_ret (v := .tuple #[.agg #[.int .i64 k, .int .i64 cap, .int .i64 0, .slice none 0 0], .int .i64 0]) (by simp [results, Try.results10, go_sem, List.getElem?_toArray]) rfl (sret_new (by omega) (by omega) (by (repeat (first | exact Below.refl _ _ | refine Below.setCell ?_ (by first | (simp; done) | (simp; omega) | omega) _ | refine Below.alloc ?_ (by first | (simp; done) | (simp; omega) | omega) _ | refine Below.drew ?_ | refine Below.trans ?_ (Below.mono (by assumption) (by first | (simp; done) | (simp; omega) | omega))))))
theorem psnew (k cap : Int) (w : World) : Calls Try.prog 10 #[.int .i64 k, .int .i64 cap] w fun e w' => SRet (snew k cap) w e w' := by
  by_cases h0 : k < 1
  · exact psnew_a k cap w h0
  · by_cases h1 : 64 < k
    · exact psnew_b k cap w (by omega) h1
    · by_cases h2 : cap < 2
      · exact psnew_c k cap w (by omega) (by omega) h2
      · by_cases h3 : 65536 < cap
        · exact psnew_d k cap w (by omega) (by omega) (by omega) h3
        · exact psnew_ok k cap w (by omega) (by omega) (by omega) (by omega)
theorem rsnew_a (k cap : Int) (w : World) (h : k < 1) : Calls Try.prog 11 #[.int .i64 k, .int .i64 cap] w fun e w' => SRet (snew k cap) w e w' := by
  rw [snew_no (by omega)]
  have MK := fun w => rmayk k w
  rw [show decide (1 ≤ k ∧ k ≤ 64) = false by simp; omega] at MK
  have MK := Lib.hid MK
  go_enter Try.func11, Try.ntmps11
  go_wp2_with (go_at_call 34; refine (MK.out _).mono ?_; rintro e w9 ⟨rfl, rfl⟩)
  exact bodyPost_ret (v := .tuple #[.agg #[.int .i64 0, .int .i64 0, .int .i64 0, .slice none 0 0], .int .i64 1]) (by simp [results, Try.results11, go_sem, List.getElem?_toArray]) rfl (sret_zero (by (repeat (first | exact Below.refl _ _ | refine Below.setCell ?_ (by first | (simp; done) | (simp; omega) | omega) _ | refine Below.alloc ?_ (by first | (simp; done) | (simp; omega) | omega) _ | refine Below.drew ?_ | refine Below.trans ?_ (Below.mono (by assumption) (by first | (simp; done) | (simp; omega) | omega))))))
theorem rsnew_b (k cap : Int) (w : World) (h0 : 1 ≤ k) (h : 64 < k) : Calls Try.prog 11 #[.int .i64 k, .int .i64 cap] w fun e w' => SRet (snew k cap) w e w' := by
  rw [snew_no (by omega)]
  have MK := fun w => rmayk k w
  rw [show decide (1 ≤ k ∧ k ≤ 64) = false by simp; omega] at MK
  have MK := Lib.hid MK
  go_enter Try.func11, Try.ntmps11
  go_wp2_with (go_at_call 34; refine (MK.out _).mono ?_; rintro e w9 ⟨rfl, rfl⟩)
  exact bodyPost_ret (v := .tuple #[.agg #[.int .i64 0, .int .i64 0, .int .i64 0, .slice none 0 0], .int .i64 1]) (by simp [results, Try.results11, go_sem, List.getElem?_toArray]) rfl (sret_zero (by (repeat (first | exact Below.refl _ _ | refine Below.setCell ?_ (by first | (simp; done) | (simp; omega) | omega) _ | refine Below.alloc ?_ (by first | (simp; done) | (simp; omega) | omega) _ | refine Below.drew ?_ | refine Below.trans ?_ (Below.mono (by assumption) (by first | (simp; done) | (simp; omega) | omega))))))
theorem rsnew_c (k cap : Int) (w : World) (h0 : 1 ≤ k) (h1 : k ≤ 64) (h : cap < 2) : Calls Try.prog 11 #[.int .i64 k, .int .i64 cap] w fun e w' => SRet (snew k cap) w e w' := by
  rw [snew_no (by omega)]
  have MK := fun w => rmayk k w
  rw [show decide (1 ≤ k ∧ k ≤ 64) = true by simp; omega] at MK
  have MK := Lib.hid MK
  go_enter Try.func11, Try.ntmps11
  go_wp2_with (go_at_call 34; refine (MK.out _).mono ?_; rintro e w9 ⟨rfl, rfl⟩)
  exact bodyPost_ret (v := .tuple #[.agg #[.int .i64 0, .int .i64 0, .int .i64 0, .slice none 0 0], .int .i64 1]) (by simp [results, Try.results11, go_sem, List.getElem?_toArray]) rfl (sret_zero (by (repeat (first | exact Below.refl _ _ | refine Below.setCell ?_ (by first | (simp; done) | (simp; omega) | omega) _ | refine Below.alloc ?_ (by first | (simp; done) | (simp; omega) | omega) _ | refine Below.drew ?_ | refine Below.trans ?_ (Below.mono (by assumption) (by first | (simp; done) | (simp; omega) | omega))))))
theorem rsnew_d (k cap : Int) (w : World) (h0 : 1 ≤ k) (h1 : k ≤ 64) (h2 : 2 ≤ cap) (h : 65536 < cap) : Calls Try.prog 11 #[.int .i64 k, .int .i64 cap] w fun e w' => SRet (snew k cap) w e w' := by
  rw [snew_no (by omega)]
  have MK := fun w => rmayk k w
  rw [show decide (1 ≤ k ∧ k ≤ 64) = true by simp; omega] at MK
  have MK := Lib.hid MK
  go_enter Try.func11, Try.ntmps11
  go_wp2_with (go_at_call 34; refine (MK.out _).mono ?_; rintro e w9 ⟨rfl, rfl⟩)
  exact bodyPost_ret (v := .tuple #[.agg #[.int .i64 0, .int .i64 0, .int .i64 0, .slice none 0 0], .int .i64 1]) (by simp [results, Try.results11, go_sem, List.getElem?_toArray]) rfl (sret_zero (by (repeat (first | exact Below.refl _ _ | refine Below.setCell ?_ (by first | (simp; done) | (simp; omega) | omega) _ | refine Below.alloc ?_ (by first | (simp; done) | (simp; omega) | omega) _ | refine Below.drew ?_ | refine Below.trans ?_ (Below.mono (by assumption) (by first | (simp; done) | (simp; omega) | omega))))))
theorem rsnew_ok (k cap : Int) (w : World) (h0 : 1 ≤ k) (h1 : k ≤ 64) (h2 : 2 ≤ cap) (h3 : cap ≤ 65536) : Calls Try.prog 11 #[.int .i64 k, .int .i64 cap] w fun e w' => SRet (snew k cap) w e w' := by
  rw [snew_yes h0 h1 h2 h3]
  have MK := fun w => rmayk k w
  rw [show decide (1 ≤ k ∧ k ≤ 64) = true by simp; omega] at MK
  have MK := Lib.hid MK
  go_enter Try.func11, Try.ntmps11
  go_wp2_with (go_at_call 34; refine (MK.out _).mono ?_; rintro e w9 ⟨rfl, rfl⟩)
  exact bodyPost_ret (v := .tuple #[.agg #[.int .i64 k, .int .i64 cap, .int .i64 0, .slice none 0 0], .int .i64 0]) (by simp [results, Try.results11, go_sem, List.getElem?_toArray]) rfl (sret_new (by omega) (by omega) (by (repeat (first | exact Below.refl _ _ | refine Below.setCell ?_ (by first | (simp; done) | (simp; omega) | omega) _ | refine Below.alloc ?_ (by first | (simp; done) | (simp; omega) | omega) _ | refine Below.drew ?_ | refine Below.trans ?_ (Below.mono (by assumption) (by first | (simp; done) | (simp; omega) | omega))))))
theorem rsnew (k cap : Int) (w : World) : Calls Try.prog 11 #[.int .i64 k, .int .i64 cap] w fun e w' => SRet (snew k cap) w e w' := by
  by_cases h0 : k < 1
  · exact rsnew_a k cap w h0
  · by_cases h1 : 64 < k
    · exact rsnew_b k cap w (by omega) h1
    · by_cases h2 : cap < 2
      · exact rsnew_c k cap w (by omega) (by omega) h2
      · by_cases h3 : 65536 < cap
        · exact rsnew_d k cap w (by omega) (by omega) (by omega) h3
        · exact rsnew_ok k cap w (by omega) (by omega) (by omega) (by omega)
end Go.Proofs.Ytdibjlphcmjnoaa
