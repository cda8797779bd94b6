/- Summaries of a stream: the law of the empty summaries, walked. -/
import Derived.Test.YtdibjlphcmjnoaaSumG
namespace Go.Proofs.Ytdibjlphcmjnoaa
open Go.RowKit
set_option maxHeartbeats 2000000 in
theorem summaryNew (k cap : Int) (w : World) : Calls Try.prog 3 #[.int .i64 k, .int .i64 cap] w fun e w' => e = .returned (.bool true) ∧ Below w.heap.size w w' := by
  have C1 := psnew k cap
  have C2 := rsnew k cap
  generalize snew k cap = r at C1 C2
  obtain ⟨kk, cc, nn, zs, f⟩ := r
  have C1 := Lib.hid C1
  have C2 := Lib.hid C2
  go_enter Try.func3, Try.ntmps3
  go_wp2_with fail
  refine (C1.out _).mono ?_
  intro e w1 hq
  obtain ⟨A1, m1, c1, rfl, hin1, hb1, _⟩ := sret_at rfl hq
  clear hq
  have hz1 := hb1.size
  try simp at hz1
  go_wp2_with fail
  refine (C2.out _).mono ?_
  intro e w2 hq
  obtain ⟨A2, m2, c2, rfl, hin2, hb2, _⟩ := sret_at rfl hq
  clear hq
  have hz2 := hb2.size
  try simp at hz2
  go_upto_region 3 with (fail)
  have r1 : Row (w2.alloc (.cells #[.int .i64 kk, .int .i64 cc, .int .i64 nn, .slice A2 m2 c2] 24)) w1.heap.size 24 #[.int .i64 kk, .int .i64 cc, .int .i64 nn, .slice A1 m1 c1] := row_alloc (row_call (row_new rfl) hb2) _
  have r2 : Row (w2.alloc (.cells #[.int .i64 kk, .int .i64 cc, .int .i64 nn, .slice A2 m2 c2] 24)) w2.heap.size 24 #[.int .i64 kk, .int .i64 cc, .int .i64 nn, .slice A2 m2 c2] := row_new rfl
  have G1 := hin1.below (w' := w2.alloc (.cells #[.int .i64 kk, .int .i64 cc, .int .i64 nn, .slice A2 m2 c2] 24)) (by (repeat (first | exact Below.refl _ _ | refine Below.setCell ?_ (by first | (simp; done) | (simp; omega) | omega) _ | refine Below.alloc ?_ (by first | (simp; done) | (simp; omega) | omega) _ | refine Below.drew ?_ | refine Below.trans ?_ (Below.mono (by assumption) (by first | (simp; done) | (simp; omega) | omega)))))
  have G2 := hin2.below (w' := w2.alloc (.cells #[.int .i64 kk, .int .i64 cc, .int .i64 nn, .slice A2 m2 c2] 24)) (by (repeat (first | exact Below.refl _ _ | refine Below.setCell ?_ (by first | (simp; done) | (simp; omega) | omega) _ | refine Below.alloc ?_ (by first | (simp; done) | (simp; omega) | omega) _ | refine Below.drew ?_ | refine Below.trans ?_ (Below.mono (by assumption) (by first | (simp; done) | (simp; omega) | omega)))))
  have ob : Below w.heap.size w (w2.alloc (.cells #[.int .i64 kk, .int .i64 cc, .int .i64 nn, .slice A2 m2 c2] 24)) := by (repeat (first | exact Below.refl _ _ | refine Below.setCell ?_ (by first | (simp; done) | (simp; omega) | omega) _ | refine Below.alloc ?_ (by first | (simp; done) | (simp; omega) | omega) _ | refine Below.drew ?_ | refine Below.trans ?_ (Below.mono (by assumption) (by first | (simp; done) | (simp; omega) | omega))))
  generalize w2.alloc (.cells #[.int .i64 kk, .int .i64 cc, .int .i64 nn, .slice A2 m2 c2] 24) = w3 at r1 r2 G1 G2 ob ⊢
  generalize w1.heap.size = b5 at r1 ⊢
  generalize w2.heap.size = b7 at r2 ⊢
  have G1 := Lib.hid G1
  have G2 := Lib.hid G2
  clear hin1 hin2 hb1 hb2
  have zb := ob.size
  obtain ⟨A00, A01, A02, A03, _, _, _, _⟩ := row_four r1
  obtain ⟨A10, A11, A12, A13, _, _, _, _⟩ := row_four r2
  go_wp2_with (first | (go_at_call 12; refine (rssame kk cc nn A1 m1 c1 A2 m2 c2 zs _ G1.out G2.out).mono ?_; rintro e w4 ⟨rfl, hb4⟩; have hz4 := hb4.size) | (go_at_call 13; refine (awake20 _).mono ?_; rintro e w5 ⟨rfl, hb5⟩; have hz5 := hb5.size))
  go_ret
  exact ⟨rfl, by (repeat (first | exact Below.refl _ _ | refine Below.setCell ?_ (by first | (simp; done) | (simp; omega) | omega) _ | refine Below.alloc ?_ (by first | (simp; done) | (simp; omega) | omega) _ | refine Below.drew ?_ | refine Below.trans ?_ (Below.mono (by assumption) (by first | (simp; done) | (simp; omega) | omega))))⟩
end Go.Proofs.Ytdibjlphcmjnoaa
