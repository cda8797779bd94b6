/- Counters that halve: a step of the clock, walked. -/
import Derived.Test.YtpbhagikndamnaaHalveA
import Derived.Test.YtpbhagikndamnaaFree
namespace Go.Proofs.Ytpbhagikndamnaa
open Go.RowKit Go.Shelf
theorem ctick_yes (t : Int) (h0 : 0 ≤ t) (h1 : t ≤ 16777216) (w : World) : Calls Try.prog 41 #[.int .i64 t] w fun e w' => e = .returned (.bool true) ∧ w' = w := by
  go_enter Try.func41, Try.ntmps41
  go_wp2
  go_ret
  exact ⟨rfl, rfl⟩
theorem cadv_ok (now to : Int) (h0 : 0 ≤ now) (h1 : now ≤ 16777216) (h2 : now ≤ to) (h3 : to ≤ 16777216) (w : World) : Calls Try.prog 31 #[.int .i64 now, .int .i64 to] w fun e w' => e = .returned (.tuple #[.int .i64 to, .int .i64 0]) ∧ w' = w := by
  go_enter Try.func31, Try.ntmps31
  go_wp2_with (go_at_call 41; refine (ctick_yes _ h0 h1 _).mono ?_; rintro e w9 ⟨rfl, rfl⟩)
  go_ret2
  exact ⟨rfl, rfl⟩
theorem cadv_low (now to : Int) (h0 : 0 ≤ now) (h1 : now ≤ 16777216) (h2 : to < now) (w : World) : Calls Try.prog 31 #[.int .i64 now, .int .i64 to] w fun e w' => e = .returned (.tuple #[.int .i64 0, .int .i64 3]) ∧ w' = w := by
  go_enter Try.func31, Try.ntmps31
  go_wp2_with (go_at_call 41; refine (ctick_yes _ h0 h1 _).mono ?_; rintro e w9 ⟨rfl, rfl⟩)
  go_ret2
  exact ⟨rfl, rfl⟩
theorem cadv_high (now to : Int) (h0 : 0 ≤ now) (h1 : now ≤ 16777216) (h2 : 16777216 < to) (w : World) : Calls Try.prog 31 #[.int .i64 now, .int .i64 to] w fun e w' => e = .returned (.tuple #[.int .i64 0, .int .i64 3]) ∧ w' = w := by
  have h3 : now ≤ to := by omega
  go_enter Try.func31, Try.ntmps31
  go_wp2_with (go_at_call 41; refine (ctick_yes _ h0 h1 _).mono ?_; rintro e w9 ⟨rfl, rfl⟩)
  go_ret2
  exact ⟨rfl, rfl⟩
theorem rback_ok (now to : Int) (h2 : now ≤ to) (h3 : to ≤ 16777216) (w : World) : Calls Try.prog 32 #[.int .i64 now, .int .i64 to] w fun e w' => e = .returned (.int .i64 0) ∧ w' = w := by
  go_enter Try.func32, Try.ntmps32
  go_wp2
  go_ret
  exact ⟨rfl, rfl⟩
theorem rback_low (now to : Int) (h2 : to < now) (w : World) : Calls Try.prog 32 #[.int .i64 now, .int .i64 to] w fun e w' => e = .returned (.int .i64 3) ∧ w' = w := by
  go_enter Try.func32, Try.ntmps32
  go_wp2
  go_ret
  exact ⟨rfl, rfl⟩
theorem rback_high (now to : Int) (h2 : 16777216 < to) (w : World) : Calls Try.prog 32 #[.int .i64 now, .int .i64 to] w fun e w' => e = .returned (.int .i64 3) ∧ w' = w := by
  by_cases h3 : now ≤ to
  · go_enter Try.func32, Try.ntmps32
    go_wp2
    go_ret
    exact ⟨rfl, rfl⟩
  · exact rback_low now to (by omega) w
theorem phadv_bad (now : Int) (A : Option Addr) (n c : Nat) (zs : List Int) (to : Int) (w : World) (hin : HIn now A n c zs w) (hv : hvalE now zs = 2) : Calls Try.prog 14 #[.agg #[.int .i64 now, .slice A n c], .int .i64 to] w fun e w' => HRet (hadv now zs to) w e w' := by
  rw [hadv_bad hv]
  have P := fun w1 (hb : Below w.heap.size w w1) => phval now A n c zs w1 ((hin.reads.below hb).more hb.size) hin.nowB hin.zsB hin.nB
  rw [hv] at P
  have P := Lib.hid P
  clear hv hin
  go_enter Try.func14, Try.ntmps14
  go_wp2_with (first | (go_at_call 20; with_reducible refine (P.out _ (by (repeat (first | exact Below.refl _ _ | refine Below.setCell ?_ (by first | (simp; done) | (simp; omega) | omega) _ | refine Below.alloc ?_ (by first | (simp; done) | (simp; omega) | omega) _ | refine Below.drew ?_ | refine Below.trans ?_ (Below.mono (by assumption) (by first | (simp; done) | (simp; omega) | omega)))))).mono ?_; rintro e w1 ⟨rfl, hb1⟩; have hz1 := hb1.size; (try simp at hz1); have o1 : Below w.heap.size w w1 := (by (repeat (first | exact Below.refl _ _ | refine Below.setCell ?_ (by first | (simp; done) | (simp; omega) | omega) _ | refine Below.alloc ?_ (by first | (simp; done) | (simp; omega) | omega) _ | refine Below.drew ?_ | refine Below.trans ?_ (Below.mono (by assumption) (by first | (simp; done) | (simp; omega) | omega))))); have q1_0 : w.heap.size < w1.heap.size := (by omega); have r1_0 : Row w1 (w.heap.size) 24 #[.int .i64 now, .slice A n c] := row_call (by (repeat (first | assumption | (refine row_new ?_; (first | (simp; done) | omega)) | refine row_alloc ?_ _ | refine row_drew ?_ | refine row_call ?_ (by assumption)))) hb1; obtain ⟨c1_0a, c1_0b, f1_0a, f1_0b⟩ := row_two r1_0; have q1_1 : w.heap.size + 1 < w1.heap.size := (by omega); have r1_1 : Row w1 (w.heap.size + 1) 24 #[.int .i64 0, .slice none 0 0] := row_call (by (repeat (first | assumption | (refine row_new ?_; (first | (simp; done) | omega)) | refine row_alloc ?_ _ | refine row_drew ?_ | refine row_call ?_ (by assumption)))) hb1; obtain ⟨c1_1a, c1_1b, f1_1a, f1_1b⟩ := row_two r1_1))
  exact bodyPost_ret (v := .tuple #[.agg #[.int .i64 0, .slice none 0 0], .int .i64 2]) (by simp [results, Try.results14, go_sem, c1_1a, c1_1b]) rfl (hret_zero (by (repeat (first | exact Below.refl _ _ | refine Below.setCell ?_ (by first | (simp; done) | (simp; omega) | omega) _ | refine Below.alloc ?_ (by first | (simp; done) | (simp; omega) | omega) _ | refine Below.drew ?_ | refine Below.trans ?_ (Below.mono (by assumption) (by first | (simp; done) | (simp; omega) | omega))))))
theorem phadv_low (now : Int) (A : Option Addr) (n c : Nat) (zs : List Int) (to : Int) (w : World) (hin : HIn now A n c zs w) (hv : hvalE now zs = 0) (h1 : to < now) : Calls Try.prog 14 #[.agg #[.int .i64 now, .slice A n c], .int .i64 to] w fun e w' => HRet (hadv now zs to) w e w' := by
  rw [hadv_low hv h1]
  have P := fun w1 (hb : Below w.heap.size w w1) => phval now A n c zs w1 ((hin.reads.below hb).more hb.size) hin.nowB hin.zsB hin.nB
  rw [hv] at P
  have P := Lib.hid P
  have V := hvalid_of hv
  have hl := hin.len
  have hn0 := V.2.2.1
  have hn1 := V.2.2.2.1
  clear hv hin V hl
  go_enter Try.func14, Try.ntmps14
  go_wp2_with (first | (go_at_call 20; with_reducible refine (P.out _ (by (repeat (first | exact Below.refl _ _ | refine Below.setCell ?_ (by first | (simp; done) | (simp; omega) | omega) _ | refine Below.alloc ?_ (by first | (simp; done) | (simp; omega) | omega) _ | refine Below.drew ?_ | refine Below.trans ?_ (Below.mono (by assumption) (by first | (simp; done) | (simp; omega) | omega)))))).mono ?_; rintro e w1 ⟨rfl, hb1⟩; have hz1 := hb1.size; (try simp at hz1); have o1 : Below w.heap.size w w1 := (by (repeat (first | exact Below.refl _ _ | refine Below.setCell ?_ (by first | (simp; done) | (simp; omega) | omega) _ | refine Below.alloc ?_ (by first | (simp; done) | (simp; omega) | omega) _ | refine Below.drew ?_ | refine Below.trans ?_ (Below.mono (by assumption) (by first | (simp; done) | (simp; omega) | omega))))); have q1_0 : w.heap.size < w1.heap.size := (by omega); have r1_0 : Row w1 (w.heap.size) 24 #[.int .i64 now, .slice A n c] := row_call (by (repeat (first | assumption | (refine row_new ?_; (first | (simp; done) | omega)) | refine row_alloc ?_ _ | refine row_drew ?_ | refine row_call ?_ (by assumption)))) hb1; obtain ⟨c1_0a, c1_0b, f1_0a, f1_0b⟩ := row_two r1_0; have q1_1 : w.heap.size + 1 < w1.heap.size := (by omega); have r1_1 : Row w1 (w.heap.size + 1) 24 #[.int .i64 0, .slice none 0 0] := row_call (by (repeat (first | assumption | (refine row_new ?_; (first | (simp; done) | omega)) | refine row_alloc ?_ _ | refine row_drew ?_ | refine row_call ?_ (by assumption)))) hb1; obtain ⟨c1_1a, c1_1b, f1_1a, f1_1b⟩ := row_two r1_1) | (go_at_call 31; with_reducible refine (cadv_low _ _ hn0 hn1 h1 _).mono ?_; rintro e w9 ⟨rfl, rfl⟩))
  exact bodyPost_ret (v := .tuple #[.agg #[.int .i64 0, .slice none 0 0], .int .i64 3]) (by simp [results, Try.results14, go_sem, c1_1a, c1_1b]) rfl (hret_zero (by (repeat (first | exact Below.refl _ _ | refine Below.setCell ?_ (by first | (simp; done) | (simp; omega) | omega) _ | refine Below.alloc ?_ (by first | (simp; done) | (simp; omega) | omega) _ | refine Below.drew ?_ | refine Below.trans ?_ (Below.mono (by assumption) (by first | (simp; done) | (simp; omega) | omega))))))
theorem phadv_high (now : Int) (A : Option Addr) (n c : Nat) (zs : List Int) (to : Int) (w : World) (hin : HIn now A n c zs w) (hv : hvalE now zs = 0) (h1 : 16777216 < to) : Calls Try.prog 14 #[.agg #[.int .i64 now, .slice A n c], .int .i64 to] w fun e w' => HRet (hadv now zs to) w e w' := by
  rw [hadv_high hv h1]
  have P := fun w1 (hb : Below w.heap.size w w1) => phval now A n c zs w1 ((hin.reads.below hb).more hb.size) hin.nowB hin.zsB hin.nB
  rw [hv] at P
  have P := Lib.hid P
  have V := hvalid_of hv
  have hl := hin.len
  have hn0 := V.2.2.1
  have hn1 := V.2.2.2.1
  clear hv hin V hl
  go_enter Try.func14, Try.ntmps14
  go_wp2_with (first | (go_at_call 20; with_reducible refine (P.out _ (by (repeat (first | exact Below.refl _ _ | refine Below.setCell ?_ (by first | (simp; done) | (simp; omega) | omega) _ | refine Below.alloc ?_ (by first | (simp; done) | (simp; omega) | omega) _ | refine Below.drew ?_ | refine Below.trans ?_ (Below.mono (by assumption) (by first | (simp; done) | (simp; omega) | omega)))))).mono ?_; rintro e w1 ⟨rfl, hb1⟩; have hz1 := hb1.size; (try simp at hz1); have o1 : Below w.heap.size w w1 := (by (repeat (first | exact Below.refl _ _ | refine Below.setCell ?_ (by first | (simp; done) | (simp; omega) | omega) _ | refine Below.alloc ?_ (by first | (simp; done) | (simp; omega) | omega) _ | refine Below.drew ?_ | refine Below.trans ?_ (Below.mono (by assumption) (by first | (simp; done) | (simp; omega) | omega))))); have q1_0 : w.heap.size < w1.heap.size := (by omega); have r1_0 : Row w1 (w.heap.size) 24 #[.int .i64 now, .slice A n c] := row_call (by (repeat (first | assumption | (refine row_new ?_; (first | (simp; done) | omega)) | refine row_alloc ?_ _ | refine row_drew ?_ | refine row_call ?_ (by assumption)))) hb1; obtain ⟨c1_0a, c1_0b, f1_0a, f1_0b⟩ := row_two r1_0; have q1_1 : w.heap.size + 1 < w1.heap.size := (by omega); have r1_1 : Row w1 (w.heap.size + 1) 24 #[.int .i64 0, .slice none 0 0] := row_call (by (repeat (first | assumption | (refine row_new ?_; (first | (simp; done) | omega)) | refine row_alloc ?_ _ | refine row_drew ?_ | refine row_call ?_ (by assumption)))) hb1; obtain ⟨c1_1a, c1_1b, f1_1a, f1_1b⟩ := row_two r1_1) | (go_at_call 31; with_reducible refine (cadv_high _ _ hn0 hn1 h1 _).mono ?_; rintro e w9 ⟨rfl, rfl⟩))
  exact bodyPost_ret (v := .tuple #[.agg #[.int .i64 0, .slice none 0 0], .int .i64 3]) (by simp [results, Try.results14, go_sem, c1_1a, c1_1b]) rfl (hret_zero (by (repeat (first | exact Below.refl _ _ | refine Below.setCell ?_ (by first | (simp; done) | (simp; omega) | omega) _ | refine Below.alloc ?_ (by first | (simp; done) | (simp; omega) | omega) _ | refine Below.drew ?_ | refine Below.trans ?_ (Below.mono (by assumption) (by first | (simp; done) | (simp; omega) | omega))))))
theorem rhadv_bad (now : Int) (A : Option Addr) (n c : Nat) (zs : List Int) (to : Int) (w : World) (hin : HIn now A n c zs w) (hv : hvalE now zs = 2) : Calls Try.prog 15 #[.agg #[.int .i64 now, .slice A n c], .int .i64 to] w fun e w' => HRet (hadv now zs to) w e w' := by
  rw [hadv_bad hv]
  have P := fun w1 (hb : Below w.heap.size w w1) => rhval now A n c zs w1 ((hin.reads.below hb).more hb.size) hin.nowB hin.zsB hin.nB
  rw [hv] at P
  have P := Lib.hid P
  clear hv hin
  go_enter Try.func15, Try.ntmps15
  go_wp2_with (first | (go_at_call 21; with_reducible refine (P.out _ (by (repeat (first | exact Below.refl _ _ | refine Below.setCell ?_ (by first | (simp; done) | (simp; omega) | omega) _ | refine Below.alloc ?_ (by first | (simp; done) | (simp; omega) | omega) _ | refine Below.drew ?_ | refine Below.trans ?_ (Below.mono (by assumption) (by first | (simp; done) | (simp; omega) | omega)))))).mono ?_; rintro e w1 ⟨rfl, hb1⟩; have hz1 := hb1.size; (try simp at hz1); have o1 : Below w.heap.size w w1 := (by (repeat (first | exact Below.refl _ _ | refine Below.setCell ?_ (by first | (simp; done) | (simp; omega) | omega) _ | refine Below.alloc ?_ (by first | (simp; done) | (simp; omega) | omega) _ | refine Below.drew ?_ | refine Below.trans ?_ (Below.mono (by assumption) (by first | (simp; done) | (simp; omega) | omega))))); have q1_0 : w.heap.size < w1.heap.size := (by omega); have r1_0 : Row w1 (w.heap.size) 24 #[.int .i64 now, .slice A n c] := row_call (by (repeat (first | assumption | (refine row_new ?_; (first | (simp; done) | omega)) | refine row_alloc ?_ _ | refine row_drew ?_ | refine row_call ?_ (by assumption)))) hb1; obtain ⟨c1_0a, c1_0b, f1_0a, f1_0b⟩ := row_two r1_0; have q1_1 : w.heap.size + 1 < w1.heap.size := (by omega); have r1_1 : Row w1 (w.heap.size + 1) 24 #[.int .i64 0, .slice none 0 0] := row_call (by (repeat (first | assumption | (refine row_new ?_; (first | (simp; done) | omega)) | refine row_alloc ?_ _ | refine row_drew ?_ | refine row_call ?_ (by assumption)))) hb1; obtain ⟨c1_1a, c1_1b, f1_1a, f1_1b⟩ := row_two r1_1))
  exact bodyPost_ret (v := .tuple #[.agg #[.int .i64 0, .slice none 0 0], .int .i64 2]) (by simp [results, Try.results15, go_sem, c1_1a, c1_1b]) rfl (hret_zero (by (repeat (first | exact Below.refl _ _ | refine Below.setCell ?_ (by first | (simp; done) | (simp; omega) | omega) _ | refine Below.alloc ?_ (by first | (simp; done) | (simp; omega) | omega) _ | refine Below.drew ?_ | refine Below.trans ?_ (Below.mono (by assumption) (by first | (simp; done) | (simp; omega) | omega))))))
theorem rhadv_low (now : Int) (A : Option Addr) (n c : Nat) (zs : List Int) (to : Int) (w : World) (hin : HIn now A n c zs w) (hv : hvalE now zs = 0) (h1 : to < now) : Calls Try.prog 15 #[.agg #[.int .i64 now, .slice A n c], .int .i64 to] w fun e w' => HRet (hadv now zs to) w e w' := by
  rw [hadv_low hv h1]
  have P := fun w1 (hb : Below w.heap.size w w1) => rhval now A n c zs w1 ((hin.reads.below hb).more hb.size) hin.nowB hin.zsB hin.nB
  rw [hv] at P
  have P := Lib.hid P
  have V := hvalid_of hv
  have hl := hin.len
  have hn0 := V.2.2.1
  have hn1 := V.2.2.2.1
  clear hv hin V hl
  go_enter Try.func15, Try.ntmps15
  go_wp2_with (first | (go_at_call 21; with_reducible refine (P.out _ (by (repeat (first | exact Below.refl _ _ | refine Below.setCell ?_ (by first | (simp; done) | (simp; omega) | omega) _ | refine Below.alloc ?_ (by first | (simp; done) | (simp; omega) | omega) _ | refine Below.drew ?_ | refine Below.trans ?_ (Below.mono (by assumption) (by first | (simp; done) | (simp; omega) | omega)))))).mono ?_; rintro e w1 ⟨rfl, hb1⟩; have hz1 := hb1.size; (try simp at hz1); have o1 : Below w.heap.size w w1 := (by (repeat (first | exact Below.refl _ _ | refine Below.setCell ?_ (by first | (simp; done) | (simp; omega) | omega) _ | refine Below.alloc ?_ (by first | (simp; done) | (simp; omega) | omega) _ | refine Below.drew ?_ | refine Below.trans ?_ (Below.mono (by assumption) (by first | (simp; done) | (simp; omega) | omega))))); have q1_0 : w.heap.size < w1.heap.size := (by omega); have r1_0 : Row w1 (w.heap.size) 24 #[.int .i64 now, .slice A n c] := row_call (by (repeat (first | assumption | (refine row_new ?_; (first | (simp; done) | omega)) | refine row_alloc ?_ _ | refine row_drew ?_ | refine row_call ?_ (by assumption)))) hb1; obtain ⟨c1_0a, c1_0b, f1_0a, f1_0b⟩ := row_two r1_0; have q1_1 : w.heap.size + 1 < w1.heap.size := (by omega); have r1_1 : Row w1 (w.heap.size + 1) 24 #[.int .i64 0, .slice none 0 0] := row_call (by (repeat (first | assumption | (refine row_new ?_; (first | (simp; done) | omega)) | refine row_alloc ?_ _ | refine row_drew ?_ | refine row_call ?_ (by assumption)))) hb1; obtain ⟨c1_1a, c1_1b, f1_1a, f1_1b⟩ := row_two r1_1) | (go_at_call 32; with_reducible refine (rback_low _ _ h1 _).mono ?_; rintro e w9 ⟨rfl, rfl⟩))
  exact bodyPost_ret (v := .tuple #[.agg #[.int .i64 0, .slice none 0 0], .int .i64 3]) (by simp [results, Try.results15, go_sem, c1_1a, c1_1b]) rfl (hret_zero (by (repeat (first | exact Below.refl _ _ | refine Below.setCell ?_ (by first | (simp; done) | (simp; omega) | omega) _ | refine Below.alloc ?_ (by first | (simp; done) | (simp; omega) | omega) _ | refine Below.drew ?_ | refine Below.trans ?_ (Below.mono (by assumption) (by first | (simp; done) | (simp; omega) | omega))))))
theorem rhadv_high (now : Int) (A : Option Addr) (n c : Nat) (zs : List Int) (to : Int) (w : World) (hin : HIn now A n c zs w) (hv : hvalE now zs = 0) (h1 : 16777216 < to) : Calls Try.prog 15 #[.agg #[.int .i64 now, .slice A n c], .int .i64 to] w fun e w' => HRet (hadv now zs to) w e w' := by
  rw [hadv_high hv h1]
  have P := fun w1 (hb : Below w.heap.size w w1) => rhval now A n c zs w1 ((hin.reads.below hb).more hb.size) hin.nowB hin.zsB hin.nB
  rw [hv] at P
  have P := Lib.hid P
  have V := hvalid_of hv
  have hl := hin.len
  have hn0 := V.2.2.1
  have hn1 := V.2.2.2.1
  clear hv hin V hl
  go_enter Try.func15, Try.ntmps15
  go_wp2_with (first | (go_at_call 21; with_reducible refine (P.out _ (by (repeat (first | exact Below.refl _ _ | refine Below.setCell ?_ (by first | (simp; done) | (simp; omega) | omega) _ | refine Below.alloc ?_ (by first | (simp; done) | (simp; omega) | omega) _ | refine Below.drew ?_ | refine Below.trans ?_ (Below.mono (by assumption) (by first | (simp; done) | (simp; omega) | omega)))))).mono ?_; rintro e w1 ⟨rfl, hb1⟩; have hz1 := hb1.size; (try simp at hz1); have o1 : Below w.heap.size w w1 := (by (repeat (first | exact Below.refl _ _ | refine Below.setCell ?_ (by first | (simp; done) | (simp; omega) | omega) _ | refine Below.alloc ?_ (by first | (simp; done) | (simp; omega) | omega) _ | refine Below.drew ?_ | refine Below.trans ?_ (Below.mono (by assumption) (by first | (simp; done) | (simp; omega) | omega))))); have q1_0 : w.heap.size < w1.heap.size := (by omega); have r1_0 : Row w1 (w.heap.size) 24 #[.int .i64 now, .slice A n c] := row_call (by (repeat (first | assumption | (refine row_new ?_; (first | (simp; done) | omega)) | refine row_alloc ?_ _ | refine row_drew ?_ | refine row_call ?_ (by assumption)))) hb1; obtain ⟨c1_0a, c1_0b, f1_0a, f1_0b⟩ := row_two r1_0; have q1_1 : w.heap.size + 1 < w1.heap.size := (by omega); have r1_1 : Row w1 (w.heap.size + 1) 24 #[.int .i64 0, .slice none 0 0] := row_call (by (repeat (first | assumption | (refine row_new ?_; (first | (simp; done) | omega)) | refine row_alloc ?_ _ | refine row_drew ?_ | refine row_call ?_ (by assumption)))) hb1; obtain ⟨c1_1a, c1_1b, f1_1a, f1_1b⟩ := row_two r1_1) | (go_at_call 32; with_reducible refine (rback_high _ _ h1 _).mono ?_; rintro e w9 ⟨rfl, rfl⟩))
  exact bodyPost_ret (v := .tuple #[.agg #[.int .i64 0, .slice none 0 0], .int .i64 3]) (by simp [results, Try.results15, go_sem, c1_1a, c1_1b]) rfl (hret_zero (by (repeat (first | exact Below.refl _ _ | refine Below.setCell ?_ (by first | (simp; done) | (simp; omega) | omega) _ | refine Below.alloc ?_ (by first | (simp; done) | (simp; omega) | omega) _ | refine Below.drew ?_ | refine Below.trans ?_ (Below.mono (by assumption) (by first | (simp; done) | (simp; omega) | omega))))))
theorem copy_clear {zs : List Int} {k n d : Nat} (hk : k = min d zs.length) (hn : n = zs.length) :
    List.replicate k (Value.int .i64 0) ++ (splice (zs.map (Value.int .i64)) k ((zs.map (Value.int .i64)).take (n - k))).drop k = (hshift zs d).map (Value.int .i64) := by
  subst hn
  rw [← hshift_min, ← hk]
  have hle : k ≤ zs.length := by omega
  unfold splice
  rw [List.drop_append_of_le_length (by simp [hle]), List.drop_of_length_le (by simp; omega)]
  simp only [List.nil_append, List.map_append, List.map_replicate, List.map_take]
  rw [List.drop_of_length_le (by simp; omega)]
  simp
theorem shift_bound {zs : List Int} (h : ∀ k, -9223372036854775808 ≤ zs.getD k 0 ∧ zs.getD k 0 ≤ 9223372036854775807) (d k : Nat) : -9223372036854775808 ≤ (hshift zs d).getD k 0 ∧ (hshift zs d).getD k 0 ≤ 9223372036854775807 := by
  by_cases hk : k < zs.length
  · rw [hshift_at hk]
    split
    · exact ⟨by decide, by decide⟩
    · exact h _
  · rw [List.getD_eq_getElem?_getD, List.getElem?_eq_none (by rw [hshift_len]; omega)]
    exact ⟨by decide, by decide⟩
theorem sz_i64 : (Try.prog.info? 2).map (·.size) = some 1 := by kernel_rfl
theorem zero_i64 (w : World) : (zeroValue 2).run Try.prog w = .ok (.int .i64 0) w := by kernel_rfl
set_option maxHeartbeats 1000000 in
theorem phadv_ok (now : Int) (A : Option Addr) (n c : Nat) (zs : List Int) (to : Int) (w : World) (hin : HIn now A n c zs w) (hv : hvalE now zs = 0) (h1 : now ≤ to) (h2 : to ≤ 16777216) :
    Calls Try.prog 14 #[.agg #[.int .i64 now, .slice A n c], .int .i64 to] w fun e w' => HRet (hadv now zs to) w e w' := by
  rw [hadv_ok hv h1 h2]
  have P := fun w1 (hb : Below w.heap.size w w1) => phval now A n c zs w1 ((hin.reads.below hb).more hb.size) hin.nowB hin.zsB hin.nB
  rw [hv] at P
  have P := Lib.hid P
  have V := hvalid_of hv
  have hl := hin.len
  have hn0 := V.2.2.1
  have hn1 := V.2.2.2.1
  have HR := Lib.hid hin
  have hlen2 : n ≤ 64 := by omega
  have hlen1 : 1 ≤ n := by omega
  obtain ⟨i0, hi, iz0, iz1, iz2⟩ := info_parts info_i64
  have d0 : 0 ≤ to - now := by omega
  have d1 : to - now ≤ 16777216 := by omega
  clear hv hin hl V
  go_enter Try.func14, Try.ntmps14
  go_wp2_with (first | (go_at_call 20; with_reducible refine (P.out _ (by (repeat (first | exact Below.refl _ _ | refine Below.setCell ?_ (by first | (simp; done) | (simp; omega) | omega) _ | refine Below.alloc ?_ (by first | (simp; done) | (simp; omega) | omega) _ | refine Below.drew ?_ | refine Below.trans ?_ (Below.mono (by assumption) (by first | (simp; done) | (simp; omega) | omega)))))).mono ?_; rintro e w1 ⟨rfl, hb1⟩; have hz1 := hb1.size; (try simp at hz1); have o1 : Below w.heap.size w w1 := (by (repeat (first | exact Below.refl _ _ | refine Below.setCell ?_ (by first | (simp; done) | (simp; omega) | omega) _ | refine Below.alloc ?_ (by first | (simp; done) | (simp; omega) | omega) _ | refine Below.drew ?_ | refine Below.trans ?_ (Below.mono (by assumption) (by first | (simp; done) | (simp; omega) | omega))))); have q1_0 : w.heap.size < w1.heap.size := (by omega); have r1_0 : Row w1 (w.heap.size) 24 #[.int .i64 now, .slice A n c] := row_call (by (repeat (first | assumption | (refine row_new ?_; (first | (simp; done) | omega)) | refine row_alloc ?_ _ | refine row_drew ?_ | refine row_call ?_ (by assumption)))) hb1; obtain ⟨c1_0a, c1_0b, f1_0a, f1_0b⟩ := row_two r1_0; have q1_1 : w.heap.size + 1 < w1.heap.size := (by omega); have r1_1 : Row w1 (w.heap.size + 1) 24 #[.int .i64 0, .slice none 0 0] := row_call (by (repeat (first | assumption | (refine row_new ?_; (first | (simp; done) | omega)) | refine row_alloc ?_ _ | refine row_drew ?_ | refine row_call ?_ (by assumption)))) hb1; obtain ⟨c1_1a, c1_1b, f1_1a, f1_1b⟩ := row_two r1_1) | (go_at_call 31; with_reducible refine (cadv_ok _ _ hn0 hn1 h1 h2 _).mono ?_; rintro e w9 ⟨rfl, rfl⟩) | (at_builtin; refine wpList_clone rfl _ _ 22 rfl 2 i0 (.int .i64 0) 1 8 Try.underlying22 hi iz0 iz1 iz2 rfl (by decide) rfl w.heap.size A n c (zs.map (Value.int .i64)) rfl (HR.out.reads.below o1) o1.size (ints_oneCell _ _) (by show n ≤ 9223372036854775807; omega) (by omega) ?_; intro g c2 w2 own2 hg2 hb2 hz2; have o2 : Below w.heap.size w w2 := (by (repeat (first | exact Below.refl _ _ | refine Below.setCell ?_ (by first | (simp; done) | (simp; omega) | omega) _ | refine Below.alloc ?_ (by first | (simp; done) | (simp; omega) | omega) _ | refine Below.drew ?_ | refine Below.trans ?_ (Below.mono (by assumption) (by first | (simp; done) | (simp; omega) | omega))))); have q2_0 : w.heap.size < w2.heap.size := (by omega); have r2_0 : Row w2 (w.heap.size) 24 #[.int .i64 now, .slice A n c] := row_call (by (repeat (first | assumption | (refine row_new ?_; (first | (simp; done) | omega)) | refine row_alloc ?_ _ | refine row_drew ?_ | refine row_call ?_ (by assumption)))) hb2; obtain ⟨c2_0a, c2_0b, f2_0a, f2_0b⟩ := row_two r2_0; have q2_1 : w.heap.size + 1 < w2.heap.size := (by omega); have r2_1 : Row w2 (w.heap.size + 1) 24 #[.int .i64 0, .slice none 0 0] := row_call (by (repeat (first | assumption | (refine row_new ?_; (first | (simp; done) | omega)) | refine row_alloc ?_ _ | refine row_drew ?_ | refine row_call ?_ (by assumption)))) hb2; obtain ⟨c2_1a, c2_1b, f2_1a, f2_1b⟩ := row_two r2_1; have hne : g ≠ w.heap.size := (by omega); have hne1 : g ≠ w.heap.size + 1 := (by omega)))
  obtain ⟨k, hk, hkn, hkd⟩ : ∃ k : Nat, min (to - now) (n : Int) = (k : Int) ∧ k ≤ n ∧ k = min (to - now).toNat n := ⟨min (to - now).toNat n, by omega, by omega, rfl⟩
  rw [hk]
  have HK := Lib.hid hkd
  have rdA := HR.out.reads.below o2
  have L : Row w2 (w.heap.size) 24 #[.int .i64 now, .slice A n c] ∧ Row w2 (w.heap.size + 1) 24 #[.int .i64 0, .slice none 0 0] ∧ Own w2 2 1 g n c2 (zs.map (Value.int .i64)) ∧ Reads w2 w.heap.size 1 A n (zs.map (Value.int .i64)) ∧ Below w.heap.size w w2 := ⟨r2_0, r2_1, own2, rdA, o2⟩
  clear hkd hk
  refine wp_region_free0 [0, 1, 3, 2, 4] [] [0, 1, 2, 3, 4] 5 (fun w' => Row w' (w.heap.size) 24 #[.int .i64 now, .slice A n c] ∧ Row w' (w.heap.size + 1) 24 #[.int .i64 0, .slice none 0 0] ∧ Own w' 2 1 g n c2 (zs.map (Value.int .i64)) ∧ Reads w' w.heap.size 1 A n (zs.map (Value.int .i64)) ∧ Below w.heap.size w w') (by kernel_rfl) (by kernel_rfl) (fun _ _ d _ _ h => by cases d <;> exact h) ?_ ?_
  · exact ⟨L.1, L.2.1, L.2.2.1, L.2.2.2.1, L.2.2.2.2.drew⟩
  (refine plan_pure ?_ rfl rfl (fun w' => ?_) ?_; rotate_left; (go_simp; try with_reducible rfl); simp only [Act.put, List.setIfInBounds_toArray, List.set_cons_zero, List.set_cons_succ])
  (refine plan_pure ?_ rfl rfl (fun w' => ?_) ?_; rotate_left; (go_simp; try with_reducible rfl); simp only [Act.put, List.setIfInBounds_toArray, List.set_cons_zero, List.set_cons_succ])
  (refine plan_pure ?_ rfl rfl (fun w' => ?_) ?_; rotate_left; (go_simp; try with_reducible rfl); simp only [Act.put, List.setIfInBounds_toArray, List.set_cons_zero, List.set_cons_succ])
  (refine plan_pure ?_ rfl rfl (fun w' => ?_) ?_; rotate_left; (go_simp; try with_reducible rfl); simp only [Act.put, List.setIfInBounds_toArray, List.set_cons_zero, List.set_cons_succ])
  (refine plan_val ?_ rfl rfl rfl (fun w' hS => ?_) ?_; rotate_left; (obtain ⟨A00, A01, A02, A03⟩ := row_two hS.1; have nc := hS.2.2.1.cap; go_simp; try with_reducible rfl); simp only [Act.put, List.setIfInBounds_toArray, List.set_cons_zero, List.set_cons_succ])
  refine plan_nil ?_
  intro w3 L3
  simp only [List.drop_succ_cons, List.drop_zero]
  try simp only [Act.put, List.setIfInBounds_toArray, List.set_cons_zero, List.set_cons_succ]
  obtain ⟨r3_0, r3_1, own3, rd3, o3⟩ := L3
  have nc := own3.cap
  refine wpList_copy_vec rfl _ _ 22 22 rfl 2 Try.underlying22 sz_i64 own3 hkn _ _ rfl (fun h0 => ?_) w.heap.size A n c rfl rd3 (ints_oneCell _ _) ?_
  · rw [if_neg (by omega)]
  intro w4 own4 hb4
  obtain ⟨hcl, own5, hb5⟩ := run_clear_own (P := Try.prog) (cc := c2) (t := 22) Try.underlying22 zero_i64 rfl rfl own4 hkn
  generalize w4.setCells g 0 (List.replicate k (Value.int .i64 0)) = w5 at hcl own5 hb5
  have q0 : w.heap.size < g := by omega
  have q1 : w.heap.size + 1 < g := by omega
  have r5_0 := row_below (row_below r3_0 hb4 q0) hb5 q0
  have r5_1 := row_below (row_below r3_1 hb4 q1) hb5 q1
  obtain ⟨c5_0a, c5_0b, f5_0a, f5_0b⟩ := row_two r5_0
  obtain ⟨c5_1a, c5_1b, f5_1a, f5_1b⟩ := row_two r5_1
  have o5 : Below w.heap.size w w5 := o3.trans ((hb4.trans hb5).mono (by omega))
  have kc : (k : Int) ≤ (c2 : Int) := by omega
  have own5 : Own w5 2 1 g n c2 ((hshift zs (to - now).toNat).map (Value.int .i64)) := by
    rw [copy_clear (by rw [HR.out.len]; exact HK.out) HR.out.len.symm] at own5
    exact own5
  clear own4 own3 rd3 hb4 hb5 r3_0 r3_1 L rdA
  generalize (if c2 = k then some (⟨g, 0, none⟩ : Addr) else some ⟨g, k, none⟩) = dp
  go_wp2
  have ow := (own5.other (by simp; omega) (.int .i64 to) (p := ⟨w.heap.size + 1, 0, none⟩)).other (by simp; omega) (.slice (some ⟨g, 0, none⟩) n c2) (p := ⟨w.heap.size + 1, 1, none⟩)
  exact bodyPost_ret (v := .tuple #[.agg #[.int .i64 to, .slice (some ⟨g, 0, none⟩) n c2], .int .i64 0]) (by simp [results, Try.results14, go_sem, c5_1a, c5_1b]) rfl (hret_own ow ⟨by omega, by omega⟩ (shift_bound HR.out.zsB _) (by (repeat (first | exact Below.refl _ _ | refine Below.setCell ?_ (by first | (simp; done) | (simp; omega) | omega) _ | refine Below.alloc ?_ (by first | (simp; done) | (simp; omega) | omega) _ | refine Below.drew ?_ | refine Below.trans ?_ (Below.mono (by assumption) (by first | (simp; done) | (simp; omega) | omega))))) (by first | omega | (simp; done) | (simp; omega)))
end Go.Proofs.Ytpbhagikndamnaa
