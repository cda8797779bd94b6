/- Counters with polynomial decay: New, Advance and Ask, walked. -/
import Derived.Test.YtejoomlaanmbkaaPolyV
import Derived.Test.YtejoomlaanmbkaaPow
namespace Go.Proofs.Ytejoomlaanmbkaa
open Go.RowKit Go.Shelf
theorem made_pair (z : Value) (n : Nat) : (madeCells #[z, z] n).toList = List.replicate n z := by
  apply List.ext_getElem?
  intro j
  by_cases hj : j < n
  · have : j % 2 = 0 ∨ j % 2 = 1 := by omega
    rcases this with h | h <;> simp [madeCells, hj, h]
  · simp [madeCells, hj]
theorem wcells_zeros (n : Nat) : wcells (List.replicate n 0) = List.replicate (n * 2) (.int .u64 0) := by
  induction n with
  | zero => rfl
  | succ n ih =>
    rw [List.replicate_succ, wcells_cons, ih, show (n + 1) * 2 = n * 2 + 1 + 1 by omega, List.replicate_succ, List.replicate_succ]
    rfl
/-- 'make([]api.Wide, n)'. -/
theorem make_wide (w : World) (kl kc : IntKind) (n : Nat) (hbytes : n ≤ 1000000) :
    ∃ w', (Instr.makeSlice 22 (.int kl (n : Int)) (.int kc (n : Int))).run Try.prog w = .ok (.slice (some ⟨w.heap.size, 0, none⟩) n n) w' ∧ Own w' 35 2 w.heap.size n n (wcells (List.replicate n 0)) ∧ Below w.heap.size w w' := by
  obtain ⟨i0, hi, iz0, iz1, iz2⟩ := info_parts info_wide
  obtain ⟨w', h1, h2, h3⟩ := run_make_full (P := Try.prog) w 0 22 35 i0 _ 2 Try.underlying22 hi iz0 iz1 kl kc n (by rw [iz2]; omega) (by unfold maxLen; omega) (Nat.zero_le _)
  refine ⟨w', h1, ?_, below_grown (Below.refl _ _) h3 (fun k hk => by cases hk) (Nat.le_refl _)⟩
  have := (own_of_row h2).1
  rw [show (Value.agg #[.int .u64 0, .int .u64 0]).cells = #[.int .u64 0, .int .u64 0] from rfl, made_pair, ← wcells_zeros] at this
  exact this
theorem zeros_big (n i : Nat) : momAt (List.replicate n 0) i < big := by
  unfold momAt
  rw [List.getD_eq_getElem?_getD, List.getElem?_replicate]
  split <;> decide
theorem PIn.other {p land now : Int} {A : Option Addr} {n c : Nat} {ms : List Nat} {w : World} (h : PIn p land now A n c ms w) {q : Addr} (hp : ∀ a, A = some a → a.block ≠ q.block) (v : Value) : PIn p land now A n c ms (w.setCell q v) := by
  obtain ⟨h1, h2, h3, h4, h5, h6, h7⟩ := h
  refine ⟨⟨h1.1, fun hn => ?_⟩, h2, h3, h4, h5, h6, h7⟩
  obtain ⟨ad, e, hb, hc⟩ := h1.2 hn
  refine ⟨ad, e, by rw [size_setCell]; exact hb, fun j u hu => ?_⟩
  rw [World.cell?_setCell_other w q _ v (fun x => hp ad e (by rw [x, block_of_add]))]
  exact hc j u hu
theorem PIn.row {p land now : Int} {A : Option Addr} {n c : Nat} {ms : List Nat} {w : World} (h : PIn p land now A n c ms w) {b : Nat} (hp : ∀ a, A = some a → a.block ≠ b) (u0 u1 u2 u3 : Value) : PIn p land now A n c ms ((((w.setCell ⟨b, 0, none⟩ u0).setCell ⟨b, 1, none⟩ u1).setCell ⟨b, 2, none⟩ u2).setCell ⟨b, 3, none⟩ u3) :=
  (((h.other (q := ⟨b, 0, none⟩) hp u0).other (q := ⟨b, 1, none⟩) hp u1).other (q := ⟨b, 2, none⟩) hp u2).other (q := ⟨b, 3, none⟩) hp u3
theorem row_four_set {w : World} {b : Nat} {t : TypeId} {x0 x1 x2 x3 u0 u1 u2 u3 : Value} (h : Row w b t #[x0, x1, x2, x3]) : Row ((((w.setCell ⟨b, 0, none⟩ u0).setCell ⟨b, 1, none⟩ u1).setCell ⟨b, 2, none⟩ u2).setCell ⟨b, 3, none⟩ u3) b t #[u0, u1, u2, u3] := row_set (row_set (row_set (row_set h 0 u0) 1 u1) 2 u2) 3 u3
theorem row_four_other {w : World} {b c : Nat} {t : TypeId} {cs : Array Value} {u0 u1 u2 u3 : Value} (h : Row w b t cs) (hne : b ≠ c) : Row ((((w.setCell ⟨c, 0, none⟩ u0).setCell ⟨c, 1, none⟩ u1).setCell ⟨c, 2, none⟩ u2).setCell ⟨c, 3, none⟩ u3) b t cs := row_other (row_other (row_other (row_other h hne u0) hne u1) hne u2) hne u3
theorem below_four {B b : Nat} {w0 w : World} (h : Below B w0 w) (hb : B ≤ b) (u0 u1 u2 u3 : Value) : Below B w0 ((((w.setCell ⟨b, 0, none⟩ u0).setCell ⟨b, 1, none⟩ u1).setCell ⟨b, 2, none⟩ u2).setCell ⟨b, 3, none⟩ u3) :=
  (((h.setCell (p := ⟨b, 0, none⟩) hb u0).setCell (p := ⟨b, 1, none⟩) hb u1).setCell (p := ⟨b, 2, none⟩) hb u2).setCell (p := ⟨b, 3, none⟩) hb u3
theorem own_four {w : World} {e : TypeId} {size g n c b : Nat} {xs : List Value} (h : Own w e size g n c xs) (hne : g ≠ b) (u0 u1 u2 u3 : Value) : Own ((((w.setCell ⟨b, 0, none⟩ u0).setCell ⟨b, 1, none⟩ u1).setCell ⟨b, 2, none⟩ u2).setCell ⟨b, 3, none⟩ u3) e size g n c xs :=
  (((h.other (p := ⟨b, 0, none⟩) hne u0).other (p := ⟨b, 1, none⟩) hne u1).other (p := ⟨b, 2, none⟩) hne u2).other (p := ⟨b, 3, none⟩) hne u3
theorem size_four (w : World) (b : Nat) (u0 u1 u2 u3 : Value) : (((((w.setCell ⟨b, 0, none⟩ u0).setCell ⟨b, 1, none⟩ u1).setCell ⟨b, 2, none⟩ u2).setCell ⟨b, 3, none⟩ u3)).heap.size = w.heap.size := by simp
theorem far {A : Option Addr} {B C b : Nat} (h : ∀ a, A = some a → B ≤ a.block ∧ a.block < C) (hb : b < B) : ∀ a, A = some a → a.block ≠ b := fun a ha e => by have := h a ha; omega
theorem ppnew_a (p now : Int) (w : World) (h : p < 0) : Calls Try.prog 9 #[.int .i64 p, .int .i64 now] w fun e w' => PRet (qnew p now) w e w' := by
  rw [qnew_no (by omega)]
  go_enter Try.func9, Try.ntmps9
  go_wp2_with fail
  exact bodyPost_ret (v := .tuple #[.agg #[.int .i64 0, .int .i64 0, .int .i64 0, .slice none 0 0], .int .i64 1]) (by simp [results, Try.results9, go_sem, List.getElem?_toArray]) rfl (pret_zero (by (repeat (first | exact Below.refl _ _ | refine Below.setCell ?_ (by first | (simp; done) | (simp; omega) | omega) _ | refine Below.alloc ?_ (by first | (simp; done) | (simp; omega) | omega) _ | refine Below.drew ?_ | refine Below.trans ?_ (Below.mono (by assumption) (by first | (simp; done) | (simp; omega) | omega))))))
theorem ppnew_b (p now : Int) (w : World) (h0 : 0 ≤ p) (h : 4 < p) : Calls Try.prog 9 #[.int .i64 p, .int .i64 now] w fun e w' => PRet (qnew p now) w e w' := by
  rw [qnew_no (by omega)]
  go_enter Try.func9, Try.ntmps9
  go_wp2_with fail
  exact bodyPost_ret (v := .tuple #[.agg #[.int .i64 0, .int .i64 0, .int .i64 0, .slice none 0 0], .int .i64 1]) (by simp [results, Try.results9, go_sem, List.getElem?_toArray]) rfl (pret_zero (by (repeat (first | exact Below.refl _ _ | refine Below.setCell ?_ (by first | (simp; done) | (simp; omega) | omega) _ | refine Below.alloc ?_ (by first | (simp; done) | (simp; omega) | omega) _ | refine Below.drew ?_ | refine Below.trans ?_ (Below.mono (by assumption) (by first | (simp; done) | (simp; omega) | omega))))))
theorem ppnew_c (p now : Int) (w : World) (h0 : 0 ≤ p) (h1 : p ≤ 4) (h : now < 0) : Calls Try.prog 9 #[.int .i64 p, .int .i64 now] w fun e w' => PRet (qnew p now) w e w' := by
  rw [qnew_no (by omega)]
  go_enter Try.func9, Try.ntmps9
  go_wp2_with (go_at_call 31; refine (ptick_neg _ h _).mono ?_; rintro e w9 ⟨rfl, rfl⟩)
  exact bodyPost_ret (v := .tuple #[.agg #[.int .i64 0, .int .i64 0, .int .i64 0, .slice none 0 0], .int .i64 1]) (by simp [results, Try.results9, go_sem, List.getElem?_toArray]) rfl (pret_zero (by (repeat (first | exact Below.refl _ _ | refine Below.setCell ?_ (by first | (simp; done) | (simp; omega) | omega) _ | refine Below.alloc ?_ (by first | (simp; done) | (simp; omega) | omega) _ | refine Below.drew ?_ | refine Below.trans ?_ (Below.mono (by assumption) (by first | (simp; done) | (simp; omega) | omega))))))
theorem ppnew_d (p now : Int) (w : World) (h0 : 0 ≤ p) (h1 : p ≤ 4) (h : 16777216 < now) : Calls Try.prog 9 #[.int .i64 p, .int .i64 now] w fun e w' => PRet (qnew p now) w e w' := by
  rw [qnew_no (by omega)]
  go_enter Try.func9, Try.ntmps9
  go_wp2_with (go_at_call 31; refine (ptick_late _ h _).mono ?_; rintro e w9 ⟨rfl, rfl⟩)
  exact bodyPost_ret (v := .tuple #[.agg #[.int .i64 0, .int .i64 0, .int .i64 0, .slice none 0 0], .int .i64 1]) (by simp [results, Try.results9, go_sem, List.getElem?_toArray]) rfl (pret_zero (by (repeat (first | exact Below.refl _ _ | refine Below.setCell ?_ (by first | (simp; done) | (simp; omega) | omega) _ | refine Below.alloc ?_ (by first | (simp; done) | (simp; omega) | omega) _ | refine Below.drew ?_ | refine Below.trans ?_ (Below.mono (by assumption) (by first | (simp; done) | (simp; omega) | omega))))))
theorem ppnew_ok (p now : Int) (w : World) (h0 : 0 ≤ p) (h1 : p ≤ 4) (h2 : 0 ≤ now) (h3 : now ≤ 16777216) : Calls Try.prog 9 #[.int .i64 p, .int .i64 now] w fun e w' => PRet (qnew p now) w e w' := by
  rw [qnew_yes h0 h1 h2 h3]
  obtain ⟨n, hn⟩ : ∃ n : Nat, p + 1 = (n : Int) := ⟨(p + 1).toNat, by omega⟩
  rw [hn, Int.toNat_natCast]
  obtain ⟨w2, hmk, own2, hb2⟩ := make_wide (w.alloc (.cells #[.int .i64 0, .int .i64 0, .int .i64 0, .slice none 0 0] 24)) .i64 .i64 n (by omega)
  have hz2 := hb2.size
  simp at hz2
  have o2 : Below w.heap.size w w2 := ((Below.refl _ _).alloc (Nat.le_refl _) _).trans (hb2.mono (by simp))
  have r2 : Row w2 w.heap.size 24 #[.int .i64 0, .int .i64 0, .int .i64 0, .slice none 0 0] := row_call (row_new rfl) hb2
  obtain ⟨X0, X1, X2, X3, Xf0, Xf1, Xf2, Xf3⟩ := row_four r2
  have wp : IntKind.i64.wrap (p + 1) = (n : Int) := by rw [IntWalk.i64_in _ (by omega)]; exact hn
  have OW := Lib.hid own2
  have HN := Lib.hid hn
  clear own2 hn
  go_enter Try.func9, Try.ntmps9
  go_wp2_with (go_at_call 31; refine (ptick_yes _ h2 h3 _).mono ?_; rintro e w9 ⟨rfl, rfl⟩)
  have ow := own_four OW.out (b := w.heap.size) (by simp) (.int .i64 p) (.int .i64 now) (.int .i64 now) (.slice (some ⟨w.heap.size + 1, 0, none⟩) n n)
  rw [World.size_alloc] at ow
  have ob := below_four o2 (b := w.heap.size) (Nat.le_refl _) (.int .i64 p) (.int .i64 now) (.int .i64 now) (.slice (some ⟨w.heap.size + 1, 0, none⟩) n n)
  exact bodyPost_ret (v := .tuple #[.agg #[.int .i64 p, .int .i64 now, .int .i64 now, .slice (some ⟨w.heap.size + 1, 0, none⟩) n n], .int .i64 0]) (by simp [results, Try.results9, go_sem, X0, X1, X2, X3]) rfl (pret_own ow (by omega) (by omega) (by omega) (zeros_big n) ob (by omega))
theorem ppnew (p now : Int) (w : World) : Calls Try.prog 9 #[.int .i64 p, .int .i64 now] w fun e w' => PRet (qnew p now) w e w' := by
  by_cases h0 : p < 0
  · exact ppnew_a p now w h0
  · by_cases h1 : 4 < p
    · exact ppnew_b p now w (by omega) h1
    · by_cases h2 : now < 0
      · exact ppnew_c p now w (by omega) (by omega) h2
      · by_cases h3 : 16777216 < now
        · exact ppnew_d p now w (by omega) (by omega) h3
        · exact ppnew_ok p now w (by omega) (by omega) (by omega) (by omega)
theorem rpnew_a (p now : Int) (w : World) (h : p < 0) : Calls Try.prog 10 #[.int .i64 p, .int .i64 now] w fun e w' => PRet (qnew p now) w e w' := by
  rw [qnew_no (by omega)]
  go_enter Try.func10, Try.ntmps10
  go_wp2_with fail
  exact bodyPost_ret (v := .tuple #[.agg #[.int .i64 0, .int .i64 0, .int .i64 0, .slice none 0 0], .int .i64 1]) (by simp [results, Try.results10, go_sem, List.getElem?_toArray]) rfl (pret_zero (by (repeat (first | exact Below.refl _ _ | refine Below.setCell ?_ (by first | (simp; done) | (simp; omega) | omega) _ | refine Below.alloc ?_ (by first | (simp; done) | (simp; omega) | omega) _ | refine Below.drew ?_ | refine Below.trans ?_ (Below.mono (by assumption) (by first | (simp; done) | (simp; omega) | omega))))))
theorem rpnew_b (p now : Int) (w : World) (h0 : 0 ≤ p) (h : 4 < p) : Calls Try.prog 10 #[.int .i64 p, .int .i64 now] w fun e w' => PRet (qnew p now) w e w' := by
  rw [qnew_no (by omega)]
  go_enter Try.func10, Try.ntmps10
  go_wp2_with fail
  exact bodyPost_ret (v := .tuple #[.agg #[.int .i64 0, .int .i64 0, .int .i64 0, .slice none 0 0], .int .i64 1]) (by simp [results, Try.results10, go_sem, List.getElem?_toArray]) rfl (pret_zero (by (repeat (first | exact Below.refl _ _ | refine Below.setCell ?_ (by first | (simp; done) | (simp; omega) | omega) _ | refine Below.alloc ?_ (by first | (simp; done) | (simp; omega) | omega) _ | refine Below.drew ?_ | refine Below.trans ?_ (Below.mono (by assumption) (by first | (simp; done) | (simp; omega) | omega))))))
theorem rpnew_c (p now : Int) (w : World) (h0 : 0 ≤ p) (h1 : p ≤ 4) (h : now < 0) : Calls Try.prog 10 #[.int .i64 p, .int .i64 now] w fun e w' => PRet (qnew p now) w e w' := by
  rw [qnew_no (by omega)]
  go_enter Try.func10, Try.ntmps10
  go_wp2_with (go_at_call 32; refine (rtick_neg _ h _).mono ?_; rintro e w9 ⟨rfl, rfl⟩)
  exact bodyPost_ret (v := .tuple #[.agg #[.int .i64 0, .int .i64 0, .int .i64 0, .slice none 0 0], .int .i64 1]) (by simp [results, Try.results10, go_sem, List.getElem?_toArray]) rfl (pret_zero (by (repeat (first | exact Below.refl _ _ | refine Below.setCell ?_ (by first | (simp; done) | (simp; omega) | omega) _ | refine Below.alloc ?_ (by first | (simp; done) | (simp; omega) | omega) _ | refine Below.drew ?_ | refine Below.trans ?_ (Below.mono (by assumption) (by first | (simp; done) | (simp; omega) | omega))))))
theorem rpnew_d (p now : Int) (w : World) (h0 : 0 ≤ p) (h1 : p ≤ 4) (h : 16777216 < now) : Calls Try.prog 10 #[.int .i64 p, .int .i64 now] w fun e w' => PRet (qnew p now) w e w' := by
  rw [qnew_no (by omega)]
  go_enter Try.func10, Try.ntmps10
  go_wp2_with (go_at_call 32; refine (rtick_late _ h _).mono ?_; rintro e w9 ⟨rfl, rfl⟩)
  exact bodyPost_ret (v := .tuple #[.agg #[.int .i64 0, .int .i64 0, .int .i64 0, .slice none 0 0], .int .i64 1]) (by simp [results, Try.results10, go_sem, List.getElem?_toArray]) rfl (pret_zero (by (repeat (first | exact Below.refl _ _ | refine Below.setCell ?_ (by first | (simp; done) | (simp; omega) | omega) _ | refine Below.alloc ?_ (by first | (simp; done) | (simp; omega) | omega) _ | refine Below.drew ?_ | refine Below.trans ?_ (Below.mono (by assumption) (by first | (simp; done) | (simp; omega) | omega))))))
theorem rpnew_ok (p now : Int) (w : World) (h0 : 0 ≤ p) (h1 : p ≤ 4) (h2 : 0 ≤ now) (h3 : now ≤ 16777216) : Calls Try.prog 10 #[.int .i64 p, .int .i64 now] w fun e w' => PRet (qnew p now) w e w' := by
  rw [qnew_yes h0 h1 h2 h3]
  obtain ⟨n, hn⟩ : ∃ n : Nat, p + 1 = (n : Int) := ⟨(p + 1).toNat, by omega⟩
  rw [hn, Int.toNat_natCast]
  obtain ⟨w2, hmk, own2, hb2⟩ := make_wide (w.alloc (.cells #[.int .i64 0, .int .i64 0, .int .i64 0, .slice none 0 0] 24)) .i64 .i64 n (by omega)
  have hz2 := hb2.size
  simp at hz2
  have o2 : Below w.heap.size w w2 := ((Below.refl _ _).alloc (Nat.le_refl _) _).trans (hb2.mono (by simp))
  have r2 : Row w2 w.heap.size 24 #[.int .i64 0, .int .i64 0, .int .i64 0, .slice none 0 0] := row_call (row_new rfl) hb2
  obtain ⟨X0, X1, X2, X3, Xf0, Xf1, Xf2, Xf3⟩ := row_four r2
  have wp : IntKind.i64.wrap (p + 1) = (n : Int) := by rw [IntWalk.i64_in _ (by omega)]; exact hn
  have OW := Lib.hid own2
  have HN := Lib.hid hn
  clear own2 hn
  go_enter Try.func10, Try.ntmps10
  go_wp2_with (go_at_call 32; refine (rtick_yes _ h2 h3 _).mono ?_; rintro e w9 ⟨rfl, rfl⟩)
  have ow := own_four OW.out (b := w.heap.size) (by simp) (.int .i64 p) (.int .i64 now) (.int .i64 now) (.slice (some ⟨w.heap.size + 1, 0, none⟩) n n)
  rw [World.size_alloc] at ow
  have ob := below_four o2 (b := w.heap.size) (Nat.le_refl _) (.int .i64 p) (.int .i64 now) (.int .i64 now) (.slice (some ⟨w.heap.size + 1, 0, none⟩) n n)
  exact bodyPost_ret (v := .tuple #[.agg #[.int .i64 p, .int .i64 now, .int .i64 now, .slice (some ⟨w.heap.size + 1, 0, none⟩) n n], .int .i64 0]) (by simp [results, Try.results10, go_sem, X0, X1, X2, X3]) rfl (pret_own ow (by omega) (by omega) (by omega) (zeros_big n) ob (by omega))
theorem rpnew (p now : Int) (w : World) : Calls Try.prog 10 #[.int .i64 p, .int .i64 now] w fun e w' => PRet (qnew p now) w e w' := by
  by_cases h0 : p < 0
  · exact rpnew_a p now w h0
  · by_cases h1 : 4 < p
    · exact rpnew_b p now w (by omega) h1
    · by_cases h2 : now < 0
      · exact rpnew_c p now w (by omega) (by omega) h2
      · by_cases h3 : 16777216 < now
        · exact rpnew_d p now w (by omega) (by omega) h3
        · exact rpnew_ok p now w (by omega) (by omega) (by omega) (by omega)
theorem ctick_yes (t : Int) (h0 : 0 ≤ t) (h1 : t ≤ 16777216) (w : World) : Calls Try.prog 51 #[.int .i64 t] w fun e w' => e = .returned (.bool true) ∧ w' = w := by
  go_enter Try.func51, Try.ntmps51
  go_wp2
  go_ret
  exact ⟨rfl, rfl⟩
theorem cadv_ok (now to : Int) (h0 : 0 ≤ now) (h1 : now ≤ 16777216) (h2 : now ≤ to) (h3 : to ≤ 16777216) (w : World) : Calls Try.prog 34 #[.int .i64 now, .int .i64 to] w fun e w' => e = .returned (.tuple #[.int .i64 to, .int .i64 0]) ∧ w' = w := by
  go_enter Try.func34, Try.ntmps34
  go_wp2_with (go_at_call 51; refine (ctick_yes _ h0 h1 _).mono ?_; rintro e w9 ⟨rfl, rfl⟩)
  go_ret2
  exact ⟨rfl, rfl⟩
theorem cadv_low (now to : Int) (h0 : 0 ≤ now) (h1 : now ≤ 16777216) (h2 : to < now) (w : World) : Calls Try.prog 34 #[.int .i64 now, .int .i64 to] w fun e w' => e = .returned (.tuple #[.int .i64 0, .int .i64 3]) ∧ w' = w := by
  go_enter Try.func34, Try.ntmps34
  go_wp2_with (go_at_call 51; refine (ctick_yes _ h0 h1 _).mono ?_; rintro e w9 ⟨rfl, rfl⟩)
  go_ret2
  exact ⟨rfl, rfl⟩
theorem cadv_high (now to : Int) (h0 : 0 ≤ now) (h1 : now ≤ 16777216) (h2 : 16777216 < to) (w : World) : Calls Try.prog 34 #[.int .i64 now, .int .i64 to] w fun e w' => e = .returned (.tuple #[.int .i64 0, .int .i64 3]) ∧ w' = w := by
  have h3 : now ≤ to := by omega
  go_enter Try.func34, Try.ntmps34
  go_wp2_with (go_at_call 51; refine (ctick_yes _ h0 h1 _).mono ?_; rintro e w9 ⟨rfl, rfl⟩)
  go_ret2
  exact ⟨rfl, rfl⟩
theorem rback_ok (now to : Int) (h2 : now ≤ to) (h3 : to ≤ 16777216) (w : World) : Calls Try.prog 35 #[.int .i64 now, .int .i64 to] w fun e w' => e = .returned (.int .i64 0) ∧ w' = w := by
  go_enter Try.func35, Try.ntmps35
  go_wp2
  go_ret
  exact ⟨rfl, rfl⟩
theorem rback_low (now to : Int) (h2 : to < now) (w : World) : Calls Try.prog 35 #[.int .i64 now, .int .i64 to] w fun e w' => e = .returned (.int .i64 3) ∧ w' = w := by
  go_enter Try.func35, Try.ntmps35
  go_wp2
  go_ret
  exact ⟨rfl, rfl⟩
theorem rback_high (now to : Int) (h2 : 16777216 < to) (w : World) : Calls Try.prog 35 #[.int .i64 now, .int .i64 to] w fun e w' => e = .returned (.int .i64 3) ∧ w' = w := by
  by_cases h3 : now ≤ to
  · go_enter Try.func35, Try.ntmps35
    go_wp2
    go_ret
    exact ⟨rfl, rfl⟩
  · exact rback_low now to (by omega) w
theorem ppadv_bad (p land now : Int) (A : Option Addr) (n c : Nat) (ms : List Nat) (to : Int) (w : World) (hin : PIn p land now A n c ms w) (hv : pvalE p land now ms = 2) : Calls Try.prog 14 #[.agg #[.int .i64 p, .int .i64 land, .int .i64 now, .slice A n c], .int .i64 to] w fun e w' => PRet (qadv p land now ms to) w e w' := by
  rw [qadv_bad hv]
  have P := fun w1 (hb : Below w.heap.size w w1) => ppval p land now A n c ms w1 (hin.below hb)
  rw [hv] at P
  have P := Lib.hid P
  clear hv hin
  go_enter Try.func14, Try.ntmps14
  go_wp2_with (first | (go_at_call 20; with_reducible refine (P.out _ (by (repeat (first | exact Below.refl _ _ | refine Below.setCell ?_ (by first | (simp; done) | (simp; omega) | omega) _ | refine Below.alloc ?_ (by first | (simp; done) | (simp; omega) | omega) _ | refine Below.drew ?_ | refine Below.trans ?_ (Below.mono (by assumption) (by first | (simp; done) | (simp; omega) | omega)))))).mono ?_; rintro e w1 ⟨rfl, hb1⟩; have hz1 := hb1.size; (try simp at hz1); have o1 : Below w.heap.size w w1 := (by (repeat (first | exact Below.refl _ _ | refine Below.setCell ?_ (by first | (simp; done) | (simp; omega) | omega) _ | refine Below.alloc ?_ (by first | (simp; done) | (simp; omega) | omega) _ | refine Below.drew ?_ | refine Below.trans ?_ (Below.mono (by assumption) (by first | (simp; done) | (simp; omega) | omega))))); have q1_0 : w.heap.size < w1.heap.size := (by omega); have r1_0 : Row w1 (w.heap.size) 24 #[.int .i64 p, .int .i64 land, .int .i64 now, .slice A n c] := row_call (by (repeat (first | assumption | (refine row_new ?_; (first | (simp; done) | omega)) | refine row_alloc ?_ _ | refine row_drew ?_ | refine row_call ?_ (by assumption)))) hb1; obtain ⟨c1_0a, c1_0b, c1_0c, c1_0d, f1_0a, f1_0b, f1_0c, f1_0d⟩ := row_four r1_0; have q1_1 : w.heap.size + 1 < w1.heap.size := (by omega); have r1_1 : Row w1 (w.heap.size + 1) 24 #[.int .i64 0, .int .i64 0, .int .i64 0, .slice none 0 0] := row_call (by (repeat (first | assumption | (refine row_new ?_; (first | (simp; done) | omega)) | refine row_alloc ?_ _ | refine row_drew ?_ | refine row_call ?_ (by assumption)))) hb1; obtain ⟨c1_1a, c1_1b, c1_1c, c1_1d, f1_1a, f1_1b, f1_1c, f1_1d⟩ := row_four r1_1))
  exact bodyPost_ret (v := .tuple #[.agg #[.int .i64 0, .int .i64 0, .int .i64 0, .slice none 0 0], .int .i64 2]) (by simp [results, Try.results14, go_sem, c1_1a, c1_1b, c1_1c, c1_1d]) rfl (pret_zero (by (repeat (first | exact Below.refl _ _ | refine Below.setCell ?_ (by first | (simp; done) | (simp; omega) | omega) _ | refine Below.alloc ?_ (by first | (simp; done) | (simp; omega) | omega) _ | refine Below.drew ?_ | refine Below.trans ?_ (Below.mono (by assumption) (by first | (simp; done) | (simp; omega) | omega))))))
theorem ppadv_low (p land now : Int) (A : Option Addr) (n c : Nat) (ms : List Nat) (to : Int) (w : World) (hin : PIn p land now A n c ms w) (hv : pvalE p land now ms = 0) (h1 : to < now) : Calls Try.prog 14 #[.agg #[.int .i64 p, .int .i64 land, .int .i64 now, .slice A n c], .int .i64 to] w fun e w' => PRet (qadv p land now ms to) w e w' := by
  rw [qadv_low hv h1]
  have P := fun w1 (hb : Below w.heap.size w w1) => ppval p land now A n c ms w1 (hin.below hb)
  rw [hv] at P
  have P := Lib.hid P
  obtain ⟨v1, v2, v3, v4, v5, v6, v7, _⟩ := of_pvalE hv
  clear hv hin
  go_enter Try.func14, Try.ntmps14
  go_wp2_with (first | (go_at_call 20; with_reducible refine (P.out _ (by (repeat (first | exact Below.refl _ _ | refine Below.setCell ?_ (by first | (simp; done) | (simp; omega) | omega) _ | refine Below.alloc ?_ (by first | (simp; done) | (simp; omega) | omega) _ | refine Below.drew ?_ | refine Below.trans ?_ (Below.mono (by assumption) (by first | (simp; done) | (simp; omega) | omega)))))).mono ?_; rintro e w1 ⟨rfl, hb1⟩; have hz1 := hb1.size; (try simp at hz1); have o1 : Below w.heap.size w w1 := (by (repeat (first | exact Below.refl _ _ | refine Below.setCell ?_ (by first | (simp; done) | (simp; omega) | omega) _ | refine Below.alloc ?_ (by first | (simp; done) | (simp; omega) | omega) _ | refine Below.drew ?_ | refine Below.trans ?_ (Below.mono (by assumption) (by first | (simp; done) | (simp; omega) | omega))))); have q1_0 : w.heap.size < w1.heap.size := (by omega); have r1_0 : Row w1 (w.heap.size) 24 #[.int .i64 p, .int .i64 land, .int .i64 now, .slice A n c] := row_call (by (repeat (first | assumption | (refine row_new ?_; (first | (simp; done) | omega)) | refine row_alloc ?_ _ | refine row_drew ?_ | refine row_call ?_ (by assumption)))) hb1; obtain ⟨c1_0a, c1_0b, c1_0c, c1_0d, f1_0a, f1_0b, f1_0c, f1_0d⟩ := row_four r1_0; have q1_1 : w.heap.size + 1 < w1.heap.size := (by omega); have r1_1 : Row w1 (w.heap.size + 1) 24 #[.int .i64 0, .int .i64 0, .int .i64 0, .slice none 0 0] := row_call (by (repeat (first | assumption | (refine row_new ?_; (first | (simp; done) | omega)) | refine row_alloc ?_ _ | refine row_drew ?_ | refine row_call ?_ (by assumption)))) hb1; obtain ⟨c1_1a, c1_1b, c1_1c, c1_1d, f1_1a, f1_1b, f1_1c, f1_1d⟩ := row_four r1_1) | (go_at_call 34; with_reducible refine (cadv_low _ _ v3 v4 h1 _).mono ?_; rintro e w9 ⟨rfl, h9⟩; obtain rfl := h9.symm))
  exact bodyPost_ret (v := .tuple #[.agg #[.int .i64 0, .int .i64 0, .int .i64 0, .slice none 0 0], .int .i64 3]) (by simp [results, Try.results14, go_sem, c1_1a, c1_1b, c1_1c, c1_1d]) rfl (pret_zero (by (repeat (first | exact Below.refl _ _ | refine Below.setCell ?_ (by first | (simp; done) | (simp; omega) | omega) _ | refine Below.alloc ?_ (by first | (simp; done) | (simp; omega) | omega) _ | refine Below.drew ?_ | refine Below.trans ?_ (Below.mono (by assumption) (by first | (simp; done) | (simp; omega) | omega))))))
theorem ppadv_high (p land now : Int) (A : Option Addr) (n c : Nat) (ms : List Nat) (to : Int) (w : World) (hin : PIn p land now A n c ms w) (hv : pvalE p land now ms = 0) (h1 : 16777216 < to) : Calls Try.prog 14 #[.agg #[.int .i64 p, .int .i64 land, .int .i64 now, .slice A n c], .int .i64 to] w fun e w' => PRet (qadv p land now ms to) w e w' := by
  rw [qadv_high hv h1]
  have P := fun w1 (hb : Below w.heap.size w w1) => ppval p land now A n c ms w1 (hin.below hb)
  rw [hv] at P
  have P := Lib.hid P
  obtain ⟨v1, v2, v3, v4, v5, v6, v7, _⟩ := of_pvalE hv
  clear hv hin
  go_enter Try.func14, Try.ntmps14
  go_wp2_with (first | (go_at_call 20; with_reducible refine (P.out _ (by (repeat (first | exact Below.refl _ _ | refine Below.setCell ?_ (by first | (simp; done) | (simp; omega) | omega) _ | refine Below.alloc ?_ (by first | (simp; done) | (simp; omega) | omega) _ | refine Below.drew ?_ | refine Below.trans ?_ (Below.mono (by assumption) (by first | (simp; done) | (simp; omega) | omega)))))).mono ?_; rintro e w1 ⟨rfl, hb1⟩; have hz1 := hb1.size; (try simp at hz1); have o1 : Below w.heap.size w w1 := (by (repeat (first | exact Below.refl _ _ | refine Below.setCell ?_ (by first | (simp; done) | (simp; omega) | omega) _ | refine Below.alloc ?_ (by first | (simp; done) | (simp; omega) | omega) _ | refine Below.drew ?_ | refine Below.trans ?_ (Below.mono (by assumption) (by first | (simp; done) | (simp; omega) | omega))))); have q1_0 : w.heap.size < w1.heap.size := (by omega); have r1_0 : Row w1 (w.heap.size) 24 #[.int .i64 p, .int .i64 land, .int .i64 now, .slice A n c] := row_call (by (repeat (first | assumption | (refine row_new ?_; (first | (simp; done) | omega)) | refine row_alloc ?_ _ | refine row_drew ?_ | refine row_call ?_ (by assumption)))) hb1; obtain ⟨c1_0a, c1_0b, c1_0c, c1_0d, f1_0a, f1_0b, f1_0c, f1_0d⟩ := row_four r1_0; have q1_1 : w.heap.size + 1 < w1.heap.size := (by omega); have r1_1 : Row w1 (w.heap.size + 1) 24 #[.int .i64 0, .int .i64 0, .int .i64 0, .slice none 0 0] := row_call (by (repeat (first | assumption | (refine row_new ?_; (first | (simp; done) | omega)) | refine row_alloc ?_ _ | refine row_drew ?_ | refine row_call ?_ (by assumption)))) hb1; obtain ⟨c1_1a, c1_1b, c1_1c, c1_1d, f1_1a, f1_1b, f1_1c, f1_1d⟩ := row_four r1_1) | (go_at_call 34; with_reducible refine (cadv_high _ _ v3 v4 h1 _).mono ?_; rintro e w9 ⟨rfl, h9⟩; obtain rfl := h9.symm))
  exact bodyPost_ret (v := .tuple #[.agg #[.int .i64 0, .int .i64 0, .int .i64 0, .slice none 0 0], .int .i64 3]) (by simp [results, Try.results14, go_sem, c1_1a, c1_1b, c1_1c, c1_1d]) rfl (pret_zero (by (repeat (first | exact Below.refl _ _ | refine Below.setCell ?_ (by first | (simp; done) | (simp; omega) | omega) _ | refine Below.alloc ?_ (by first | (simp; done) | (simp; omega) | omega) _ | refine Below.drew ?_ | refine Below.trans ?_ (Below.mono (by assumption) (by first | (simp; done) | (simp; omega) | omega))))))
set_option maxHeartbeats 1000000 in
theorem ppadv_ok (p land now : Int) (A : Option Addr) (n c : Nat) (ms : List Nat) (to : Int) (w : World) (hin : PIn p land now A n c ms w) (hv : pvalE p land now ms = 0) (h1 : now ≤ to) (h2 : to ≤ 16777216) :
    Calls Try.prog 14 #[.agg #[.int .i64 p, .int .i64 land, .int .i64 now, .slice A n c], .int .i64 to] w fun e w' => PRet (qadv p land now ms to) w e w' := by
  rw [qadv_ok hv h1 h2]
  have P := fun w1 (hb : Below w.heap.size w w1) => ppval p land now A n c ms w1 (hin.below hb)
  rw [hv] at P
  have P := Lib.hid P
  obtain ⟨v1, v2, v3, v4, v5, v6, v7, _⟩ := of_pvalE hv
  have HR := Lib.hid hin
  have hl := hin.len
  have hn5 : n ≤ 5 := by omega
  obtain ⟨i0, hi, iz0, iz1, iz2⟩ := info_parts info_wide
  clear hv hin hl
  go_enter Try.func14, Try.ntmps14
  go_upto_region 8 with (first | (go_at_call 20; with_reducible refine (P.out _ (by (repeat (first | exact Below.refl _ _ | refine Below.setCell ?_ (by first | (simp; done) | (simp; omega) | omega) _ | refine Below.alloc ?_ (by first | (simp; done) | (simp; omega) | omega) _ | refine Below.drew ?_ | refine Below.trans ?_ (Below.mono (by assumption) (by first | (simp; done) | (simp; omega) | omega)))))).mono ?_; rintro e w1 ⟨rfl, hb1⟩; have hz1 := hb1.size; (try simp at hz1); have o1 : Below w.heap.size w w1 := (by (repeat (first | exact Below.refl _ _ | refine Below.setCell ?_ (by first | (simp; done) | (simp; omega) | omega) _ | refine Below.alloc ?_ (by first | (simp; done) | (simp; omega) | omega) _ | refine Below.drew ?_ | refine Below.trans ?_ (Below.mono (by assumption) (by first | (simp; done) | (simp; omega) | omega))))); have q1_0 : w.heap.size < w1.heap.size := (by omega); have r1_0 : Row w1 (w.heap.size) 24 #[.int .i64 p, .int .i64 land, .int .i64 now, .slice A n c] := row_call (by (repeat (first | assumption | (refine row_new ?_; (first | (simp; done) | omega)) | refine row_alloc ?_ _ | refine row_drew ?_ | refine row_call ?_ (by assumption)))) hb1; obtain ⟨c1_0a, c1_0b, c1_0c, c1_0d, f1_0a, f1_0b, f1_0c, f1_0d⟩ := row_four r1_0; have q1_1 : w.heap.size + 1 < w1.heap.size := (by omega); have r1_1 : Row w1 (w.heap.size + 1) 24 #[.int .i64 0, .int .i64 0, .int .i64 0, .slice none 0 0] := row_call (by (repeat (first | assumption | (refine row_new ?_; (first | (simp; done) | omega)) | refine row_alloc ?_ _ | refine row_drew ?_ | refine row_call ?_ (by assumption)))) hb1; obtain ⟨c1_1a, c1_1b, c1_1c, c1_1d, f1_1a, f1_1b, f1_1c, f1_1d⟩ := row_four r1_1) | (go_at_call 34; with_reducible refine (cadv_ok _ _ v3 v4 h1 h2 _).mono ?_; rintro e w9 ⟨rfl, h9⟩; obtain rfl := h9.symm))
  have r2_0 := row_set r1_0 2 (.int .i64 to)
  have r2_1 := row_other (p := ⟨w.heap.size, 2, none⟩) r1_1 (by simp) (.int .i64 to)
  have o2 := o1.setCell (p := ⟨w.heap.size, 2, none⟩) (by simp) (.int .i64 to)
  generalize w1.setCell ⟨w.heap.size, 2, none⟩ (.int .i64 to) = w2 at r2_0 r2_1 o2 ⊢
  have r2_0 : Row w2 w.heap.size 24 #[.int .i64 p, .int .i64 land, .int .i64 to, .slice A n c] := r2_0
  have z0 := row_lt r2_0
  have z1 := row_lt r2_1
  clear r1_0 r1_1 o1 hb1 c1_0a c1_0b c1_0c c1_0d f1_0a f1_0b f1_0c f1_0d c1_1a c1_1b c1_1c c1_1d f1_1a f1_1b f1_1c f1_1d
  obtain ⟨c2_0a, c2_0b, c2_0c, c2_0d, f2_0a, f2_0b, f2_0c, f2_0d⟩ := row_four r2_0
  obtain ⟨c2_1a, c2_1b, c2_1c, c2_1d, f2_1a, f2_1b, f2_1c, f2_1d⟩ := row_four r2_1
  go_wp2_with (first | (at_builtin; refine wpList_clone rfl _ _ 22 rfl 35 i0 (.agg #[.int .u64 0, .int .u64 0]) 2 16 Try.underlying22 hi iz0 iz1 iz2 rfl (by decide) rfl w.heap.size A n c (wcells ms) rfl (HR.out.reads.below o2) o2.size (wcells_one _) (by show n ≤ 9223372036854775807; omega) (by omega) ?_; intro g c2 w3 own3 hg3 hb3 hz3; have o3 : Below w.heap.size w w3 := (by (repeat (first | exact Below.refl _ _ | refine Below.setCell ?_ (by first | (simp; done) | (simp; omega) | omega) _ | refine Below.alloc ?_ (by first | (simp; done) | (simp; omega) | omega) _ | refine Below.drew ?_ | refine Below.trans ?_ (Below.mono (by assumption) (by first | (simp; done) | (simp; omega) | omega))))); have q3_0 : w.heap.size < w3.heap.size := (by omega); have r3_0 : Row w3 (w.heap.size) 24 #[.int .i64 p, .int .i64 land, .int .i64 to, .slice A n c] := row_call (by (repeat (first | assumption | (refine row_new ?_; (first | (simp; done) | omega)) | refine row_alloc ?_ _ | refine row_drew ?_ | refine row_call ?_ (by assumption)))) hb3; obtain ⟨c3_0a, c3_0b, c3_0c, c3_0d, f3_0a, f3_0b, f3_0c, f3_0d⟩ := row_four r3_0; have q3_1 : w.heap.size + 1 < w3.heap.size := (by omega); have r3_1 : Row w3 (w.heap.size + 1) 24 #[.int .i64 0, .int .i64 0, .int .i64 0, .slice none 0 0] := row_call (by (repeat (first | assumption | (refine row_new ?_; (first | (simp; done) | omega)) | refine row_alloc ?_ _ | refine row_drew ?_ | refine row_call ?_ (by assumption)))) hb3; obtain ⟨c3_1a, c3_1b, c3_1c, c3_1d, f3_1a, f3_1b, f3_1c, f3_1d⟩ := row_four r3_1))
  have ow := own_four (b := w.heap.size + 1) (own3.other (p := ⟨w.heap.size, 3, none⟩) (by simp; omega) (.slice (some ⟨g, 0, none⟩) n c2)) (by omega) (.int .i64 p) (.int .i64 land) (.int .i64 to) (.slice (some ⟨g, 0, none⟩) n c2)
  have ob := below_four (b := w.heap.size + 1) (o3.setCell (p := ⟨w.heap.size, 3, none⟩) (by simp) (.slice (some ⟨g, 0, none⟩) n c2)) (by omega) (.int .i64 p) (.int .i64 land) (.int .i64 to) (.slice (some ⟨g, 0, none⟩) n c2)
  exact bodyPost_ret (v := .tuple #[.agg #[.int .i64 p, .int .i64 land, .int .i64 to, .slice (some ⟨g, 0, none⟩) n c2], .int .i64 0]) (by simp [results, Try.results14, go_sem, c3_1a, c3_1b, c3_1c, c3_1d]) rfl (pret_own ow (by omega) (by omega) (by omega) HR.out.mB ob (by omega))
theorem rpadv_bad (p land now : Int) (A : Option Addr) (n c : Nat) (ms : List Nat) (to : Int) (w : World) (hin : PIn p land now A n c ms w) (hv : pvalE p land now ms = 2) : Calls Try.prog 15 #[.agg #[.int .i64 p, .int .i64 land, .int .i64 now, .slice A n c], .int .i64 to] w fun e w' => PRet (qadv p land now ms to) w e w' := by
  rw [qadv_bad hv]
  have P := fun w1 (hb : Below w.heap.size w w1) => rpval p land now A n c ms w1 (hin.below hb)
  rw [hv] at P
  have P := Lib.hid P
  clear hv hin
  go_enter Try.func15, Try.ntmps15
  go_wp2_with (first | (go_at_call 21; with_reducible refine (P.out _ (by (repeat (first | exact Below.refl _ _ | refine Below.setCell ?_ (by first | (simp; done) | (simp; omega) | omega) _ | refine Below.alloc ?_ (by first | (simp; done) | (simp; omega) | omega) _ | refine Below.drew ?_ | refine Below.trans ?_ (Below.mono (by assumption) (by first | (simp; done) | (simp; omega) | omega)))))).mono ?_; rintro e w1 ⟨rfl, hb1⟩; have hz1 := hb1.size; (try simp at hz1); have o1 : Below w.heap.size w w1 := (by (repeat (first | exact Below.refl _ _ | refine Below.setCell ?_ (by first | (simp; done) | (simp; omega) | omega) _ | refine Below.alloc ?_ (by first | (simp; done) | (simp; omega) | omega) _ | refine Below.drew ?_ | refine Below.trans ?_ (Below.mono (by assumption) (by first | (simp; done) | (simp; omega) | omega))))); have q1_0 : w.heap.size < w1.heap.size := (by omega); have r1_0 : Row w1 (w.heap.size) 24 #[.int .i64 p, .int .i64 land, .int .i64 now, .slice A n c] := row_call (by (repeat (first | assumption | (refine row_new ?_; (first | (simp; done) | omega)) | refine row_alloc ?_ _ | refine row_drew ?_ | refine row_call ?_ (by assumption)))) hb1; obtain ⟨c1_0a, c1_0b, c1_0c, c1_0d, f1_0a, f1_0b, f1_0c, f1_0d⟩ := row_four r1_0; have q1_1 : w.heap.size + 1 < w1.heap.size := (by omega); have r1_1 : Row w1 (w.heap.size + 1) 24 #[.int .i64 0, .int .i64 0, .int .i64 0, .slice none 0 0] := row_call (by (repeat (first | assumption | (refine row_new ?_; (first | (simp; done) | omega)) | refine row_alloc ?_ _ | refine row_drew ?_ | refine row_call ?_ (by assumption)))) hb1; obtain ⟨c1_1a, c1_1b, c1_1c, c1_1d, f1_1a, f1_1b, f1_1c, f1_1d⟩ := row_four r1_1))
  exact bodyPost_ret (v := .tuple #[.agg #[.int .i64 0, .int .i64 0, .int .i64 0, .slice none 0 0], .int .i64 2]) (by simp [results, Try.results15, go_sem, c1_1a, c1_1b, c1_1c, c1_1d]) rfl (pret_zero (by (repeat (first | exact Below.refl _ _ | refine Below.setCell ?_ (by first | (simp; done) | (simp; omega) | omega) _ | refine Below.alloc ?_ (by first | (simp; done) | (simp; omega) | omega) _ | refine Below.drew ?_ | refine Below.trans ?_ (Below.mono (by assumption) (by first | (simp; done) | (simp; omega) | omega))))))
theorem rpadv_low (p land now : Int) (A : Option Addr) (n c : Nat) (ms : List Nat) (to : Int) (w : World) (hin : PIn p land now A n c ms w) (hv : pvalE p land now ms = 0) (h1 : to < now) : Calls Try.prog 15 #[.agg #[.int .i64 p, .int .i64 land, .int .i64 now, .slice A n c], .int .i64 to] w fun e w' => PRet (qadv p land now ms to) w e w' := by
  rw [qadv_low hv h1]
  have P := fun w1 (hb : Below w.heap.size w w1) => rpval p land now A n c ms w1 (hin.below hb)
  rw [hv] at P
  have P := Lib.hid P
  obtain ⟨v1, v2, v3, v4, v5, v6, v7, _⟩ := of_pvalE hv
  clear hv hin
  go_enter Try.func15, Try.ntmps15
  go_wp2_with (first | (go_at_call 21; with_reducible refine (P.out _ (by (repeat (first | exact Below.refl _ _ | refine Below.setCell ?_ (by first | (simp; done) | (simp; omega) | omega) _ | refine Below.alloc ?_ (by first | (simp; done) | (simp; omega) | omega) _ | refine Below.drew ?_ | refine Below.trans ?_ (Below.mono (by assumption) (by first | (simp; done) | (simp; omega) | omega)))))).mono ?_; rintro e w1 ⟨rfl, hb1⟩; have hz1 := hb1.size; (try simp at hz1); have o1 : Below w.heap.size w w1 := (by (repeat (first | exact Below.refl _ _ | refine Below.setCell ?_ (by first | (simp; done) | (simp; omega) | omega) _ | refine Below.alloc ?_ (by first | (simp; done) | (simp; omega) | omega) _ | refine Below.drew ?_ | refine Below.trans ?_ (Below.mono (by assumption) (by first | (simp; done) | (simp; omega) | omega))))); have q1_0 : w.heap.size < w1.heap.size := (by omega); have r1_0 : Row w1 (w.heap.size) 24 #[.int .i64 p, .int .i64 land, .int .i64 now, .slice A n c] := row_call (by (repeat (first | assumption | (refine row_new ?_; (first | (simp; done) | omega)) | refine row_alloc ?_ _ | refine row_drew ?_ | refine row_call ?_ (by assumption)))) hb1; obtain ⟨c1_0a, c1_0b, c1_0c, c1_0d, f1_0a, f1_0b, f1_0c, f1_0d⟩ := row_four r1_0; have q1_1 : w.heap.size + 1 < w1.heap.size := (by omega); have r1_1 : Row w1 (w.heap.size + 1) 24 #[.int .i64 0, .int .i64 0, .int .i64 0, .slice none 0 0] := row_call (by (repeat (first | assumption | (refine row_new ?_; (first | (simp; done) | omega)) | refine row_alloc ?_ _ | refine row_drew ?_ | refine row_call ?_ (by assumption)))) hb1; obtain ⟨c1_1a, c1_1b, c1_1c, c1_1d, f1_1a, f1_1b, f1_1c, f1_1d⟩ := row_four r1_1) | (go_at_call 35; with_reducible refine (rback_low _ _ h1 _).mono ?_; rintro e w9 ⟨rfl, h9⟩; obtain rfl := h9.symm))
  exact bodyPost_ret (v := .tuple #[.agg #[.int .i64 0, .int .i64 0, .int .i64 0, .slice none 0 0], .int .i64 3]) (by simp [results, Try.results15, go_sem, c1_1a, c1_1b, c1_1c, c1_1d]) rfl (pret_zero (by (repeat (first | exact Below.refl _ _ | refine Below.setCell ?_ (by first | (simp; done) | (simp; omega) | omega) _ | refine Below.alloc ?_ (by first | (simp; done) | (simp; omega) | omega) _ | refine Below.drew ?_ | refine Below.trans ?_ (Below.mono (by assumption) (by first | (simp; done) | (simp; omega) | omega))))))
theorem rpadv_high (p land now : Int) (A : Option Addr) (n c : Nat) (ms : List Nat) (to : Int) (w : World) (hin : PIn p land now A n c ms w) (hv : pvalE p land now ms = 0) (h1 : 16777216 < to) : Calls Try.prog 15 #[.agg #[.int .i64 p, .int .i64 land, .int .i64 now, .slice A n c], .int .i64 to] w fun e w' => PRet (qadv p land now ms to) w e w' := by
  rw [qadv_high hv h1]
  have P := fun w1 (hb : Below w.heap.size w w1) => rpval p land now A n c ms w1 (hin.below hb)
  rw [hv] at P
  have P := Lib.hid P
  obtain ⟨v1, v2, v3, v4, v5, v6, v7, _⟩ := of_pvalE hv
  clear hv hin
  go_enter Try.func15, Try.ntmps15
  go_wp2_with (first | (go_at_call 21; with_reducible refine (P.out _ (by (repeat (first | exact Below.refl _ _ | refine Below.setCell ?_ (by first | (simp; done) | (simp; omega) | omega) _ | refine Below.alloc ?_ (by first | (simp; done) | (simp; omega) | omega) _ | refine Below.drew ?_ | refine Below.trans ?_ (Below.mono (by assumption) (by first | (simp; done) | (simp; omega) | omega)))))).mono ?_; rintro e w1 ⟨rfl, hb1⟩; have hz1 := hb1.size; (try simp at hz1); have o1 : Below w.heap.size w w1 := (by (repeat (first | exact Below.refl _ _ | refine Below.setCell ?_ (by first | (simp; done) | (simp; omega) | omega) _ | refine Below.alloc ?_ (by first | (simp; done) | (simp; omega) | omega) _ | refine Below.drew ?_ | refine Below.trans ?_ (Below.mono (by assumption) (by first | (simp; done) | (simp; omega) | omega))))); have q1_0 : w.heap.size < w1.heap.size := (by omega); have r1_0 : Row w1 (w.heap.size) 24 #[.int .i64 p, .int .i64 land, .int .i64 now, .slice A n c] := row_call (by (repeat (first | assumption | (refine row_new ?_; (first | (simp; done) | omega)) | refine row_alloc ?_ _ | refine row_drew ?_ | refine row_call ?_ (by assumption)))) hb1; obtain ⟨c1_0a, c1_0b, c1_0c, c1_0d, f1_0a, f1_0b, f1_0c, f1_0d⟩ := row_four r1_0; have q1_1 : w.heap.size + 1 < w1.heap.size := (by omega); have r1_1 : Row w1 (w.heap.size + 1) 24 #[.int .i64 0, .int .i64 0, .int .i64 0, .slice none 0 0] := row_call (by (repeat (first | assumption | (refine row_new ?_; (first | (simp; done) | omega)) | refine row_alloc ?_ _ | refine row_drew ?_ | refine row_call ?_ (by assumption)))) hb1; obtain ⟨c1_1a, c1_1b, c1_1c, c1_1d, f1_1a, f1_1b, f1_1c, f1_1d⟩ := row_four r1_1) | (go_at_call 35; with_reducible refine (rback_high _ _ h1 _).mono ?_; rintro e w9 ⟨rfl, h9⟩; obtain rfl := h9.symm))
  exact bodyPost_ret (v := .tuple #[.agg #[.int .i64 0, .int .i64 0, .int .i64 0, .slice none 0 0], .int .i64 3]) (by simp [results, Try.results15, go_sem, c1_1a, c1_1b, c1_1c, c1_1d]) rfl (pret_zero (by (repeat (first | exact Below.refl _ _ | refine Below.setCell ?_ (by first | (simp; done) | (simp; omega) | omega) _ | refine Below.alloc ?_ (by first | (simp; done) | (simp; omega) | omega) _ | refine Below.drew ?_ | refine Below.trans ?_ (Below.mono (by assumption) (by first | (simp; done) | (simp; omega) | omega))))))
/-- What a step of the clock by the reference leaves: the same moments. -/
def PSame (p land now : Int) (A : Option Addr) (n c : Nat) (ms : List Nat) (f : Int) (w : World) (e : Ending) (w' : World) : Prop :=
  e = .returned (.tuple #[.agg #[.int .i64 p, .int .i64 land, .int .i64 now, .slice A n c], .int .i64 f]) ∧ PIn p land now A n c ms w' ∧ Below w.heap.size w w'
set_option maxHeartbeats 1000000 in
theorem rpadv_ok (p land now : Int) (A : Option Addr) (n c : Nat) (ms : List Nat) (to : Int) (w : World) (hin : PIn p land now A n c ms w) (hv : pvalE p land now ms = 0) (h1 : now ≤ to) (h2 : to ≤ 16777216) :
    Calls Try.prog 15 #[.agg #[.int .i64 p, .int .i64 land, .int .i64 now, .slice A n c], .int .i64 to] w (PSame p land to A n c ms 0 w) := by
  have P := fun w1 (hb : Below w.heap.size w w1) => rpval p land now A n c ms w1 (hin.below hb)
  rw [hv] at P
  have P := Lib.hid P
  obtain ⟨v1, v2, v3, v4, v5, v6, v7, _⟩ := of_pvalE hv
  have HR := Lib.hid hin
  clear hv hin
  go_enter Try.func15, Try.ntmps15
  go_upto_region 8 with (first | (go_at_call 21; with_reducible refine (P.out _ (by (repeat (first | exact Below.refl _ _ | refine Below.setCell ?_ (by first | (simp; done) | (simp; omega) | omega) _ | refine Below.alloc ?_ (by first | (simp; done) | (simp; omega) | omega) _ | refine Below.drew ?_ | refine Below.trans ?_ (Below.mono (by assumption) (by first | (simp; done) | (simp; omega) | omega)))))).mono ?_; rintro e w1 ⟨rfl, hb1⟩; have hz1 := hb1.size; (try simp at hz1); have o1 : Below w.heap.size w w1 := (by (repeat (first | exact Below.refl _ _ | refine Below.setCell ?_ (by first | (simp; done) | (simp; omega) | omega) _ | refine Below.alloc ?_ (by first | (simp; done) | (simp; omega) | omega) _ | refine Below.drew ?_ | refine Below.trans ?_ (Below.mono (by assumption) (by first | (simp; done) | (simp; omega) | omega))))); have q1_0 : w.heap.size < w1.heap.size := (by omega); have r1_0 : Row w1 (w.heap.size) 24 #[.int .i64 p, .int .i64 land, .int .i64 now, .slice A n c] := row_call (by (repeat (first | assumption | (refine row_new ?_; (first | (simp; done) | omega)) | refine row_alloc ?_ _ | refine row_drew ?_ | refine row_call ?_ (by assumption)))) hb1; obtain ⟨c1_0a, c1_0b, c1_0c, c1_0d, f1_0a, f1_0b, f1_0c, f1_0d⟩ := row_four r1_0; have q1_1 : w.heap.size + 1 < w1.heap.size := (by omega); have r1_1 : Row w1 (w.heap.size + 1) 24 #[.int .i64 0, .int .i64 0, .int .i64 0, .slice none 0 0] := row_call (by (repeat (first | assumption | (refine row_new ?_; (first | (simp; done) | omega)) | refine row_alloc ?_ _ | refine row_drew ?_ | refine row_call ?_ (by assumption)))) hb1; obtain ⟨c1_1a, c1_1b, c1_1c, c1_1d, f1_1a, f1_1b, f1_1c, f1_1d⟩ := row_four r1_1) | (go_at_call 35; with_reducible refine (rback_ok _ _ h1 h2 _).mono ?_; rintro e w9 ⟨rfl, h9⟩; obtain rfl := h9.symm))
  have r2_0 := row_set r1_0 2 (.int .i64 to)
  have r2_1 := row_other (p := ⟨w.heap.size, 2, none⟩) r1_1 (by simp) (.int .i64 to)
  have o2 := o1.setCell (p := ⟨w.heap.size, 2, none⟩) (by simp) (.int .i64 to)
  generalize w1.setCell ⟨w.heap.size, 2, none⟩ (.int .i64 to) = w2 at r2_0 r2_1 o2 ⊢
  have r2_0 : Row w2 w.heap.size 24 #[.int .i64 p, .int .i64 land, .int .i64 to, .slice A n c] := r2_0
  clear r1_0 r1_1 o1 hb1 c1_0a c1_0b c1_0c c1_0d f1_0a f1_0b f1_0c f1_0d c1_1a c1_1b c1_1c c1_1d f1_1a f1_1b f1_1c f1_1d
  obtain ⟨c2_0a, c2_0b, c2_0c, c2_0d, f2_0a, f2_0b, f2_0c, f2_0d⟩ := row_four r2_0
  obtain ⟨c2_1a, c2_1b, c2_1c, c2_1d, f2_1a, f2_1b, f2_1c, f2_1d⟩ := row_four r2_1
  go_wp2
  have ob := below_four (b := w.heap.size + 1) o2 (by omega) (.int .i64 p) (.int .i64 land) (.int .i64 to) (.slice A n c)
  have hi := HR.out.below ob
  exact bodyPost_ret (v := .tuple #[.agg #[.int .i64 p, .int .i64 land, .int .i64 to, .slice A n c], .int .i64 0]) (by simp [results, Try.results15, go_sem, c2_1a, c2_1b, c2_1c, c2_1d]) rfl ⟨rfl, ⟨hi.reads, hi.pB, hi.landB, by omega, hi.mB, hi.nc, hi.cB⟩, ob⟩
theorem powIV_nat (a q : Nat) : powIV a (q : Int) = powV a q := by unfold powIV; rw [if_neg (by omega), Int.toNat_natCast]
theorem powIB_nat (a q : Nat) : powIB a (q : Int) = powB a q := by unfold powIB; rw [if_neg (by omega), Int.toNat_natCast]
/-- A fraction as a value. -/
abbrev FR (x y : Nat) : Value := .agg #[.int .u64 (hi x), .int .u64 (lo x), .int .u64 (hi y), .int .u64 (lo y)]
theorem fr_zero : FR 0 0 = .agg #[.int .u64 0, .int .u64 0, .int .u64 0, .int .u64 0] := rfl
theorem ppask_bad (p land now : Int) (A : Option Addr) (n c : Nat) (ms : List Nat) (w : World) (hin : PIn p land now A n c ms w) (hv : pvalE p land now ms = 2) : Calls Try.prog 18 #[.agg #[.int .i64 p, .int .i64 land, .int .i64 now, .slice A n c]] w fun e w' => e = .returned (.tuple #[FR (qask p land now ms).num (qask p land now ms).den, .int .i64 (qask p land now ms).f]) ∧ Below w.heap.size w w' := by
  rw [qask_bad hv]
  show Calls _ _ _ _ fun e w' => e = .returned (.tuple #[FR 0 0, .int .i64 2]) ∧ Below w.heap.size w w'
  rw [fr_zero]
  have P := fun w1 (hb : Below w.heap.size w w1) => ppval p land now A n c ms w1 (hin.below hb)
  rw [hv] at P
  have P := Lib.hid P
  clear hv hin
  go_enter Try.func18, Try.ntmps18
  go_wp2_with (first | (go_at_call 20; with_reducible refine (P.out _ (by (repeat (first | exact Below.refl _ _ | refine Below.setCell ?_ (by first | (simp; done) | (simp; omega) | omega) _ | refine Below.alloc ?_ (by first | (simp; done) | (simp; omega) | omega) _ | refine Below.drew ?_ | refine Below.trans ?_ (Below.mono (by assumption) (by first | (simp; done) | (simp; omega) | omega)))))).mono ?_; rintro e w1 ⟨rfl, hb1⟩; have hz1 := hb1.size; (try simp at hz1); have o1 : Below w.heap.size w w1 := (by (repeat (first | exact Below.refl _ _ | refine Below.setCell ?_ (by first | (simp; done) | (simp; omega) | omega) _ | refine Below.alloc ?_ (by first | (simp; done) | (simp; omega) | omega) _ | refine Below.drew ?_ | refine Below.trans ?_ (Below.mono (by assumption) (by first | (simp; done) | (simp; omega) | omega))))); have q1_0 : w.heap.size < w1.heap.size := (by omega); have r1_0 : Row w1 (w.heap.size) 24 #[.int .i64 p, .int .i64 land, .int .i64 now, .slice A n c] := row_call (by (repeat (first | assumption | (refine row_new ?_; (first | (simp; done) | omega)) | refine row_alloc ?_ _ | refine row_drew ?_ | refine row_call ?_ (by assumption)))) hb1; obtain ⟨c1_0a, c1_0b, c1_0c, c1_0d, f1_0a, f1_0b, f1_0c, f1_0d⟩ := row_four r1_0; have q1_1 : w.heap.size + 1 < w1.heap.size := (by omega); have r1_1 : Row w1 (w.heap.size + 1) 37 #[.int .u64 0, .int .u64 0, .int .u64 0, .int .u64 0] := row_call (by (repeat (first | assumption | (refine row_new ?_; (first | (simp; done) | omega)) | refine row_alloc ?_ _ | refine row_drew ?_ | refine row_call ?_ (by assumption)))) hb1; obtain ⟨c1_1a, c1_1b, c1_1c, c1_1d, f1_1a, f1_1b, f1_1c, f1_1d⟩ := row_four r1_1))
  exact bodyPost_ret (v := .tuple #[.agg #[.int .u64 0, .int .u64 0, .int .u64 0, .int .u64 0], .int .i64 2]) (by simp [results, Try.results18, go_sem, c1_1a, c1_1b, c1_1c, c1_1d]) rfl ⟨rfl, by (repeat (first | exact Below.refl _ _ | refine Below.setCell ?_ (by first | (simp; done) | (simp; omega) | omega) _ | refine Below.alloc ?_ (by first | (simp; done) | (simp; omega) | omega) _ | refine Below.drew ?_ | refine Below.trans ?_ (Below.mono (by assumption) (by first | (simp; done) | (simp; omega) | omega))))⟩
set_option maxHeartbeats 2000000 in
theorem ppask_ok (p land now : Int) (A : Option Addr) (n c : Nat) (ms : List Nat) (w : World) (hin : PIn p land now A n c ms w) (hv : pvalE p land now ms = 0) : Calls Try.prog 18 #[.agg #[.int .i64 p, .int .i64 land, .int .i64 now, .slice A n c]] w fun e w' => e = .returned (.tuple #[FR (qask p land now ms).num (qask p land now ms).den, .int .i64 (qask p land now ms).f]) ∧ Below w.heap.size w w' := by
  rw [qask_ok hv]
  have P := fun w1 (hb : Below w.heap.size w w1) => ppval p land now A n c ms w1 (hin.below hb)
  rw [hv] at P
  have P := Lib.hid P
  obtain ⟨v1, v2, v3, v4, v5, v6, v7, _⟩ := of_pvalE hv
  have HR := Lib.hid hin
  have hl := hin.len
  obtain ⟨q, rfl⟩ : ∃ q : Nat, p = (q : Int) := ⟨p.toNat, by omega⟩
  rw [Int.toNat_natCast]
  show Calls _ _ _ _ fun e w' => e = .returned (.tuple #[FR (momAt ms q) (powN (ageN land now) q), .int .i64 0]) ∧ Below w.heap.size w w'
  obtain ⟨a1, a2⟩ := ageN_bound v5 v6 v4
  have ai := ageN_int v6
  generalize ageN land now = av at a1 a2 ai ⊢
  have wa : IntKind.i64.wrap (now - land) = now - land := IntWalk.i64_in _ (by omega)
  have wb : IntKind.i64.wrap (now - land + 1) = now - land + 1 := IntWalk.i64_in _ (by omega)
  have wc : IntKind.u64.wrap (now - land + 1) = (av : Int) := by rw [IntWalk.u64_in _ (by omega)]; omega
  have PW := fun w => ppow_any av (by omega) (q : Int) (by omega) w
  rw [powIV_nat, powIB_nat, (pow_yes (powN_fits a2 (show q ≤ 4 by omega))).1, (pow_yes (powN_fits a2 (show q ≤ 4 by omega))).2] at PW
  generalize powN av q = dn at PW ⊢
  have PW := Lib.hid PW
  have hqn : q < n := by omega
  obtain ⟨ad, rfl, hadb, mx⟩ := hin.reads.mom hqn
  generalize momAt ms q = x at mx ⊢
  have MX := Lib.hid mx
  have HAB : RowKit.Hid ((ad.add (q * 2)).block < w.heap.size) := Lib.hid (by rw [block_of_add]; exact hadb)
  have i1 : (q : Int) < (n : Int) := by omega
  have i2 : (0 : Int) ≤ (q : Int) := by omega
  clear hv hin hl mx ai
  go_enter Try.func18, Try.ntmps18
  go_upto_region 5 with (first | (go_at_call 20; with_reducible refine (P.out _ (by (repeat (first | exact Below.refl _ _ | refine Below.setCell ?_ (by first | (simp; done) | (simp; omega) | omega) _ | refine Below.alloc ?_ (by first | (simp; done) | (simp; omega) | omega) _ | refine Below.drew ?_ | refine Below.trans ?_ (Below.mono (by assumption) (by first | (simp; done) | (simp; omega) | omega)))))).mono ?_; rintro e w1 ⟨rfl, hb1⟩; have hz1 := hb1.size; (try simp at hz1); have o1 : Below w.heap.size w w1 := (by (repeat (first | exact Below.refl _ _ | refine Below.setCell ?_ (by first | (simp; done) | (simp; omega) | omega) _ | refine Below.alloc ?_ (by first | (simp; done) | (simp; omega) | omega) _ | refine Below.drew ?_ | refine Below.trans ?_ (Below.mono (by assumption) (by first | (simp; done) | (simp; omega) | omega))))); have q1_0 : w.heap.size < w1.heap.size := (by omega); have r1_0 : Row w1 (w.heap.size) 24 #[.int .i64 q, .int .i64 land, .int .i64 now, .slice (some ad) n c] := row_call (by (repeat (first | assumption | (refine row_new ?_; (first | (simp; done) | omega)) | refine row_alloc ?_ _ | refine row_drew ?_ | refine row_call ?_ (by assumption)))) hb1; obtain ⟨c1_0a, c1_0b, c1_0c, c1_0d, f1_0a, f1_0b, f1_0c, f1_0d⟩ := row_four r1_0; have q1_1 : w.heap.size + 1 < w1.heap.size := (by omega); have r1_1 : Row w1 (w.heap.size + 1) 37 #[.int .u64 0, .int .u64 0, .int .u64 0, .int .u64 0] := row_call (by (repeat (first | assumption | (refine row_new ?_; (first | (simp; done) | omega)) | refine row_alloc ?_ _ | refine row_drew ?_ | refine row_call ?_ (by assumption)))) hb1; obtain ⟨c1_1a, c1_1b, c1_1c, c1_1d, f1_1a, f1_1b, f1_1c, f1_1d⟩ := row_four r1_1) | (go_at_call 36; with_reducible refine (PW.out _).mono ?_; rintro e w2 ⟨rfl, hb2⟩; have hz2 := hb2.size; (try simp at hz2); have o2 : Below w.heap.size w w2 := (by (repeat (first | exact Below.refl _ _ | refine Below.setCell ?_ (by first | (simp; done) | (simp; omega) | omega) _ | refine Below.alloc ?_ (by first | (simp; done) | (simp; omega) | omega) _ | refine Below.drew ?_ | refine Below.trans ?_ (Below.mono (by assumption) (by first | (simp; done) | (simp; omega) | omega))))); have q2_0 : w.heap.size < w2.heap.size := (by omega); have r2_0 : Row w2 (w.heap.size) 24 #[.int .i64 q, .int .i64 land, .int .i64 now, .slice (some ad) n c] := row_call (by (repeat (first | assumption | (refine row_new ?_; (first | (simp; done) | omega)) | refine row_alloc ?_ _ | refine row_drew ?_ | refine row_call ?_ (by assumption)))) hb2; obtain ⟨c2_0a, c2_0b, c2_0c, c2_0d, f2_0a, f2_0b, f2_0c, f2_0d⟩ := row_four r2_0; have q2_1 : w.heap.size + 1 < w2.heap.size := (by omega); have r2_1 : Row w2 (w.heap.size + 1) 37 #[.int .u64 0, .int .u64 0, .int .u64 0, .int .u64 0] := row_call (by (repeat (first | assumption | (refine row_new ?_; (first | (simp; done) | omega)) | refine row_alloc ?_ _ | refine row_drew ?_ | refine row_call ?_ (by assumption)))) hb2; obtain ⟨c2_1a, c2_1b, c2_1c, c2_1d, f2_1a, f2_1b, f2_1c, f2_1d⟩ := row_four r2_1))
  have M1 := row_alloc r2_0 (.cells #[.int .u64 (hi dn), .int .u64 (lo dn)] 35)
  have M2 := row_alloc r2_1 (.cells #[.int .u64 (hi dn), .int .u64 (lo dn)] 35)
  have M3 : Row (w2.alloc (.cells #[.int .u64 (hi dn), .int .u64 (lo dn)] 35)) w2.heap.size 35 #[.int .u64 (hi dn), .int .u64 (lo dn)] := row_new rfl
  have M4 := o2.alloc o2.size (.cells #[.int .u64 (hi dn), .int .u64 (lo dn)] 35)
  generalize w2.alloc (.cells #[.int .u64 (hi dn), .int .u64 (lo dn)] 35) = w3 at M1 M2 M3 M4 ⊢
  generalize w2.heap.size = db at M3 ⊢
  clear P r1_0 r1_1 o1 hb1 hb2 r2_0 r2_1 o2 c1_0a c1_0b c1_0c c1_0d f1_0a f1_0b f1_0c f1_0d c1_1a c1_1b c1_1c c1_1d f1_1a f1_1b f1_1c f1_1d c2_0a c2_0b c2_0c c2_0d f2_0a f2_0b f2_0c f2_0d c2_1a c2_1b c2_1c c2_1d f2_1a f2_1b f2_1c f2_1d
  refine wp_region_free0 [0, 1, 2, 3, 4, 5, 6, 7] [] [0, 1, 2, 3, 4, 5, 6, 7] 8 (fun w' => Row w' (w.heap.size) 24 #[.int .i64 q, .int .i64 land, .int .i64 now, .slice (some ad) n c] ∧ Row w' (w.heap.size + 1) 37 #[.int .u64 0, .int .u64 0, .int .u64 0, .int .u64 0] ∧ Row w' (db) 35 #[.int .u64 (hi dn), .int .u64 (lo dn)] ∧ Below w.heap.size w w') (by kernel_rfl) (by kernel_rfl) (fun _ _ d _ _ h => by cases d <;> exact h) ?_ ?_
  · exact ⟨M1, M2, M3, M4.drew⟩
  (refine plan_pure ?_ rfl rfl (fun w' => ?_) ?_; rotate_left; (go_simp; try with_reducible rfl); simp only [Act.put, List.setIfInBounds_toArray, List.set_cons_zero, List.set_cons_succ])
  (refine plan_val ?_ rfl rfl rfl (fun w' hS => ?_) ?_; rotate_left; (obtain ⟨X0, X1, X2, X3, Xf0, Xf1, Xf2, Xf3⟩ := row_four hS.1; obtain ⟨Y0, Y1, Y2, Y3, Yf0, Yf1, Yf2, Yf3⟩ := row_four hS.2.1; obtain ⟨D0, D1, Df0, Df1⟩ := row_two hS.2.2.1; obtain ⟨p0, p1⟩ := MX.out.below hS.2.2.2 HAB.out; go_simp; try with_reducible rfl); simp only [Act.put, List.setIfInBounds_toArray, List.set_cons_zero, List.set_cons_succ])
  (refine plan_pure ?_ rfl rfl (fun w' => ?_) ?_; rotate_left; (go_simp; try with_reducible rfl); simp only [Act.put, List.setIfInBounds_toArray, List.set_cons_zero, List.set_cons_succ])
  (refine plan_val ?_ rfl rfl rfl (fun w' hS => ?_) ?_; rotate_left; (obtain ⟨X0, X1, X2, X3, Xf0, Xf1, Xf2, Xf3⟩ := row_four hS.1; obtain ⟨Y0, Y1, Y2, Y3, Yf0, Yf1, Yf2, Yf3⟩ := row_four hS.2.1; obtain ⟨D0, D1, Df0, Df1⟩ := row_two hS.2.2.1; obtain ⟨p0, p1⟩ := MX.out.below hS.2.2.2 HAB.out; go_simp; try with_reducible rfl); simp only [Act.put, List.setIfInBounds_toArray, List.set_cons_zero, List.set_cons_succ])
  (refine plan_pure ?_ rfl rfl (fun w' => ?_) ?_; rotate_left; (go_simp; try with_reducible rfl); simp only [Act.put, List.setIfInBounds_toArray, List.set_cons_zero, List.set_cons_succ])
  (refine plan_val ?_ rfl rfl rfl (fun w' hS => ?_) ?_; rotate_left; (obtain ⟨X0, X1, X2, X3, Xf0, Xf1, Xf2, Xf3⟩ := row_four hS.1; obtain ⟨Y0, Y1, Y2, Y3, Yf0, Yf1, Yf2, Yf3⟩ := row_four hS.2.1; obtain ⟨D0, D1, Df0, Df1⟩ := row_two hS.2.2.1; obtain ⟨p0, p1⟩ := MX.out.below hS.2.2.2 HAB.out; go_simp; try with_reducible rfl); simp only [Act.put, List.setIfInBounds_toArray, List.set_cons_zero, List.set_cons_succ])
  (refine plan_val ?_ rfl rfl rfl (fun w' hS => ?_) ?_; rotate_left; (obtain ⟨X0, X1, X2, X3, Xf0, Xf1, Xf2, Xf3⟩ := row_four hS.1; obtain ⟨Y0, Y1, Y2, Y3, Yf0, Yf1, Yf2, Yf3⟩ := row_four hS.2.1; obtain ⟨D0, D1, Df0, Df1⟩ := row_two hS.2.2.1; obtain ⟨p0, p1⟩ := MX.out.below hS.2.2.2 HAB.out; go_simp; try with_reducible rfl); simp only [Act.put, List.setIfInBounds_toArray, List.set_cons_zero, List.set_cons_succ])
  (refine plan_pure ?_ rfl rfl (fun w' => ?_) ?_; rotate_left; (go_simp; try with_reducible rfl); simp only [Act.put, List.setIfInBounds_toArray, List.set_cons_zero, List.set_cons_succ])
  refine plan_nil ?_
  intro w5 L5
  simp only [List.drop_succ_cons, List.drop_zero]
  try simp only [Act.put, List.setIfInBounds_toArray, List.set_cons_zero, List.set_cons_succ]
  clear M1 M2 M3 M4
  obtain ⟨M1, M2, M3, M4⟩ := L5
  obtain ⟨C0, C1, C2, C3, D0, D1, D2, D3⟩ := row_four M2
  go_wp2
  exact bodyPost_ret (v := .tuple #[FR x dn, .int .i64 0]) (by simp [results, Try.results18, go_sem, C0, C1, C2, C3, FR]) rfl ⟨rfl, by (repeat (first | exact Below.refl _ _ | refine Below.setCell ?_ (by first | (simp; done) | (simp; omega) | omega) _ | refine Below.alloc ?_ (by first | (simp; done) | (simp; omega) | omega) _ | refine Below.drew ?_ | refine Below.trans ?_ (Below.mono (by assumption) (by first | (simp; done) | (simp; omega) | omega))))⟩
theorem ppask (p land now : Int) (A : Option Addr) (n c : Nat) (ms : List Nat) (w : World) (hin : PIn p land now A n c ms w) : Calls Try.prog 18 #[.agg #[.int .i64 p, .int .i64 land, .int .i64 now, .slice A n c]] w fun e w' => e = .returned (.tuple #[FR (qask p land now ms).num (qask p land now ms).den, .int .i64 (qask p land now ms).f]) ∧ Below w.heap.size w w' := by
  rcases pvalE_two (p := p) (land := land) (now := now) (ms := ms) with hv | hv
  · exact ppask_ok p land now A n c ms w hin hv
  · exact ppask_bad p land now A n c ms w hin hv
theorem rpask_bad (p land now : Int) (A : Option Addr) (n c : Nat) (ms : List Nat) (w : World) (hin : PIn p land now A n c ms w) (hv : pvalE p land now ms = 2) : Calls Try.prog 19 #[.agg #[.int .i64 p, .int .i64 land, .int .i64 now, .slice A n c]] w fun e w' => e = .returned (.tuple #[FR (qask p land now ms).num (qask p land now ms).den, .int .i64 (qask p land now ms).f]) ∧ Below w.heap.size w w' := by
  rw [qask_bad hv]
  show Calls _ _ _ _ fun e w' => e = .returned (.tuple #[FR 0 0, .int .i64 2]) ∧ Below w.heap.size w w'
  rw [fr_zero]
  have P := fun w1 (hb : Below w.heap.size w w1) => rpval p land now A n c ms w1 (hin.below hb)
  rw [hv] at P
  have P := Lib.hid P
  clear hv hin
  go_enter Try.func19, Try.ntmps19
  go_wp2_with (first | (go_at_call 21; with_reducible refine (P.out _ (by (repeat (first | exact Below.refl _ _ | refine Below.setCell ?_ (by first | (simp; done) | (simp; omega) | omega) _ | refine Below.alloc ?_ (by first | (simp; done) | (simp; omega) | omega) _ | refine Below.drew ?_ | refine Below.trans ?_ (Below.mono (by assumption) (by first | (simp; done) | (simp; omega) | omega)))))).mono ?_; rintro e w1 ⟨rfl, hb1⟩; have hz1 := hb1.size; (try simp at hz1); have o1 : Below w.heap.size w w1 := (by (repeat (first | exact Below.refl _ _ | refine Below.setCell ?_ (by first | (simp; done) | (simp; omega) | omega) _ | refine Below.alloc ?_ (by first | (simp; done) | (simp; omega) | omega) _ | refine Below.drew ?_ | refine Below.trans ?_ (Below.mono (by assumption) (by first | (simp; done) | (simp; omega) | omega))))); have q1_0 : w.heap.size < w1.heap.size := (by omega); have r1_0 : Row w1 (w.heap.size) 24 #[.int .i64 p, .int .i64 land, .int .i64 now, .slice A n c] := row_call (by (repeat (first | assumption | (refine row_new ?_; (first | (simp; done) | omega)) | refine row_alloc ?_ _ | refine row_drew ?_ | refine row_call ?_ (by assumption)))) hb1; obtain ⟨c1_0a, c1_0b, c1_0c, c1_0d, f1_0a, f1_0b, f1_0c, f1_0d⟩ := row_four r1_0; have q1_1 : w.heap.size + 1 < w1.heap.size := (by omega); have r1_1 : Row w1 (w.heap.size + 1) 37 #[.int .u64 0, .int .u64 0, .int .u64 0, .int .u64 0] := row_call (by (repeat (first | assumption | (refine row_new ?_; (first | (simp; done) | omega)) | refine row_alloc ?_ _ | refine row_drew ?_ | refine row_call ?_ (by assumption)))) hb1; obtain ⟨c1_1a, c1_1b, c1_1c, c1_1d, f1_1a, f1_1b, f1_1c, f1_1d⟩ := row_four r1_1))
  exact bodyPost_ret (v := .tuple #[.agg #[.int .u64 0, .int .u64 0, .int .u64 0, .int .u64 0], .int .i64 2]) (by simp [results, Try.results19, go_sem, c1_1a, c1_1b, c1_1c, c1_1d]) rfl ⟨rfl, by (repeat (first | exact Below.refl _ _ | refine Below.setCell ?_ (by first | (simp; done) | (simp; omega) | omega) _ | refine Below.alloc ?_ (by first | (simp; done) | (simp; omega) | omega) _ | refine Below.drew ?_ | refine Below.trans ?_ (Below.mono (by assumption) (by first | (simp; done) | (simp; omega) | omega))))⟩
set_option maxHeartbeats 2000000 in
theorem rpask_ok (p land now : Int) (A : Option Addr) (n c : Nat) (ms : List Nat) (w : World) (hin : PIn p land now A n c ms w) (hv : pvalE p land now ms = 0) : Calls Try.prog 19 #[.agg #[.int .i64 p, .int .i64 land, .int .i64 now, .slice A n c]] w fun e w' => e = .returned (.tuple #[FR (qask p land now ms).num (qask p land now ms).den, .int .i64 (qask p land now ms).f]) ∧ Below w.heap.size w w' := by
  rw [qask_ok hv]
  have P := fun w1 (hb : Below w.heap.size w w1) => rpval p land now A n c ms w1 (hin.below hb)
  rw [hv] at P
  have P := Lib.hid P
  obtain ⟨v1, v2, v3, v4, v5, v6, v7, _⟩ := of_pvalE hv
  have HR := Lib.hid hin
  have hl := hin.len
  obtain ⟨q, rfl⟩ : ∃ q : Nat, p = (q : Int) := ⟨p.toNat, by omega⟩
  rw [Int.toNat_natCast]
  show Calls _ _ _ _ fun e w' => e = .returned (.tuple #[FR (momAt ms q) (powN (ageN land now) q), .int .i64 0]) ∧ Below w.heap.size w w'
  obtain ⟨a1, a2⟩ := ageN_bound v5 v6 v4
  have ai := ageN_int v6
  generalize ageN land now = av at a1 a2 ai ⊢
  have wa : IntKind.i64.wrap (now - land) = now - land := IntWalk.i64_in _ (by omega)
  have wb : IntKind.i64.wrap (now - land + 1) = now - land + 1 := IntWalk.i64_in _ (by omega)
  have wc : IntKind.u64.wrap (now - land + 1) = (av : Int) := by rw [IntWalk.u64_in _ (by omega)]; omega
  have PW := fun w => rpow_any av (by omega) (q : Int) (by omega) w
  rw [powIV_nat, powIB_nat, (pow_yes (powN_fits a2 (show q ≤ 4 by omega))).1, (pow_yes (powN_fits a2 (show q ≤ 4 by omega))).2] at PW
  generalize powN av q = dn at PW ⊢
  have PW := Lib.hid PW
  have hqn : q < n := by omega
  obtain ⟨ad, rfl, hadb, mx⟩ := hin.reads.mom hqn
  generalize momAt ms q = x at mx ⊢
  have MX := Lib.hid mx
  have HAB : RowKit.Hid ((ad.add (q * 2)).block < w.heap.size) := Lib.hid (by rw [block_of_add]; exact hadb)
  have i1 : (q : Int) < (n : Int) := by omega
  have i2 : (0 : Int) ≤ (q : Int) := by omega
  clear hv hin hl mx ai
  go_enter Try.func19, Try.ntmps19
  go_upto_region 5 with (first | (go_at_call 21; with_reducible refine (P.out _ (by (repeat (first | exact Below.refl _ _ | refine Below.setCell ?_ (by first | (simp; done) | (simp; omega) | omega) _ | refine Below.alloc ?_ (by first | (simp; done) | (simp; omega) | omega) _ | refine Below.drew ?_ | refine Below.trans ?_ (Below.mono (by assumption) (by first | (simp; done) | (simp; omega) | omega)))))).mono ?_; rintro e w1 ⟨rfl, hb1⟩; have hz1 := hb1.size; (try simp at hz1); have o1 : Below w.heap.size w w1 := (by (repeat (first | exact Below.refl _ _ | refine Below.setCell ?_ (by first | (simp; done) | (simp; omega) | omega) _ | refine Below.alloc ?_ (by first | (simp; done) | (simp; omega) | omega) _ | refine Below.drew ?_ | refine Below.trans ?_ (Below.mono (by assumption) (by first | (simp; done) | (simp; omega) | omega))))); have q1_0 : w.heap.size < w1.heap.size := (by omega); have r1_0 : Row w1 (w.heap.size) 24 #[.int .i64 q, .int .i64 land, .int .i64 now, .slice (some ad) n c] := row_call (by (repeat (first | assumption | (refine row_new ?_; (first | (simp; done) | omega)) | refine row_alloc ?_ _ | refine row_drew ?_ | refine row_call ?_ (by assumption)))) hb1; obtain ⟨c1_0a, c1_0b, c1_0c, c1_0d, f1_0a, f1_0b, f1_0c, f1_0d⟩ := row_four r1_0; have q1_1 : w.heap.size + 1 < w1.heap.size := (by omega); have r1_1 : Row w1 (w.heap.size + 1) 37 #[.int .u64 0, .int .u64 0, .int .u64 0, .int .u64 0] := row_call (by (repeat (first | assumption | (refine row_new ?_; (first | (simp; done) | omega)) | refine row_alloc ?_ _ | refine row_drew ?_ | refine row_call ?_ (by assumption)))) hb1; obtain ⟨c1_1a, c1_1b, c1_1c, c1_1d, f1_1a, f1_1b, f1_1c, f1_1d⟩ := row_four r1_1) | (go_at_call 41; with_reducible refine (PW.out _).mono ?_; rintro e w2 ⟨rfl, hb2⟩; have hz2 := hb2.size; (try simp at hz2); have o2 : Below w.heap.size w w2 := (by (repeat (first | exact Below.refl _ _ | refine Below.setCell ?_ (by first | (simp; done) | (simp; omega) | omega) _ | refine Below.alloc ?_ (by first | (simp; done) | (simp; omega) | omega) _ | refine Below.drew ?_ | refine Below.trans ?_ (Below.mono (by assumption) (by first | (simp; done) | (simp; omega) | omega))))); have q2_0 : w.heap.size < w2.heap.size := (by omega); have r2_0 : Row w2 (w.heap.size) 24 #[.int .i64 q, .int .i64 land, .int .i64 now, .slice (some ad) n c] := row_call (by (repeat (first | assumption | (refine row_new ?_; (first | (simp; done) | omega)) | refine row_alloc ?_ _ | refine row_drew ?_ | refine row_call ?_ (by assumption)))) hb2; obtain ⟨c2_0a, c2_0b, c2_0c, c2_0d, f2_0a, f2_0b, f2_0c, f2_0d⟩ := row_four r2_0; have q2_1 : w.heap.size + 1 < w2.heap.size := (by omega); have r2_1 : Row w2 (w.heap.size + 1) 37 #[.int .u64 0, .int .u64 0, .int .u64 0, .int .u64 0] := row_call (by (repeat (first | assumption | (refine row_new ?_; (first | (simp; done) | omega)) | refine row_alloc ?_ _ | refine row_drew ?_ | refine row_call ?_ (by assumption)))) hb2; obtain ⟨c2_1a, c2_1b, c2_1c, c2_1d, f2_1a, f2_1b, f2_1c, f2_1d⟩ := row_four r2_1))
  have M1 := row_alloc r2_0 (.cells #[.int .u64 (hi dn), .int .u64 (lo dn)] 35)
  have M2 := row_alloc r2_1 (.cells #[.int .u64 (hi dn), .int .u64 (lo dn)] 35)
  have M3 : Row (w2.alloc (.cells #[.int .u64 (hi dn), .int .u64 (lo dn)] 35)) w2.heap.size 35 #[.int .u64 (hi dn), .int .u64 (lo dn)] := row_new rfl
  have M4 := o2.alloc o2.size (.cells #[.int .u64 (hi dn), .int .u64 (lo dn)] 35)
  generalize w2.alloc (.cells #[.int .u64 (hi dn), .int .u64 (lo dn)] 35) = w3 at M1 M2 M3 M4 ⊢
  generalize w2.heap.size = db at M3 ⊢
  clear P r1_0 r1_1 o1 hb1 hb2 r2_0 r2_1 o2 c1_0a c1_0b c1_0c c1_0d f1_0a f1_0b f1_0c f1_0d c1_1a c1_1b c1_1c c1_1d f1_1a f1_1b f1_1c f1_1d c2_0a c2_0b c2_0c c2_0d f2_0a f2_0b f2_0c f2_0d c2_1a c2_1b c2_1c c2_1d f2_1a f2_1b f2_1c f2_1d
  refine wp_region_free0 [0, 1, 2, 3, 4, 5, 6, 7] [] [0, 1, 2, 3, 4, 5, 6, 7] 8 (fun w' => Row w' (w.heap.size) 24 #[.int .i64 q, .int .i64 land, .int .i64 now, .slice (some ad) n c] ∧ Row w' (w.heap.size + 1) 37 #[.int .u64 0, .int .u64 0, .int .u64 0, .int .u64 0] ∧ Row w' (db) 35 #[.int .u64 (hi dn), .int .u64 (lo dn)] ∧ Below w.heap.size w w') (by kernel_rfl) (by kernel_rfl) (fun _ _ d _ _ h => by cases d <;> exact h) ?_ ?_
  · exact ⟨M1, M2, M3, M4.drew⟩
  (refine plan_pure ?_ rfl rfl (fun w' => ?_) ?_; rotate_left; (go_simp; try with_reducible rfl); simp only [Act.put, List.setIfInBounds_toArray, List.set_cons_zero, List.set_cons_succ])
  (refine plan_val ?_ rfl rfl rfl (fun w' hS => ?_) ?_; rotate_left; (obtain ⟨X0, X1, X2, X3, Xf0, Xf1, Xf2, Xf3⟩ := row_four hS.1; obtain ⟨Y0, Y1, Y2, Y3, Yf0, Yf1, Yf2, Yf3⟩ := row_four hS.2.1; obtain ⟨D0, D1, Df0, Df1⟩ := row_two hS.2.2.1; obtain ⟨p0, p1⟩ := MX.out.below hS.2.2.2 HAB.out; go_simp; try with_reducible rfl); simp only [Act.put, List.setIfInBounds_toArray, List.set_cons_zero, List.set_cons_succ])
  (refine plan_pure ?_ rfl rfl (fun w' => ?_) ?_; rotate_left; (go_simp; try with_reducible rfl); simp only [Act.put, List.setIfInBounds_toArray, List.set_cons_zero, List.set_cons_succ])
  (refine plan_val ?_ rfl rfl rfl (fun w' hS => ?_) ?_; rotate_left; (obtain ⟨X0, X1, X2, X3, Xf0, Xf1, Xf2, Xf3⟩ := row_four hS.1; obtain ⟨Y0, Y1, Y2, Y3, Yf0, Yf1, Yf2, Yf3⟩ := row_four hS.2.1; obtain ⟨D0, D1, Df0, Df1⟩ := row_two hS.2.2.1; obtain ⟨p0, p1⟩ := MX.out.below hS.2.2.2 HAB.out; go_simp; try with_reducible rfl); simp only [Act.put, List.setIfInBounds_toArray, List.set_cons_zero, List.set_cons_succ])
  (refine plan_pure ?_ rfl rfl (fun w' => ?_) ?_; rotate_left; (go_simp; try with_reducible rfl); simp only [Act.put, List.setIfInBounds_toArray, List.set_cons_zero, List.set_cons_succ])
  (refine plan_val ?_ rfl rfl rfl (fun w' hS => ?_) ?_; rotate_left; (obtain ⟨X0, X1, X2, X3, Xf0, Xf1, Xf2, Xf3⟩ := row_four hS.1; obtain ⟨Y0, Y1, Y2, Y3, Yf0, Yf1, Yf2, Yf3⟩ := row_four hS.2.1; obtain ⟨D0, D1, Df0, Df1⟩ := row_two hS.2.2.1; obtain ⟨p0, p1⟩ := MX.out.below hS.2.2.2 HAB.out; go_simp; try with_reducible rfl); simp only [Act.put, List.setIfInBounds_toArray, List.set_cons_zero, List.set_cons_succ])
  (refine plan_val ?_ rfl rfl rfl (fun w' hS => ?_) ?_; rotate_left; (obtain ⟨X0, X1, X2, X3, Xf0, Xf1, Xf2, Xf3⟩ := row_four hS.1; obtain ⟨Y0, Y1, Y2, Y3, Yf0, Yf1, Yf2, Yf3⟩ := row_four hS.2.1; obtain ⟨D0, D1, Df0, Df1⟩ := row_two hS.2.2.1; obtain ⟨p0, p1⟩ := MX.out.below hS.2.2.2 HAB.out; go_simp; try with_reducible rfl); simp only [Act.put, List.setIfInBounds_toArray, List.set_cons_zero, List.set_cons_succ])
  (refine plan_pure ?_ rfl rfl (fun w' => ?_) ?_; rotate_left; (go_simp; try with_reducible rfl); simp only [Act.put, List.setIfInBounds_toArray, List.set_cons_zero, List.set_cons_succ])
  refine plan_nil ?_
  intro w5 L5
  simp only [List.drop_succ_cons, List.drop_zero]
  try simp only [Act.put, List.setIfInBounds_toArray, List.set_cons_zero, List.set_cons_succ]
  clear M1 M2 M3 M4
  obtain ⟨M1, M2, M3, M4⟩ := L5
  obtain ⟨C0, C1, C2, C3, D0, D1, D2, D3⟩ := row_four M2
  go_wp2
  exact bodyPost_ret (v := .tuple #[FR x dn, .int .i64 0]) (by simp [results, Try.results19, go_sem, C0, C1, C2, C3, FR]) rfl ⟨rfl, by (repeat (first | exact Below.refl _ _ | refine Below.setCell ?_ (by first | (simp; done) | (simp; omega) | omega) _ | refine Below.alloc ?_ (by first | (simp; done) | (simp; omega) | omega) _ | refine Below.drew ?_ | refine Below.trans ?_ (Below.mono (by assumption) (by first | (simp; done) | (simp; omega) | omega))))⟩
theorem rpask (p land now : Int) (A : Option Addr) (n c : Nat) (ms : List Nat) (w : World) (hin : PIn p land now A n c ms w) : Calls Try.prog 19 #[.agg #[.int .i64 p, .int .i64 land, .int .i64 now, .slice A n c]] w fun e w' => e = .returned (.tuple #[FR (qask p land now ms).num (qask p land now ms).den, .int .i64 (qask p land now ms).f]) ∧ Below w.heap.size w w' := by
  rcases pvalE_two (p := p) (land := land) (now := now) (ms := ms) with hv | hv
  · exact rpask_ok p land now A n c ms w hin hv
  · exact rpask_bad p land now A n c ms w hin hv
theorem ppadv (p land now : Int) (A : Option Addr) (n c : Nat) (ms : List Nat) (to : Int) (w : World) (hin : PIn p land now A n c ms w) : Calls Try.prog 14 #[.agg #[.int .i64 p, .int .i64 land, .int .i64 now, .slice A n c], .int .i64 to] w fun e w' => PRet (qadv p land now ms to) w e w' := by
  rcases pvalE_two (p := p) (land := land) (now := now) (ms := ms) with hv | hv
  · by_cases h0 : to < now
    · exact ppadv_low p land now A n c ms to w hin hv h0
    · by_cases h1 : 16777216 < to
      · exact ppadv_high p land now A n c ms to w hin hv h1
      · exact ppadv_ok p land now A n c ms to w hin hv (by omega) (by omega)
  · exact ppadv_bad p land now A n c ms to w hin hv
end Go.Proofs.Ytejoomlaanmbkaa
