/- Windows, live items and extremes, walked. -/
import Derived.Test.YtaiepjcnncajcaaMadeI
import Derived.Test.YtaiepjcnncajcaaMathSmT
set_option linter.unusedVariables false
set_option linter.unusedSimpArgs false
set_option linter.unusedSectionVars false
set_option linter.unnecessarySimpa false
namespace Go.Proofs.Ytaiepjcnncajcaa
open Go.RowKit
/-- The capacity that a number is turned into. -/
def mcap (c : Int) : Int := if c % 4 = 0 then 65536 else if c % 4 = 1 then 200 else 1 + c % 40
theorem mcap_bd (c : Int) : 1 ≤ mcap c ∧ mcap c ≤ 65536 := by unfold mcap; split <;> (try split) <;> omega
theorem pwindow_0 (a b c : Int) (w : World) (h : c % 4 = 0) : Calls Try.prog 24 #[.int .i64 a, .int .i64 b, .int .i64 c] w fun e w' => e = .returned (.tuple #[.int .i64 (1 + a % 25), .int .i64 (1 + b % 4), .int .i64 (mcap c)]) ∧ w' = w := by
  rw [show mcap c = 65536 by unfold mcap; rw [if_pos h]]
  have P40 := Lib.hid (fun w => pmod c 40 (by omega) (by omega) w)
  have P25 := Lib.hid (fun w => pmod a 25 (by omega) (by omega) w)
  have PK := Lib.hid (fun w => pint b 4 (by omega) (by omega) w)
  have P4 := fun w => pmod c 4 (by omega) (by omega) w
  have h1 : (c % 4 == 0) = true := by simp; omega
  have h2 : (c % 4 == 1) = false := by simp; omega
  have b40 : IntKind.i64.wrap (1 + c % 40) = 1 + c % 40 := IntWalk.i64_in _ (by omega)
  have b25 : IntKind.i64.wrap (1 + a % 25) = 1 + a % 25 := IntWalk.i64_in _ (by omega)
  have b4 : IntKind.i64.wrap (1 + b % 4) = 1 + b % 4 := IntWalk.i64_in _ (by omega)
  clear h
  generalize c % 40 = r40 at P40 b40 ⊢
  generalize a % 25 = r25 at P25 b25 ⊢
  generalize b % 4 = rk at PK b4 ⊢
  generalize c % 4 = r4 at P4 h1 h2
  replace P4 := Lib.hid P4
  go_enter Try.func24, Try.ntmps24
  go_wp2_with (first | (go_at_call 35; with_reducible refine (P40.out _).mono ?_; rintro e w9 ⟨rfl, h9⟩; obtain rfl := h9.symm) | (go_at_call 35; with_reducible refine (P4.out _).mono ?_; rintro e w9 ⟨rfl, h9⟩; obtain rfl := h9.symm) | (go_at_call 35; with_reducible refine (P25.out _).mono ?_; rintro e w9 ⟨rfl, h9⟩; obtain rfl := h9.symm) | (go_at_call 19; with_reducible refine (PK.out _).mono ?_; rintro e w9 ⟨rfl, h9⟩; obtain rfl := h9.symm))
  exact bodyPost_ret (v := .tuple #[.int .i64 (1 + r25), .int .i64 (1 + rk), .int .i64 65536]) (by simp [results, Try.results24, go_sem]) rfl ⟨rfl, rfl⟩
theorem pwindow_1 (a b c : Int) (w : World) (h : c % 4 = 1) : Calls Try.prog 24 #[.int .i64 a, .int .i64 b, .int .i64 c] w fun e w' => e = .returned (.tuple #[.int .i64 (1 + a % 25), .int .i64 (1 + b % 4), .int .i64 (mcap c)]) ∧ w' = w := by
  rw [show mcap c = 200 by unfold mcap; rw [if_neg (by omega), if_pos h]]
  have P40 := Lib.hid (fun w => pmod c 40 (by omega) (by omega) w)
  have P25 := Lib.hid (fun w => pmod a 25 (by omega) (by omega) w)
  have PK := Lib.hid (fun w => pint b 4 (by omega) (by omega) w)
  have P4 := fun w => pmod c 4 (by omega) (by omega) w
  have h1 : (c % 4 == 0) = false := by simp; omega
  have h2 : (c % 4 == 1) = true := by simp; omega
  have b40 : IntKind.i64.wrap (1 + c % 40) = 1 + c % 40 := IntWalk.i64_in _ (by omega)
  have b25 : IntKind.i64.wrap (1 + a % 25) = 1 + a % 25 := IntWalk.i64_in _ (by omega)
  have b4 : IntKind.i64.wrap (1 + b % 4) = 1 + b % 4 := IntWalk.i64_in _ (by omega)
  clear h
  generalize c % 40 = r40 at P40 b40 ⊢
  generalize a % 25 = r25 at P25 b25 ⊢
  generalize b % 4 = rk at PK b4 ⊢
  generalize c % 4 = r4 at P4 h1 h2
  replace P4 := Lib.hid P4
  go_enter Try.func24, Try.ntmps24
  go_wp2_with (first | (go_at_call 35; with_reducible refine (P40.out _).mono ?_; rintro e w9 ⟨rfl, h9⟩; obtain rfl := h9.symm) | (go_at_call 35; with_reducible refine (P4.out _).mono ?_; rintro e w9 ⟨rfl, h9⟩; obtain rfl := h9.symm) | (go_at_call 35; with_reducible refine (P25.out _).mono ?_; rintro e w9 ⟨rfl, h9⟩; obtain rfl := h9.symm) | (go_at_call 19; with_reducible refine (PK.out _).mono ?_; rintro e w9 ⟨rfl, h9⟩; obtain rfl := h9.symm))
  exact bodyPost_ret (v := .tuple #[.int .i64 (1 + r25), .int .i64 (1 + rk), .int .i64 200]) (by simp [results, Try.results24, go_sem]) rfl ⟨rfl, rfl⟩
theorem pwindow_2 (a b c : Int) (w : World) (h : ¬ (c % 4 = 0 ∨ c % 4 = 1)) : Calls Try.prog 24 #[.int .i64 a, .int .i64 b, .int .i64 c] w fun e w' => e = .returned (.tuple #[.int .i64 (1 + a % 25), .int .i64 (1 + b % 4), .int .i64 (mcap c)]) ∧ w' = w := by
  rw [show mcap c = 1 + c % 40 by unfold mcap; rw [if_neg (by omega), if_neg (by omega)]]
  have P40 := Lib.hid (fun w => pmod c 40 (by omega) (by omega) w)
  have P25 := Lib.hid (fun w => pmod a 25 (by omega) (by omega) w)
  have PK := Lib.hid (fun w => pint b 4 (by omega) (by omega) w)
  have P4 := fun w => pmod c 4 (by omega) (by omega) w
  have h1 : (c % 4 == 0) = false := by simp; omega
  have h2 : (c % 4 == 1) = false := by simp; omega
  have b40 : IntKind.i64.wrap (1 + c % 40) = 1 + c % 40 := IntWalk.i64_in _ (by omega)
  have b25 : IntKind.i64.wrap (1 + a % 25) = 1 + a % 25 := IntWalk.i64_in _ (by omega)
  have b4 : IntKind.i64.wrap (1 + b % 4) = 1 + b % 4 := IntWalk.i64_in _ (by omega)
  clear h
  generalize c % 40 = r40 at P40 b40 ⊢
  generalize a % 25 = r25 at P25 b25 ⊢
  generalize b % 4 = rk at PK b4 ⊢
  generalize c % 4 = r4 at P4 h1 h2
  replace P4 := Lib.hid P4
  go_enter Try.func24, Try.ntmps24
  go_wp2_with (first | (go_at_call 35; with_reducible refine (P40.out _).mono ?_; rintro e w9 ⟨rfl, h9⟩; obtain rfl := h9.symm) | (go_at_call 35; with_reducible refine (P4.out _).mono ?_; rintro e w9 ⟨rfl, h9⟩; obtain rfl := h9.symm) | (go_at_call 35; with_reducible refine (P25.out _).mono ?_; rintro e w9 ⟨rfl, h9⟩; obtain rfl := h9.symm) | (go_at_call 19; with_reducible refine (PK.out _).mono ?_; rintro e w9 ⟨rfl, h9⟩; obtain rfl := h9.symm))
  exact bodyPost_ret (v := .tuple #[.int .i64 (1 + r25), .int .i64 (1 + rk), .int .i64 (1 + r40)]) (by simp [results, Try.results24, go_sem]) rfl ⟨rfl, rfl⟩
theorem pwindow (a b c : Int) (w : World) : Calls Try.prog 24 #[.int .i64 a, .int .i64 b, .int .i64 c] w fun e w' => e = .returned (.tuple #[.int .i64 (1 + a % 25), .int .i64 (1 + b % 4), .int .i64 (mcap c)]) ∧ w' = w := by
  by_cases h0 : c % 4 = 0
  · exact pwindow_0 a b c w h0
  · by_cases h1 : c % 4 = 1
    · exact pwindow_1 a b c w h1
    · exact pwindow_2 a b c w (by omega)
theorem liveI_take {now wd : Int} {l : List Itm} {k : Nat} (h : k < l.length) : liveI now wd (l.take (k + 1)) = liveI now wd (l.take k) ++ (if now - wd < (itmAt l k).t ∧ (itmAt l k).t ≤ now then [itmAt l k] else []) := by
  rw [List.take_succ_eq_append_getElem h, itm_eq h]
  unfold liveI
  rw [List.filter_append]
  congr 1
  by_cases c : now - wd < (itmAt l k).t ∧ (itmAt l k).t ≤ now
  · rw [if_pos c, List.filter_cons_of_pos (by simp; omega)]; rfl
  · rw [if_neg c, List.filter_cons_of_neg (by simp; omega)]; rfl
theorem liveI_le {now wd : Int} (l : List Itm) : (liveI now wd l).length ≤ l.length := List.length_filter_le _ _
set_option maxHeartbeats 2000000 in
theorem pliveI (A : Option Addr) (m c : Nat) (l : List Itm) (now wd : Int) (w : World) (hin : Reads w w.heap.size 2 A m (icells l)) (hm : m ≤ 100000) (n0 : 0 ≤ now) (n1 : now ≤ 1099511627776) (d0 : 0 ≤ wd) (d1 : wd ≤ 1099511627776) :
    Calls Try.prog 36 #[.slice A m c, .int .i64 now, .int .i64 wd] w fun e w' => ∃ v, e = .returned v ∧ w'.ownsRow w.heap.size 51 2 v (liveI now wd l).length (icells (liveI now wd l)) ∧ Below w.heap.size w w' := by
  have HR := Lib.hid hin
  have hl := hin.itm_len
  obtain ⟨i1, hi1, iz0, iz1, iz2⟩ := info_parts info_itm
  have wnd : IntKind.i64.wrap (now - wd) = now - wd := IntWalk.i64_in _ (by omega)
  have HL := Lib.hid hl
  clear hin hl n0 n1 d0 d1
  go_enter Try.func36, Try.ntmps36
  go_wp2
  go_loopw [7, 12] (fun v i wr => ∃ k : Nat, k ≤ m ∧ i = .int .i64 (k : Nat) ∧ wr.ownsRow w.heap.size 51 2 v (liveI now wd (l.take k)).length (icells (liveI now wd (l.take k))) ∧ Below w.heap.size w wr) (fun _ i _ => m - (intOf i).toNat)
  case atStart => exact ⟨0, by omega, rfl, by rw [List.take_zero]; exact World.ownsRow_nil _ _ _ _, Below.refl _ _⟩
  case round =>
    obtain ⟨k, hk, rfl, own, hb⟩ := hrel
    by_cases hlt : k < m
    · obtain ⟨ad, rfl, hadb, hi0⟩ := HR.out.itm hlt
      obtain ⟨c0, c1⟩ := hi0.below hb (by rw [block_of_add]; exact hadb)
      have TK := liveI_take (now := now) (wd := wd) (show k < l.length by rw [HL.out]; exact hlt)
      have hq := liveI_le (now := now) (wd := wd) (l.take k)
      rw [List.length_take] at hq
      obtain ⟨q, hqq⟩ : ∃ q, (liveI now wd (l.take k)).length = q := ⟨_, rfl⟩
      rw [hqq] at own hq
      have QQ := Lib.hid hqq
      obtain ⟨tk, htk⟩ : ∃ x, (itmAt l k).t = x := ⟨_, rfl⟩
      obtain ⟨vk, hvk⟩ : ∃ x, (itmAt l k).v = x := ⟨_, rfl⟩
      rw [show itmAt l k = ⟨tk, vk⟩ by rw [← htk, ← hvk]] at TK
      rw [htk] at c0
      rw [hvk] at c1
      dsimp only at TK
      have i2 : (k : Int) < (m : Int) := by omega
      have i4 : (0 : Int) ≤ (k : Int) := by omega
      have zb := hb.size
      clear htk hvk hqq hi0
      have NX : ∀ lv : List Itm, liveI now wd (l.take (k + 1)) = lv → ∀ (x : Value) (wz : World), wz.ownsRow w.heap.size 51 2 x lv.length (icells lv) → wz.ownsRow w.heap.size 51 2 x (liveI now wd (l.take (k + 1))).length (icells (liveI now wd (l.take (k + 1)))) := fun lv e x wz h => by rw [e]; exact h
      by_cases ct : now - wd < tk
      · by_cases cn : tk ≤ now
        · rw [if_pos ⟨ct, cn⟩] at TK
          have TKh := Lib.hid TK
          clear TK
          go_upto_region 6 with (fail)
          have OWN0 := own.alloc (.cells #[.int .i64 tk, .int .i64 vk] 51)
          have T0 : Row (wr.alloc (.cells #[.int .i64 tk, .int .i64 vk] 51)) wr.heap.size 51 #[.int .i64 tk, .int .i64 vk] := row_new rfl
          replace hb := hb.alloc zb (.cells #[.int .i64 tk, .int .i64 vk] 51)
          have hlt0 := own.lt
          generalize wr.alloc (.cells #[.int .i64 tk, .int .i64 vk] 51) = w5 at OWN0 T0 hb ⊢
          generalize wr.heap.size = tb at T0 zb hlt0 ⊢
          obtain ⟨T1, T2, T3, T4⟩ := row_two T0
          have hbl := OWN0.lt
          have OWN := Lib.hid OWN0
          have zb5 := hb.size
          clear own OWN0 T0 c0 c1
          go_wp2_with (at_builtin; refine wpList_push rfl _ _ 39 rfl 51 i1 (.agg #[.int .i64 0, .int .i64 0]) 2 16 Try.underlying39 hi1 iz0 iz1 iz2 rfl (by decide) w.heap.size u7 q (icells (liveI now wd (l.take k))) rfl OWN.out #[.int .i64 tk, .int .i64 vk] rfl rfl (by intro u hu; simp at hu; rcases hu with rfl | rfl <;> rfl) (by unfold maxLen; omega) (by omega) (by omega) ?_; intro g' c4 w8 own8 hg8 hat8 hgr8)
          have L8 : w8.ownsRow w.heap.size 51 2 (.slice (some ⟨g', 0, none⟩) (q + 1) c4) (liveI now wd (l.take k) ++ [(⟨tk, vk⟩ : Itm)]).length (icells (liveI now wd (l.take k) ++ [(⟨tk, vk⟩ : Itm)])) := by
            rw [icells_append, List.length_append, QQ.out]
            exact own8.row hg8
          have L9 : Below w.heap.size w w8 := below_grown (hb.alloc zb5 _) hgr8 (fun b e => (hbl b e).1) (by simp; omega)
          clear own8 hgr8 hat8
          go_roundw
          case rel => exact ⟨k + 1, by omega, by go_num, NX _ TKh.out _ _ L8, L9⟩
          case measure => simp [intOf]; omega
        · rw [if_neg (fun h => cn h.2), List.append_nil] at TK
          have TKh := Lib.hid TK
          clear TK
          have QO := QQ.out
          go_wp2
          go_roundw
          case rel => exact ⟨k + 1, by omega, by go_num, NX _ TKh.out _ _ (by rw [QO]; exact own.alloc _), hb.alloc zb _⟩
          case measure => simp [intOf]; omega
      · rw [if_neg (fun h => ct h.1), List.append_nil] at TK
        have TKh := Lib.hid TK
        clear TK
        have QO := QQ.out
        go_wp2
        go_roundw
        case rel => exact ⟨k + 1, by omega, by go_num, NX _ TKh.out _ _ (by rw [QO]; exact own.alloc _), hb.alloc zb _⟩
        case measure => simp [intOf]; omega
    · have i2 : ¬ (k : Int) < (m : Int) := by omega
      obtain rfl : k = m := by omega
      rw [List.take_of_length_le (by rw [HL.out]; exact Nat.le_refl _)] at own
      go_wp2
      go_ret
      exact ⟨_, rfl, own, hb⟩
theorem rext_nil (A : Option Addr) (c : Nat) (g : Bool) (w : World) : Calls Try.prog 58 #[.slice A 0 c, .bool g] w fun e w' => e = .returned (.tuple #[.int .i64 0, .bool false]) ∧ Below w.heap.size w w' := by
  go_enter Try.func58, Try.ntmps58
  go_wp2
  exact bodyPost_ret (v := .tuple #[.int .i64 0, .bool false]) (by simp [results, Try.results58, go_sem]) rfl ⟨rfl, Below.refl _ _⟩
set_option maxHeartbeats 2000000 in
theorem rmin (A : Option Addr) (m c : Nat) (l : List Itm) (w : World) (hin : Reads w w.heap.size 2 A m (icells l)) (hm : m ≤ 100000) (hm0 : 0 < m) :
    Calls Try.prog 58 #[.slice A m c, .bool false] w fun e w' => ∃ v, e = .returned (.tuple #[.int .i64 v, .bool true]) ∧ IsMin l v ∧ Below w.heap.size w w' := by
  have HL := Lib.hid hin.itm_len
  obtain ⟨ad, rfl, hadb, ht0⟩ := hin.itm hm0
  have HR := Lib.hid hin
  obtain ⟨p0, p1⟩ := ht0
  have IN0 := Lib.hid (show (∃ x ∈ l, x.v = (itmAt l 0).v) from ⟨itmAt l 0, by rw [← itm_eq (by rw [HL.out]; exact hm0)]; exact List.getElem_mem _, rfl⟩)
  generalize (itmAt l 0).v = v0 at p1 IN0
  generalize (itmAt l 0).t = t0 at p0
  have p1' : w.cell? ⟨ad.block, ad.off + 1, none⟩ = some (.int .i64 v0) := p1
  have mz : ((m : Int) == 0) = false := by simp; omega
  have g0 : (0 : Int) < (m : Int) := by omega
  clear hin
  go_enter Try.func58, Try.ntmps58
  go_wp2
  go_loopw [6, 18] (fun x i wr => ∃ (k : Nat) (v : Int), k ≤ m ∧ i = .int .i64 (k : Nat) ∧ x = .int .i64 v ∧ RowKit.Hid ((∃ y ∈ l, y.v = v) ∧ ∀ j, j < k → v ≤ (itmAt l j).v) ∧ Below w.heap.size w wr) (fun _ i _ => m - (intOf i).toNat)
  case atStart => exact ⟨0, v0, by omega, rfl, rfl, Lib.hid ⟨IN0.out, fun j h => absurd h (by omega)⟩, Below.refl _ _⟩
  case round =>
    clear p0 p1 p1' IN0
    obtain ⟨k, v, hk, rfl, rfl, HV, hb⟩ := hrel
    by_cases hlt : k < m
    · obtain ⟨ad', e', hadb', hi0⟩ := HR.out.itm hlt
      obtain rfl := Option.some.inj e'
      obtain ⟨c0, c1⟩ := hi0.below hb (by rw [block_of_add]; exact hadb')
      have MEM : ∃ y ∈ l, y.v = (itmAt l k).v := ⟨itmAt l k, by rw [← itm_eq (by rw [HL.out]; exact hlt)]; exact List.getElem_mem _, rfl⟩
      have NX : ∀ vn, ((∃ y ∈ l, y.v = vn) ∧ (vn ≤ v) ∧ vn ≤ (itmAt l k).v) → RowKit.Hid ((∃ y ∈ l, y.v = vn) ∧ ∀ j, j < k + 1 → vn ≤ (itmAt l j).v) := fun vn h => Lib.hid ⟨h.1, fun j hj => by
        by_cases e : j = k
        · rw [e]; exact h.2.2
        · have := HV.out.2 j (by omega); have := h.2.1; omega⟩
      have HVV := HV.out.1
      generalize (itmAt l k).v = vk at c1 MEM NX
      generalize (itmAt l k).t = tk at c0
      have i2 : (k : Int) < (m : Int) := by omega
      have i4 : (0 : Int) ≤ (k : Int) := by omega
      have zb := hb.size
      clear hi0 e'
      by_cases ct : vk < v
      · have NH := NX vk ⟨MEM, by omega, by omega⟩
        clear NX MEM HVV
        go_wp2
        go_roundw
        case rel => exact ⟨k + 1, vk, by omega, by go_num, rfl, NH, hb.alloc zb _⟩
        case measure => simp [intOf]; omega
      · have NH := NX v ⟨HVV, by omega, by omega⟩
        clear NX MEM HVV
        go_wp2
        go_roundw
        case rel => exact ⟨k + 1, v, by omega, by go_num, rfl, NH, hb.alloc zb _⟩
        case measure => simp [intOf]; omega
    · have i2 : ¬ (k : Int) < (m : Int) := by omega
      obtain rfl : k = m := by omega
      have FIN : IsMin l v := ⟨HV.out.1, fun y hy => by
        obtain ⟨j, hj, e⟩ := List.getElem_of_mem hy
        have := HV.out.2 j (by rw [← HL.out]; exact hj)
        rw [← itm_eq hj, e] at this
        exact this⟩
      go_wp2
      exact bodyPost_ret (v := .tuple #[.int .i64 v, .bool true]) (by simp [results, Try.results58, go_sem]) rfl ⟨v, rfl, FIN, hb⟩
set_option maxHeartbeats 2000000 in
theorem rmax (A : Option Addr) (m c : Nat) (l : List Itm) (w : World) (hin : Reads w w.heap.size 2 A m (icells l)) (hm : m ≤ 100000) (hm0 : 0 < m) :
    Calls Try.prog 58 #[.slice A m c, .bool true] w fun e w' => ∃ v, e = .returned (.tuple #[.int .i64 v, .bool true]) ∧ IsMax l v ∧ Below w.heap.size w w' := by
  have HL := Lib.hid hin.itm_len
  obtain ⟨ad, rfl, hadb, ht0⟩ := hin.itm hm0
  have HR := Lib.hid hin
  obtain ⟨p0, p1⟩ := ht0
  have IN0 := Lib.hid (show (∃ x ∈ l, x.v = (itmAt l 0).v) from ⟨itmAt l 0, by rw [← itm_eq (by rw [HL.out]; exact hm0)]; exact List.getElem_mem _, rfl⟩)
  generalize (itmAt l 0).v = v0 at p1 IN0
  generalize (itmAt l 0).t = t0 at p0
  have p1' : w.cell? ⟨ad.block, ad.off + 1, none⟩ = some (.int .i64 v0) := p1
  have mz : ((m : Int) == 0) = false := by simp; omega
  have g0 : (0 : Int) < (m : Int) := by omega
  clear hin
  go_enter Try.func58, Try.ntmps58
  go_wp2
  go_loopw [6, 18] (fun x i wr => ∃ (k : Nat) (v : Int), k ≤ m ∧ i = .int .i64 (k : Nat) ∧ x = .int .i64 v ∧ RowKit.Hid ((∃ y ∈ l, y.v = v) ∧ ∀ j, j < k → (itmAt l j).v ≤ v) ∧ Below w.heap.size w wr) (fun _ i _ => m - (intOf i).toNat)
  case atStart => exact ⟨0, v0, by omega, rfl, rfl, Lib.hid ⟨IN0.out, fun j h => absurd h (by omega)⟩, Below.refl _ _⟩
  case round =>
    clear p0 p1 p1' IN0
    obtain ⟨k, v, hk, rfl, rfl, HV, hb⟩ := hrel
    by_cases hlt : k < m
    · obtain ⟨ad', e', hadb', hi0⟩ := HR.out.itm hlt
      obtain rfl := Option.some.inj e'
      obtain ⟨c0, c1⟩ := hi0.below hb (by rw [block_of_add]; exact hadb')
      have MEM : ∃ y ∈ l, y.v = (itmAt l k).v := ⟨itmAt l k, by rw [← itm_eq (by rw [HL.out]; exact hlt)]; exact List.getElem_mem _, rfl⟩
      have NX : ∀ vn, ((∃ y ∈ l, y.v = vn) ∧ (v ≤ vn) ∧ (itmAt l k).v ≤ vn) → RowKit.Hid ((∃ y ∈ l, y.v = vn) ∧ ∀ j, j < k + 1 → (itmAt l j).v ≤ vn) := fun vn h => Lib.hid ⟨h.1, fun j hj => by
        by_cases e : j = k
        · rw [e]; exact h.2.2
        · have := HV.out.2 j (by omega); have := h.2.1; omega⟩
      have HVV := HV.out.1
      generalize (itmAt l k).v = vk at c1 MEM NX
      generalize (itmAt l k).t = tk at c0
      have i2 : (k : Int) < (m : Int) := by omega
      have i4 : (0 : Int) ≤ (k : Int) := by omega
      have zb := hb.size
      clear hi0 e'
      by_cases ct : v < vk
      · have NH := NX vk ⟨MEM, by omega, by omega⟩
        clear NX MEM HVV
        go_wp2
        go_roundw
        case rel => exact ⟨k + 1, vk, by omega, by go_num, rfl, NH, hb.alloc zb _⟩
        case measure => simp [intOf]; omega
      · have NH := NX v ⟨HVV, by omega, by omega⟩
        clear NX MEM HVV
        go_wp2
        go_roundw
        case rel => exact ⟨k + 1, v, by omega, by go_num, rfl, NH, hb.alloc zb _⟩
        case measure => simp [intOf]; omega
    · have i2 : ¬ (k : Int) < (m : Int) := by omega
      obtain rfl : k = m := by omega
      have FIN : IsMax l v := ⟨HV.out.1, fun y hy => by
        obtain ⟨j, hj, e⟩ := List.getElem_of_mem hy
        have := HV.out.2 j (by rw [← HL.out]; exact hj)
        rw [← itm_eq hj, e] at this
        exact this⟩
      go_wp2
      exact bodyPost_ret (v := .tuple #[.int .i64 v, .bool true]) (by simp [results, Try.results58, go_sem]) rfl ⟨v, rfl, FIN, hb⟩
theorem isum_bd : ∀ l : List Itm, (∀ x ∈ l, -4096 ≤ x.v ∧ x.v ≤ 4096) → -4096 * (l.length : Int) ≤ isum l ∧ isum l ≤ 4096 * (l.length : Int)
  | [], _ => by simp [isum]
  | x :: l, h => by
    have h1 := isum_bd l (fun y hy => h y (by simp [hy]))
    have h2 := h x (by simp)
    rw [isum, List.length_cons]
    omega
theorem isq_bd : ∀ l : List Itm, (∀ x ∈ l, -4096 ≤ x.v ∧ x.v ≤ 4096) → 0 ≤ isq l ∧ isq l ≤ 16777216 * (l.length : Int)
  | [], _ => by simp [isq]
  | x :: l, h => by
    have h1 := isq_bd l (fun y hy => h y (by simp [hy]))
    have h2 := h x (by simp)
    have h3 := vv_small h2.1 h2.2
    rw [isq, List.length_cons]
    omega
theorem isum_take {l : List Itm} {k : Nat} (h : k < l.length) : isum (l.take (k + 1)) = isum (l.take k) + (itmAt l k).v := by
  rw [List.take_succ_eq_append_getElem h, itm_eq h, isum_append]
  simp [isum]
theorem isq_take {l : List Itm} {k : Nat} (h : k < l.length) : isq (l.take (k + 1)) = isq (l.take k) + (itmAt l k).v * (itmAt l k).v := by
  rw [List.take_succ_eq_append_getElem h, itm_eq h, isq_append]
  simp [isq]
/-- What the loop of 'truth' adds up. -/
def tsum (agg : Int) (l : List Itm) : Int := if agg = 1 then l.length else if agg = 2 then isum l else if agg = 3 then isq l else 0
/-- What an item adds. -/
def tone (agg v : Int) : Int := if agg = 1 then 1 else if agg = 2 then v else if agg = 3 then v * v else 0
theorem tsum_take {agg : Int} {l : List Itm} {k : Nat} (h : k < l.length) : tsum agg (l.take (k + 1)) = tsum agg (l.take k) + tone agg (itmAt l k).v := by
  unfold tsum tone
  split
  · rw [List.length_take, List.length_take]; omega
  · split
    · exact isum_take h
    · split
      · exact isq_take h
      · rfl
theorem tsum_bd {agg : Int} {l : List Itm} (h : ∀ x ∈ l, -4096 ≤ x.v ∧ x.v ≤ 4096) : -16777216 * (l.length : Int) ≤ tsum agg l ∧ tsum agg l ≤ 16777216 * (l.length : Int) := by
  have h1 := isum_bd l h
  have h2 := isq_bd l h
  unfold tsum
  split
  · omega
  · split
    · omega
    · split <;> omega
end Go.Proofs.Ytaiepjcnncajcaa
