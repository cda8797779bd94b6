/- What the law TopTwoWays needs, joined of its texts by a program (slim.py); part 4. -/
import Derived.Test.YtdipoojjlddohaaGreatZTopTwoWays3
section
/- Smooth histograms: the example of the chapter, walked. -/
set_option linter.unusedVariables false
set_option linter.unusedSimpArgs false
set_option linter.unusedSectionVars false
set_option linter.unnecessarySimpa false
namespace Go.Proofs.YtdipoojjlddohaaGreat
open Go.RowKit
/-- The marks of the example behind so many values. -/
def exL : Nat → List Mk
  | 0 => []
  | 1 => [⟨1, 0, 1, 1, 1, 1, 1⟩]
  | 2 => [⟨1, 0, 2, 2, 2, 1, 1⟩, ⟨2, 0, 1, 1, 1, 1, 1⟩]
  | 3 => [⟨1, 0, 3, 3, 3, 1, 1⟩, ⟨2, 0, 2, 2, 2, 1, 1⟩, ⟨3, 0, 1, 1, 1, 1, 1⟩]
  | _ => [⟨1, 0, 4, 4, 4, 1, 1⟩, ⟨3, 0, 2, 2, 2, 1, 1⟩, ⟨4, 0, 1, 1, 1, 1, 1⟩]
end Go.Proofs.YtdipoojjlddohaaGreat
end
section
/- Smooth histograms: the law of valid states, walked. -/
set_option linter.unusedVariables false
set_option linter.unusedSimpArgs false
set_option linter.unusedSectionVars false
set_option linter.unnecessarySimpa false
namespace Go.Proofs.YtdipoojjlddohaaGreat
open Go.RowKit
end Go.Proofs.YtdipoojjlddohaaGreat
end
section
/- Marks of smooth histograms: marks that a later tick makes superfluous, walked. -/
set_option linter.unusedVariables false
set_option linter.unusedSimpArgs false
set_option linter.unusedSectionVars false
set_option linter.unnecessarySimpa false
namespace Go.Proofs.YtdipoojjlddohaaGreat
open Go.RowKit
/-- What a call leaves that answers the marks that stay: its argument's rear part, or marks of its own. -/
def MDrop (A0 : Option Addr) (l : List Mk) (w : World) (e : Ending) (w' : World) : Prop := ∃ (A : Option Addr) (m c : Nat), e = .returned (.slice A m c) ∧ MIn A m c l w' ∧ Below w.heap.size w w' ∧ ∀ a, A = some a → (w.heap.size ≤ a.block ∧ a.block < w'.heap.size) ∨ ∃ b, A0 = some b ∧ a.block = b.block
def lenV : Value → Nat
  | .slice _ n _ => n
  | _ => 0
theorem MIn.tail {ad : Addr} {m c : Nat} {a : Mk} {l : List Mk} {w : World} (h : MIn (some ad) m c (a :: l) w) : MIn (some ⟨ad.block, ad.off + 7, none⟩) (m - 1) (c - 1) l w := by
  rw [← mk_lit ad 7 (by decide)]
  have hl := h.len
  simp at hl
  refine ⟨⟨by have := h.reads.1; rw [mcells_cons] at this; simp at this; omega, fun hn => ?_⟩, fun i => h.mB (i + 1), by have := h.mc; omega, by have := h.cB; omega⟩
  obtain ⟨ad', e', hb, hc⟩ := h.reads.2 (by omega)
  obtain rfl : ad = ad' := by injection e'
  refine ⟨_, rfl, by rw [block_of_add]; exact hb, fun j u hu => ?_⟩
  rw [add_of_add]
  exact hc (7 + j) u (by rw [mcells_cons, show 7 + j = j + 1 + 1 + 1 + 1 + 1 + 1 + 1 by omega]; simpa using hu)
theorem MIn.zero {w : World} : MIn none 0 0 [] w := ⟨by simpa [mcells_nil] using Reads.none_, fun i => by unfold mkAt; simp; exact M64_zero, Nat.le_refl _, Nat.zero_le _⟩
theorem MIn.maxL {A : Option Addr} {m c : Nat} {l : List Mk} {w : World} (h : MIn A m c l w) : m ≤ maxLen := Nat.le_trans h.mc h.cB
theorem MIn.of_own {g m c : Nat} {l : List Mk} {w : World} (h : Own w 228 7 g m c (mcells l)) (hB : ∀ i, M64 (mkAt l i)) : MIn (some ⟨g, 0, none⟩) m c l w := ⟨h.reads, hB, h.cap.1, h.cap.2⟩
set_option maxHeartbeats 2000000 in
theorem pmdrop (A : Option Addr) (m c : Nat) (l : List Mk) (now wd : Int) (w : World) (hin : MIn A m c l w) (hmm : m ≤ 1000000) (n0 : 0 ≤ now) (n1 : now ≤ 16777216) (d0 : 1 ≤ wd) (d1 : wd ≤ 1048576) (hT : ∀ x ∈ l, 0 ≤ x.t ∧ x.t ≤ now) :
    Calls Tryz.prog 161 #[.slice A m c, .int .i64 now, .int .i64 wd] w fun e w' => MDrop A (dropM now wd l) w e w' := by
  have HT := Lib.hid hT
  clear hT
  obtain ⟨i0, hi0, iz0, iz1, iz2⟩ := info_parts info_mk
  go_enter Tryz.func161, Tryz.ntmps161
  go_wp2
  go_loopw [0] (fun s wr => ∃ (A' : Option Addr) (m' c' : Nat) (l' : List Mk), s = .slice A' m' c' ∧ MIn A' m' c' l' w ∧ m' ≤ m ∧ RowKit.Hid (dropM now wd l' = dropM now wd l ∧ (∀ x ∈ l', x ∈ l) ∧ ∀ a, A' = some a → ∃ b, A = some b ∧ a.block = b.block) ∧ w = wr) (fun s _ => lenV s)
  case atStart => exact ⟨A, m, c, l, rfl, hin, Nat.le_refl _, Lib.hid ⟨rfl, fun x h => h, fun a e => ⟨a, e, rfl⟩⟩, rfl⟩
  case round =>
    clear hin
    obtain ⟨A', m', c', l', rfl, hin', hm', HD, rfl⟩ := hrel
    have HI := Lib.hid hin'
    have HL := Lib.hid hin'.len
    have hcm := hin'.mc
    by_cases g2 : 2 ≤ m'
    · obtain ⟨ad, rfl, hadb, ht1⟩ := hin'.reads.mk (i := 1) (by omega)
      obtain ⟨a, b, r, rfl⟩ : ∃ a b r, l' = a :: b :: r := by
        have := hin'.len
        match l', this with
        | a :: b :: r, _ => exact ⟨a, b, r, rfl⟩
        | [], h => simp at h; omega
        | [a], h => simp at h; omega
      have q1 : w.cell? ⟨ad.block, ad.off + 7 + 1, none⟩ = some (.int .i64 b.t) := by
        have h := ht1.2.1
        rw [show ad.add (1 * 7) = ⟨ad.block, ad.off + 7, none⟩ from mk_lit ad 7 (by decide)] at h
        exact h
      have htb := HT.out b (HD.out.2.1 b (by simp))
      have PL := fun w => plive now wd b.t w n0 n1 d0 d1 htb.1 htb.2
      obtain ⟨tb, hb⟩ : ∃ x, x = b.t := ⟨_, rfl⟩
      rw [← hb] at q1 PL
      have HB := Lib.hid hb
      clear hb htb ht1 hin'
      have i1 : (1 : Int) < (m' : Int) := by omega
      have i3 : (1 : Int) ≤ (m' : Int) := by omega
      have i4 : (1 : Int) ≤ (c' : Int) := by omega
      have i5 : (m' : Int) ≤ (c' : Int) := by omega
      have i2 : ((m' : Int) == 1) = false := by simp; omega
      by_cases lv : now - wd < tb
      · rw [decide_eq_true lv] at PL
        replace PL := Lib.hid PL
        have HDr : RowKit.Hid (dropM now wd (a :: b :: r) = a :: b :: r) := Lib.hid (by rw [dropM_two, if_pos (by rw [← HB.out]; exact lv)])
        clear lv
        go_wp2_with (first | (go_at_call 137; with_reducible refine (PL.out _).mono ?_; rintro e w9 ⟨rfl, h9⟩; obtain rfl := h9.symm) | (at_builtin; refine wpList_clone rfl _ _ 35 rfl 228 i0 (.agg #[.int .i64 0, .int .i64 0, .int .i64 0, .int .i64 0, .int .i64 0, .int .i64 0, .int .i64 0]) 7 56 Tryz.underlying35 hi0 iz0 iz1 iz2 rfl (by decide) rfl w.heap.size (some ad) m' c' (mcells (a :: b :: r)) rfl HI.out.reads (Nat.le_refl _) (mcells_one _) HI.out.maxL (by omega) ?_; intro g c2 w2 own2 hg2 hb2 hz2))
        go_ret
        exact ⟨_, _, _, rfl, by rw [← HD.out.1, HDr.out]; exact MIn.of_own own2 HI.out.mB, hb2, fun a e => .inl (by cases e; exact ⟨hg2, own2.lt⟩)⟩
      · rw [decide_eq_false lv] at PL
        replace PL := Lib.hid PL
        have HDr : RowKit.Hid (dropM now wd (a :: b :: r) = dropM now wd (b :: r)) := Lib.hid (by rw [dropM_two, if_neg (by rw [← HB.out]; exact lv)])
        clear lv
        go_wp2_with (go_at_call 137; with_reducible refine (PL.out _).mono ?_; rintro e w9 ⟨rfl, h9⟩; obtain rfl := h9.symm)
        go_roundw
        case rel => exact ⟨_, m' - 1, c' - 1, b :: r, rfl, HI.out.tail, by omega, Lib.hid ⟨HDr.out ▸ HD.out.1, fun x hx => HD.out.2.1 x (by simp [hx]), fun x e => by cases e; exact HD.out.2.2 ad rfl⟩, by trivial⟩
        case measure => simp [lenV]; omega
    · by_cases g1 : m' = 1
      · subst g1
        obtain ⟨ad, rfl, hadb, ht0⟩ := hin'.reads.mk (i := 0) (by omega)
        obtain ⟨a, rfl⟩ : ∃ a, l' = [a] := by
          have := hin'.len
          match l', this with
          | [a], _ => exact ⟨a, rfl⟩
          | [], h => exact absurd h (by simp)
          | a :: b :: r, h => exact absurd h (by simp)
        have q1 : w.cell? ⟨ad.block, ad.off + 1, none⟩ = some (.int .i64 a.t) := ht0.2.1
        have hta := HT.out a (HD.out.2.1 a (by simp))
        have PL := fun w => plive now wd a.t w n0 n1 d0 d1 hta.1 hta.2
        obtain ⟨ta, hb⟩ : ∃ x, x = a.t := ⟨_, rfl⟩
        rw [← hb] at q1 PL
        have HB := Lib.hid hb
        clear hb hta ht0 hin'
        clear g2
        by_cases lv : now - wd < ta
        · rw [decide_eq_true lv] at PL
          replace PL := Lib.hid PL
          have HDr : RowKit.Hid (dropM now wd [a] = [a]) := Lib.hid (by rw [dropM_one, if_pos (by rw [← HB.out]; exact lv)])
          clear lv
          go_wp2_with (first | (go_at_call 137; with_reducible refine (PL.out _).mono ?_; rintro e w9 ⟨rfl, h9⟩; obtain rfl := h9.symm) | (at_builtin; refine wpList_clone rfl _ _ 35 rfl 228 i0 (.agg #[.int .i64 0, .int .i64 0, .int .i64 0, .int .i64 0, .int .i64 0, .int .i64 0, .int .i64 0]) 7 56 Tryz.underlying35 hi0 iz0 iz1 iz2 rfl (by decide) rfl w.heap.size (some ad) 1 c' (mcells [a]) rfl HI.out.reads (Nat.le_refl _) (mcells_one _) HI.out.maxL (by omega) ?_; intro g c2 w2 own2 hg2 hb2 hz2))
          go_ret
          exact ⟨_, _, _, rfl, by rw [← HD.out.1, HDr.out]; exact MIn.of_own own2 HI.out.mB, hb2, fun a e => .inl (by cases e; exact ⟨hg2, own2.lt⟩)⟩
        · rw [decide_eq_false lv] at PL
          replace PL := Lib.hid PL
          have HDr : RowKit.Hid (dropM now wd [a] = []) := Lib.hid (by rw [dropM_one, if_neg (by rw [← HB.out]; exact lv)])
          clear lv
          go_wp2_with (go_at_call 137; with_reducible refine (PL.out _).mono ?_; rintro e w9 ⟨rfl, h9⟩; obtain rfl := h9.symm)
          go_ret
          exact ⟨_, _, _, rfl, by rw [← HD.out.1, HDr.out]; exact MIn.zero, Below.refl _ _, fun a e => by cases e⟩
      · have i1 : ¬ (1 : Int) < (m' : Int) := by omega
        have i2 : ((m' : Int) == 1) = false := by simp; omega
        obtain rfl : l' = [] := by
          have := hin'.len
          match l', this with
          | [], _ => rfl
          | a :: r, h => simp at h; omega
        have HDr : RowKit.Hid (dropM now wd [] = []) := Lib.hid (dropM_nil _ _)
        clear hin' g1 g2
        go_wp2_with (first | (at_builtin; refine wpList_clone rfl _ _ 35 rfl 228 i0 (.agg #[.int .i64 0, .int .i64 0, .int .i64 0, .int .i64 0, .int .i64 0, .int .i64 0, .int .i64 0]) 7 56 Tryz.underlying35 hi0 iz0 iz1 iz2 rfl (by decide) rfl w.heap.size A' m' c' (mcells []) rfl HI.out.reads (Nat.le_refl _) (mcells_one _) HI.out.maxL (by omega) ?_; intro g c2 w2 own2 hg2 hb2 hz2))
        go_ret
        exact ⟨_, _, _, rfl, by rw [← HD.out.1, HDr.out]; exact MIn.of_own own2 HI.out.mB, hb2, fun a e => .inl (by cases e; exact ⟨hg2, own2.lt⟩)⟩
end Go.Proofs.YtdipoojjlddohaaGreat
end
section
/- Smooth histograms: the clock moved on, walked. -/
set_option linter.unusedVariables false
set_option linter.unusedSimpArgs false
set_option linter.unusedSectionVars false
set_option linter.unnecessarySimpa false
namespace Go.Proofs.YtdipoojjlddohaaGreat
open Go.RowKit
theorem MIn.blk {A : Option Addr} {m c : Nat} {l : List Mk} {w : World} (h : MIn A m c l w) (hm : 0 < m) (a : Addr) (e : A = some a) : a.block < w.heap.size := by
  obtain ⟨ad, e', hb, _⟩ := h.reads.2 hm
  rw [e'] at e
  cases e
  exact hb
theorem MIn.keep0 {A : Option Addr} {m c : Nat} {l : List Mk} {w w' : World} (h : MIn A m c l w) (hs : w.heap.size ≤ w'.heap.size) (hk : 0 < m → ∀ a, A = some a → w'.heap[a.block]? = w.heap[a.block]?) : MIn A m c l w' := by
  refine ⟨⟨h.reads.1, fun hn => ?_⟩, h.mB, h.mc, h.cB⟩
  obtain ⟨ad, e, hb, hc⟩ := h.reads.2 hn
  exact ⟨ad, e, Nat.lt_of_lt_of_le hb hs, fun j u hu => (World.cell?_of_block (by rw [block_of_add]; exact hk hn ad e)).trans (hc j u hu)⟩
theorem pclk_yes (now tt : Int) (w : World) (n0 : 0 ≤ now) (n1 : now ≤ 16777216) (h1 : now ≤ tt) (h2 : tt ≤ 16777216) : Calls Tryz.prog 157 #[.int .i64 now, .int .i64 tt] w fun e w' => e = .returned (.tuple #[.int .i64 tt, .int .i64 0]) ∧ w' = w := by
  have PT := Lib.hid (fun w => ptick_2 now w n0 n1)
  clear n0 n1
  go_enter Tryz.func157, Tryz.ntmps157
  go_wp2_with (go_at_call 230; with_reducible refine (PT.out _).mono ?_; rintro e w9 ⟨rfl, h9⟩; obtain rfl := h9.symm)
  go_ret2
  exact ⟨rfl, rfl⟩
theorem pclk_no1 (now tt : Int) (w : World) (n0 : 0 ≤ now) (n1 : now ≤ 16777216) (h1 : tt < now) : Calls Tryz.prog 157 #[.int .i64 now, .int .i64 tt] w fun e w' => e = .returned (.tuple #[.int .i64 0, .int .i64 3]) ∧ w' = w := by
  have PT := Lib.hid (fun w => ptick_2 now w n0 n1)
  clear n0 n1
  go_enter Tryz.func157, Tryz.ntmps157
  go_wp2_with (go_at_call 230; with_reducible refine (PT.out _).mono ?_; rintro e w9 ⟨rfl, h9⟩; obtain rfl := h9.symm)
  go_ret2
  exact ⟨rfl, rfl⟩
theorem pclk_no2 (now tt : Int) (w : World) (n0 : 0 ≤ now) (n1 : now ≤ 16777216) (h0 : now ≤ tt) (h1 : 16777216 < tt) : Calls Tryz.prog 157 #[.int .i64 now, .int .i64 tt] w fun e w' => e = .returned (.tuple #[.int .i64 0, .int .i64 3]) ∧ w' = w := by
  have PT := Lib.hid (fun w => ptick_2 now w n0 n1)
  clear n0 n1
  go_enter Tryz.func157, Tryz.ntmps157
  go_wp2_with (go_at_call 230; with_reducible refine (PT.out _).mono ?_; rintro e w9 ⟨rfl, h9⟩; obtain rfl := h9.symm)
  go_ret2
  exact ⟨rfl, rfl⟩
theorem pclk (now tt : Int) (w : World) (n0 : 0 ≤ now) (n1 : now ≤ 16777216) : Calls Tryz.prog 157 #[.int .i64 now, .int .i64 tt] w fun e w' => e = .returned (.tuple #[.int .i64 (if tt < now ∨ 16777216 < tt then 0 else tt), .int .i64 (if tt < now ∨ 16777216 < tt then 3 else 0)]) ∧ w' = w := by
  by_cases h1 : tt < now
  · rw [if_pos (.inl h1), if_pos (.inl h1)]
    exact pclk_no1 now tt w n0 n1 h1
  · by_cases h2 : 16777216 < tt
    · rw [if_pos (.inr h2), if_pos (.inr h2)]
      exact pclk_no2 now tt w n0 n1 (by omega) h2
    · rw [if_neg (by omega), if_neg (by omega)]
      exact pclk_yes now tt w n0 n1 (by omega) (by omega)
theorem smTick_a {agg wd k cap now seq tt : Int} {l : List Mk} (h : smvalE agg wd k cap now seq l = 2) : smTick agg wd k cap now seq l tt = smZero 2 := by
  unfold smTick
  rw [if_neg (by omega)]
theorem smTick_b {agg wd k cap now seq tt : Int} {l : List Mk} (h : smvalE agg wd k cap now seq l = 0) (h1 : tt < now ∨ 16777216 < tt) : smTick agg wd k cap now seq l tt = smZero 3 := by
  unfold smTick
  rw [if_pos h, if_pos h1]
theorem smTick_c {agg wd k cap now seq tt : Int} {l : List Mk} (h : smvalE agg wd k cap now seq l = 0) (h1 : ¬ (tt < now ∨ 16777216 < tt)) : smTick agg wd k cap now seq l tt = ⟨agg, wd, k, cap, tt, seq, dropM tt wd l, 0⟩ := by
  unfold smTick
  rw [if_pos h, if_neg h1]
set_option maxRecDepth 100000 in
theorem psmtick_a (A : Option Addr) (m c : Nat) (l : List Mk) (agg wd k cap now seq : Int) (tt : Int) (w : World) (hin : MIn A m c l w) (sB : I64 seq) (hv : smvalE agg wd k cap now seq l = 2) : Calls Tryz.prog 67 #[.agg #[.int .i64 agg, .int .i64 wd, .int .i64 k, .int .i64 cap, .int .i64 now, .int .i64 seq, .slice A m c], .int .i64 tt] w fun e w' => SmRet A (smTick agg wd k cap now seq l tt) w e w' := by
  rw [smTick_a hv]
  have P := fun w' (hb : Below w.heap.size w w') => pvalS A m c l agg wd k cap now seq w' (hin.below hb) sB
  rw [hv] at P
  replace P := Lib.hid P
  clear hv hin sB
  go_enter Tryz.func67, Tryz.ntmps67
  go_wp2_with (first | (go_at_call 136; with_reducible refine (P.out _ (by (repeat (first | exact Below.refl _ _ | refine Below.setCell ?_ (by first | (simp; done) | (simp; omega) | omega) _ | refine Below.alloc ?_ (by first | (simp; done) | (simp; omega) | omega) _ | refine Below.drew ?_ | refine Below.trans ?_ (Below.mono (by assumption) (by first | (simp; done) | (simp; omega) | omega)))))).mono ?_; rintro e w1 ⟨rfl, hb1⟩; have hz1 := hb1.size; (try simp at hz1); have o1 : Below w.heap.size w w1 := (by (repeat (first | exact Below.refl _ _ | refine Below.setCell ?_ (by first | (simp; done) | (simp; omega) | omega) _ | refine Below.alloc ?_ (by first | (simp; done) | (simp; omega) | omega) _ | refine Below.drew ?_ | refine Below.trans ?_ (Below.mono (by assumption) (by first | (simp; done) | (simp; omega) | omega))))); have q1_0 : w.heap.size < w1.heap.size := (by omega); have r1_0 : Row w1 (w.heap.size) 37 #[.int .i64 agg, .int .i64 wd, .int .i64 k, .int .i64 cap, .int .i64 now, .int .i64 seq, .slice A m c] := row_call (by (repeat (first | assumption | (refine row_new ?_; (first | (simp; done) | omega)) | refine row_alloc ?_ _ | refine row_drew ?_ | refine row_call ?_ (by assumption)))) hb1; obtain ⟨c1_0a, c1_0b, c1_0c, c1_0d, c1_0e, c1_0f, c1_0g, f1_0a, f1_0b, f1_0c, f1_0d, f1_0e, f1_0f, f1_0g⟩ := row_seven r1_0; have q1_1 : w.heap.size + 1 < w1.heap.size := (by omega); have r1_1 : Row w1 (w.heap.size + 1) 37 #[.int .i64 0, .int .i64 0, .int .i64 0, .int .i64 0, .int .i64 0, .int .i64 0, .slice none 0 0] := row_call (by (repeat (first | assumption | (refine row_new ?_; (first | (simp; done) | omega)) | refine row_alloc ?_ _ | refine row_drew ?_ | refine row_call ?_ (by assumption)))) hb1; obtain ⟨c1_1a, c1_1b, c1_1c, c1_1d, c1_1e, c1_1f, c1_1g, f1_1a, f1_1b, f1_1c, f1_1d, f1_1e, f1_1f, f1_1g⟩ := row_seven r1_1))
  have hbge : w.heap.size ≤ w.heap.size + 1 := by omega
  have R9 : Row (((((((w1.setCell ⟨w.heap.size + 1, 0, none⟩ (.int .i64 0)).setCell ⟨w.heap.size + 1, 1, none⟩ (.int .i64 0)).setCell ⟨w.heap.size + 1, 2, none⟩ (.int .i64 0)).setCell ⟨w.heap.size + 1, 3, none⟩ (.int .i64 0)).setCell ⟨w.heap.size + 1, 4, none⟩ (.int .i64 0)).setCell ⟨w.heap.size + 1, 5, none⟩ (.int .i64 0)).setCell ⟨w.heap.size + 1, 6, none⟩ (.slice none 0 0)) (w.heap.size + 1) 37 #[.int .i64 0, .int .i64 0, .int .i64 0, .int .i64 0, .int .i64 0, .int .i64 0, .slice none 0 0] := (row_set (row_set (row_set (row_set (row_set (row_set (row_set r1_1 0 (.int .i64 0)) 1 (.int .i64 0)) 2 (.int .i64 0)) 3 (.int .i64 0)) 4 (.int .i64 0)) 5 (.int .i64 0)) 6 (.slice none 0 0))
  have o9 : Below w.heap.size w (((((((w1.setCell ⟨w.heap.size + 1, 0, none⟩ (.int .i64 0)).setCell ⟨w.heap.size + 1, 1, none⟩ (.int .i64 0)).setCell ⟨w.heap.size + 1, 2, none⟩ (.int .i64 0)).setCell ⟨w.heap.size + 1, 3, none⟩ (.int .i64 0)).setCell ⟨w.heap.size + 1, 4, none⟩ (.int .i64 0)).setCell ⟨w.heap.size + 1, 5, none⟩ (.int .i64 0)).setCell ⟨w.heap.size + 1, 6, none⟩ (.slice none 0 0)) := (Below.setCell (p := ⟨w.heap.size + 1, 6, none⟩) (Below.setCell (p := ⟨w.heap.size + 1, 5, none⟩) (Below.setCell (p := ⟨w.heap.size + 1, 4, none⟩) (Below.setCell (p := ⟨w.heap.size + 1, 3, none⟩) (Below.setCell (p := ⟨w.heap.size + 1, 2, none⟩) (Below.setCell (p := ⟨w.heap.size + 1, 1, none⟩) (Below.setCell (p := ⟨w.heap.size + 1, 0, none⟩) o1 hbge (.int .i64 0)) hbge (.int .i64 0)) hbge (.int .i64 0)) hbge (.int .i64 0)) hbge (.int .i64 0)) hbge (.int .i64 0)) hbge (.slice none 0 0))
  generalize (((((((w1.setCell ⟨w.heap.size + 1, 0, none⟩ (.int .i64 0)).setCell ⟨w.heap.size + 1, 1, none⟩ (.int .i64 0)).setCell ⟨w.heap.size + 1, 2, none⟩ (.int .i64 0)).setCell ⟨w.heap.size + 1, 3, none⟩ (.int .i64 0)).setCell ⟨w.heap.size + 1, 4, none⟩ (.int .i64 0)).setCell ⟨w.heap.size + 1, 5, none⟩ (.int .i64 0)).setCell ⟨w.heap.size + 1, 6, none⟩ (.slice none 0 0)) = w9 at R9 o9 ⊢
  obtain ⟨N0, N1, N2, N3, N4, N5, N6, Nf0, Nf1, Nf2, Nf3, Nf4, Nf5, Nf6⟩ := row_seven R9
  exact bodyPost_ret (v := .tuple #[.agg #[.int .i64 0, .int .i64 0, .int .i64 0, .int .i64 0, .int .i64 0, .int .i64 0, .slice none 0 0], .int .i64 2]) (by simp [results, Tryz.results67, go_sem, List.getElem?_toArray, N0, N1, N2, N3, N4, N5, N6]) rfl (smret_zero o9)
set_option maxRecDepth 100000 in
theorem psmtick_b (A : Option Addr) (m c : Nat) (l : List Mk) (agg wd k cap now seq : Int) (tt : Int) (w : World) (hin : MIn A m c l w) (sB : I64 seq) (hv : smvalE agg wd k cap now seq l = 0) (hto : tt < now ∨ 16777216 < tt) : Calls Tryz.prog 67 #[.agg #[.int .i64 agg, .int .i64 wd, .int .i64 k, .int .i64 cap, .int .i64 now, .int .i64 seq, .slice A m c], .int .i64 tt] w fun e w' => SmRet A (smTick agg wd k cap now seq l tt) w e w' := by
  rw [smTick_b hv hto]
  obtain ⟨⟨_, _, _, _, _, _, _, n0, n1⟩, _, _⟩ := of_smvalE hv
  have PC := fun w => pclk now tt w n0 n1
  simp only [if_pos hto] at PC
  replace PC := Lib.hid PC
  have P := fun w' (hb : Below w.heap.size w w') => pvalS A m c l agg wd k cap now seq w' (hin.below hb) sB
  rw [hv] at P
  replace P := Lib.hid P
  clear hv hin sB hto n0 n1
  go_enter Tryz.func67, Tryz.ntmps67
  go_wp2_with (first | (go_at_call 136; with_reducible refine (P.out _ (by (repeat (first | exact Below.refl _ _ | refine Below.setCell ?_ (by first | (simp; done) | (simp; omega) | omega) _ | refine Below.alloc ?_ (by first | (simp; done) | (simp; omega) | omega) _ | refine Below.drew ?_ | refine Below.trans ?_ (Below.mono (by assumption) (by first | (simp; done) | (simp; omega) | omega)))))).mono ?_; rintro e w1 ⟨rfl, hb1⟩; have hz1 := hb1.size; (try simp at hz1); have o1 : Below w.heap.size w w1 := (by (repeat (first | exact Below.refl _ _ | refine Below.setCell ?_ (by first | (simp; done) | (simp; omega) | omega) _ | refine Below.alloc ?_ (by first | (simp; done) | (simp; omega) | omega) _ | refine Below.drew ?_ | refine Below.trans ?_ (Below.mono (by assumption) (by first | (simp; done) | (simp; omega) | omega))))); have q1_0 : w.heap.size < w1.heap.size := (by omega); have r1_0 : Row w1 (w.heap.size) 37 #[.int .i64 agg, .int .i64 wd, .int .i64 k, .int .i64 cap, .int .i64 now, .int .i64 seq, .slice A m c] := row_call (by (repeat (first | assumption | (refine row_new ?_; (first | (simp; done) | omega)) | refine row_alloc ?_ _ | refine row_drew ?_ | refine row_call ?_ (by assumption)))) hb1; obtain ⟨c1_0a, c1_0b, c1_0c, c1_0d, c1_0e, c1_0f, c1_0g, f1_0a, f1_0b, f1_0c, f1_0d, f1_0e, f1_0f, f1_0g⟩ := row_seven r1_0; have q1_1 : w.heap.size + 1 < w1.heap.size := (by omega); have r1_1 : Row w1 (w.heap.size + 1) 37 #[.int .i64 0, .int .i64 0, .int .i64 0, .int .i64 0, .int .i64 0, .int .i64 0, .slice none 0 0] := row_call (by (repeat (first | assumption | (refine row_new ?_; (first | (simp; done) | omega)) | refine row_alloc ?_ _ | refine row_drew ?_ | refine row_call ?_ (by assumption)))) hb1; obtain ⟨c1_1a, c1_1b, c1_1c, c1_1d, c1_1e, c1_1f, c1_1g, f1_1a, f1_1b, f1_1c, f1_1d, f1_1e, f1_1f, f1_1g⟩ := row_seven r1_1) | (go_at_call 157; with_reducible refine (PC.out _).mono ?_; rintro e w9 ⟨rfl, h9⟩; obtain rfl := h9.symm))
  have hbge : w.heap.size ≤ w.heap.size + 1 := by omega
  have R9 : Row (((((((w1.setCell ⟨w.heap.size + 1, 0, none⟩ (.int .i64 0)).setCell ⟨w.heap.size + 1, 1, none⟩ (.int .i64 0)).setCell ⟨w.heap.size + 1, 2, none⟩ (.int .i64 0)).setCell ⟨w.heap.size + 1, 3, none⟩ (.int .i64 0)).setCell ⟨w.heap.size + 1, 4, none⟩ (.int .i64 0)).setCell ⟨w.heap.size + 1, 5, none⟩ (.int .i64 0)).setCell ⟨w.heap.size + 1, 6, none⟩ (.slice none 0 0)) (w.heap.size + 1) 37 #[.int .i64 0, .int .i64 0, .int .i64 0, .int .i64 0, .int .i64 0, .int .i64 0, .slice none 0 0] := (row_set (row_set (row_set (row_set (row_set (row_set (row_set r1_1 0 (.int .i64 0)) 1 (.int .i64 0)) 2 (.int .i64 0)) 3 (.int .i64 0)) 4 (.int .i64 0)) 5 (.int .i64 0)) 6 (.slice none 0 0))
  have o9 : Below w.heap.size w (((((((w1.setCell ⟨w.heap.size + 1, 0, none⟩ (.int .i64 0)).setCell ⟨w.heap.size + 1, 1, none⟩ (.int .i64 0)).setCell ⟨w.heap.size + 1, 2, none⟩ (.int .i64 0)).setCell ⟨w.heap.size + 1, 3, none⟩ (.int .i64 0)).setCell ⟨w.heap.size + 1, 4, none⟩ (.int .i64 0)).setCell ⟨w.heap.size + 1, 5, none⟩ (.int .i64 0)).setCell ⟨w.heap.size + 1, 6, none⟩ (.slice none 0 0)) := (Below.setCell (p := ⟨w.heap.size + 1, 6, none⟩) (Below.setCell (p := ⟨w.heap.size + 1, 5, none⟩) (Below.setCell (p := ⟨w.heap.size + 1, 4, none⟩) (Below.setCell (p := ⟨w.heap.size + 1, 3, none⟩) (Below.setCell (p := ⟨w.heap.size + 1, 2, none⟩) (Below.setCell (p := ⟨w.heap.size + 1, 1, none⟩) (Below.setCell (p := ⟨w.heap.size + 1, 0, none⟩) o1 hbge (.int .i64 0)) hbge (.int .i64 0)) hbge (.int .i64 0)) hbge (.int .i64 0)) hbge (.int .i64 0)) hbge (.int .i64 0)) hbge (.slice none 0 0))
  generalize (((((((w1.setCell ⟨w.heap.size + 1, 0, none⟩ (.int .i64 0)).setCell ⟨w.heap.size + 1, 1, none⟩ (.int .i64 0)).setCell ⟨w.heap.size + 1, 2, none⟩ (.int .i64 0)).setCell ⟨w.heap.size + 1, 3, none⟩ (.int .i64 0)).setCell ⟨w.heap.size + 1, 4, none⟩ (.int .i64 0)).setCell ⟨w.heap.size + 1, 5, none⟩ (.int .i64 0)).setCell ⟨w.heap.size + 1, 6, none⟩ (.slice none 0 0)) = w9 at R9 o9 ⊢
  obtain ⟨N0, N1, N2, N3, N4, N5, N6, Nf0, Nf1, Nf2, Nf3, Nf4, Nf5, Nf6⟩ := row_seven R9
  exact bodyPost_ret (v := .tuple #[.agg #[.int .i64 0, .int .i64 0, .int .i64 0, .int .i64 0, .int .i64 0, .int .i64 0, .slice none 0 0], .int .i64 3]) (by simp [results, Tryz.results67, go_sem, List.getElem?_toArray, N0, N1, N2, N3, N4, N5, N6]) rfl (smret_zero o9)
set_option maxRecDepth 100000 in
set_option maxHeartbeats 4000000 in
theorem psmtick_c (A : Option Addr) (m c : Nat) (l : List Mk) (agg wd k cap now seq : Int) (tt : Int) (w : World) (hin : MIn A m c l w) (sB : I64 seq) (hmm : m ≤ 100000) (hv : smvalE agg wd k cap now seq l = 0) (hto : ¬ (tt < now ∨ 16777216 < tt)) : Calls Tryz.prog 67 #[.agg #[.int .i64 agg, .int .i64 wd, .int .i64 k, .int .i64 cap, .int .i64 now, .int .i64 seq, .slice A m c], .int .i64 tt] w fun e w' => SmRet A (smTick agg wd k cap now seq l tt) w e w' := by
  rw [smTick_c hv hto]
  obtain ⟨⟨_, d0, d1, _, _, _, _, n0, n1⟩, hMV, _⟩ := of_smvalE hv
  have HT := Lib.hid (show ∀ x ∈ l, 0 ≤ x.t ∧ x.t ≤ tt from fun x hx => by
    have := (mvalid_iff.1 hMV).2.one x hx
    have h5 := this.2.2.2.2.1
    have h6 := this.2.2.2.2.2.1
    omega)
  have PC := fun w => pclk now tt w n0 n1
  simp only [if_neg hto] at PC
  replace PC := Lib.hid PC
  have HR := Lib.hid hin
  have HFB := Lib.hid (fun h a e => hin.blk h a e)
  have P := fun w' (hb : Below w.heap.size w w') => pvalS A m c l agg wd k cap now seq w' (hin.below hb) sB
  rw [hv] at P
  replace P := Lib.hid P
  have t0 : 0 ≤ tt := by omega
  have t1 : tt ≤ 16777216 := by omega
  clear hv hin sB hto hMV
  go_enter Tryz.func67, Tryz.ntmps67
  go_upto_region 7 with (first | (go_at_call 136; with_reducible refine (P.out _ (by (repeat (first | exact Below.refl _ _ | refine Below.setCell ?_ (by first | (simp; done) | (simp; omega) | omega) _ | refine Below.alloc ?_ (by first | (simp; done) | (simp; omega) | omega) _ | refine Below.drew ?_ | refine Below.trans ?_ (Below.mono (by assumption) (by first | (simp; done) | (simp; omega) | omega)))))).mono ?_; rintro e w1 ⟨rfl, hb1⟩; have hz1 := hb1.size; (try simp at hz1); have o1 : Below w.heap.size w w1 := (by (repeat (first | exact Below.refl _ _ | refine Below.setCell ?_ (by first | (simp; done) | (simp; omega) | omega) _ | refine Below.alloc ?_ (by first | (simp; done) | (simp; omega) | omega) _ | refine Below.drew ?_ | refine Below.trans ?_ (Below.mono (by assumption) (by first | (simp; done) | (simp; omega) | omega))))); have q1_0 : w.heap.size < w1.heap.size := (by omega); have r1_0 : Row w1 (w.heap.size) 37 #[.int .i64 agg, .int .i64 wd, .int .i64 k, .int .i64 cap, .int .i64 now, .int .i64 seq, .slice A m c] := row_call (by (repeat (first | assumption | (refine row_new ?_; (first | (simp; done) | omega)) | refine row_alloc ?_ _ | refine row_drew ?_ | refine row_call ?_ (by assumption)))) hb1; obtain ⟨c1_0a, c1_0b, c1_0c, c1_0d, c1_0e, c1_0f, c1_0g, f1_0a, f1_0b, f1_0c, f1_0d, f1_0e, f1_0f, f1_0g⟩ := row_seven r1_0; have q1_1 : w.heap.size + 1 < w1.heap.size := (by omega); have r1_1 : Row w1 (w.heap.size + 1) 37 #[.int .i64 0, .int .i64 0, .int .i64 0, .int .i64 0, .int .i64 0, .int .i64 0, .slice none 0 0] := row_call (by (repeat (first | assumption | (refine row_new ?_; (first | (simp; done) | omega)) | refine row_alloc ?_ _ | refine row_drew ?_ | refine row_call ?_ (by assumption)))) hb1; obtain ⟨c1_1a, c1_1b, c1_1c, c1_1d, c1_1e, c1_1f, c1_1g, f1_1a, f1_1b, f1_1c, f1_1d, f1_1e, f1_1f, f1_1g⟩ := row_seven r1_1) | (go_at_call 157; with_reducible refine (PC.out _).mono ?_; rintro e w9 ⟨rfl, h9⟩; obtain rfl := h9.symm))
  clear P PC c1_0a c1_0b c1_0c c1_0d c1_0e c1_0f c1_0g f1_0a f1_0b f1_0c f1_0d f1_0e f1_0f f1_0g c1_1a c1_1b c1_1c c1_1d c1_1e c1_1f c1_1g f1_1a f1_1b f1_1c f1_1d f1_1e f1_1f f1_1g
  obtain ⟨X0, X1, X2, X3, X4, X5, X6, Xf0, Xf1, Xf2, Xf3, Xf4, Xf5, Xf6⟩ := row_seven r1_0
  have KR := Lib.hid r1_0
  clear r1_0
  go_upto_region 8 with (fail)
  have X : Row (w1.setCell ⟨w.heap.size, 4, none⟩ (.int .i64 tt)) (w.heap.size) 37 #[.int .i64 agg, .int .i64 wd, .int .i64 k, .int .i64 cap, .int .i64 tt, .int .i64 seq, .slice A m c] := row_set KR.out 4 _
  have R : Row (w1.setCell ⟨w.heap.size, 4, none⟩ (.int .i64 tt)) (w.heap.size + 1) 37 #[.int .i64 0, .int .i64 0, .int .i64 0, .int .i64 0, .int .i64 0, .int .i64 0, .slice none 0 0] := row_other (p := ⟨w.heap.size, 4, none⟩) r1_1 (by show w.heap.size + 1 ≠ w.heap.size; omega) _
  have o : Below w.heap.size w (w1.setCell ⟨w.heap.size, 4, none⟩ (.int .i64 tt)) := o1.setCell (p := ⟨w.heap.size, 4, none⟩) (Nat.le_refl _) _
  generalize w1.setCell ⟨w.heap.size, 4, none⟩ (.int .i64 tt) = w3 at X R o ⊢
  clear X0 X1 X2 X3 X4 X5 X6 Xf0 Xf1 Xf2 Xf3 Xf4 Xf5 Xf6 KR o1 r1_1
  obtain ⟨X0, X1, X2, X3, X4, X5, X6, Xf0, Xf1, Xf2, Xf3, Xf4, Xf5, Xf6⟩ := row_seven X
  go_wp2_with fail
  refine (pmdrop A m c l tt wd w3 (HR.out.below o) (by omega) t0 t1 d0 d1 HT.out).mono ?_
  rintro e w4 ⟨A5, m5, c5, rfl, inA, hb4, fr4⟩
  have z3 := row_lt R
  clear X0 X1 X2 X3 X4 X5 X6 Xf0 Xf1 Xf2 Xf3 Xf4 Xf5 Xf6
  replace X := row_call X hb4
  replace R := row_call R hb4
  have z4 := hb4.size
  have o3 := o.size
  replace o := o.trans (hb4.mono o.size)
  have IN := Lib.hid inA
  have XB0 := Lib.hid (show 0 < m5 → ∀ a, A5 = some a → a.block ≠ w.heap.size ∧ a.block ≠ w.heap.size + 1 from fun h a e => by
    rcases fr4 a e with g | ⟨b, eb, g⟩
    · omega
    · have hl := inA.len
      have hm0 : 0 < m := by
        rcases Nat.eq_zero_or_pos m with h0 | h0
        · exfalso
          have h1 := HR.out.len
          have h2 : l = [] := List.eq_nil_of_length_eq_zero (by omega)
          rw [h2, dropM_nil] at hl
          simp at hl
          omega
        · exact h0
      have := HFB.out hm0 b eb
      omega)
  have FR := Lib.hid (show ∀ a, A5 = some a → (w.heap.size ≤ a.block ∧ a.block < w4.heap.size) ∨ ∃ b, A = some b ∧ a.block = b.block from fun a e => by
    rcases fr4 a e with g | g
    · exact .inl (by omega)
    · exact .inr g)
  clear hb4 inA fr4
  obtain ⟨X0, X1, X2, X3, X4, X5, X6, Xf0, Xf1, Xf2, Xf3, Xf4, Xf5, Xf6⟩ := row_seven X
  obtain ⟨R0, R1, R2, R3, R4, R5, R6, Rf0, Rf1, Rf2, Rf3, Rf4, Rf5, Rf6⟩ := row_seven R
  have XR := Lib.hid X
  have RR := Lib.hid R
  clear X R
  go_upto_region 9 with (fail)
  have X : Row (w4.setCell ⟨w.heap.size, 6, none⟩ (.slice A5 m5 c5)) (w.heap.size) 37 #[.int .i64 agg, .int .i64 wd, .int .i64 k, .int .i64 cap, .int .i64 tt, .int .i64 seq, .slice A5 m5 c5] := (row_set XR.out 6 (.slice A5 m5 c5))
  have R : Row (w4.setCell ⟨w.heap.size, 6, none⟩ (.slice A5 m5 c5)) (w.heap.size + 1) 37 #[.int .i64 0, .int .i64 0, .int .i64 0, .int .i64 0, .int .i64 0, .int .i64 0, .slice none 0 0] := (row_other (p := ⟨w.heap.size, 6, none⟩) RR.out (by show w.heap.size + 1 ≠ w.heap.size; omega) (.slice A5 m5 c5))
  have o6 : Below w.heap.size w (w4.setCell ⟨w.heap.size, 6, none⟩ (.slice A5 m5 c5)) := (Below.setCell (p := ⟨w.heap.size, 6, none⟩) o (Nat.le_refl _) (.slice A5 m5 c5))
  have hkp6 : ∀ b', b' ≠ w.heap.size → ((w4.setCell ⟨w.heap.size, 6, none⟩ (.slice A5 m5 c5))).heap[b']? = w4.heap[b']? := fun b' h' => ((Below.heap_setCell _ ⟨w.heap.size, 6, none⟩ (.slice A5 m5 c5) b' h').trans rfl)
  have hs6 : w4.heap.size ≤ ((w4.setCell ⟨w.heap.size, 6, none⟩ (.slice A5 m5 c5))).heap.size := by simp only [size_setCell]; exact Nat.le_refl _
  have IN6 := Lib.hid (IN.out.keep0 hs6 (fun h a e => hkp6 a.block (XB0.out h a e).1))
  clear hkp6
  generalize (w4.setCell ⟨w.heap.size, 6, none⟩ (.slice A5 m5 c5)) = w6 at X R o6 hs6 IN6 ⊢
  clear X0 X1 X2 X3 X4 X5 X6 Xf0 Xf1 Xf2 Xf3 Xf4 Xf5 Xf6 R0 R1 R2 R3 R4 R5 R6 Rf0 Rf1 Rf2 Rf3 Rf4 Rf5 Rf6 XR RR IN o
  obtain ⟨X0, X1, X2, X3, X4, X5, X6, Xf0, Xf1, Xf2, Xf3, Xf4, Xf5, Xf6⟩ := row_seven X
  obtain ⟨R0, R1, R2, R3, R4, R5, R6, Rf0, Rf1, Rf2, Rf3, Rf4, Rf5, Rf6⟩ := row_seven R
  go_wp2
  have hbge : w.heap.size ≤ w.heap.size + 1 := by omega
  have hkp : ∀ b', b' ≠ w.heap.size + 1 → ((((((((w6.setCell ⟨w.heap.size + 1, 0, none⟩ (.int .i64 agg)).setCell ⟨w.heap.size + 1, 1, none⟩ (.int .i64 wd)).setCell ⟨w.heap.size + 1, 2, none⟩ (.int .i64 k)).setCell ⟨w.heap.size + 1, 3, none⟩ (.int .i64 cap)).setCell ⟨w.heap.size + 1, 4, none⟩ (.int .i64 tt)).setCell ⟨w.heap.size + 1, 5, none⟩ (.int .i64 seq)).setCell ⟨w.heap.size + 1, 6, none⟩ (.slice A5 m5 c5))).heap[b']? = w6.heap[b']? := fun b' h' => ((Below.heap_setCell _ ⟨w.heap.size + 1, 6, none⟩ (.slice A5 m5 c5) b' h').trans ((Below.heap_setCell _ ⟨w.heap.size + 1, 5, none⟩ (.int .i64 seq) b' h').trans ((Below.heap_setCell _ ⟨w.heap.size + 1, 4, none⟩ (.int .i64 tt) b' h').trans ((Below.heap_setCell _ ⟨w.heap.size + 1, 3, none⟩ (.int .i64 cap) b' h').trans ((Below.heap_setCell _ ⟨w.heap.size + 1, 2, none⟩ (.int .i64 k) b' h').trans ((Below.heap_setCell _ ⟨w.heap.size + 1, 1, none⟩ (.int .i64 wd) b' h').trans ((Below.heap_setCell _ ⟨w.heap.size + 1, 0, none⟩ (.int .i64 agg) b' h').trans rfl)))))))
  have hksz : w6.heap.size ≤ ((((((((w6.setCell ⟨w.heap.size + 1, 0, none⟩ (.int .i64 agg)).setCell ⟨w.heap.size + 1, 1, none⟩ (.int .i64 wd)).setCell ⟨w.heap.size + 1, 2, none⟩ (.int .i64 k)).setCell ⟨w.heap.size + 1, 3, none⟩ (.int .i64 cap)).setCell ⟨w.heap.size + 1, 4, none⟩ (.int .i64 tt)).setCell ⟨w.heap.size + 1, 5, none⟩ (.int .i64 seq)).setCell ⟨w.heap.size + 1, 6, none⟩ (.slice A5 m5 c5))).heap.size := by simp only [size_setCell]; exact Nat.le_refl _
  have R9 : Row (((((((w6.setCell ⟨w.heap.size + 1, 0, none⟩ (.int .i64 agg)).setCell ⟨w.heap.size + 1, 1, none⟩ (.int .i64 wd)).setCell ⟨w.heap.size + 1, 2, none⟩ (.int .i64 k)).setCell ⟨w.heap.size + 1, 3, none⟩ (.int .i64 cap)).setCell ⟨w.heap.size + 1, 4, none⟩ (.int .i64 tt)).setCell ⟨w.heap.size + 1, 5, none⟩ (.int .i64 seq)).setCell ⟨w.heap.size + 1, 6, none⟩ (.slice A5 m5 c5)) (w.heap.size + 1) 37 #[.int .i64 agg, .int .i64 wd, .int .i64 k, .int .i64 cap, .int .i64 tt, .int .i64 seq, .slice A5 m5 c5] := (row_set (row_set (row_set (row_set (row_set (row_set (row_set R 0 (.int .i64 agg)) 1 (.int .i64 wd)) 2 (.int .i64 k)) 3 (.int .i64 cap)) 4 (.int .i64 tt)) 5 (.int .i64 seq)) 6 (.slice A5 m5 c5))
  have o9 : Below w.heap.size w (((((((w6.setCell ⟨w.heap.size + 1, 0, none⟩ (.int .i64 agg)).setCell ⟨w.heap.size + 1, 1, none⟩ (.int .i64 wd)).setCell ⟨w.heap.size + 1, 2, none⟩ (.int .i64 k)).setCell ⟨w.heap.size + 1, 3, none⟩ (.int .i64 cap)).setCell ⟨w.heap.size + 1, 4, none⟩ (.int .i64 tt)).setCell ⟨w.heap.size + 1, 5, none⟩ (.int .i64 seq)).setCell ⟨w.heap.size + 1, 6, none⟩ (.slice A5 m5 c5)) := (Below.setCell (p := ⟨w.heap.size + 1, 6, none⟩) (Below.setCell (p := ⟨w.heap.size + 1, 5, none⟩) (Below.setCell (p := ⟨w.heap.size + 1, 4, none⟩) (Below.setCell (p := ⟨w.heap.size + 1, 3, none⟩) (Below.setCell (p := ⟨w.heap.size + 1, 2, none⟩) (Below.setCell (p := ⟨w.heap.size + 1, 1, none⟩) (Below.setCell (p := ⟨w.heap.size + 1, 0, none⟩) o6 hbge (.int .i64 agg)) hbge (.int .i64 wd)) hbge (.int .i64 k)) hbge (.int .i64 cap)) hbge (.int .i64 tt)) hbge (.int .i64 seq)) hbge (.slice A5 m5 c5))
  generalize (((((((w6.setCell ⟨w.heap.size + 1, 0, none⟩ (.int .i64 agg)).setCell ⟨w.heap.size + 1, 1, none⟩ (.int .i64 wd)).setCell ⟨w.heap.size + 1, 2, none⟩ (.int .i64 k)).setCell ⟨w.heap.size + 1, 3, none⟩ (.int .i64 cap)).setCell ⟨w.heap.size + 1, 4, none⟩ (.int .i64 tt)).setCell ⟨w.heap.size + 1, 5, none⟩ (.int .i64 seq)).setCell ⟨w.heap.size + 1, 6, none⟩ (.slice A5 m5 c5)) = w9 at R9 o9 hkp hksz ⊢
  obtain ⟨N0, N1, N2, N3, N4, N5, N6, Nf0, Nf1, Nf2, Nf3, Nf4, Nf5, Nf6⟩ := row_seven R9
  exact bodyPost_ret (v := .tuple #[.agg #[.int .i64 agg, .int .i64 wd, .int .i64 k, .int .i64 cap, .int .i64 tt, .int .i64 seq, .slice A5 m5 c5], .int .i64 0]) (by simp [results, Tryz.results67, go_sem, List.getElem?_toArray, N0, N1, N2, N3, N4, N5, N6]) rfl (smret_ok (IN6.out.keep0 hksz (fun h a e => hkp a.block (XB0.out h a e).2)) o9 (fun a e => (FR.out a e).imp (fun g => ⟨g.1, by omega⟩) (fun g => g)))
theorem psmtick (A : Option Addr) (m c : Nat) (l : List Mk) (agg wd k cap now seq : Int) (tt : Int) (w : World) (hin : MIn A m c l w) (sB : I64 seq) (hmm : m ≤ 100000) : Calls Tryz.prog 67 #[.agg #[.int .i64 agg, .int .i64 wd, .int .i64 k, .int .i64 cap, .int .i64 now, .int .i64 seq, .slice A m c], .int .i64 tt] w fun e w' => SmRet A (smTick agg wd k cap now seq l tt) w e w' := by
  rcases smvalE_two (agg := agg) (wd := wd) (k := k) (cap := cap) (now := now) (seq := seq) (l := l) with hv | hv
  · by_cases hto : tt < now ∨ 16777216 < tt
    · exact psmtick_b A m c l agg wd k cap now seq tt w hin sB hv hto
    · exact psmtick_c A m c l agg wd k cap now seq tt w hin sB hmm hv hto
  · exact psmtick_a A m c l agg wd k cap now seq tt w hin sB hv
end Go.Proofs.YtdipoojjlddohaaGreat
end
section
/- Histograms of buckets (count): walked. -/
set_option linter.unusedVariables false
set_option linter.unusedSimpArgs false
set_option linter.unusedSectionVars false
set_option linter.unnecessarySimpa false
namespace Go.Proofs.YtdipoojjlddohaaGreat
open Go.RowKit
theorem BIn.setc {A : Option Addr} {m c : Nat} {l : List Bk} {w : World} (h : BIn A m c l w) {p : Addr} (hne : ∀ a, A = some a → p.block ≠ a.block) (u : Value) : BIn A m c l (w.setCell p u) :=
  ⟨by rw [size_setCell]; exact reads_set h.reads (fun a e => fun x => hne a e x.symm) u, h.mc, h.cB⟩
theorem row_five {w : World} {b : Nat} {t : TypeId} {x0 x1 x2 x3 x4 : Value} (h : Row w b t #[x0, x1, x2, x3, x4]) : w.cell? ⟨b, 0, none⟩ = some x0 ∧ w.cell? ⟨b, 1, none⟩ = some x1 ∧ w.cell? ⟨b, 2, none⟩ = some x2 ∧ w.cell? ⟨b, 3, none⟩ = some x3 ∧ w.cell? ⟨b, 4, none⟩ = some x4 ∧
    w.frozen? ⟨b, 0, none⟩ = false ∧ w.frozen? ⟨b, 1, none⟩ = false ∧ w.frozen? ⟨b, 2, none⟩ = false ∧ w.frozen? ⟨b, 3, none⟩ = false ∧ w.frozen? ⟨b, 4, none⟩ = false :=
  ⟨row_cell h 0, row_cell h 1, row_cell h 2, row_cell h 3, row_cell h 4, row_free h 0, row_free h 1, row_free h 2, row_free h 3, row_free h 4⟩
theorem pfirstM (now wd : Int) (w : World) (n0 : 0 ≤ now) (n1 : now ≤ 16777216) (d0 : 1 ≤ wd) (d1 : wd ≤ 1048576) : Calls Tryz.prog 160 #[.int .i64 now, .int .i64 wd] w fun e w' => e = .returned (.int .i64 (max 0 (now - wd + 1))) ∧ w' = w := by
  by_cases h : 0 ≤ now - wd + 1
  · rw [show max 0 (now - wd + 1) = now - wd + 1 by omega]
    exact pfirst_yes now wd w n0 n1 d0 d1 h
  · rw [show max 0 (now - wd + 1) = 0 by omega]
    exact pfirst_no now wd w n0 n1 d0 d1 (by omega)
/-- A valid histogram. -/
structure CtS (wd : Int) (k cap : Nat) (now : Int) (l : List Bk) : Prop where
  good : 1 ≤ wd ∧ wd ≤ 1048576 ∧ 1 ≤ k ∧ k ≤ 64 ∧ 1 ≤ cap ∧ cap ≤ 65536 ∧ 0 ≤ now ∧ now ≤ 16777216
  val : BV k l
  cap : btot l ≤ cap
  live : ∀ b ∈ l, now - wd < b.t ∧ b.t ≤ now
theorem pctgood (wd : Int) (k cap : Nat) (now : Int) (w : World) (h : 1 ≤ wd ∧ wd ≤ 1048576 ∧ 1 ≤ k ∧ k ≤ 64 ∧ 1 ≤ cap ∧ cap ≤ 65536 ∧ 0 ≤ now ∧ now ≤ 16777216) : Calls Tryz.prog 202 #[.int .i64 wd, .int .i64 (k : Nat), .int .i64 (cap : Nat), .int .i64 now] w fun e w' => e = .returned (.bool true) ∧ Below w.heap.size w w' := by
  obtain ⟨g0, g1, g2, g3, g4, g5, g6, g7⟩ := h
  have q0 : (1 : Int) ≤ wd := by omega
  have q1 : wd ≤ 1048576 := by omega
  have q2 : (1 : Int) ≤ (k : Int) := by omega
  have q3 : (k : Int) ≤ 64 := by omega
  have q4 : (1 : Int) ≤ (cap : Int) := by omega
  have q5 : (cap : Int) ≤ 65536 := by omega
  have q6 : (0 : Int) ≤ now := by omega
  have q7 : now ≤ 16777216 := by omega
  go_enter Tryz.func202, Tryz.ntmps202
  go_wp2_with fail
  go_ret
  exact ⟨by first | rfl | exact ret_bool (by simp; omega) | exact ret_bool (by simp [*]), Below.refl _ _⟩
set_option maxRecDepth 100000 in
set_option maxHeartbeats 4000000 in
theorem pctval (A : Option Addr) (m c : Nat) (l : List Bk) (wd : Int) (k cap : Nat) (now : Int) (w : World) (hin : BIn A m c l w) (hs : CtS wd k cap now l) : Calls Tryz.prog 133 #[.agg #[.int .i64 wd, .int .i64 (k : Nat), .int .i64 (cap : Nat), .int .i64 now, .slice A m c]] w fun e w' => e = .returned (.int .i64 0) ∧ Below w.heap.size w w' := by
  have HS := Lib.hid hs
  have hlN := Lib.hid hin.len
  have hG := hs.good
  obtain ⟨g0, g1, g2, g3, g4, g5, g6, g7⟩ := hs.good
  have hlt := tot_len l
  have hcap := hs.cap
  have hm : m ≤ 65536 := by have := hin.len; omega
  have PG := Lib.hid (fun w => pctgood wd k cap now w hG)
  have PV := Lib.hid (fun w' (hb : Below w.heap.size w w') => pbvalidL A m c l k w' (hin.below hb) hs.val ⟨by omega, by omega⟩ (by omega))
  have PT := Lib.hid (fun w' (hb : Below w.heap.size w w') => pbtotal A m c l w' (hin.below hb) hs.val.lev (by omega))
  have HR := Lib.hid hin
  have hcc : ¬ (cap : Int) < (btot l : Int) := by omega
  generalize btot l = N at PT hcc hcap hlt
  clear hs hin hG
  go_enter Tryz.func133, Tryz.ntmps133
  go_upto_region 1 with (fail)
  have X : Row (w.alloc (.cells #[.int .i64 wd, .int .i64 (k : Nat), .int .i64 (cap : Nat), .int .i64 now, .slice A m c] 32)) w.heap.size 32 #[.int .i64 wd, .int .i64 (k : Nat), .int .i64 (cap : Nat), .int .i64 now, .slice A m c] := row_new rfl
  have o : Below w.heap.size w (w.alloc (.cells #[.int .i64 wd, .int .i64 (k : Nat), .int .i64 (cap : Nat), .int .i64 now, .slice A m c] 32)) := by (repeat (first | exact Below.refl _ _ | refine Below.setCell ?_ (by first | (simp; done) | (simp; omega) | omega) _ | refine Below.alloc ?_ (by first | (simp; done) | (simp; omega) | omega) _ | refine Below.drew ?_ | refine Below.trans ?_ (Below.mono (by assumption) (by first | (simp; done) | (simp; omega) | omega))))
  generalize (w.alloc (.cells #[.int .i64 wd, .int .i64 (k : Nat), .int .i64 (cap : Nat), .int .i64 now, .slice A m c] 32)) = w1 at X o ⊢
  refine wp_region_free0 [0, 1, 2, 3, 4, 5, 6, 7, 8, 9, 10, 11, 12, 13, 14, 15, 16, 17, 18, 19, 20, 21, 22, 23, 24] [] [0, 1, 2, 3, 4, 5, 6, 7, 8, 9, 10, 11, 12, 13, 14, 15, 16, 17, 18, 19, 20, 21, 22, 23, 24] 25 (fun w' => Below w1.heap.size w1 w') (by kernel_rfl) (by kernel_rfl) (fun _ _ d _ _ h => by cases d <;> exact h) ?_ ?_
  · exact (Below.refl _ _).drew
  (refine plan_pure ?_ rfl rfl (fun w' => ?_) ?_; rotate_left; (go_simp; try with_reducible rfl); simp only [Act.put, List.setIfInBounds_toArray, List.set_cons_zero, List.set_cons_succ])
  (refine plan_val ?_ rfl rfl rfl (fun w' hS => ?_) ?_; rotate_left; (obtain ⟨X0, X1, X2, X3, X4, Xf0, Xf1, Xf2, Xf3, Xf4⟩ := row_five (row_call X hS); go_simp; try with_reducible rfl); simp only [Act.put, List.setIfInBounds_toArray, List.set_cons_zero, List.set_cons_succ])
  (refine plan_pure ?_ rfl rfl (fun w' => ?_) ?_; rotate_left; (go_simp; try with_reducible rfl); simp only [Act.put, List.setIfInBounds_toArray, List.set_cons_zero, List.set_cons_succ])
  (refine plan_val ?_ rfl rfl rfl (fun w' hS => ?_) ?_; rotate_left; (obtain ⟨X0, X1, X2, X3, X4, Xf0, Xf1, Xf2, Xf3, Xf4⟩ := row_five (row_call X hS); go_simp; try with_reducible rfl); simp only [Act.put, List.setIfInBounds_toArray, List.set_cons_zero, List.set_cons_succ])
  (refine plan_pure ?_ rfl rfl (fun w' => ?_) ?_; rotate_left; (go_simp; try with_reducible rfl); simp only [Act.put, List.setIfInBounds_toArray, List.set_cons_zero, List.set_cons_succ])
  (refine plan_val ?_ rfl rfl rfl (fun w' hS => ?_) ?_; rotate_left; (obtain ⟨X0, X1, X2, X3, X4, Xf0, Xf1, Xf2, Xf3, Xf4⟩ := row_five (row_call X hS); go_simp; try with_reducible rfl); simp only [Act.put, List.setIfInBounds_toArray, List.set_cons_zero, List.set_cons_succ])
  (refine plan_pure ?_ rfl rfl (fun w' => ?_) ?_; rotate_left; (go_simp; try with_reducible rfl); simp only [Act.put, List.setIfInBounds_toArray, List.set_cons_zero, List.set_cons_succ])
  (refine plan_val ?_ rfl rfl rfl (fun w' hS => ?_) ?_; rotate_left; (obtain ⟨X0, X1, X2, X3, X4, Xf0, Xf1, Xf2, Xf3, Xf4⟩ := row_five (row_call X hS); go_simp; try with_reducible rfl); simp only [Act.put, List.setIfInBounds_toArray, List.set_cons_zero, List.set_cons_succ])
  refine plan_call (.bool true) 202 #[.int .i64 wd, .int .i64 (k : Nat), .int .i64 (cap : Nat), .int .i64 now] rfl rfl rfl (fun _ _ h hb => h.trans (hb.mono h.size)) (fun w' hS => by obtain ⟨X0, X1, X2, X3, X4, Xf0, Xf1, Xf2, Xf3, Xf4⟩ := row_five (row_call X hS); go_simp) (fun w' hS => PG.out w') ?_
  simp only [Act.put, List.setIfInBounds_toArray, List.set_cons_zero, List.set_cons_succ]
  (refine plan_pure ?_ rfl rfl (fun w' => ?_) ?_; rotate_left; (go_simp; try with_reducible rfl); simp only [Act.put, List.setIfInBounds_toArray, List.set_cons_zero, List.set_cons_succ])
  (refine plan_pure ?_ rfl rfl (fun w' => ?_) ?_; rotate_left; (go_simp; try with_reducible rfl); simp only [Act.put, List.setIfInBounds_toArray, List.set_cons_zero, List.set_cons_succ])
  (refine plan_pure ?_ rfl rfl (fun w' => ?_) ?_; rotate_left; (go_simp; try with_reducible rfl); simp only [Act.put, List.setIfInBounds_toArray, List.set_cons_zero, List.set_cons_succ])
  (refine plan_val ?_ rfl rfl rfl (fun w' hS => ?_) ?_; rotate_left; (obtain ⟨X0, X1, X2, X3, X4, Xf0, Xf1, Xf2, Xf3, Xf4⟩ := row_five (row_call X hS); go_simp; try with_reducible rfl); simp only [Act.put, List.setIfInBounds_toArray, List.set_cons_zero, List.set_cons_succ])
  (refine plan_pure ?_ rfl rfl (fun w' => ?_) ?_; rotate_left; (go_simp; try with_reducible rfl); simp only [Act.put, List.setIfInBounds_toArray, List.set_cons_zero, List.set_cons_succ])
  (refine plan_val ?_ rfl rfl rfl (fun w' hS => ?_) ?_; rotate_left; (obtain ⟨X0, X1, X2, X3, X4, Xf0, Xf1, Xf2, Xf3, Xf4⟩ := row_five (row_call X hS); go_simp; try with_reducible rfl); simp only [Act.put, List.setIfInBounds_toArray, List.set_cons_zero, List.set_cons_succ])
  refine plan_call (.bool true) 227 #[.slice A m c, .int .i64 (k : Nat)] rfl rfl rfl (fun _ _ h hb => h.trans (hb.mono h.size)) (fun w' hS => by obtain ⟨X0, X1, X2, X3, X4, Xf0, Xf1, Xf2, Xf3, Xf4⟩ := row_five (row_call X hS); go_simp) (fun w' hS => PV.out _ (o.trans (hS.mono o.size))) ?_
  simp only [Act.put, List.setIfInBounds_toArray, List.set_cons_zero, List.set_cons_succ]
  (refine plan_pure ?_ rfl rfl (fun w' => ?_) ?_; rotate_left; (go_simp; try with_reducible rfl); simp only [Act.put, List.setIfInBounds_toArray, List.set_cons_zero, List.set_cons_succ])
  (refine plan_pure ?_ rfl rfl (fun w' => ?_) ?_; rotate_left; (go_simp; try with_reducible rfl); simp only [Act.put, List.setIfInBounds_toArray, List.set_cons_zero, List.set_cons_succ])
  (refine plan_pure ?_ rfl rfl (fun w' => ?_) ?_; rotate_left; (go_simp; try with_reducible rfl); simp only [Act.put, List.setIfInBounds_toArray, List.set_cons_zero, List.set_cons_succ])
  (refine plan_pure ?_ rfl rfl (fun w' => ?_) ?_; rotate_left; (go_simp; try with_reducible rfl); simp only [Act.put, List.setIfInBounds_toArray, List.set_cons_zero, List.set_cons_succ])
  (refine plan_val ?_ rfl rfl rfl (fun w' hS => ?_) ?_; rotate_left; (obtain ⟨X0, X1, X2, X3, X4, Xf0, Xf1, Xf2, Xf3, Xf4⟩ := row_five (row_call X hS); go_simp; try with_reducible rfl); simp only [Act.put, List.setIfInBounds_toArray, List.set_cons_zero, List.set_cons_succ])
  refine plan_call (.int .i64 (N : Nat)) 210 #[.slice A m c] rfl rfl rfl (fun _ _ h hb => h.trans (hb.mono h.size)) (fun w' hS => by obtain ⟨X0, X1, X2, X3, X4, Xf0, Xf1, Xf2, Xf3, Xf4⟩ := row_five (row_call X hS); go_simp) (fun w' hS => PT.out _ (o.trans (hS.mono o.size))) ?_
  simp only [Act.put, List.setIfInBounds_toArray, List.set_cons_zero, List.set_cons_succ]
  (refine plan_pure ?_ rfl rfl (fun w' => ?_) ?_; rotate_left; (go_simp; try with_reducible rfl); simp only [Act.put, List.setIfInBounds_toArray, List.set_cons_zero, List.set_cons_succ])
  (refine plan_val ?_ rfl rfl rfl (fun w' hS => ?_) ?_; rotate_left; (obtain ⟨X0, X1, X2, X3, X4, Xf0, Xf1, Xf2, Xf3, Xf4⟩ := row_five (row_call X hS); go_simp; try with_reducible rfl); simp only [Act.put, List.setIfInBounds_toArray, List.set_cons_zero, List.set_cons_succ])
  (refine plan_pure ?_ rfl rfl (fun w' => ?_) ?_; rotate_left; (go_simp; try with_reducible rfl); simp only [Act.put, List.setIfInBounds_toArray, List.set_cons_zero, List.set_cons_succ])
  refine plan_nil ?_
  intro w3 L3
  simp only [List.drop_succ_cons, List.drop_zero]
  try simp only [Act.put, List.setIfInBounds_toArray, List.set_cons_zero, List.set_cons_succ]
  replace X := row_call X L3
  replace o := o.trans (L3.mono o.size)
  clear L3 PG PV PT
  have hcc2 : ¬ cap < N := by omega
  obtain ⟨X0, X1, X2, X3, X4, Xf0, Xf1, Xf2, Xf3, Xf4⟩ := row_five X
  go_wp2
  go_loopw [4, 34] (fun u4 i wr => ∃ j : Nat, j ≤ m ∧ i = .int .i64 (j : Nat) ∧ Row wr w.heap.size 32 #[.int .i64 wd, .int .i64 (k : Nat), .int .i64 (cap : Nat), .int .i64 now, .slice A m c] ∧ Below w.heap.size w wr) (fun _ i _ => m - (intOf i).toNat)
  case atStart => exact ⟨0, Nat.zero_le _, rfl, X, o⟩
  case round =>
    clear X o X0 Xf0 X1 Xf1 X2 Xf2 X3 Xf3 X4 Xf4
    obtain ⟨j, hj, rfl, X, o⟩ := hrel
    by_cases hlt : j < m
    · obtain ⟨ad, rfl, hadb, hi0⟩ := HR.out.reads.bk hlt
      obtain ⟨c0, c1⟩ := hi0.below o (by rw [block_of_add]; exact hadb)
      have jl : j < l.length := by rw [hlN.out]; exact hlt
      have lB := HS.out.live _ (bk_mem jl)
      have tB := HS.out.val.tick _ (bk_mem jl)
      have PL := fun w => plive now wd (bkAt l j).t w (by omega) (by omega) (by omega) (by omega) tB.1 lB.2
      rw [decide_eq_true lB.1] at PL
      replace PL := Lib.hid PL
      generalize (bkAt l j).t = tj at c0 PL tB lB
      generalize (bkAt l j).lv = lv at c1
      have i1 : (j : Int) < (m : Int) := by omega
      have i2 : (0 : Int) ≤ (j : Int) := by omega
      have z0 := o.size
      clear hi0 jl
      obtain ⟨X0, X1, X2, X3, X4, Xf0, Xf1, Xf2, Xf3, Xf4⟩ := row_five X
      go_upto_region 6 with (fail)
      have B : Row (wr.alloc (.cells #[.int .i64 tj, .int .i64 (lv : Nat)] 318)) wr.heap.size 318 #[.int .i64 tj, .int .i64 (lv : Nat)] := row_new rfl
      replace X := row_alloc X (.cells #[.int .i64 tj, .int .i64 (lv : Nat)] 318)
      replace o := o.alloc o.size (.cells #[.int .i64 tj, .int .i64 (lv : Nat)] 318)
      clear c0 c1 X0 Xf0 X1 Xf1 X2 Xf2 X3 Xf3 X4 Xf4
      generalize wr.alloc (.cells #[.int .i64 tj, .int .i64 (lv : Nat)] 318) = w5 at X B o ⊢
      generalize wr.heap.size = bb at B ⊢
      obtain ⟨X0, X1, X2, X3, X4, Xf0, Xf1, Xf2, Xf3, Xf4⟩ := row_five X
      obtain ⟨B0, B1, _, _⟩ := row_two B
      go_wp2_with (go_at_call 137; with_reducible refine (PL.out _).mono ?_; rintro e w9 ⟨rfl, h9⟩; obtain rfl := h9.symm)
      go_roundw
      case rel => exact ⟨j + 1, by omega, by go_num, X, o⟩
      case measure => simp [intOf]; omega
    · have i1 : ¬ (j : Int) < (m : Int) := by omega
      obtain ⟨X0, X1, X2, X3, X4, Xf0, Xf1, Xf2, Xf3, Xf4⟩ := row_five X
      go_wp2
      go_ret
      exact ⟨rfl, o⟩
set_option maxRecDepth 100000 in
theorem pctnew (wd : Int) (k cap : Nat) (now : Int) (w : World) (h : 1 ≤ wd ∧ wd ≤ 1048576 ∧ 1 ≤ k ∧ k ≤ 64 ∧ 1 ≤ cap ∧ cap ≤ 65536 ∧ 0 ≤ now ∧ now ≤ 16777216) : Calls Tryz.prog 110 #[.int .i64 wd, .int .i64 (k : Nat), .int .i64 (cap : Nat), .int .i64 now] w fun e w' => e = .returned (.tuple #[.agg #[.int .i64 wd, .int .i64 (k : Nat), .int .i64 (cap : Nat), .int .i64 now, .slice none 0 0], .int .i64 0]) ∧ Below w.heap.size w w' := by
  have PG := Lib.hid (fun w => pctgood wd k cap now w h)
  clear h
  go_enter Tryz.func110, Tryz.ntmps110
  go_upto_region 1 with (fail)
  have R : Row (w.alloc (.cells #[.int .i64 0, .int .i64 0, .int .i64 0, .int .i64 0, .slice none 0 0] 32)) w.heap.size 32 #[.int .i64 0, .int .i64 0, .int .i64 0, .int .i64 0, .slice none 0 0] := row_new rfl
  have o : Below w.heap.size w (w.alloc (.cells #[.int .i64 0, .int .i64 0, .int .i64 0, .int .i64 0, .slice none 0 0] 32)) := by (repeat (first | exact Below.refl _ _ | refine Below.setCell ?_ (by first | (simp; done) | (simp; omega) | omega) _ | refine Below.alloc ?_ (by first | (simp; done) | (simp; omega) | omega) _ | refine Below.drew ?_ | refine Below.trans ?_ (Below.mono (by assumption) (by first | (simp; done) | (simp; omega) | omega))))
  generalize w.alloc (.cells #[.int .i64 0, .int .i64 0, .int .i64 0, .int .i64 0, .slice none 0 0] 32) = w1 at R o ⊢
  go_wp2_with fail
  refine (PG.out _).mono ?_
  rintro e w2 ⟨rfl, hb⟩
  replace R := row_call R hb
  replace o := o.trans (hb.mono o.size)
  clear hb
  obtain ⟨R0, R1, R2, R3, R4, Rf0, Rf1, Rf2, Rf3, Rf4⟩ := row_five R
  go_wp2
  have Sr0 := row_set R 0 (.int .i64 wd)
  have Sr1 := row_set Sr0 1 (.int .i64 (k : Nat))
  have Sr2 := row_set Sr1 2 (.int .i64 (cap : Nat))
  have Sr3 := row_set Sr2 3 (.int .i64 now)
  have Sr4 := row_set Sr3 4 (.slice none 0 0)
  have o90 := o.setCell (p := ⟨w.heap.size, 0, none⟩) (Nat.le_refl _) (.int .i64 wd)
  have o91 := o90.setCell (p := ⟨w.heap.size, 1, none⟩) (Nat.le_refl _) (.int .i64 (k : Nat))
  have o92 := o91.setCell (p := ⟨w.heap.size, 2, none⟩) (Nat.le_refl _) (.int .i64 (cap : Nat))
  have o93 := o92.setCell (p := ⟨w.heap.size, 3, none⟩) (Nat.le_refl _) (.int .i64 now)
  have o94 := o93.setCell (p := ⟨w.heap.size, 4, none⟩) (Nat.le_refl _) (.slice none 0 0)
  obtain ⟨S0, S1, S2, S3, S4, _, _, _, _, _⟩ := row_five Sr4
  exact bodyPost_ret (v := .tuple #[.agg #[.int .i64 wd, .int .i64 (k : Nat), .int .i64 (cap : Nat), .int .i64 now, .slice none 0 0], .int .i64 0]) (by simp [results, Tryz.results110, go_sem, S0, S1, S2, S3, S4]) rfl ⟨rfl, o94⟩
set_option maxRecDepth 100000 in
theorem pctask (A : Option Addr) (m c : Nat) (l : List Bk) (wd : Int) (k cap : Nat) (now : Int) (w : World) (hin : BIn A m c l w) (hs : CtS wd k cap now l) : Calls Tryz.prog 41 #[.agg #[.int .i64 wd, .int .i64 (k : Nat), .int .i64 (cap : Nat), .int .i64 now, .slice A m c]] w fun e w' => e = .returned (.tuple #[qV (qLo l) (btot l), .int .i64 0]) ∧ Below w.heap.size w w' := by
  have P := Lib.hid (fun w' (hb : Below w.heap.size w w') => pctval A m c l wd k cap now w' (hin.below hb) hs)
  have PQ := fun w' (hb : Below w.heap.size w w') => pbQuery A m c l w' (hin.below hb) hs.val.lev (by have := hs.cap; have := hs.good; omega)
  unfold qV at PQ ⊢
  generalize (qLo l + btot l) / 2 = md at PQ ⊢
  generalize qLo l = lo at PQ ⊢
  generalize btot l = N at PQ ⊢
  replace PQ := Lib.hid PQ
  clear hin hs
  go_enter Tryz.func41, Tryz.ntmps41
  go_upto_region 1 with (fail)
  have X : Row ((w.alloc (.cells #[.int .i64 wd, .int .i64 (k : Nat), .int .i64 (cap : Nat), .int .i64 now, .slice A m c] 32)).alloc (.cells #[.int .i64 0, .int .i64 0, .int .i64 0, .int .i64 0, .int .i64 0, .int .i64 0] 64)) w.heap.size 32 #[.int .i64 wd, .int .i64 (k : Nat), .int .i64 (cap : Nat), .int .i64 now, .slice A m c] := row_alloc (row_new rfl) _
  have R : Row ((w.alloc (.cells #[.int .i64 wd, .int .i64 (k : Nat), .int .i64 (cap : Nat), .int .i64 now, .slice A m c] 32)).alloc (.cells #[.int .i64 0, .int .i64 0, .int .i64 0, .int .i64 0, .int .i64 0, .int .i64 0] 64)) (w.heap.size + 1) 64 #[.int .i64 0, .int .i64 0, .int .i64 0, .int .i64 0, .int .i64 0, .int .i64 0] := row_new (by simp)
  have o : Below w.heap.size w ((w.alloc (.cells #[.int .i64 wd, .int .i64 (k : Nat), .int .i64 (cap : Nat), .int .i64 now, .slice A m c] 32)).alloc (.cells #[.int .i64 0, .int .i64 0, .int .i64 0, .int .i64 0, .int .i64 0, .int .i64 0] 64)) := by (repeat (first | exact Below.refl _ _ | refine Below.setCell ?_ (by first | (simp; done) | (simp; omega) | omega) _ | refine Below.alloc ?_ (by first | (simp; done) | (simp; omega) | omega) _ | refine Below.drew ?_ | refine Below.trans ?_ (Below.mono (by assumption) (by first | (simp; done) | (simp; omega) | omega))))
  generalize ((w.alloc (.cells #[.int .i64 wd, .int .i64 (k : Nat), .int .i64 (cap : Nat), .int .i64 now, .slice A m c] 32)).alloc (.cells #[.int .i64 0, .int .i64 0, .int .i64 0, .int .i64 0, .int .i64 0, .int .i64 0] 64)) = w1 at X R o ⊢
  obtain ⟨X0, X1, X2, X3, X4, Xf0, Xf1, Xf2, Xf3, Xf4⟩ := row_five X
  go_wp2_with fail
  refine (P.out _ o).mono ?_
  rintro e w2 ⟨rfl, hb⟩
  replace X := row_call X hb
  replace R := row_call R hb
  replace o := o.trans (hb.mono o.size)
  clear hb P X0 Xf0 X1 Xf1 X2 Xf2 X3 Xf3 X4 Xf4
  obtain ⟨X0, X1, X2, X3, X4, Xf0, Xf1, Xf2, Xf3, Xf4⟩ := row_five X
  go_wp2_with fail
  refine (PQ.out _ o).mono ?_
  rintro e w3 ⟨rfl, hb⟩
  replace R := row_call R hb
  replace o := o.trans (hb.mono o.size)
  clear hb X PQ X0 Xf0 X1 Xf1 X2 Xf2 X3 Xf3 X4 Xf4
  obtain ⟨R0, R1, R2, R3, R4, R5, Rf0, Rf1, Rf2, Rf3, Rf4, Rf5⟩ := row_six R
  go_wp2
  have Sr0 := row_set R 0 (.int .i64 (lo : Nat))
  have Sr1 := row_set Sr0 1 (.int .i64 1)
  have Sr2 := row_set Sr1 2 (.int .i64 (md : Nat))
  have Sr3 := row_set Sr2 3 (.int .i64 1)
  have Sr4 := row_set Sr3 4 (.int .i64 (N : Nat))
  have Sr5 := row_set Sr4 5 (.int .i64 1)
  have o90 := o.setCell (p := ⟨w.heap.size + 1, 0, none⟩) (by show w.heap.size ≤ w.heap.size + 1; omega) (.int .i64 (lo : Nat))
  have o91 := o90.setCell (p := ⟨w.heap.size + 1, 1, none⟩) (by show w.heap.size ≤ w.heap.size + 1; omega) (.int .i64 1)
  have o92 := o91.setCell (p := ⟨w.heap.size + 1, 2, none⟩) (by show w.heap.size ≤ w.heap.size + 1; omega) (.int .i64 (md : Nat))
  have o93 := o92.setCell (p := ⟨w.heap.size + 1, 3, none⟩) (by show w.heap.size ≤ w.heap.size + 1; omega) (.int .i64 1)
  have o94 := o93.setCell (p := ⟨w.heap.size + 1, 4, none⟩) (by show w.heap.size ≤ w.heap.size + 1; omega) (.int .i64 (N : Nat))
  have o95 := o94.setCell (p := ⟨w.heap.size + 1, 5, none⟩) (by show w.heap.size ≤ w.heap.size + 1; omega) (.int .i64 1)
  obtain ⟨S0, S1, S2, S3, S4, S5, _, _, _, _, _, _⟩ := row_six Sr5
  exact bodyPost_ret (v := .tuple #[.agg #[.int .i64 (lo : Nat), .int .i64 1, .int .i64 (md : Nat), .int .i64 1, .int .i64 (N : Nat), .int .i64 1], .int .i64 0]) (by simp [results, Tryz.results41, go_sem, S0, S1, S2, S3, S4, S5]) rfl ⟨rfl, o95⟩
/-- What a call leaves that answers a histogram: the state, an error, and where its buckets lie. -/
def CtSRet (P : List Bk → Prop) (cs : Option Addr → Nat → Nat → Array Value) (er : Int) (w : World) (e : Ending) (w' : World) : Prop :=
  ∃ (A : Option Addr) (m c : Nat) (l : List Bk), e = .returned (.tuple #[.agg (cs A m c), .int .i64 er]) ∧ BIn A m c l w' ∧ P l ∧ Below w.heap.size w w' ∧ ∀ a, A = some a → w.heap.size ≤ a.block
set_option maxRecDepth 100000 in
set_option maxHeartbeats 4000000 in
theorem pctadv (A : Option Addr) (m c : Nat) (l : List Bk) (wd : Int) (k cap : Nat) (now : Int) (tt : Int) (w : World) (hin : BIn A m c l w) (hs : CtS wd k cap now l) (h1 : now ≤ tt) (h2 : tt ≤ 16777216) : Calls Tryz.prog 65 #[.agg #[.int .i64 wd, .int .i64 (k : Nat), .int .i64 (cap : Nat), .int .i64 now, .slice A m c], .int .i64 tt] w (CtSRet (ExpP l (max 0 (tt - wd + 1))) (fun A m c => #[.int .i64 wd, .int .i64 (k : Nat), .int .i64 (cap : Nat), .int .i64 tt, .slice A m c]) 0 w) := by
  have P := Lib.hid (fun w' (hb : Below w.heap.size w w') => pctval A m c l wd k cap now w' (hin.below hb) hs)
  have hln := hin.len
  have hm : m ≤ 65536 := by have := tot_len l; have := hs.cap; have := hs.good; omega
  have hG := hs.good
  obtain ⟨g0, g1, g2, g3, g4, g5, g6, g7⟩ := hs.good
  have PC := Lib.hid (fun w => pclk_yes now tt w (by omega) (by omega) h1 h2)
  have PF := Lib.hid (fun w => pfirstM tt wd w (by omega) h2 (by omega) (by omega))
  generalize max 0 (tt - wd + 1) = fst at PF ⊢
  have PE := Lib.hid (fun w' (hb : Below w.heap.size w w') => pbExpire A m c l fst w' (hin.below hb) hs.val.ord (by omega))
  clear hin hs hG
  go_enter Tryz.func65, Tryz.ntmps65
  go_upto_region 1 with (fail)
  have X : Row ((w.alloc (.cells #[.int .i64 wd, .int .i64 (k : Nat), .int .i64 (cap : Nat), .int .i64 now, .slice A m c] 32)).alloc (.cells #[.int .i64 0, .int .i64 0, .int .i64 0, .int .i64 0, .slice none 0 0] 32)) w.heap.size 32 #[.int .i64 wd, .int .i64 (k : Nat), .int .i64 (cap : Nat), .int .i64 now, .slice A m c] := row_alloc (row_new rfl) _
  have R : Row ((w.alloc (.cells #[.int .i64 wd, .int .i64 (k : Nat), .int .i64 (cap : Nat), .int .i64 now, .slice A m c] 32)).alloc (.cells #[.int .i64 0, .int .i64 0, .int .i64 0, .int .i64 0, .slice none 0 0] 32)) (w.heap.size + 1) 32 #[.int .i64 0, .int .i64 0, .int .i64 0, .int .i64 0, .slice none 0 0] := row_new (by simp)
  have o : Below w.heap.size w ((w.alloc (.cells #[.int .i64 wd, .int .i64 (k : Nat), .int .i64 (cap : Nat), .int .i64 now, .slice A m c] 32)).alloc (.cells #[.int .i64 0, .int .i64 0, .int .i64 0, .int .i64 0, .slice none 0 0] 32)) := by (repeat (first | exact Below.refl _ _ | refine Below.setCell ?_ (by first | (simp; done) | (simp; omega) | omega) _ | refine Below.alloc ?_ (by first | (simp; done) | (simp; omega) | omega) _ | refine Below.drew ?_ | refine Below.trans ?_ (Below.mono (by assumption) (by first | (simp; done) | (simp; omega) | omega))))
  generalize ((w.alloc (.cells #[.int .i64 wd, .int .i64 (k : Nat), .int .i64 (cap : Nat), .int .i64 now, .slice A m c] 32)).alloc (.cells #[.int .i64 0, .int .i64 0, .int .i64 0, .int .i64 0, .slice none 0 0] 32)) = w1 at X R o ⊢
  obtain ⟨X0, X1, X2, X3, X4, Xf0, Xf1, Xf2, Xf3, Xf4⟩ := row_five X
  go_wp2_with fail
  refine (P.out _ o).mono ?_
  rintro e w2 ⟨rfl, hb⟩
  replace X := row_call X hb
  replace R := row_call R hb
  replace o := o.trans (hb.mono o.size)
  clear hb P X0 Xf0 X1 Xf1 X2 Xf2 X3 Xf3 X4 Xf4
  obtain ⟨X0, X1, X2, X3, X4, Xf0, Xf1, Xf2, Xf3, Xf4⟩ := row_five X
  go_wp2_with fail
  refine (PC.out _).mono ?_
  rintro e w3 ⟨rfl, hx⟩
  obtain rfl := hx.symm
  go_upto_region 8 with (fail)
  replace X := row_set X 3 (.int .i64 tt)
  replace X : Row (w2.setCell ⟨w.heap.size, 3, none⟩ (.int .i64 tt)) w.heap.size 32 #[.int .i64 wd, .int .i64 (k : Nat), .int .i64 (cap : Nat), .int .i64 tt, .slice A m c] := X
  replace R := row_other (p := ⟨w.heap.size, 3, none⟩) R (by show w.heap.size + 1 ≠ w.heap.size; omega) (.int .i64 tt)
  replace o := o.setCell (p := ⟨w.heap.size, 3, none⟩) (Nat.le_refl _) (.int .i64 tt)
  generalize w2.setCell ⟨w.heap.size, 3, none⟩ (.int .i64 tt) = w5 at X R o ⊢
  clear X0 Xf0 X1 Xf1 X2 Xf2 X3 Xf3 X4 Xf4 PC
  refine wp_region_phase 7 (fun w' => Row w' w.heap.size 32 #[.int .i64 wd, .int .i64 (k : Nat), .int .i64 (cap : Nat), .int .i64 tt, .slice A m c] ∧ Row w' (w.heap.size + 1) 32 #[.int .i64 0, .int .i64 0, .int .i64 0, .int .i64 0, .slice none 0 0] ∧ Below w.heap.size w w') (by kernel_rfl) (by kernel_rfl) (by kernel_rfl) (by kernel_rfl) (by kernel_rfl) (fun HOK => ?_)
  have HS := (⟨row_drew X, row_drew R, o.drew⟩ : Row w5.drew w.heap.size 32 #[.int .i64 wd, .int .i64 (k : Nat), .int .i64 (cap : Nat), .int .i64 tt, .slice A m c] ∧ Row w5.drew (w.heap.size + 1) 32 #[.int .i64 0, .int .i64 0, .int .i64 0, .int .i64 0, .slice none 0 0] ∧ Below w.heap.size w w5.drew)
  (refine hw_take HOK (i := 0) ?_ rfl (by decide) (by kernel_rfl) (by kernel_rfl) (by exact fun _ _ _ h => h) (Or.inl ⟨by rfl, fun w' hS => ?_⟩) HS ?_; rotate_left; (go_simp; try with_reducible rfl); simp only [Act.put, List.getElem_toArray, List.getElem_cons_zero, List.getElem_cons_succ,  List.setIfInBounds_toArray, List.set_cons_zero, List.set_cons_succ])
  (refine hw_take HOK (i := 1) ?_ rfl (by decide) (by kernel_rfl) (by kernel_rfl) (by exact fun _ _ _ h => h) (Or.inl ⟨by rfl, fun w' hS => ?_⟩) HS ?_; rotate_left; (obtain ⟨X0, X1, X2, X3, X4, Xf0, Xf1, Xf2, Xf3, Xf4⟩ := row_five hS.1; go_simp; try with_reducible rfl); simp only [Act.put, List.getElem_toArray, List.getElem_cons_zero, List.getElem_cons_succ,  List.setIfInBounds_toArray, List.set_cons_zero, List.set_cons_succ])
  (refine hw_take HOK (i := 2) ?_ rfl (by decide) (by kernel_rfl) (by kernel_rfl) (by exact fun _ _ _ h => h) (Or.inl ⟨by rfl, fun w' hS => ?_⟩) HS ?_; rotate_left; (go_simp; try with_reducible rfl); simp only [Act.put, List.getElem_toArray, List.getElem_cons_zero, List.getElem_cons_succ,  List.setIfInBounds_toArray, List.set_cons_zero, List.set_cons_succ])
  (refine hw_take HOK (i := 3) ?_ rfl (by decide) (by kernel_rfl) (by kernel_rfl) (by exact fun _ _ _ h => h) (Or.inl ⟨by rfl, fun w' hS => ?_⟩) HS ?_; rotate_left; (go_simp; try with_reducible rfl); simp only [Act.put, List.getElem_toArray, List.getElem_cons_zero, List.getElem_cons_succ,  List.setIfInBounds_toArray, List.set_cons_zero, List.set_cons_succ])
  (refine hw_take HOK (i := 4) ?_ rfl (by decide) (by kernel_rfl) (by kernel_rfl) (by exact fun _ _ _ h => h) (Or.inl ⟨by rfl, fun w' hS => ?_⟩) HS ?_; rotate_left; (obtain ⟨X0, X1, X2, X3, X4, Xf0, Xf1, Xf2, Xf3, Xf4⟩ := row_five hS.1; go_simp; try with_reducible rfl); simp only [Act.put, List.getElem_toArray, List.getElem_cons_zero, List.getElem_cons_succ,  List.setIfInBounds_toArray, List.set_cons_zero, List.set_cons_succ])
  replace X : Row w5.drew w.heap.size 32 #[.int .i64 wd, .int .i64 (k : Nat), .int .i64 (cap : Nat), .int .i64 tt, .slice A m c] := X
  replace R : Row w5.drew (w.heap.size + 1) 32 #[.int .i64 0, .int .i64 0, .int .i64 0, .int .i64 0, .slice none 0 0] := R
  replace o := o.drew
  clear HS
  generalize w5.drew = w6 at X R o ⊢
  refine hw_one (i := 5) rfl (by decide) (by kernel_rfl) (fun K hK => ?_)
  go_simp
  refine (PF.out _).mono ?_
  rintro e wx ⟨rfl, hx⟩
  obtain rfl := hx.symm
  refine hK _ _ ⟨X, R, o⟩ ?_
  clear hK K
  try simp only [Act.put, List.getElem_toArray, List.getElem_cons_zero, List.getElem_cons_succ, List.setIfInBounds_toArray, List.set_cons_zero, List.set_cons_succ]
  refine hw_one (i := 6) rfl (by decide) (by kernel_rfl) (fun K hK => ?_)
  go_simp
  refine (PE.out _ o).mono ?_
  rintro e w7 ⟨A5, m5, c5, l5, rfl, in5, hP5, hb5, fr5⟩
  have z6 := row_lt R
  have fr6 : ∀ a, A5 = some a → w.heap.size + 2 ≤ a.block := fun a e => by
    have := fr5 a e
    omega
  replace X := row_call X hb5
  replace R := row_call R hb5
  replace o := o.trans (hb5.mono o.size)
  refine hK _ _ ⟨X, R, o⟩ ?_
  clear hK K
  try simp only [Act.put, List.getElem_toArray, List.getElem_cons_zero, List.getElem_cons_succ, List.setIfInBounds_toArray, List.set_cons_zero, List.set_cons_succ]
  refine hw_done (by kernel_rfl) ?_
  try simp only [List.drop_succ_cons, List.drop_zero]
  clear HOK
  obtain ⟨X0, X1, X2, X3, X4, Xf0, Xf1, Xf2, Xf3, Xf4⟩ := row_five X
  go_upto_region 9 with (fail)
  replace X := row_set X 4 (.slice A5 m5 c5)
  replace X : Row (w7.setCell ⟨w.heap.size, 4, none⟩ (.slice A5 m5 c5)) w.heap.size 32 #[.int .i64 wd, .int .i64 (k : Nat), .int .i64 (cap : Nat), .int .i64 tt, .slice A5 m5 c5] := X
  replace R := row_other (p := ⟨w.heap.size, 4, none⟩) R (by show w.heap.size + 1 ≠ w.heap.size; omega) (.slice A5 m5 c5)
  replace o := o.setCell (p := ⟨w.heap.size, 4, none⟩) (Nat.le_refl _) (.slice A5 m5 c5)
  replace in5 := in5.setc (p := ⟨w.heap.size, 4, none⟩) (fun a e => by have := fr6 a e; show w.heap.size ≠ a.block; omega) (.slice A5 m5 c5)
  generalize w7.setCell ⟨w.heap.size, 4, none⟩ (.slice A5 m5 c5) = w8 at X R o in5 ⊢
  clear X0 Xf0 X1 Xf1 X2 Xf2 X3 Xf3 X4 Xf4 hb5
  obtain ⟨X0, X1, X2, X3, X4, Xf0, Xf1, Xf2, Xf3, Xf4⟩ := row_five X
  obtain ⟨R0, R1, R2, R3, R4, Rf0, Rf1, Rf2, Rf3, Rf4⟩ := row_five R
  replace hP5 := Lib.hid hP5
  go_wp2
  have Sr0 := row_set R 0 (.int .i64 wd)
  have Sr1 := row_set Sr0 1 (.int .i64 (k : Nat))
  have Sr2 := row_set Sr1 2 (.int .i64 (cap : Nat))
  have Sr3 := row_set Sr2 3 (.int .i64 tt)
  have Sr4 := row_set Sr3 4 (.slice A5 m5 c5)
  have o90 := o.setCell (p := ⟨w.heap.size + 1, 0, none⟩) (by show w.heap.size ≤ w.heap.size + 1; omega) (.int .i64 wd)
  have o91 := o90.setCell (p := ⟨w.heap.size + 1, 1, none⟩) (by show w.heap.size ≤ w.heap.size + 1; omega) (.int .i64 (k : Nat))
  have o92 := o91.setCell (p := ⟨w.heap.size + 1, 2, none⟩) (by show w.heap.size ≤ w.heap.size + 1; omega) (.int .i64 (cap : Nat))
  have o93 := o92.setCell (p := ⟨w.heap.size + 1, 3, none⟩) (by show w.heap.size ≤ w.heap.size + 1; omega) (.int .i64 tt)
  have o94 := o93.setCell (p := ⟨w.heap.size + 1, 4, none⟩) (by show w.heap.size ≤ w.heap.size + 1; omega) (.slice A5 m5 c5)
  have b90 := in5.setc (p := ⟨w.heap.size + 1, 0, none⟩) (fun a e => by have := fr6 a e; show w.heap.size + 1 ≠ a.block; omega) (.int .i64 wd)
  have b91 := b90.setc (p := ⟨w.heap.size + 1, 1, none⟩) (fun a e => by have := fr6 a e; show w.heap.size + 1 ≠ a.block; omega) (.int .i64 (k : Nat))
  have b92 := b91.setc (p := ⟨w.heap.size + 1, 2, none⟩) (fun a e => by have := fr6 a e; show w.heap.size + 1 ≠ a.block; omega) (.int .i64 (cap : Nat))
  have b93 := b92.setc (p := ⟨w.heap.size + 1, 3, none⟩) (fun a e => by have := fr6 a e; show w.heap.size + 1 ≠ a.block; omega) (.int .i64 tt)
  have b94 := b93.setc (p := ⟨w.heap.size + 1, 4, none⟩) (fun a e => by have := fr6 a e; show w.heap.size + 1 ≠ a.block; omega) (.slice A5 m5 c5)
  obtain ⟨S0, S1, S2, S3, S4, _, _, _, _, _⟩ := row_five Sr4
  exact bodyPost_ret (v := .tuple #[.agg #[.int .i64 wd, .int .i64 (k : Nat), .int .i64 (cap : Nat), .int .i64 tt, .slice A5 m5 c5], .int .i64 0]) (by simp [results, Tryz.results65, go_sem, S0, S1, S2, S3, S4]) rfl ⟨A5, m5, c5, l5, rfl, b94, hP5.out, o94, fun a e => by have := fr6 a e; omega⟩
set_option maxRecDepth 100000 in
set_option maxHeartbeats 4000000 in
theorem pctadd (A : Option Addr) (m c : Nat) (l : List Bk) (wd : Int) (k cap : Nat) (now : Int) (w : World) (hin : BIn A m c l w) (hs : CtS wd k cap now l) (hf : btot l < cap) : Calls Tryz.prog 121 #[.agg #[.int .i64 wd, .int .i64 (k : Nat), .int .i64 (cap : Nat), .int .i64 now, .slice A m c]] w (CtSRet (Ins k l now 1) (fun A m c => #[.int .i64 wd, .int .i64 (k : Nat), .int .i64 (cap : Nat), .int .i64 now, .slice A m c]) 0 w) := by
  have P := Lib.hid (fun w' (hb : Below w.heap.size w w') => pctval A m c l wd k cap now w' (hin.below hb) hs)
  have hln := hin.len
  have hcp := hs.cap
  have htl := tot_len l
  obtain ⟨g0, g1, g2, g3, g4, g5, g6, g7⟩ := hs.good
  have hm : m ≤ 65536 := by omega
  have PT := Lib.hid (fun w' (hb : Below w.heap.size w w') => pbtotal A m c l w' (hin.below hb) hs.val.lev (by omega))
  have PI := Lib.hid (fun w' (hb : Below w.heap.size w w') => pbIns A m c l k now w' (hin.below hb) hs.val (by omega) (by omega) (by omega) (by omega) (by omega) (fun b hb => (hs.live b hb).2) (by omega))
  clear htl
  generalize btot l = N at PT hcp hf
  have t1 : ((N : Int) == (cap : Int)) = false := by simp; omega
  clear hin hs hf
  go_enter Tryz.func121, Tryz.ntmps121
  go_upto_region 1 with (fail)
  have X : Row ((w.alloc (.cells #[.int .i64 wd, .int .i64 (k : Nat), .int .i64 (cap : Nat), .int .i64 now, .slice A m c] 32)).alloc (.cells #[.int .i64 0, .int .i64 0, .int .i64 0, .int .i64 0, .slice none 0 0] 32)) w.heap.size 32 #[.int .i64 wd, .int .i64 (k : Nat), .int .i64 (cap : Nat), .int .i64 now, .slice A m c] := row_alloc (row_new rfl) _
  have R : Row ((w.alloc (.cells #[.int .i64 wd, .int .i64 (k : Nat), .int .i64 (cap : Nat), .int .i64 now, .slice A m c] 32)).alloc (.cells #[.int .i64 0, .int .i64 0, .int .i64 0, .int .i64 0, .slice none 0 0] 32)) (w.heap.size + 1) 32 #[.int .i64 0, .int .i64 0, .int .i64 0, .int .i64 0, .slice none 0 0] := row_new (by simp)
  have o : Below w.heap.size w ((w.alloc (.cells #[.int .i64 wd, .int .i64 (k : Nat), .int .i64 (cap : Nat), .int .i64 now, .slice A m c] 32)).alloc (.cells #[.int .i64 0, .int .i64 0, .int .i64 0, .int .i64 0, .slice none 0 0] 32)) := by (repeat (first | exact Below.refl _ _ | refine Below.setCell ?_ (by first | (simp; done) | (simp; omega) | omega) _ | refine Below.alloc ?_ (by first | (simp; done) | (simp; omega) | omega) _ | refine Below.drew ?_ | refine Below.trans ?_ (Below.mono (by assumption) (by first | (simp; done) | (simp; omega) | omega))))
  generalize ((w.alloc (.cells #[.int .i64 wd, .int .i64 (k : Nat), .int .i64 (cap : Nat), .int .i64 now, .slice A m c] 32)).alloc (.cells #[.int .i64 0, .int .i64 0, .int .i64 0, .int .i64 0, .slice none 0 0] 32)) = w1 at X R o ⊢
  obtain ⟨X0, X1, X2, X3, X4, Xf0, Xf1, Xf2, Xf3, Xf4⟩ := row_five X
  go_wp2_with fail
  refine (P.out _ o).mono ?_
  rintro e w2 ⟨rfl, hb⟩
  replace X := row_call X hb
  replace R := row_call R hb
  replace o := o.trans (hb.mono o.size)
  clear hb P X0 Xf0 X1 Xf1 X2 Xf2 X3 Xf3 X4 Xf4
  obtain ⟨X0, X1, X2, X3, X4, Xf0, Xf1, Xf2, Xf3, Xf4⟩ := row_five X
  go_upto_region 4 with (fail)
  clear X0 Xf0 X1 Xf1 X2 Xf2 X3 Xf3 X4 Xf4
  refine wp_region_free0 [0, 1, 3, 2, 4] [] [0, 1, 2, 3, 4] 5 (fun w' => Below w2.heap.size w2 w') (by kernel_rfl) (by kernel_rfl) (fun _ _ d _ _ h => by cases d <;> exact h) ?_ ?_
  · exact (Below.refl _ _).drew
  (refine plan_pure ?_ rfl rfl (fun w' => ?_) ?_; rotate_left; (go_simp; try with_reducible rfl); simp only [Act.put, List.setIfInBounds_toArray, List.set_cons_zero, List.set_cons_succ])
  (refine plan_val ?_ rfl rfl rfl (fun w' hS => ?_) ?_; rotate_left; (obtain ⟨X0, X1, X2, X3, X4, Xf0, Xf1, Xf2, Xf3, Xf4⟩ := row_five (row_call X hS); go_simp; try with_reducible rfl); simp only [Act.put, List.setIfInBounds_toArray, List.set_cons_zero, List.set_cons_succ])
  (refine plan_pure ?_ rfl rfl (fun w' => ?_) ?_; rotate_left; (go_simp; try with_reducible rfl); simp only [Act.put, List.setIfInBounds_toArray, List.set_cons_zero, List.set_cons_succ])
  refine plan_call (.int .i64 (N : Nat)) 210 #[.slice A m c] rfl rfl rfl (fun _ _ h hb => h.trans (hb.mono h.size)) (fun w' hS => by obtain ⟨X0, X1, X2, X3, X4, Xf0, Xf1, Xf2, Xf3, Xf4⟩ := row_five (row_call X hS); go_simp) (fun w' hS => PT.out _ (o.trans (hS.mono o.size))) ?_
  simp only [Act.put, List.setIfInBounds_toArray, List.set_cons_zero, List.set_cons_succ]
  (refine plan_val ?_ rfl rfl rfl (fun w' hS => ?_) ?_; rotate_left; (obtain ⟨X0, X1, X2, X3, X4, Xf0, Xf1, Xf2, Xf3, Xf4⟩ := row_five (row_call X hS); go_simp; try with_reducible rfl); simp only [Act.put, List.setIfInBounds_toArray, List.set_cons_zero, List.set_cons_succ])
  refine plan_nil ?_
  intro w3 L3
  simp only [List.drop_succ_cons, List.drop_zero]
  try simp only [Act.put, List.setIfInBounds_toArray, List.set_cons_zero, List.set_cons_succ]
  replace X := row_call X L3
  replace R := row_call R L3
  replace o := o.trans (L3.mono o.size)
  clear L3 PT
  obtain ⟨X0, X1, X2, X3, X4, Xf0, Xf1, Xf2, Xf3, Xf4⟩ := row_five X
  go_wp2_with fail
  refine (PI.out _ o).mono ?_
  rintro e w7 ⟨A5, m5, c5, l5, rfl, in5, hP5, hb5, fr5⟩
  have z6 := row_lt R
  have fr6 : ∀ a, A5 = some a → w.heap.size + 2 ≤ a.block := fun a e => by
    have := fr5 a e
    omega
  replace X := row_call X hb5
  replace R := row_call R hb5
  replace o := o.trans (hb5.mono o.size)
  clear X0 Xf0 X1 Xf1 X2 Xf2 X3 Xf3 X4 Xf4 hb5 fr5 PI
  obtain ⟨X0, X1, X2, X3, X4, Xf0, Xf1, Xf2, Xf3, Xf4⟩ := row_five X
  go_upto_region 7 with (fail)
  replace X := row_set X 4 (.slice A5 m5 c5)
  replace X : Row (w7.setCell ⟨w.heap.size, 4, none⟩ (.slice A5 m5 c5)) w.heap.size 32 #[.int .i64 wd, .int .i64 (k : Nat), .int .i64 (cap : Nat), .int .i64 now, .slice A5 m5 c5] := X
  replace R := row_other (p := ⟨w.heap.size, 4, none⟩) R (by show w.heap.size + 1 ≠ w.heap.size; omega) (.slice A5 m5 c5)
  replace o := o.setCell (p := ⟨w.heap.size, 4, none⟩) (Nat.le_refl _) (.slice A5 m5 c5)
  replace in5 := in5.setc (p := ⟨w.heap.size, 4, none⟩) (fun a e => by have := fr6 a e; show w.heap.size ≠ a.block; omega) (.slice A5 m5 c5)
  generalize w7.setCell ⟨w.heap.size, 4, none⟩ (.slice A5 m5 c5) = w8 at X R o in5 ⊢
  clear X0 Xf0 X1 Xf1 X2 Xf2 X3 Xf3 X4 Xf4
  obtain ⟨X0, X1, X2, X3, X4, Xf0, Xf1, Xf2, Xf3, Xf4⟩ := row_five X
  obtain ⟨R0, R1, R2, R3, R4, Rf0, Rf1, Rf2, Rf3, Rf4⟩ := row_five R
  replace hP5 := Lib.hid hP5
  go_wp2
  have Sr0 := row_set R 0 (.int .i64 wd)
  have Sr1 := row_set Sr0 1 (.int .i64 (k : Nat))
  have Sr2 := row_set Sr1 2 (.int .i64 (cap : Nat))
  have Sr3 := row_set Sr2 3 (.int .i64 now)
  have Sr4 := row_set Sr3 4 (.slice A5 m5 c5)
  have o90 := o.setCell (p := ⟨w.heap.size + 1, 0, none⟩) (by show w.heap.size ≤ w.heap.size + 1; omega) (.int .i64 wd)
  have o91 := o90.setCell (p := ⟨w.heap.size + 1, 1, none⟩) (by show w.heap.size ≤ w.heap.size + 1; omega) (.int .i64 (k : Nat))
  have o92 := o91.setCell (p := ⟨w.heap.size + 1, 2, none⟩) (by show w.heap.size ≤ w.heap.size + 1; omega) (.int .i64 (cap : Nat))
  have o93 := o92.setCell (p := ⟨w.heap.size + 1, 3, none⟩) (by show w.heap.size ≤ w.heap.size + 1; omega) (.int .i64 now)
  have o94 := o93.setCell (p := ⟨w.heap.size + 1, 4, none⟩) (by show w.heap.size ≤ w.heap.size + 1; omega) (.slice A5 m5 c5)
  have b90 := in5.setc (p := ⟨w.heap.size + 1, 0, none⟩) (fun a e => by have := fr6 a e; show w.heap.size + 1 ≠ a.block; omega) (.int .i64 wd)
  have b91 := b90.setc (p := ⟨w.heap.size + 1, 1, none⟩) (fun a e => by have := fr6 a e; show w.heap.size + 1 ≠ a.block; omega) (.int .i64 (k : Nat))
  have b92 := b91.setc (p := ⟨w.heap.size + 1, 2, none⟩) (fun a e => by have := fr6 a e; show w.heap.size + 1 ≠ a.block; omega) (.int .i64 (cap : Nat))
  have b93 := b92.setc (p := ⟨w.heap.size + 1, 3, none⟩) (fun a e => by have := fr6 a e; show w.heap.size + 1 ≠ a.block; omega) (.int .i64 now)
  have b94 := b93.setc (p := ⟨w.heap.size + 1, 4, none⟩) (fun a e => by have := fr6 a e; show w.heap.size + 1 ≠ a.block; omega) (.slice A5 m5 c5)
  obtain ⟨S0, S1, S2, S3, S4, _, _, _, _, _⟩ := row_five Sr4
  exact bodyPost_ret (v := .tuple #[.agg #[.int .i64 wd, .int .i64 (k : Nat), .int .i64 (cap : Nat), .int .i64 now, .slice A5 m5 c5], .int .i64 0]) (by simp [results, Tryz.results121, go_sem, S0, S1, S2, S3, S4]) rfl ⟨A5, m5, c5, l5, rfl, b94, hP5.out, o94, fun a e => by have := fr6 a e; omega⟩
end Go.Proofs.YtdipoojjlddohaaGreat
end
section
/- Synopses of kind Count: the fields of all other kinds are zero, walked. -/
set_option linter.unusedVariables false
set_option linter.unusedSimpArgs false
set_option linter.unusedSectionVars false
set_option linter.unnecessarySimpa false
namespace Go.Proofs.YtdipoojjlddohaaGreat
open Go.RowKit
set_option maxRecDepth 100000 in
set_option maxHeartbeats 8000000 in
theorem poCount (A : Option Addr) (m c : Nat) (wd : Int) (k cap : Nat) (now : Int) (w : World) : Calls Tryz.prog 132 #[.agg #[.int .i64 2, .int .i64 0, .int .i64 wd, .int .i64 (k : Nat), .int .i64 (cap : Nat), .int .i64 0, .int .i64 0, .int .i64 0, .int .i64 0, .int .i64 0, .int .i64 0, .slice none 0 0, .int .i64 wd, .int .i64 (k : Nat), .int .i64 (cap : Nat), .int .i64 now, .slice A m c, .int .i64 0, .int .i64 0, .int .i64 0, .int .i64 0, .int .i64 0, .slice none 0 0, .int .i64 0, .int .i64 0, .int .i64 0, .int .i64 0, .int .i64 0, .int .i64 0, .slice none 0 0, .int .i64 0, .int .i64 0, .int .i64 0, .int .i64 0, .int .i64 0, .slice none 0 0, .int .i64 0, .int .i64 0, .int .i64 0, .slice none 0 0, .int .i64 0, .slice none 0 0, .bool false, .int .i64 0, .int .i64 0, .int .i64 0, .slice none 0 0, .slice none 0 0, .int .i64 0, .int .i64 0, .int .i64 0, .slice none 0 0, .int .i64 0, .int .i64 0, .int .i64 0, .int .i64 0, .slice none 0 0]] w fun e w' => e = .returned (.bool true) ∧ Below w.heap.size w w' := by
  go_enter Tryz.func132, Tryz.ntmps132
  go_upto_region 1 with (fail)
  have X : Row (w.alloc (.cells #[.int .i64 2, .int .i64 0, .int .i64 wd, .int .i64 (k : Nat), .int .i64 (cap : Nat), .int .i64 0, .int .i64 0, .int .i64 0, .int .i64 0, .int .i64 0, .int .i64 0, .slice none 0 0, .int .i64 wd, .int .i64 (k : Nat), .int .i64 (cap : Nat), .int .i64 now, .slice A m c, .int .i64 0, .int .i64 0, .int .i64 0, .int .i64 0, .int .i64 0, .slice none 0 0, .int .i64 0, .int .i64 0, .int .i64 0, .int .i64 0, .int .i64 0, .int .i64 0, .slice none 0 0, .int .i64 0, .int .i64 0, .int .i64 0, .int .i64 0, .int .i64 0, .slice none 0 0, .int .i64 0, .int .i64 0, .int .i64 0, .slice none 0 0, .int .i64 0, .slice none 0 0, .bool false, .int .i64 0, .int .i64 0, .int .i64 0, .slice none 0 0, .slice none 0 0, .int .i64 0, .int .i64 0, .int .i64 0, .slice none 0 0, .int .i64 0, .int .i64 0, .int .i64 0, .int .i64 0, .slice none 0 0] 58)) w.heap.size 58 #[.int .i64 2, .int .i64 0, .int .i64 wd, .int .i64 (k : Nat), .int .i64 (cap : Nat), .int .i64 0, .int .i64 0, .int .i64 0, .int .i64 0, .int .i64 0, .int .i64 0, .slice none 0 0, .int .i64 wd, .int .i64 (k : Nat), .int .i64 (cap : Nat), .int .i64 now, .slice A m c, .int .i64 0, .int .i64 0, .int .i64 0, .int .i64 0, .int .i64 0, .slice none 0 0, .int .i64 0, .int .i64 0, .int .i64 0, .int .i64 0, .int .i64 0, .int .i64 0, .slice none 0 0, .int .i64 0, .int .i64 0, .int .i64 0, .int .i64 0, .int .i64 0, .slice none 0 0, .int .i64 0, .int .i64 0, .int .i64 0, .slice none 0 0, .int .i64 0, .slice none 0 0, .bool false, .int .i64 0, .int .i64 0, .int .i64 0, .slice none 0 0, .slice none 0 0, .int .i64 0, .int .i64 0, .int .i64 0, .slice none 0 0, .int .i64 0, .int .i64 0, .int .i64 0, .int .i64 0, .slice none 0 0] := row_new rfl
  have o : Below w.heap.size w (w.alloc (.cells #[.int .i64 2, .int .i64 0, .int .i64 wd, .int .i64 (k : Nat), .int .i64 (cap : Nat), .int .i64 0, .int .i64 0, .int .i64 0, .int .i64 0, .int .i64 0, .int .i64 0, .slice none 0 0, .int .i64 wd, .int .i64 (k : Nat), .int .i64 (cap : Nat), .int .i64 now, .slice A m c, .int .i64 0, .int .i64 0, .int .i64 0, .int .i64 0, .int .i64 0, .slice none 0 0, .int .i64 0, .int .i64 0, .int .i64 0, .int .i64 0, .int .i64 0, .int .i64 0, .slice none 0 0, .int .i64 0, .int .i64 0, .int .i64 0, .int .i64 0, .int .i64 0, .slice none 0 0, .int .i64 0, .int .i64 0, .int .i64 0, .slice none 0 0, .int .i64 0, .slice none 0 0, .bool false, .int .i64 0, .int .i64 0, .int .i64 0, .slice none 0 0, .slice none 0 0, .int .i64 0, .int .i64 0, .int .i64 0, .slice none 0 0, .int .i64 0, .int .i64 0, .int .i64 0, .int .i64 0, .slice none 0 0] 58)) := by (repeat (first | exact Below.refl _ _ | refine Below.setCell ?_ (by first | (simp; done) | (simp; omega) | omega) _ | refine Below.alloc ?_ (by first | (simp; done) | (simp; omega) | omega) _ | refine Below.drew ?_ | refine Below.trans ?_ (Below.mono (by assumption) (by first | (simp; done) | (simp; omega) | omega))))
  generalize w.alloc (.cells #[.int .i64 2, .int .i64 0, .int .i64 wd, .int .i64 (k : Nat), .int .i64 (cap : Nat), .int .i64 0, .int .i64 0, .int .i64 0, .int .i64 0, .int .i64 0, .int .i64 0, .slice none 0 0, .int .i64 wd, .int .i64 (k : Nat), .int .i64 (cap : Nat), .int .i64 now, .slice A m c, .int .i64 0, .int .i64 0, .int .i64 0, .int .i64 0, .int .i64 0, .slice none 0 0, .int .i64 0, .int .i64 0, .int .i64 0, .int .i64 0, .int .i64 0, .int .i64 0, .slice none 0 0, .int .i64 0, .int .i64 0, .int .i64 0, .int .i64 0, .int .i64 0, .slice none 0 0, .int .i64 0, .int .i64 0, .int .i64 0, .slice none 0 0, .int .i64 0, .slice none 0 0, .bool false, .int .i64 0, .int .i64 0, .int .i64 0, .slice none 0 0, .slice none 0 0, .int .i64 0, .int .i64 0, .int .i64 0, .slice none 0 0, .int .i64 0, .int .i64 0, .int .i64 0, .int .i64 0, .slice none 0 0] 58) = w1 at X o ⊢
  have k0 : w1.cell? ⟨w.heap.size, 0, none⟩ = some (.int .i64 2) := row_cell X 0
  go_upto_region 2 with (fail)
  clear k0
  refine wp_region_phase 19 (fun w' => Row w' w.heap.size 58 #[.int .i64 2, .int .i64 0, .int .i64 wd, .int .i64 (k : Nat), .int .i64 (cap : Nat), .int .i64 0, .int .i64 0, .int .i64 0, .int .i64 0, .int .i64 0, .int .i64 0, .slice none 0 0, .int .i64 wd, .int .i64 (k : Nat), .int .i64 (cap : Nat), .int .i64 now, .slice A m c, .int .i64 0, .int .i64 0, .int .i64 0, .int .i64 0, .int .i64 0, .slice none 0 0, .int .i64 0, .int .i64 0, .int .i64 0, .int .i64 0, .int .i64 0, .int .i64 0, .slice none 0 0, .int .i64 0, .int .i64 0, .int .i64 0, .int .i64 0, .int .i64 0, .slice none 0 0, .int .i64 0, .int .i64 0, .int .i64 0, .slice none 0 0, .int .i64 0, .slice none 0 0, .bool false, .int .i64 0, .int .i64 0, .int .i64 0, .slice none 0 0, .slice none 0 0, .int .i64 0, .int .i64 0, .int .i64 0, .slice none 0 0, .int .i64 0, .int .i64 0, .int .i64 0, .int .i64 0, .slice none 0 0] ∧ Below w.heap.size w w') (by kernel_rfl) (by kernel_rfl) (by kernel_rfl) (by kernel_rfl) (by kernel_rfl) (fun HOK => ?_)
  have HS := (⟨row_drew X, o.drew⟩ : Row w1.drew w.heap.size 58 #[.int .i64 2, .int .i64 0, .int .i64 wd, .int .i64 (k : Nat), .int .i64 (cap : Nat), .int .i64 0, .int .i64 0, .int .i64 0, .int .i64 0, .int .i64 0, .int .i64 0, .slice none 0 0, .int .i64 wd, .int .i64 (k : Nat), .int .i64 (cap : Nat), .int .i64 now, .slice A m c, .int .i64 0, .int .i64 0, .int .i64 0, .int .i64 0, .int .i64 0, .slice none 0 0, .int .i64 0, .int .i64 0, .int .i64 0, .int .i64 0, .int .i64 0, .int .i64 0, .slice none 0 0, .int .i64 0, .int .i64 0, .int .i64 0, .int .i64 0, .int .i64 0, .slice none 0 0, .int .i64 0, .int .i64 0, .int .i64 0, .slice none 0 0, .int .i64 0, .slice none 0 0, .bool false, .int .i64 0, .int .i64 0, .int .i64 0, .slice none 0 0, .slice none 0 0, .int .i64 0, .int .i64 0, .int .i64 0, .slice none 0 0, .int .i64 0, .int .i64 0, .int .i64 0, .int .i64 0, .slice none 0 0] ∧ Below w.heap.size w w1.drew)
  (refine hw_take HOK (i := 0) ?_ rfl (by decide) (by kernel_rfl) (by kernel_rfl) (by exact fun _ _ _ h => h) (Or.inl ⟨by rfl, fun w' hS => ?_⟩) HS ?_; rotate_left; (go_simp; try with_reducible rfl); simp only [Act.put, List.getElem_toArray, List.getElem_cons_zero, List.getElem_cons_succ,  List.setIfInBounds_toArray, List.set_cons_zero, List.set_cons_succ])
  (refine hw_take HOK (i := 1) ?_ rfl (by decide) (by kernel_rfl) (by kernel_rfl) (by exact fun _ _ _ h => h) (Or.inl ⟨by rfl, fun w' hS => ?_⟩) HS ?_; rotate_left; (have q0 : w'.cell? ⟨w.heap.size, 8, none⟩ = some (.int .i64 0) := row_cell hS.1 8; have q1 : w'.cell? ⟨w.heap.size, 9, none⟩ = some (.int .i64 0) := row_cell hS.1 9; have q2 : w'.cell? ⟨w.heap.size, 10, none⟩ = some (.int .i64 0) := row_cell hS.1 10; have q3 : w'.cell? ⟨w.heap.size, 11, none⟩ = some (.slice none 0 0) := row_cell hS.1 11; go_simp; try with_reducible rfl); simp only [Act.put, List.getElem_toArray, List.getElem_cons_zero, List.getElem_cons_succ,  List.setIfInBounds_toArray, List.set_cons_zero, List.set_cons_succ])
  (refine hw_take HOK (i := 2) ?_ rfl (by decide) (by kernel_rfl) (by kernel_rfl) (by exact fun _ _ _ h => h) (Or.inl ⟨by rfl, fun w' hS => ?_⟩) HS ?_; rotate_left; (go_simp; try with_reducible rfl); simp only [Act.put, List.getElem_toArray, List.getElem_cons_zero, List.getElem_cons_succ,  List.setIfInBounds_toArray, List.set_cons_zero, List.set_cons_succ])
  (refine hw_take HOK (i := 3) ?_ rfl (by decide) (by kernel_rfl) (by kernel_rfl) (by exact fun _ _ _ h => h) (Or.inl ⟨by rfl, fun w' hS => ?_⟩) HS ?_; rotate_left; (have q0 : w'.cell? ⟨w.heap.size, 12, none⟩ = some (.int .i64 wd) := row_cell hS.1 12; have q1 : w'.cell? ⟨w.heap.size, 13, none⟩ = some (.int .i64 (k : Nat)) := row_cell hS.1 13; have q2 : w'.cell? ⟨w.heap.size, 14, none⟩ = some (.int .i64 (cap : Nat)) := row_cell hS.1 14; have q3 : w'.cell? ⟨w.heap.size, 15, none⟩ = some (.int .i64 now) := row_cell hS.1 15; have q4 : w'.cell? ⟨w.heap.size, 16, none⟩ = some (.slice A m c) := row_cell hS.1 16; go_simp; try with_reducible rfl); simp only [Act.put, List.getElem_toArray, List.getElem_cons_zero, List.getElem_cons_succ,  List.setIfInBounds_toArray, List.set_cons_zero, List.set_cons_succ])
  (refine hw_take HOK (i := 4) ?_ rfl (by decide) (by kernel_rfl) (by kernel_rfl) (by exact fun _ _ _ h => h) (Or.inl ⟨by rfl, fun w' hS => ?_⟩) HS ?_; rotate_left; (go_simp; try with_reducible rfl); simp only [Act.put, List.getElem_toArray, List.getElem_cons_zero, List.getElem_cons_succ,  List.setIfInBounds_toArray, List.set_cons_zero, List.set_cons_succ])
  (refine hw_take HOK (i := 5) ?_ rfl (by decide) (by kernel_rfl) (by kernel_rfl) (by exact fun _ _ _ h => h) (Or.inl ⟨by rfl, fun w' hS => ?_⟩) HS ?_; rotate_left; (have q0 : w'.cell? ⟨w.heap.size, 17, none⟩ = some (.int .i64 0) := row_cell hS.1 17; have q1 : w'.cell? ⟨w.heap.size, 18, none⟩ = some (.int .i64 0) := row_cell hS.1 18; have q2 : w'.cell? ⟨w.heap.size, 19, none⟩ = some (.int .i64 0) := row_cell hS.1 19; have q3 : w'.cell? ⟨w.heap.size, 20, none⟩ = some (.int .i64 0) := row_cell hS.1 20; have q4 : w'.cell? ⟨w.heap.size, 21, none⟩ = some (.int .i64 0) := row_cell hS.1 21; have q5 : w'.cell? ⟨w.heap.size, 22, none⟩ = some (.slice none 0 0) := row_cell hS.1 22; go_simp; try with_reducible rfl); simp only [Act.put, List.getElem_toArray, List.getElem_cons_zero, List.getElem_cons_succ,  List.setIfInBounds_toArray, List.set_cons_zero, List.set_cons_succ])
  (refine hw_take HOK (i := 6) ?_ rfl (by decide) (by kernel_rfl) (by kernel_rfl) (by exact fun _ _ _ h => h) (Or.inl ⟨by rfl, fun w' hS => ?_⟩) HS ?_; rotate_left; (go_simp; try with_reducible rfl); simp only [Act.put, List.getElem_toArray, List.getElem_cons_zero, List.getElem_cons_succ,  List.setIfInBounds_toArray, List.set_cons_zero, List.set_cons_succ])
  (refine hw_take HOK (i := 7) ?_ rfl (by decide) (by kernel_rfl) (by kernel_rfl) (by exact fun _ _ _ h => h) (Or.inl ⟨by rfl, fun w' hS => ?_⟩) HS ?_; rotate_left; (have q0 : w'.cell? ⟨w.heap.size, 23, none⟩ = some (.int .i64 0) := row_cell hS.1 23; have q1 : w'.cell? ⟨w.heap.size, 24, none⟩ = some (.int .i64 0) := row_cell hS.1 24; have q2 : w'.cell? ⟨w.heap.size, 25, none⟩ = some (.int .i64 0) := row_cell hS.1 25; have q3 : w'.cell? ⟨w.heap.size, 26, none⟩ = some (.int .i64 0) := row_cell hS.1 26; have q4 : w'.cell? ⟨w.heap.size, 27, none⟩ = some (.int .i64 0) := row_cell hS.1 27; have q5 : w'.cell? ⟨w.heap.size, 28, none⟩ = some (.int .i64 0) := row_cell hS.1 28; have q6 : w'.cell? ⟨w.heap.size, 29, none⟩ = some (.slice none 0 0) := row_cell hS.1 29; go_simp; try with_reducible rfl); simp only [Act.put, List.getElem_toArray, List.getElem_cons_zero, List.getElem_cons_succ,  List.setIfInBounds_toArray, List.set_cons_zero, List.set_cons_succ])
  (refine hw_take HOK (i := 8) ?_ rfl (by decide) (by kernel_rfl) (by kernel_rfl) (by exact fun _ _ _ h => h) (Or.inl ⟨by rfl, fun w' hS => ?_⟩) HS ?_; rotate_left; (go_simp; try with_reducible rfl); simp only [Act.put, List.getElem_toArray, List.getElem_cons_zero, List.getElem_cons_succ,  List.setIfInBounds_toArray, List.set_cons_zero, List.set_cons_succ])
  (refine hw_take HOK (i := 9) ?_ rfl (by decide) (by kernel_rfl) (by kernel_rfl) (by exact fun _ _ _ h => h) (Or.inl ⟨by rfl, fun w' hS => ?_⟩) HS ?_; rotate_left; (have q0 : w'.cell? ⟨w.heap.size, 30, none⟩ = some (.int .i64 0) := row_cell hS.1 30; have q1 : w'.cell? ⟨w.heap.size, 31, none⟩ = some (.int .i64 0) := row_cell hS.1 31; have q2 : w'.cell? ⟨w.heap.size, 32, none⟩ = some (.int .i64 0) := row_cell hS.1 32; have q3 : w'.cell? ⟨w.heap.size, 33, none⟩ = some (.int .i64 0) := row_cell hS.1 33; have q4 : w'.cell? ⟨w.heap.size, 34, none⟩ = some (.int .i64 0) := row_cell hS.1 34; have q5 : w'.cell? ⟨w.heap.size, 35, none⟩ = some (.slice none 0 0) := row_cell hS.1 35; go_simp; try with_reducible rfl); simp only [Act.put, List.getElem_toArray, List.getElem_cons_zero, List.getElem_cons_succ,  List.setIfInBounds_toArray, List.set_cons_zero, List.set_cons_succ])
  refine hw_news (f := 4) (fun x o hx => ⟨row_alloc hx.1 o, hx.2.alloc hx.2.size o⟩) [⟨10, 4, 29, #[.int .i64 0, .int .i64 0, .int .i64 0, .slice none 0 0]⟩, ⟨11, 5, 32, #[.int .i64 0, .int .i64 0, .int .i64 0, .int .i64 0, .slice none 0 0]⟩, ⟨12, 6, 34, #[.int .i64 0, .int .i64 0, .int .i64 0, .int .i64 0, .int .i64 0, .slice none 0 0]⟩, ⟨13, 7, 37, #[.int .i64 0, .int .i64 0, .int .i64 0, .int .i64 0, .int .i64 0, .int .i64 0, .slice none 0 0]⟩, ⟨14, 8, 39, #[.int .i64 0, .int .i64 0, .int .i64 0, .int .i64 0, .int .i64 0, .slice none 0 0]⟩] _ _ _ (by kernel_rfl) (List.forall_mem_cons.2 ⟨⟨⟨_, _, rfl, rfl, rfl, fun ρ w' => by go_simp⟩, rfl, by decide⟩, List.forall_mem_cons.2 ⟨⟨⟨_, _, rfl, rfl, rfl, fun ρ w' => by go_simp⟩, rfl, by decide⟩, List.forall_mem_cons.2 ⟨⟨⟨_, _, rfl, rfl, rfl, fun ρ w' => by go_simp⟩, rfl, by decide⟩, List.forall_mem_cons.2 ⟨⟨⟨_, _, rfl, rfl, rfl, fun ρ w' => by go_simp⟩, rfl, by decide⟩, List.forall_mem_cons.2 ⟨⟨⟨_, _, rfl, rfl, rfl, fun ρ w' => by go_simp⟩, rfl, by decide⟩, fun _ h => by cases h⟩⟩⟩⟩⟩) (by decide) HS ?_
  intro bs w2 hS hN
  clear HS
  obtain ⟨b0, b1, b2, b3, b4, rfl⟩ : ∃ b0 b1 b2 b3 b4, bs = [b0, b1, b2, b3, b4] := by
    match bs, hN.len with
    | [b0, b1, b2, b3, b4], _ => exact ⟨_, _, _, _, _, rfl⟩
  have zx := row_lt X
  have nd := hN.nodup
  simp only [List.nodup_cons, List.mem_cons, List.not_mem_nil, or_false, not_or] at nd
  obtain ⟨⟨n01, n02, n03, n04⟩, ⟨n12, n13, n14⟩, ⟨n23, n24⟩, n34, _⟩ := nd
  have R0 : Row w2 b0 29 #[.int .i64 0, .int .i64 0, .int .i64 0, .slice none 0 0] := hN.rows 0 _ _ rfl rfl
  have ge0 : w.heap.size + 1 ≤ b0 := Nat.le_trans zx (hN.ge b0 (by simp))
  have R1 : Row w2 b1 32 #[.int .i64 0, .int .i64 0, .int .i64 0, .int .i64 0, .slice none 0 0] := hN.rows 1 _ _ rfl rfl
  have ge1 : w.heap.size + 1 ≤ b1 := Nat.le_trans zx (hN.ge b1 (by simp))
  have R2 : Row w2 b2 34 #[.int .i64 0, .int .i64 0, .int .i64 0, .int .i64 0, .int .i64 0, .slice none 0 0] := hN.rows 2 _ _ rfl rfl
  have ge2 : w.heap.size + 1 ≤ b2 := Nat.le_trans zx (hN.ge b2 (by simp))
  have R3 : Row w2 b3 37 #[.int .i64 0, .int .i64 0, .int .i64 0, .int .i64 0, .int .i64 0, .int .i64 0, .slice none 0 0] := hN.rows 3 _ _ rfl rfl
  have ge3 : w.heap.size + 1 ≤ b3 := Nat.le_trans zx (hN.ge b3 (by simp))
  have R4 : Row w2 b4 39 #[.int .i64 0, .int .i64 0, .int .i64 0, .int .i64 0, .int .i64 0, .slice none 0 0] := hN.rows 4 _ _ rfl rfl
  have ge4 : w.heap.size + 1 ≤ b4 := Nat.le_trans zx (hN.ge b4 (by simp))
  replace X := hS.1
  replace o := hS.2
  clear hN hS zx
  simp only [putAll, setAll, List.foldl]
  try simp only [Act.put, List.getElem_toArray, List.getElem_cons_zero, List.getElem_cons_succ, List.setIfInBounds_toArray, List.set_cons_zero, List.set_cons_succ]
  refine hw_one (i := 15) rfl (by decide) (by kernel_rfl) (fun K hK => ?_)
  obtain ⟨y0, y1, y2, y3, yf0, yf1, yf2, yf3⟩ := row_four R0
  go_simp
  clear y0 yf0 y1 yf1 y2 yf2 y3 yf3
  replace R0 := row_set R0 0 (.int .i64 0)
  replace R1 := row_other (p := ⟨b0, 0, none⟩) R1 (by show b1 ≠ b0; omega) (.int .i64 0)
  replace R2 := row_other (p := ⟨b0, 0, none⟩) R2 (by show b2 ≠ b0; omega) (.int .i64 0)
  replace R3 := row_other (p := ⟨b0, 0, none⟩) R3 (by show b3 ≠ b0; omega) (.int .i64 0)
  replace R4 := row_other (p := ⟨b0, 0, none⟩) R4 (by show b4 ≠ b0; omega) (.int .i64 0)
  replace X := row_other (p := ⟨b0, 0, none⟩) X (by show w.heap.size ≠ b0; omega) (.int .i64 0)
  replace o := o.setCell (p := ⟨b0, 0, none⟩) (by show w.heap.size ≤ b0; omega) (.int .i64 0)
  replace R0 := row_set R0 1 (.int .i64 0)
  replace R1 := row_other (p := ⟨b0, 1, none⟩) R1 (by show b1 ≠ b0; omega) (.int .i64 0)
  replace R2 := row_other (p := ⟨b0, 1, none⟩) R2 (by show b2 ≠ b0; omega) (.int .i64 0)
  replace R3 := row_other (p := ⟨b0, 1, none⟩) R3 (by show b3 ≠ b0; omega) (.int .i64 0)
  replace R4 := row_other (p := ⟨b0, 1, none⟩) R4 (by show b4 ≠ b0; omega) (.int .i64 0)
  replace X := row_other (p := ⟨b0, 1, none⟩) X (by show w.heap.size ≠ b0; omega) (.int .i64 0)
  replace o := o.setCell (p := ⟨b0, 1, none⟩) (by show w.heap.size ≤ b0; omega) (.int .i64 0)
  replace R0 := row_set R0 2 (.int .i64 0)
  replace R1 := row_other (p := ⟨b0, 2, none⟩) R1 (by show b1 ≠ b0; omega) (.int .i64 0)
  replace R2 := row_other (p := ⟨b0, 2, none⟩) R2 (by show b2 ≠ b0; omega) (.int .i64 0)
  replace R3 := row_other (p := ⟨b0, 2, none⟩) R3 (by show b3 ≠ b0; omega) (.int .i64 0)
  replace R4 := row_other (p := ⟨b0, 2, none⟩) R4 (by show b4 ≠ b0; omega) (.int .i64 0)
  replace X := row_other (p := ⟨b0, 2, none⟩) X (by show w.heap.size ≠ b0; omega) (.int .i64 0)
  replace o := o.setCell (p := ⟨b0, 2, none⟩) (by show w.heap.size ≤ b0; omega) (.int .i64 0)
  replace R0 := row_set R0 3 (.slice none 0 0)
  replace R1 := row_other (p := ⟨b0, 3, none⟩) R1 (by show b1 ≠ b0; omega) (.slice none 0 0)
  replace R2 := row_other (p := ⟨b0, 3, none⟩) R2 (by show b2 ≠ b0; omega) (.slice none 0 0)
  replace R3 := row_other (p := ⟨b0, 3, none⟩) R3 (by show b3 ≠ b0; omega) (.slice none 0 0)
  replace R4 := row_other (p := ⟨b0, 3, none⟩) R4 (by show b4 ≠ b0; omega) (.slice none 0 0)
  replace X := row_other (p := ⟨b0, 3, none⟩) X (by show w.heap.size ≠ b0; omega) (.slice none 0 0)
  replace o := o.setCell (p := ⟨b0, 3, none⟩) (by show w.heap.size ≤ b0; omega) (.slice none 0 0)
  replace R0 : Row ((((w2.setCell ⟨b0, 0, none⟩ (.int .i64 0)).setCell ⟨b0, 1, none⟩ (.int .i64 0)).setCell ⟨b0, 2, none⟩ (.int .i64 0)).setCell ⟨b0, 3, none⟩ (.slice none 0 0)) b0 29 #[.int .i64 0, .int .i64 0, .int .i64 0, .slice none 0 0] := R0
  generalize ((((w2.setCell ⟨b0, 0, none⟩ (.int .i64 0)).setCell ⟨b0, 1, none⟩ (.int .i64 0)).setCell ⟨b0, 2, none⟩ (.int .i64 0)).setCell ⟨b0, 3, none⟩ (.slice none 0 0)) = w2_0 at X o R0 R1 R2 R3 R4 ⊢
  refine hK _ _ ⟨X, o⟩ ?_
  clear hK K
  try simp only [Act.put, List.getElem_toArray, List.getElem_cons_zero, List.getElem_cons_succ, List.setIfInBounds_toArray, List.set_cons_zero, List.set_cons_succ]
  refine hw_one (i := 16) rfl (by decide) (by kernel_rfl) (fun K hK => ?_)
  obtain ⟨y0, y1, y2, y3, y4, yf0, yf1, yf2, yf3, yf4⟩ := row_five R1
  go_simp
  clear y0 yf0 y1 yf1 y2 yf2 y3 yf3 y4 yf4
  replace R1 := row_set R1 0 (.int .i64 wd)
  replace R0 := row_other (p := ⟨b1, 0, none⟩) R0 (by show b0 ≠ b1; omega) (.int .i64 wd)
  replace R2 := row_other (p := ⟨b1, 0, none⟩) R2 (by show b2 ≠ b1; omega) (.int .i64 wd)
  replace R3 := row_other (p := ⟨b1, 0, none⟩) R3 (by show b3 ≠ b1; omega) (.int .i64 wd)
  replace R4 := row_other (p := ⟨b1, 0, none⟩) R4 (by show b4 ≠ b1; omega) (.int .i64 wd)
  replace X := row_other (p := ⟨b1, 0, none⟩) X (by show w.heap.size ≠ b1; omega) (.int .i64 wd)
  replace o := o.setCell (p := ⟨b1, 0, none⟩) (by show w.heap.size ≤ b1; omega) (.int .i64 wd)
  replace R1 := row_set R1 1 (.int .i64 (k : Nat))
  replace R0 := row_other (p := ⟨b1, 1, none⟩) R0 (by show b0 ≠ b1; omega) (.int .i64 (k : Nat))
  replace R2 := row_other (p := ⟨b1, 1, none⟩) R2 (by show b2 ≠ b1; omega) (.int .i64 (k : Nat))
  replace R3 := row_other (p := ⟨b1, 1, none⟩) R3 (by show b3 ≠ b1; omega) (.int .i64 (k : Nat))
  replace R4 := row_other (p := ⟨b1, 1, none⟩) R4 (by show b4 ≠ b1; omega) (.int .i64 (k : Nat))
  replace X := row_other (p := ⟨b1, 1, none⟩) X (by show w.heap.size ≠ b1; omega) (.int .i64 (k : Nat))
  replace o := o.setCell (p := ⟨b1, 1, none⟩) (by show w.heap.size ≤ b1; omega) (.int .i64 (k : Nat))
  replace R1 := row_set R1 2 (.int .i64 (cap : Nat))
  replace R0 := row_other (p := ⟨b1, 2, none⟩) R0 (by show b0 ≠ b1; omega) (.int .i64 (cap : Nat))
  replace R2 := row_other (p := ⟨b1, 2, none⟩) R2 (by show b2 ≠ b1; omega) (.int .i64 (cap : Nat))
  replace R3 := row_other (p := ⟨b1, 2, none⟩) R3 (by show b3 ≠ b1; omega) (.int .i64 (cap : Nat))
  replace R4 := row_other (p := ⟨b1, 2, none⟩) R4 (by show b4 ≠ b1; omega) (.int .i64 (cap : Nat))
  replace X := row_other (p := ⟨b1, 2, none⟩) X (by show w.heap.size ≠ b1; omega) (.int .i64 (cap : Nat))
  replace o := o.setCell (p := ⟨b1, 2, none⟩) (by show w.heap.size ≤ b1; omega) (.int .i64 (cap : Nat))
  replace R1 := row_set R1 3 (.int .i64 now)
  replace R0 := row_other (p := ⟨b1, 3, none⟩) R0 (by show b0 ≠ b1; omega) (.int .i64 now)
  replace R2 := row_other (p := ⟨b1, 3, none⟩) R2 (by show b2 ≠ b1; omega) (.int .i64 now)
  replace R3 := row_other (p := ⟨b1, 3, none⟩) R3 (by show b3 ≠ b1; omega) (.int .i64 now)
  replace R4 := row_other (p := ⟨b1, 3, none⟩) R4 (by show b4 ≠ b1; omega) (.int .i64 now)
  replace X := row_other (p := ⟨b1, 3, none⟩) X (by show w.heap.size ≠ b1; omega) (.int .i64 now)
  replace o := o.setCell (p := ⟨b1, 3, none⟩) (by show w.heap.size ≤ b1; omega) (.int .i64 now)
  replace R1 := row_set R1 4 (.slice A m c)
  replace R0 := row_other (p := ⟨b1, 4, none⟩) R0 (by show b0 ≠ b1; omega) (.slice A m c)
  replace R2 := row_other (p := ⟨b1, 4, none⟩) R2 (by show b2 ≠ b1; omega) (.slice A m c)
  replace R3 := row_other (p := ⟨b1, 4, none⟩) R3 (by show b3 ≠ b1; omega) (.slice A m c)
  replace R4 := row_other (p := ⟨b1, 4, none⟩) R4 (by show b4 ≠ b1; omega) (.slice A m c)
  replace X := row_other (p := ⟨b1, 4, none⟩) X (by show w.heap.size ≠ b1; omega) (.slice A m c)
  replace o := o.setCell (p := ⟨b1, 4, none⟩) (by show w.heap.size ≤ b1; omega) (.slice A m c)
  replace R1 : Row (((((w2_0.setCell ⟨b1, 0, none⟩ (.int .i64 wd)).setCell ⟨b1, 1, none⟩ (.int .i64 (k : Nat))).setCell ⟨b1, 2, none⟩ (.int .i64 (cap : Nat))).setCell ⟨b1, 3, none⟩ (.int .i64 now)).setCell ⟨b1, 4, none⟩ (.slice A m c)) b1 32 #[.int .i64 wd, .int .i64 (k : Nat), .int .i64 (cap : Nat), .int .i64 now, .slice A m c] := R1
  generalize (((((w2_0.setCell ⟨b1, 0, none⟩ (.int .i64 wd)).setCell ⟨b1, 1, none⟩ (.int .i64 (k : Nat))).setCell ⟨b1, 2, none⟩ (.int .i64 (cap : Nat))).setCell ⟨b1, 3, none⟩ (.int .i64 now)).setCell ⟨b1, 4, none⟩ (.slice A m c)) = w2_1 at X o R0 R1 R2 R3 R4 ⊢
  refine hK _ _ ⟨X, o⟩ ?_
  clear hK K
  try simp only [Act.put, List.getElem_toArray, List.getElem_cons_zero, List.getElem_cons_succ, List.setIfInBounds_toArray, List.set_cons_zero, List.set_cons_succ]
  refine hw_one (i := 17) rfl (by decide) (by kernel_rfl) (fun K hK => ?_)
  obtain ⟨y0, y1, y2, y3, y4, y5, yf0, yf1, yf2, yf3, yf4, yf5⟩ := row_six R2
  go_simp
  clear y0 yf0 y1 yf1 y2 yf2 y3 yf3 y4 yf4 y5 yf5
  replace R2 := row_set R2 0 (.int .i64 0)
  replace R0 := row_other (p := ⟨b2, 0, none⟩) R0 (by show b0 ≠ b2; omega) (.int .i64 0)
  replace R1 := row_other (p := ⟨b2, 0, none⟩) R1 (by show b1 ≠ b2; omega) (.int .i64 0)
  replace R3 := row_other (p := ⟨b2, 0, none⟩) R3 (by show b3 ≠ b2; omega) (.int .i64 0)
  replace R4 := row_other (p := ⟨b2, 0, none⟩) R4 (by show b4 ≠ b2; omega) (.int .i64 0)
  replace X := row_other (p := ⟨b2, 0, none⟩) X (by show w.heap.size ≠ b2; omega) (.int .i64 0)
  replace o := o.setCell (p := ⟨b2, 0, none⟩) (by show w.heap.size ≤ b2; omega) (.int .i64 0)
  replace R2 := row_set R2 1 (.int .i64 0)
  replace R0 := row_other (p := ⟨b2, 1, none⟩) R0 (by show b0 ≠ b2; omega) (.int .i64 0)
  replace R1 := row_other (p := ⟨b2, 1, none⟩) R1 (by show b1 ≠ b2; omega) (.int .i64 0)
  replace R3 := row_other (p := ⟨b2, 1, none⟩) R3 (by show b3 ≠ b2; omega) (.int .i64 0)
  replace R4 := row_other (p := ⟨b2, 1, none⟩) R4 (by show b4 ≠ b2; omega) (.int .i64 0)
  replace X := row_other (p := ⟨b2, 1, none⟩) X (by show w.heap.size ≠ b2; omega) (.int .i64 0)
  replace o := o.setCell (p := ⟨b2, 1, none⟩) (by show w.heap.size ≤ b2; omega) (.int .i64 0)
  replace R2 := row_set R2 2 (.int .i64 0)
  replace R0 := row_other (p := ⟨b2, 2, none⟩) R0 (by show b0 ≠ b2; omega) (.int .i64 0)
  replace R1 := row_other (p := ⟨b2, 2, none⟩) R1 (by show b1 ≠ b2; omega) (.int .i64 0)
  replace R3 := row_other (p := ⟨b2, 2, none⟩) R3 (by show b3 ≠ b2; omega) (.int .i64 0)
  replace R4 := row_other (p := ⟨b2, 2, none⟩) R4 (by show b4 ≠ b2; omega) (.int .i64 0)
  replace X := row_other (p := ⟨b2, 2, none⟩) X (by show w.heap.size ≠ b2; omega) (.int .i64 0)
  replace o := o.setCell (p := ⟨b2, 2, none⟩) (by show w.heap.size ≤ b2; omega) (.int .i64 0)
  replace R2 := row_set R2 3 (.int .i64 0)
  replace R0 := row_other (p := ⟨b2, 3, none⟩) R0 (by show b0 ≠ b2; omega) (.int .i64 0)
  replace R1 := row_other (p := ⟨b2, 3, none⟩) R1 (by show b1 ≠ b2; omega) (.int .i64 0)
  replace R3 := row_other (p := ⟨b2, 3, none⟩) R3 (by show b3 ≠ b2; omega) (.int .i64 0)
  replace R4 := row_other (p := ⟨b2, 3, none⟩) R4 (by show b4 ≠ b2; omega) (.int .i64 0)
  replace X := row_other (p := ⟨b2, 3, none⟩) X (by show w.heap.size ≠ b2; omega) (.int .i64 0)
  replace o := o.setCell (p := ⟨b2, 3, none⟩) (by show w.heap.size ≤ b2; omega) (.int .i64 0)
  replace R2 := row_set R2 4 (.int .i64 0)
  replace R0 := row_other (p := ⟨b2, 4, none⟩) R0 (by show b0 ≠ b2; omega) (.int .i64 0)
  replace R1 := row_other (p := ⟨b2, 4, none⟩) R1 (by show b1 ≠ b2; omega) (.int .i64 0)
  replace R3 := row_other (p := ⟨b2, 4, none⟩) R3 (by show b3 ≠ b2; omega) (.int .i64 0)
  replace R4 := row_other (p := ⟨b2, 4, none⟩) R4 (by show b4 ≠ b2; omega) (.int .i64 0)
  replace X := row_other (p := ⟨b2, 4, none⟩) X (by show w.heap.size ≠ b2; omega) (.int .i64 0)
  replace o := o.setCell (p := ⟨b2, 4, none⟩) (by show w.heap.size ≤ b2; omega) (.int .i64 0)
  replace R2 := row_set R2 5 (.slice none 0 0)
  replace R0 := row_other (p := ⟨b2, 5, none⟩) R0 (by show b0 ≠ b2; omega) (.slice none 0 0)
  replace R1 := row_other (p := ⟨b2, 5, none⟩) R1 (by show b1 ≠ b2; omega) (.slice none 0 0)
  replace R3 := row_other (p := ⟨b2, 5, none⟩) R3 (by show b3 ≠ b2; omega) (.slice none 0 0)
  replace R4 := row_other (p := ⟨b2, 5, none⟩) R4 (by show b4 ≠ b2; omega) (.slice none 0 0)
  replace X := row_other (p := ⟨b2, 5, none⟩) X (by show w.heap.size ≠ b2; omega) (.slice none 0 0)
  replace o := o.setCell (p := ⟨b2, 5, none⟩) (by show w.heap.size ≤ b2; omega) (.slice none 0 0)
  replace R2 : Row ((((((w2_1.setCell ⟨b2, 0, none⟩ (.int .i64 0)).setCell ⟨b2, 1, none⟩ (.int .i64 0)).setCell ⟨b2, 2, none⟩ (.int .i64 0)).setCell ⟨b2, 3, none⟩ (.int .i64 0)).setCell ⟨b2, 4, none⟩ (.int .i64 0)).setCell ⟨b2, 5, none⟩ (.slice none 0 0)) b2 34 #[.int .i64 0, .int .i64 0, .int .i64 0, .int .i64 0, .int .i64 0, .slice none 0 0] := R2
  generalize ((((((w2_1.setCell ⟨b2, 0, none⟩ (.int .i64 0)).setCell ⟨b2, 1, none⟩ (.int .i64 0)).setCell ⟨b2, 2, none⟩ (.int .i64 0)).setCell ⟨b2, 3, none⟩ (.int .i64 0)).setCell ⟨b2, 4, none⟩ (.int .i64 0)).setCell ⟨b2, 5, none⟩ (.slice none 0 0)) = w2_2 at X o R0 R1 R2 R3 R4 ⊢
  refine hK _ _ ⟨X, o⟩ ?_
  clear hK K
  try simp only [Act.put, List.getElem_toArray, List.getElem_cons_zero, List.getElem_cons_succ, List.setIfInBounds_toArray, List.set_cons_zero, List.set_cons_succ]
  refine hw_one (i := 18) rfl (by decide) (by kernel_rfl) (fun K hK => ?_)
  obtain ⟨y0, y1, y2, y3, y4, y5, y6, yf0, yf1, yf2, yf3, yf4, yf5, yf6⟩ := row_seven R3
  go_simp
  clear y0 yf0 y1 yf1 y2 yf2 y3 yf3 y4 yf4 y5 yf5 y6 yf6
  replace R3 := row_set R3 0 (.int .i64 0)
  replace R0 := row_other (p := ⟨b3, 0, none⟩) R0 (by show b0 ≠ b3; omega) (.int .i64 0)
  replace R1 := row_other (p := ⟨b3, 0, none⟩) R1 (by show b1 ≠ b3; omega) (.int .i64 0)
  replace R2 := row_other (p := ⟨b3, 0, none⟩) R2 (by show b2 ≠ b3; omega) (.int .i64 0)
  replace R4 := row_other (p := ⟨b3, 0, none⟩) R4 (by show b4 ≠ b3; omega) (.int .i64 0)
  replace X := row_other (p := ⟨b3, 0, none⟩) X (by show w.heap.size ≠ b3; omega) (.int .i64 0)
  replace o := o.setCell (p := ⟨b3, 0, none⟩) (by show w.heap.size ≤ b3; omega) (.int .i64 0)
  replace R3 := row_set R3 1 (.int .i64 0)
  replace R0 := row_other (p := ⟨b3, 1, none⟩) R0 (by show b0 ≠ b3; omega) (.int .i64 0)
  replace R1 := row_other (p := ⟨b3, 1, none⟩) R1 (by show b1 ≠ b3; omega) (.int .i64 0)
  replace R2 := row_other (p := ⟨b3, 1, none⟩) R2 (by show b2 ≠ b3; omega) (.int .i64 0)
  replace R4 := row_other (p := ⟨b3, 1, none⟩) R4 (by show b4 ≠ b3; omega) (.int .i64 0)
  replace X := row_other (p := ⟨b3, 1, none⟩) X (by show w.heap.size ≠ b3; omega) (.int .i64 0)
  replace o := o.setCell (p := ⟨b3, 1, none⟩) (by show w.heap.size ≤ b3; omega) (.int .i64 0)
  replace R3 := row_set R3 2 (.int .i64 0)
  replace R0 := row_other (p := ⟨b3, 2, none⟩) R0 (by show b0 ≠ b3; omega) (.int .i64 0)
  replace R1 := row_other (p := ⟨b3, 2, none⟩) R1 (by show b1 ≠ b3; omega) (.int .i64 0)
  replace R2 := row_other (p := ⟨b3, 2, none⟩) R2 (by show b2 ≠ b3; omega) (.int .i64 0)
  replace R4 := row_other (p := ⟨b3, 2, none⟩) R4 (by show b4 ≠ b3; omega) (.int .i64 0)
  replace X := row_other (p := ⟨b3, 2, none⟩) X (by show w.heap.size ≠ b3; omega) (.int .i64 0)
  replace o := o.setCell (p := ⟨b3, 2, none⟩) (by show w.heap.size ≤ b3; omega) (.int .i64 0)
  replace R3 := row_set R3 3 (.int .i64 0)
  replace R0 := row_other (p := ⟨b3, 3, none⟩) R0 (by show b0 ≠ b3; omega) (.int .i64 0)
  replace R1 := row_other (p := ⟨b3, 3, none⟩) R1 (by show b1 ≠ b3; omega) (.int .i64 0)
  replace R2 := row_other (p := ⟨b3, 3, none⟩) R2 (by show b2 ≠ b3; omega) (.int .i64 0)
  replace R4 := row_other (p := ⟨b3, 3, none⟩) R4 (by show b4 ≠ b3; omega) (.int .i64 0)
  replace X := row_other (p := ⟨b3, 3, none⟩) X (by show w.heap.size ≠ b3; omega) (.int .i64 0)
  replace o := o.setCell (p := ⟨b3, 3, none⟩) (by show w.heap.size ≤ b3; omega) (.int .i64 0)
  replace R3 := row_set R3 4 (.int .i64 0)
  replace R0 := row_other (p := ⟨b3, 4, none⟩) R0 (by show b0 ≠ b3; omega) (.int .i64 0)
  replace R1 := row_other (p := ⟨b3, 4, none⟩) R1 (by show b1 ≠ b3; omega) (.int .i64 0)
  replace R2 := row_other (p := ⟨b3, 4, none⟩) R2 (by show b2 ≠ b3; omega) (.int .i64 0)
  replace R4 := row_other (p := ⟨b3, 4, none⟩) R4 (by show b4 ≠ b3; omega) (.int .i64 0)
  replace X := row_other (p := ⟨b3, 4, none⟩) X (by show w.heap.size ≠ b3; omega) (.int .i64 0)
  replace o := o.setCell (p := ⟨b3, 4, none⟩) (by show w.heap.size ≤ b3; omega) (.int .i64 0)
  replace R3 := row_set R3 5 (.int .i64 0)
  replace R0 := row_other (p := ⟨b3, 5, none⟩) R0 (by show b0 ≠ b3; omega) (.int .i64 0)
  replace R1 := row_other (p := ⟨b3, 5, none⟩) R1 (by show b1 ≠ b3; omega) (.int .i64 0)
  replace R2 := row_other (p := ⟨b3, 5, none⟩) R2 (by show b2 ≠ b3; omega) (.int .i64 0)
  replace R4 := row_other (p := ⟨b3, 5, none⟩) R4 (by show b4 ≠ b3; omega) (.int .i64 0)
  replace X := row_other (p := ⟨b3, 5, none⟩) X (by show w.heap.size ≠ b3; omega) (.int .i64 0)
  replace o := o.setCell (p := ⟨b3, 5, none⟩) (by show w.heap.size ≤ b3; omega) (.int .i64 0)
  replace R3 := row_set R3 6 (.slice none 0 0)
  replace R0 := row_other (p := ⟨b3, 6, none⟩) R0 (by show b0 ≠ b3; omega) (.slice none 0 0)
  replace R1 := row_other (p := ⟨b3, 6, none⟩) R1 (by show b1 ≠ b3; omega) (.slice none 0 0)
  replace R2 := row_other (p := ⟨b3, 6, none⟩) R2 (by show b2 ≠ b3; omega) (.slice none 0 0)
  replace R4 := row_other (p := ⟨b3, 6, none⟩) R4 (by show b4 ≠ b3; omega) (.slice none 0 0)
  replace X := row_other (p := ⟨b3, 6, none⟩) X (by show w.heap.size ≠ b3; omega) (.slice none 0 0)
  replace o := o.setCell (p := ⟨b3, 6, none⟩) (by show w.heap.size ≤ b3; omega) (.slice none 0 0)
  replace R3 : Row (((((((w2_2.setCell ⟨b3, 0, none⟩ (.int .i64 0)).setCell ⟨b3, 1, none⟩ (.int .i64 0)).setCell ⟨b3, 2, none⟩ (.int .i64 0)).setCell ⟨b3, 3, none⟩ (.int .i64 0)).setCell ⟨b3, 4, none⟩ (.int .i64 0)).setCell ⟨b3, 5, none⟩ (.int .i64 0)).setCell ⟨b3, 6, none⟩ (.slice none 0 0)) b3 37 #[.int .i64 0, .int .i64 0, .int .i64 0, .int .i64 0, .int .i64 0, .int .i64 0, .slice none 0 0] := R3
  generalize (((((((w2_2.setCell ⟨b3, 0, none⟩ (.int .i64 0)).setCell ⟨b3, 1, none⟩ (.int .i64 0)).setCell ⟨b3, 2, none⟩ (.int .i64 0)).setCell ⟨b3, 3, none⟩ (.int .i64 0)).setCell ⟨b3, 4, none⟩ (.int .i64 0)).setCell ⟨b3, 5, none⟩ (.int .i64 0)).setCell ⟨b3, 6, none⟩ (.slice none 0 0)) = w2_3 at X o R0 R1 R2 R3 R4 ⊢
  refine hK _ _ ⟨X, o⟩ ?_
  clear hK K
  try simp only [Act.put, List.getElem_toArray, List.getElem_cons_zero, List.getElem_cons_succ, List.setIfInBounds_toArray, List.set_cons_zero, List.set_cons_succ]
  refine hw_done (by kernel_rfl) ?_
  try simp only [List.drop_succ_cons, List.drop_zero]
  obtain ⟨y0, y1, y2, y3, y4, y5, yf0, yf1, yf2, yf3, yf4, yf5⟩ := row_six R4
  go_upto_region 3 with (fail)
  clear y0 yf0 y1 yf1 y2 yf2 y3 yf3 y4 yf4 y5 yf5
  replace R4 := row_set R4 0 (.int .i64 0)
  replace R0 := row_other (p := ⟨b4, 0, none⟩) R0 (by show b0 ≠ b4; omega) (.int .i64 0)
  replace R1 := row_other (p := ⟨b4, 0, none⟩) R1 (by show b1 ≠ b4; omega) (.int .i64 0)
  replace R2 := row_other (p := ⟨b4, 0, none⟩) R2 (by show b2 ≠ b4; omega) (.int .i64 0)
  replace R3 := row_other (p := ⟨b4, 0, none⟩) R3 (by show b3 ≠ b4; omega) (.int .i64 0)
  replace X := row_other (p := ⟨b4, 0, none⟩) X (by show w.heap.size ≠ b4; omega) (.int .i64 0)
  replace o := o.setCell (p := ⟨b4, 0, none⟩) (by show w.heap.size ≤ b4; omega) (.int .i64 0)
  replace R4 := row_set R4 1 (.int .i64 0)
  replace R0 := row_other (p := ⟨b4, 1, none⟩) R0 (by show b0 ≠ b4; omega) (.int .i64 0)
  replace R1 := row_other (p := ⟨b4, 1, none⟩) R1 (by show b1 ≠ b4; omega) (.int .i64 0)
  replace R2 := row_other (p := ⟨b4, 1, none⟩) R2 (by show b2 ≠ b4; omega) (.int .i64 0)
  replace R3 := row_other (p := ⟨b4, 1, none⟩) R3 (by show b3 ≠ b4; omega) (.int .i64 0)
  replace X := row_other (p := ⟨b4, 1, none⟩) X (by show w.heap.size ≠ b4; omega) (.int .i64 0)
  replace o := o.setCell (p := ⟨b4, 1, none⟩) (by show w.heap.size ≤ b4; omega) (.int .i64 0)
  replace R4 := row_set R4 2 (.int .i64 0)
  replace R0 := row_other (p := ⟨b4, 2, none⟩) R0 (by show b0 ≠ b4; omega) (.int .i64 0)
  replace R1 := row_other (p := ⟨b4, 2, none⟩) R1 (by show b1 ≠ b4; omega) (.int .i64 0)
  replace R2 := row_other (p := ⟨b4, 2, none⟩) R2 (by show b2 ≠ b4; omega) (.int .i64 0)
  replace R3 := row_other (p := ⟨b4, 2, none⟩) R3 (by show b3 ≠ b4; omega) (.int .i64 0)
  replace X := row_other (p := ⟨b4, 2, none⟩) X (by show w.heap.size ≠ b4; omega) (.int .i64 0)
  replace o := o.setCell (p := ⟨b4, 2, none⟩) (by show w.heap.size ≤ b4; omega) (.int .i64 0)
  replace R4 := row_set R4 3 (.int .i64 0)
  replace R0 := row_other (p := ⟨b4, 3, none⟩) R0 (by show b0 ≠ b4; omega) (.int .i64 0)
  replace R1 := row_other (p := ⟨b4, 3, none⟩) R1 (by show b1 ≠ b4; omega) (.int .i64 0)
  replace R2 := row_other (p := ⟨b4, 3, none⟩) R2 (by show b2 ≠ b4; omega) (.int .i64 0)
  replace R3 := row_other (p := ⟨b4, 3, none⟩) R3 (by show b3 ≠ b4; omega) (.int .i64 0)
  replace X := row_other (p := ⟨b4, 3, none⟩) X (by show w.heap.size ≠ b4; omega) (.int .i64 0)
  replace o := o.setCell (p := ⟨b4, 3, none⟩) (by show w.heap.size ≤ b4; omega) (.int .i64 0)
  replace R4 := row_set R4 4 (.int .i64 0)
  replace R0 := row_other (p := ⟨b4, 4, none⟩) R0 (by show b0 ≠ b4; omega) (.int .i64 0)
  replace R1 := row_other (p := ⟨b4, 4, none⟩) R1 (by show b1 ≠ b4; omega) (.int .i64 0)
  replace R2 := row_other (p := ⟨b4, 4, none⟩) R2 (by show b2 ≠ b4; omega) (.int .i64 0)
  replace R3 := row_other (p := ⟨b4, 4, none⟩) R3 (by show b3 ≠ b4; omega) (.int .i64 0)
  replace X := row_other (p := ⟨b4, 4, none⟩) X (by show w.heap.size ≠ b4; omega) (.int .i64 0)
  replace o := o.setCell (p := ⟨b4, 4, none⟩) (by show w.heap.size ≤ b4; omega) (.int .i64 0)
  replace R4 := row_set R4 5 (.slice none 0 0)
  replace R0 := row_other (p := ⟨b4, 5, none⟩) R0 (by show b0 ≠ b4; omega) (.slice none 0 0)
  replace R1 := row_other (p := ⟨b4, 5, none⟩) R1 (by show b1 ≠ b4; omega) (.slice none 0 0)
  replace R2 := row_other (p := ⟨b4, 5, none⟩) R2 (by show b2 ≠ b4; omega) (.slice none 0 0)
  replace R3 := row_other (p := ⟨b4, 5, none⟩) R3 (by show b3 ≠ b4; omega) (.slice none 0 0)
  replace X := row_other (p := ⟨b4, 5, none⟩) X (by show w.heap.size ≠ b4; omega) (.slice none 0 0)
  replace o := o.setCell (p := ⟨b4, 5, none⟩) (by show w.heap.size ≤ b4; omega) (.slice none 0 0)
  replace R4 : Row ((((((w2_3.setCell ⟨b4, 0, none⟩ (.int .i64 0)).setCell ⟨b4, 1, none⟩ (.int .i64 0)).setCell ⟨b4, 2, none⟩ (.int .i64 0)).setCell ⟨b4, 3, none⟩ (.int .i64 0)).setCell ⟨b4, 4, none⟩ (.int .i64 0)).setCell ⟨b4, 5, none⟩ (.slice none 0 0)) b4 39 #[.int .i64 0, .int .i64 0, .int .i64 0, .int .i64 0, .int .i64 0, .slice none 0 0] := R4
  generalize ((((((w2_3.setCell ⟨b4, 0, none⟩ (.int .i64 0)).setCell ⟨b4, 1, none⟩ (.int .i64 0)).setCell ⟨b4, 2, none⟩ (.int .i64 0)).setCell ⟨b4, 3, none⟩ (.int .i64 0)).setCell ⟨b4, 4, none⟩ (.int .i64 0)).setCell ⟨b4, 5, none⟩ (.slice none 0 0)) = w2_4 at X o R0 R1 R2 R3 R4 ⊢
  clear HOK
  obtain ⟨y0, y1, y2, y3, yf0, yf1, yf2, yf3⟩ := row_four R0
  go_upto_region 5 with (fail)
  clear y0 yf0 y1 yf1 y2 yf2 y3 yf3 R0
  obtain ⟨y0, y1, y2, y3, y4, yf0, yf1, yf2, yf3, yf4⟩ := row_five R1
  go_upto_region 7 with (fail)
  clear y0 yf0 y1 yf1 y2 yf2 y3 yf3 y4 yf4 R1
  obtain ⟨y0, y1, y2, y3, y4, y5, yf0, yf1, yf2, yf3, yf4, yf5⟩ := row_six R2
  go_upto_region 9 with (fail)
  clear y0 yf0 y1 yf1 y2 yf2 y3 yf3 y4 yf4 y5 yf5 R2
  obtain ⟨y0, y1, y2, y3, y4, y5, y6, yf0, yf1, yf2, yf3, yf4, yf5, yf6⟩ := row_seven R3
  go_upto_region 11 with (fail)
  clear y0 yf0 y1 yf1 y2 yf2 y3 yf3 y4 yf4 y5 yf5 y6 yf6 R3
  obtain ⟨y0, y1, y2, y3, y4, y5, yf0, yf1, yf2, yf3, yf4, yf5⟩ := row_six R4
  go_upto_region 13 with (fail)
  clear y0 yf0 y1 yf1 y2 yf2 y3 yf3 y4 yf4 y5 yf5 R4
  refine wp_region_phase 19 (fun w' => Row w' w.heap.size 58 #[.int .i64 2, .int .i64 0, .int .i64 wd, .int .i64 (k : Nat), .int .i64 (cap : Nat), .int .i64 0, .int .i64 0, .int .i64 0, .int .i64 0, .int .i64 0, .int .i64 0, .slice none 0 0, .int .i64 wd, .int .i64 (k : Nat), .int .i64 (cap : Nat), .int .i64 now, .slice A m c, .int .i64 0, .int .i64 0, .int .i64 0, .int .i64 0, .int .i64 0, .slice none 0 0, .int .i64 0, .int .i64 0, .int .i64 0, .int .i64 0, .int .i64 0, .int .i64 0, .slice none 0 0, .int .i64 0, .int .i64 0, .int .i64 0, .int .i64 0, .int .i64 0, .slice none 0 0, .int .i64 0, .int .i64 0, .int .i64 0, .slice none 0 0, .int .i64 0, .slice none 0 0, .bool false, .int .i64 0, .int .i64 0, .int .i64 0, .slice none 0 0, .slice none 0 0, .int .i64 0, .int .i64 0, .int .i64 0, .slice none 0 0, .int .i64 0, .int .i64 0, .int .i64 0, .int .i64 0, .slice none 0 0] ∧ Below w.heap.size w w') (by kernel_rfl) (by kernel_rfl) (by kernel_rfl) (by kernel_rfl) (by kernel_rfl) (fun HOK => ?_)
  have HS := (⟨row_drew X, o.drew⟩ : Row w2_4.drew w.heap.size 58 #[.int .i64 2, .int .i64 0, .int .i64 wd, .int .i64 (k : Nat), .int .i64 (cap : Nat), .int .i64 0, .int .i64 0, .int .i64 0, .int .i64 0, .int .i64 0, .int .i64 0, .slice none 0 0, .int .i64 wd, .int .i64 (k : Nat), .int .i64 (cap : Nat), .int .i64 now, .slice A m c, .int .i64 0, .int .i64 0, .int .i64 0, .int .i64 0, .int .i64 0, .slice none 0 0, .int .i64 0, .int .i64 0, .int .i64 0, .int .i64 0, .int .i64 0, .int .i64 0, .slice none 0 0, .int .i64 0, .int .i64 0, .int .i64 0, .int .i64 0, .int .i64 0, .slice none 0 0, .int .i64 0, .int .i64 0, .int .i64 0, .slice none 0 0, .int .i64 0, .slice none 0 0, .bool false, .int .i64 0, .int .i64 0, .int .i64 0, .slice none 0 0, .slice none 0 0, .int .i64 0, .int .i64 0, .int .i64 0, .slice none 0 0, .int .i64 0, .int .i64 0, .int .i64 0, .int .i64 0, .slice none 0 0] ∧ Below w.heap.size w w2_4.drew)
  (refine hw_take HOK (i := 0) ?_ rfl (by decide) (by kernel_rfl) (by kernel_rfl) (by exact fun _ _ _ h => h) (Or.inl ⟨by rfl, fun w' hS => ?_⟩) HS ?_; rotate_left; (go_simp; try with_reducible rfl); simp only [Act.put, List.getElem_toArray, List.getElem_cons_zero, List.getElem_cons_succ,  List.setIfInBounds_toArray, List.set_cons_zero, List.set_cons_succ])
  (refine hw_take HOK (i := 1) ?_ rfl (by decide) (by kernel_rfl) (by kernel_rfl) (by exact fun _ _ _ h => h) (Or.inl ⟨by rfl, fun w' hS => ?_⟩) HS ?_; rotate_left; (have q0 : w'.cell? ⟨w.heap.size, 36, none⟩ = some (.int .i64 0) := row_cell hS.1 36; have q1 : w'.cell? ⟨w.heap.size, 37, none⟩ = some (.int .i64 0) := row_cell hS.1 37; have q2 : w'.cell? ⟨w.heap.size, 38, none⟩ = some (.int .i64 0) := row_cell hS.1 38; have q3 : w'.cell? ⟨w.heap.size, 39, none⟩ = some (.slice none 0 0) := row_cell hS.1 39; go_simp; try with_reducible rfl); simp only [Act.put, List.getElem_toArray, List.getElem_cons_zero, List.getElem_cons_succ,  List.setIfInBounds_toArray, List.set_cons_zero, List.set_cons_succ])
  (refine hw_take HOK (i := 2) ?_ rfl (by decide) (by kernel_rfl) (by kernel_rfl) (by exact fun _ _ _ h => h) (Or.inl ⟨by rfl, fun w' hS => ?_⟩) HS ?_; rotate_left; (go_simp; try with_reducible rfl); simp only [Act.put, List.getElem_toArray, List.getElem_cons_zero, List.getElem_cons_succ,  List.setIfInBounds_toArray, List.set_cons_zero, List.set_cons_succ])
  (refine hw_take HOK (i := 3) ?_ rfl (by decide) (by kernel_rfl) (by kernel_rfl) (by exact fun _ _ _ h => h) (Or.inl ⟨by rfl, fun w' hS => ?_⟩) HS ?_; rotate_left; (have q0 : w'.cell? ⟨w.heap.size, 40, none⟩ = some (.int .i64 0) := row_cell hS.1 40; have q1 : w'.cell? ⟨w.heap.size, 41, none⟩ = some (.slice none 0 0) := row_cell hS.1 41; go_simp; try with_reducible rfl); simp only [Act.put, List.getElem_toArray, List.getElem_cons_zero, List.getElem_cons_succ,  List.setIfInBounds_toArray, List.set_cons_zero, List.set_cons_succ])
  (refine hw_take HOK (i := 4) ?_ rfl (by decide) (by kernel_rfl) (by kernel_rfl) (by exact fun _ _ _ h => h) (Or.inl ⟨by rfl, fun w' hS => ?_⟩) HS ?_; rotate_left; (go_simp; try with_reducible rfl); simp only [Act.put, List.getElem_toArray, List.getElem_cons_zero, List.getElem_cons_succ,  List.setIfInBounds_toArray, List.set_cons_zero, List.set_cons_succ])
  (refine hw_take HOK (i := 5) ?_ rfl (by decide) (by kernel_rfl) (by kernel_rfl) (by exact fun _ _ _ h => h) (Or.inl ⟨by rfl, fun w' hS => ?_⟩) HS ?_; rotate_left; (have q0 : w'.cell? ⟨w.heap.size, 42, none⟩ = some (.bool false) := row_cell hS.1 42; have q1 : w'.cell? ⟨w.heap.size, 43, none⟩ = some (.int .i64 0) := row_cell hS.1 43; have q2 : w'.cell? ⟨w.heap.size, 44, none⟩ = some (.int .i64 0) := row_cell hS.1 44; have q3 : w'.cell? ⟨w.heap.size, 45, none⟩ = some (.int .i64 0) := row_cell hS.1 45; have q4 : w'.cell? ⟨w.heap.size, 46, none⟩ = some (.slice none 0 0) := row_cell hS.1 46; go_simp; try with_reducible rfl); simp only [Act.put, List.getElem_toArray, List.getElem_cons_zero, List.getElem_cons_succ,  List.setIfInBounds_toArray, List.set_cons_zero, List.set_cons_succ])
  (refine hw_take HOK (i := 6) ?_ rfl (by decide) (by kernel_rfl) (by kernel_rfl) (by exact fun _ _ _ h => h) (Or.inl ⟨by rfl, fun w' hS => ?_⟩) HS ?_; rotate_left; (go_simp; try with_reducible rfl); simp only [Act.put, List.getElem_toArray, List.getElem_cons_zero, List.getElem_cons_succ,  List.setIfInBounds_toArray, List.set_cons_zero, List.set_cons_succ])
  (refine hw_take HOK (i := 7) ?_ rfl (by decide) (by kernel_rfl) (by kernel_rfl) (by exact fun _ _ _ h => h) (Or.inl ⟨by rfl, fun w' hS => ?_⟩) HS ?_; rotate_left; (have q0 : w'.cell? ⟨w.heap.size, 48, none⟩ = some (.int .i64 0) := row_cell hS.1 48; have q1 : w'.cell? ⟨w.heap.size, 49, none⟩ = some (.int .i64 0) := row_cell hS.1 49; have q2 : w'.cell? ⟨w.heap.size, 50, none⟩ = some (.int .i64 0) := row_cell hS.1 50; have q3 : w'.cell? ⟨w.heap.size, 51, none⟩ = some (.slice none 0 0) := row_cell hS.1 51; go_simp; try with_reducible rfl); simp only [Act.put, List.getElem_toArray, List.getElem_cons_zero, List.getElem_cons_succ,  List.setIfInBounds_toArray, List.set_cons_zero, List.set_cons_succ])
  (refine hw_take HOK (i := 8) ?_ rfl (by decide) (by kernel_rfl) (by kernel_rfl) (by exact fun _ _ _ h => h) (Or.inl ⟨by rfl, fun w' hS => ?_⟩) HS ?_; rotate_left; (go_simp; try with_reducible rfl); simp only [Act.put, List.getElem_toArray, List.getElem_cons_zero, List.getElem_cons_succ,  List.setIfInBounds_toArray, List.set_cons_zero, List.set_cons_succ])
  (refine hw_take HOK (i := 9) ?_ rfl (by decide) (by kernel_rfl) (by kernel_rfl) (by exact fun _ _ _ h => h) (Or.inl ⟨by rfl, fun w' hS => ?_⟩) HS ?_; rotate_left; (have q0 : w'.cell? ⟨w.heap.size, 52, none⟩ = some (.int .i64 0) := row_cell hS.1 52; have q1 : w'.cell? ⟨w.heap.size, 53, none⟩ = some (.int .i64 0) := row_cell hS.1 53; have q2 : w'.cell? ⟨w.heap.size, 54, none⟩ = some (.int .i64 0) := row_cell hS.1 54; have q3 : w'.cell? ⟨w.heap.size, 55, none⟩ = some (.int .i64 0) := row_cell hS.1 55; have q4 : w'.cell? ⟨w.heap.size, 56, none⟩ = some (.slice none 0 0) := row_cell hS.1 56; go_simp; try with_reducible rfl); simp only [Act.put, List.getElem_toArray, List.getElem_cons_zero, List.getElem_cons_succ,  List.setIfInBounds_toArray, List.set_cons_zero, List.set_cons_succ])
  refine hw_news (f := 4) (fun x o hx => ⟨row_alloc hx.1 o, hx.2.alloc hx.2.size o⟩) [⟨10, 9, 42, #[.int .i64 0, .int .i64 0, .int .i64 0, .slice none 0 0]⟩, ⟨11, 10, 45, #[.int .i64 0, .slice none 0 0]⟩, ⟨12, 11, 47, #[.bool false, .int .i64 0, .int .i64 0, .int .i64 0, .slice none 0 0]⟩, ⟨13, 12, 53, #[.int .i64 0, .int .i64 0, .int .i64 0, .slice none 0 0]⟩, ⟨14, 13, 56, #[.int .i64 0, .int .i64 0, .int .i64 0, .int .i64 0, .slice none 0 0]⟩] _ _ _ (by kernel_rfl) (List.forall_mem_cons.2 ⟨⟨⟨_, _, rfl, rfl, rfl, fun ρ w' => by go_simp⟩, rfl, by decide⟩, List.forall_mem_cons.2 ⟨⟨⟨_, _, rfl, rfl, rfl, fun ρ w' => by go_simp⟩, rfl, by decide⟩, List.forall_mem_cons.2 ⟨⟨⟨_, _, rfl, rfl, rfl, fun ρ w' => by go_simp⟩, rfl, by decide⟩, List.forall_mem_cons.2 ⟨⟨⟨_, _, rfl, rfl, rfl, fun ρ w' => by go_simp⟩, rfl, by decide⟩, List.forall_mem_cons.2 ⟨⟨⟨_, _, rfl, rfl, rfl, fun ρ w' => by go_simp⟩, rfl, by decide⟩, fun _ h => by cases h⟩⟩⟩⟩⟩) (by decide) HS ?_
  intro bs v2 hS hN
  clear HS
  obtain ⟨b0, b1, b2, b3, b4, rfl⟩ : ∃ b0 b1 b2 b3 b4, bs = [b0, b1, b2, b3, b4] := by
    match bs, hN.len with
    | [b0, b1, b2, b3, b4], _ => exact ⟨_, _, _, _, _, rfl⟩
  have zx := row_lt X
  have nd := hN.nodup
  simp only [List.nodup_cons, List.mem_cons, List.not_mem_nil, or_false, not_or] at nd
  obtain ⟨⟨n01, n02, n03, n04⟩, ⟨n12, n13, n14⟩, ⟨n23, n24⟩, n34, _⟩ := nd
  have P0 : Row v2 b0 42 #[.int .i64 0, .int .i64 0, .int .i64 0, .slice none 0 0] := hN.rows 0 _ _ rfl rfl
  have ge0 : w.heap.size + 1 ≤ b0 := Nat.le_trans zx (hN.ge b0 (by simp))
  have P1 : Row v2 b1 45 #[.int .i64 0, .slice none 0 0] := hN.rows 1 _ _ rfl rfl
  have ge1 : w.heap.size + 1 ≤ b1 := Nat.le_trans zx (hN.ge b1 (by simp))
  have P2 : Row v2 b2 47 #[.bool false, .int .i64 0, .int .i64 0, .int .i64 0, .slice none 0 0] := hN.rows 2 _ _ rfl rfl
  have ge2 : w.heap.size + 1 ≤ b2 := Nat.le_trans zx (hN.ge b2 (by simp))
  have P3 : Row v2 b3 53 #[.int .i64 0, .int .i64 0, .int .i64 0, .slice none 0 0] := hN.rows 3 _ _ rfl rfl
  have ge3 : w.heap.size + 1 ≤ b3 := Nat.le_trans zx (hN.ge b3 (by simp))
  have P4 : Row v2 b4 56 #[.int .i64 0, .int .i64 0, .int .i64 0, .int .i64 0, .slice none 0 0] := hN.rows 4 _ _ rfl rfl
  have ge4 : w.heap.size + 1 ≤ b4 := Nat.le_trans zx (hN.ge b4 (by simp))
  replace X := hS.1
  replace o := hS.2
  clear hN hS zx
  simp only [putAll, setAll, List.foldl]
  try simp only [Act.put, List.getElem_toArray, List.getElem_cons_zero, List.getElem_cons_succ, List.setIfInBounds_toArray, List.set_cons_zero, List.set_cons_succ]
  refine hw_one (i := 15) rfl (by decide) (by kernel_rfl) (fun K hK => ?_)
  obtain ⟨y0, y1, y2, y3, yf0, yf1, yf2, yf3⟩ := row_four P0
  go_simp
  clear y0 yf0 y1 yf1 y2 yf2 y3 yf3
  replace P0 := row_set P0 0 (.int .i64 0)
  replace P1 := row_other (p := ⟨b0, 0, none⟩) P1 (by show b1 ≠ b0; omega) (.int .i64 0)
  replace P2 := row_other (p := ⟨b0, 0, none⟩) P2 (by show b2 ≠ b0; omega) (.int .i64 0)
  replace P3 := row_other (p := ⟨b0, 0, none⟩) P3 (by show b3 ≠ b0; omega) (.int .i64 0)
  replace P4 := row_other (p := ⟨b0, 0, none⟩) P4 (by show b4 ≠ b0; omega) (.int .i64 0)
  replace X := row_other (p := ⟨b0, 0, none⟩) X (by show w.heap.size ≠ b0; omega) (.int .i64 0)
  replace o := o.setCell (p := ⟨b0, 0, none⟩) (by show w.heap.size ≤ b0; omega) (.int .i64 0)
  replace P0 := row_set P0 1 (.int .i64 0)
  replace P1 := row_other (p := ⟨b0, 1, none⟩) P1 (by show b1 ≠ b0; omega) (.int .i64 0)
  replace P2 := row_other (p := ⟨b0, 1, none⟩) P2 (by show b2 ≠ b0; omega) (.int .i64 0)
  replace P3 := row_other (p := ⟨b0, 1, none⟩) P3 (by show b3 ≠ b0; omega) (.int .i64 0)
  replace P4 := row_other (p := ⟨b0, 1, none⟩) P4 (by show b4 ≠ b0; omega) (.int .i64 0)
  replace X := row_other (p := ⟨b0, 1, none⟩) X (by show w.heap.size ≠ b0; omega) (.int .i64 0)
  replace o := o.setCell (p := ⟨b0, 1, none⟩) (by show w.heap.size ≤ b0; omega) (.int .i64 0)
  replace P0 := row_set P0 2 (.int .i64 0)
  replace P1 := row_other (p := ⟨b0, 2, none⟩) P1 (by show b1 ≠ b0; omega) (.int .i64 0)
  replace P2 := row_other (p := ⟨b0, 2, none⟩) P2 (by show b2 ≠ b0; omega) (.int .i64 0)
  replace P3 := row_other (p := ⟨b0, 2, none⟩) P3 (by show b3 ≠ b0; omega) (.int .i64 0)
  replace P4 := row_other (p := ⟨b0, 2, none⟩) P4 (by show b4 ≠ b0; omega) (.int .i64 0)
  replace X := row_other (p := ⟨b0, 2, none⟩) X (by show w.heap.size ≠ b0; omega) (.int .i64 0)
  replace o := o.setCell (p := ⟨b0, 2, none⟩) (by show w.heap.size ≤ b0; omega) (.int .i64 0)
  replace P0 := row_set P0 3 (.slice none 0 0)
  replace P1 := row_other (p := ⟨b0, 3, none⟩) P1 (by show b1 ≠ b0; omega) (.slice none 0 0)
  replace P2 := row_other (p := ⟨b0, 3, none⟩) P2 (by show b2 ≠ b0; omega) (.slice none 0 0)
  replace P3 := row_other (p := ⟨b0, 3, none⟩) P3 (by show b3 ≠ b0; omega) (.slice none 0 0)
  replace P4 := row_other (p := ⟨b0, 3, none⟩) P4 (by show b4 ≠ b0; omega) (.slice none 0 0)
  replace X := row_other (p := ⟨b0, 3, none⟩) X (by show w.heap.size ≠ b0; omega) (.slice none 0 0)
  replace o := o.setCell (p := ⟨b0, 3, none⟩) (by show w.heap.size ≤ b0; omega) (.slice none 0 0)
  replace P0 : Row ((((v2.setCell ⟨b0, 0, none⟩ (.int .i64 0)).setCell ⟨b0, 1, none⟩ (.int .i64 0)).setCell ⟨b0, 2, none⟩ (.int .i64 0)).setCell ⟨b0, 3, none⟩ (.slice none 0 0)) b0 42 #[.int .i64 0, .int .i64 0, .int .i64 0, .slice none 0 0] := P0
  generalize ((((v2.setCell ⟨b0, 0, none⟩ (.int .i64 0)).setCell ⟨b0, 1, none⟩ (.int .i64 0)).setCell ⟨b0, 2, none⟩ (.int .i64 0)).setCell ⟨b0, 3, none⟩ (.slice none 0 0)) = v2_0 at X o P0 P1 P2 P3 P4 ⊢
  refine hK _ _ ⟨X, o⟩ ?_
  clear hK K
  try simp only [Act.put, List.getElem_toArray, List.getElem_cons_zero, List.getElem_cons_succ, List.setIfInBounds_toArray, List.set_cons_zero, List.set_cons_succ]
  refine hw_one (i := 16) rfl (by decide) (by kernel_rfl) (fun K hK => ?_)
  obtain ⟨y0, y1, yf0, yf1⟩ := row_two P1
  go_simp
  clear y0 yf0 y1 yf1
  replace P1 := row_set P1 0 (.int .i64 0)
  replace P0 := row_other (p := ⟨b1, 0, none⟩) P0 (by show b0 ≠ b1; omega) (.int .i64 0)
  replace P2 := row_other (p := ⟨b1, 0, none⟩) P2 (by show b2 ≠ b1; omega) (.int .i64 0)
  replace P3 := row_other (p := ⟨b1, 0, none⟩) P3 (by show b3 ≠ b1; omega) (.int .i64 0)
  replace P4 := row_other (p := ⟨b1, 0, none⟩) P4 (by show b4 ≠ b1; omega) (.int .i64 0)
  replace X := row_other (p := ⟨b1, 0, none⟩) X (by show w.heap.size ≠ b1; omega) (.int .i64 0)
  replace o := o.setCell (p := ⟨b1, 0, none⟩) (by show w.heap.size ≤ b1; omega) (.int .i64 0)
  replace P1 := row_set P1 1 (.slice none 0 0)
  replace P0 := row_other (p := ⟨b1, 1, none⟩) P0 (by show b0 ≠ b1; omega) (.slice none 0 0)
  replace P2 := row_other (p := ⟨b1, 1, none⟩) P2 (by show b2 ≠ b1; omega) (.slice none 0 0)
  replace P3 := row_other (p := ⟨b1, 1, none⟩) P3 (by show b3 ≠ b1; omega) (.slice none 0 0)
  replace P4 := row_other (p := ⟨b1, 1, none⟩) P4 (by show b4 ≠ b1; omega) (.slice none 0 0)
  replace X := row_other (p := ⟨b1, 1, none⟩) X (by show w.heap.size ≠ b1; omega) (.slice none 0 0)
  replace o := o.setCell (p := ⟨b1, 1, none⟩) (by show w.heap.size ≤ b1; omega) (.slice none 0 0)
  replace P1 : Row ((v2_0.setCell ⟨b1, 0, none⟩ (.int .i64 0)).setCell ⟨b1, 1, none⟩ (.slice none 0 0)) b1 45 #[.int .i64 0, .slice none 0 0] := P1
  generalize ((v2_0.setCell ⟨b1, 0, none⟩ (.int .i64 0)).setCell ⟨b1, 1, none⟩ (.slice none 0 0)) = v2_1 at X o P0 P1 P2 P3 P4 ⊢
  refine hK _ _ ⟨X, o⟩ ?_
  clear hK K
  try simp only [Act.put, List.getElem_toArray, List.getElem_cons_zero, List.getElem_cons_succ, List.setIfInBounds_toArray, List.set_cons_zero, List.set_cons_succ]
  refine hw_one (i := 17) rfl (by decide) (by kernel_rfl) (fun K hK => ?_)
  obtain ⟨y0, y1, y2, y3, y4, yf0, yf1, yf2, yf3, yf4⟩ := row_five P2
  go_simp
  clear y0 yf0 y1 yf1 y2 yf2 y3 yf3 y4 yf4
  replace P2 := row_set P2 0 (.bool false)
  replace P0 := row_other (p := ⟨b2, 0, none⟩) P0 (by show b0 ≠ b2; omega) (.bool false)
  replace P1 := row_other (p := ⟨b2, 0, none⟩) P1 (by show b1 ≠ b2; omega) (.bool false)
  replace P3 := row_other (p := ⟨b2, 0, none⟩) P3 (by show b3 ≠ b2; omega) (.bool false)
  replace P4 := row_other (p := ⟨b2, 0, none⟩) P4 (by show b4 ≠ b2; omega) (.bool false)
  replace X := row_other (p := ⟨b2, 0, none⟩) X (by show w.heap.size ≠ b2; omega) (.bool false)
  replace o := o.setCell (p := ⟨b2, 0, none⟩) (by show w.heap.size ≤ b2; omega) (.bool false)
  replace P2 := row_set P2 1 (.int .i64 0)
  replace P0 := row_other (p := ⟨b2, 1, none⟩) P0 (by show b0 ≠ b2; omega) (.int .i64 0)
  replace P1 := row_other (p := ⟨b2, 1, none⟩) P1 (by show b1 ≠ b2; omega) (.int .i64 0)
  replace P3 := row_other (p := ⟨b2, 1, none⟩) P3 (by show b3 ≠ b2; omega) (.int .i64 0)
  replace P4 := row_other (p := ⟨b2, 1, none⟩) P4 (by show b4 ≠ b2; omega) (.int .i64 0)
  replace X := row_other (p := ⟨b2, 1, none⟩) X (by show w.heap.size ≠ b2; omega) (.int .i64 0)
  replace o := o.setCell (p := ⟨b2, 1, none⟩) (by show w.heap.size ≤ b2; omega) (.int .i64 0)
  replace P2 := row_set P2 2 (.int .i64 0)
  replace P0 := row_other (p := ⟨b2, 2, none⟩) P0 (by show b0 ≠ b2; omega) (.int .i64 0)
  replace P1 := row_other (p := ⟨b2, 2, none⟩) P1 (by show b1 ≠ b2; omega) (.int .i64 0)
  replace P3 := row_other (p := ⟨b2, 2, none⟩) P3 (by show b3 ≠ b2; omega) (.int .i64 0)
  replace P4 := row_other (p := ⟨b2, 2, none⟩) P4 (by show b4 ≠ b2; omega) (.int .i64 0)
  replace X := row_other (p := ⟨b2, 2, none⟩) X (by show w.heap.size ≠ b2; omega) (.int .i64 0)
  replace o := o.setCell (p := ⟨b2, 2, none⟩) (by show w.heap.size ≤ b2; omega) (.int .i64 0)
  replace P2 := row_set P2 3 (.int .i64 0)
  replace P0 := row_other (p := ⟨b2, 3, none⟩) P0 (by show b0 ≠ b2; omega) (.int .i64 0)
  replace P1 := row_other (p := ⟨b2, 3, none⟩) P1 (by show b1 ≠ b2; omega) (.int .i64 0)
  replace P3 := row_other (p := ⟨b2, 3, none⟩) P3 (by show b3 ≠ b2; omega) (.int .i64 0)
  replace P4 := row_other (p := ⟨b2, 3, none⟩) P4 (by show b4 ≠ b2; omega) (.int .i64 0)
  replace X := row_other (p := ⟨b2, 3, none⟩) X (by show w.heap.size ≠ b2; omega) (.int .i64 0)
  replace o := o.setCell (p := ⟨b2, 3, none⟩) (by show w.heap.size ≤ b2; omega) (.int .i64 0)
  replace P2 := row_set P2 4 (.slice none 0 0)
  replace P0 := row_other (p := ⟨b2, 4, none⟩) P0 (by show b0 ≠ b2; omega) (.slice none 0 0)
  replace P1 := row_other (p := ⟨b2, 4, none⟩) P1 (by show b1 ≠ b2; omega) (.slice none 0 0)
  replace P3 := row_other (p := ⟨b2, 4, none⟩) P3 (by show b3 ≠ b2; omega) (.slice none 0 0)
  replace P4 := row_other (p := ⟨b2, 4, none⟩) P4 (by show b4 ≠ b2; omega) (.slice none 0 0)
  replace X := row_other (p := ⟨b2, 4, none⟩) X (by show w.heap.size ≠ b2; omega) (.slice none 0 0)
  replace o := o.setCell (p := ⟨b2, 4, none⟩) (by show w.heap.size ≤ b2; omega) (.slice none 0 0)
  replace P2 : Row (((((v2_1.setCell ⟨b2, 0, none⟩ (.bool false)).setCell ⟨b2, 1, none⟩ (.int .i64 0)).setCell ⟨b2, 2, none⟩ (.int .i64 0)).setCell ⟨b2, 3, none⟩ (.int .i64 0)).setCell ⟨b2, 4, none⟩ (.slice none 0 0)) b2 47 #[.bool false, .int .i64 0, .int .i64 0, .int .i64 0, .slice none 0 0] := P2
  generalize (((((v2_1.setCell ⟨b2, 0, none⟩ (.bool false)).setCell ⟨b2, 1, none⟩ (.int .i64 0)).setCell ⟨b2, 2, none⟩ (.int .i64 0)).setCell ⟨b2, 3, none⟩ (.int .i64 0)).setCell ⟨b2, 4, none⟩ (.slice none 0 0)) = v2_2 at X o P0 P1 P2 P3 P4 ⊢
  refine hK _ _ ⟨X, o⟩ ?_
  clear hK K
  try simp only [Act.put, List.getElem_toArray, List.getElem_cons_zero, List.getElem_cons_succ, List.setIfInBounds_toArray, List.set_cons_zero, List.set_cons_succ]
  refine hw_one (i := 18) rfl (by decide) (by kernel_rfl) (fun K hK => ?_)
  obtain ⟨y0, y1, y2, y3, yf0, yf1, yf2, yf3⟩ := row_four P3
  go_simp
  clear y0 yf0 y1 yf1 y2 yf2 y3 yf3
  replace P3 := row_set P3 0 (.int .i64 0)
  replace P0 := row_other (p := ⟨b3, 0, none⟩) P0 (by show b0 ≠ b3; omega) (.int .i64 0)
  replace P1 := row_other (p := ⟨b3, 0, none⟩) P1 (by show b1 ≠ b3; omega) (.int .i64 0)
  replace P2 := row_other (p := ⟨b3, 0, none⟩) P2 (by show b2 ≠ b3; omega) (.int .i64 0)
  replace P4 := row_other (p := ⟨b3, 0, none⟩) P4 (by show b4 ≠ b3; omega) (.int .i64 0)
  replace X := row_other (p := ⟨b3, 0, none⟩) X (by show w.heap.size ≠ b3; omega) (.int .i64 0)
  replace o := o.setCell (p := ⟨b3, 0, none⟩) (by show w.heap.size ≤ b3; omega) (.int .i64 0)
  replace P3 := row_set P3 1 (.int .i64 0)
  replace P0 := row_other (p := ⟨b3, 1, none⟩) P0 (by show b0 ≠ b3; omega) (.int .i64 0)
  replace P1 := row_other (p := ⟨b3, 1, none⟩) P1 (by show b1 ≠ b3; omega) (.int .i64 0)
  replace P2 := row_other (p := ⟨b3, 1, none⟩) P2 (by show b2 ≠ b3; omega) (.int .i64 0)
  replace P4 := row_other (p := ⟨b3, 1, none⟩) P4 (by show b4 ≠ b3; omega) (.int .i64 0)
  replace X := row_other (p := ⟨b3, 1, none⟩) X (by show w.heap.size ≠ b3; omega) (.int .i64 0)
  replace o := o.setCell (p := ⟨b3, 1, none⟩) (by show w.heap.size ≤ b3; omega) (.int .i64 0)
  replace P3 := row_set P3 2 (.int .i64 0)
  replace P0 := row_other (p := ⟨b3, 2, none⟩) P0 (by show b0 ≠ b3; omega) (.int .i64 0)
  replace P1 := row_other (p := ⟨b3, 2, none⟩) P1 (by show b1 ≠ b3; omega) (.int .i64 0)
  replace P2 := row_other (p := ⟨b3, 2, none⟩) P2 (by show b2 ≠ b3; omega) (.int .i64 0)
  replace P4 := row_other (p := ⟨b3, 2, none⟩) P4 (by show b4 ≠ b3; omega) (.int .i64 0)
  replace X := row_other (p := ⟨b3, 2, none⟩) X (by show w.heap.size ≠ b3; omega) (.int .i64 0)
  replace o := o.setCell (p := ⟨b3, 2, none⟩) (by show w.heap.size ≤ b3; omega) (.int .i64 0)
  replace P3 := row_set P3 3 (.slice none 0 0)
  replace P0 := row_other (p := ⟨b3, 3, none⟩) P0 (by show b0 ≠ b3; omega) (.slice none 0 0)
  replace P1 := row_other (p := ⟨b3, 3, none⟩) P1 (by show b1 ≠ b3; omega) (.slice none 0 0)
  replace P2 := row_other (p := ⟨b3, 3, none⟩) P2 (by show b2 ≠ b3; omega) (.slice none 0 0)
  replace P4 := row_other (p := ⟨b3, 3, none⟩) P4 (by show b4 ≠ b3; omega) (.slice none 0 0)
  replace X := row_other (p := ⟨b3, 3, none⟩) X (by show w.heap.size ≠ b3; omega) (.slice none 0 0)
  replace o := o.setCell (p := ⟨b3, 3, none⟩) (by show w.heap.size ≤ b3; omega) (.slice none 0 0)
  replace P3 : Row ((((v2_2.setCell ⟨b3, 0, none⟩ (.int .i64 0)).setCell ⟨b3, 1, none⟩ (.int .i64 0)).setCell ⟨b3, 2, none⟩ (.int .i64 0)).setCell ⟨b3, 3, none⟩ (.slice none 0 0)) b3 53 #[.int .i64 0, .int .i64 0, .int .i64 0, .slice none 0 0] := P3
  generalize ((((v2_2.setCell ⟨b3, 0, none⟩ (.int .i64 0)).setCell ⟨b3, 1, none⟩ (.int .i64 0)).setCell ⟨b3, 2, none⟩ (.int .i64 0)).setCell ⟨b3, 3, none⟩ (.slice none 0 0)) = v2_3 at X o P0 P1 P2 P3 P4 ⊢
  refine hK _ _ ⟨X, o⟩ ?_
  clear hK K
  try simp only [Act.put, List.getElem_toArray, List.getElem_cons_zero, List.getElem_cons_succ, List.setIfInBounds_toArray, List.set_cons_zero, List.set_cons_succ]
  refine hw_done (by kernel_rfl) ?_
  try simp only [List.drop_succ_cons, List.drop_zero]
  obtain ⟨y0, y1, y2, y3, y4, yf0, yf1, yf2, yf3, yf4⟩ := row_five P4
  go_upto_region 14 with (fail)
  clear y0 yf0 y1 yf1 y2 yf2 y3 yf3 y4 yf4
  replace P4 := row_set P4 0 (.int .i64 0)
  replace P0 := row_other (p := ⟨b4, 0, none⟩) P0 (by show b0 ≠ b4; omega) (.int .i64 0)
  replace P1 := row_other (p := ⟨b4, 0, none⟩) P1 (by show b1 ≠ b4; omega) (.int .i64 0)
  replace P2 := row_other (p := ⟨b4, 0, none⟩) P2 (by show b2 ≠ b4; omega) (.int .i64 0)
  replace P3 := row_other (p := ⟨b4, 0, none⟩) P3 (by show b3 ≠ b4; omega) (.int .i64 0)
  replace X := row_other (p := ⟨b4, 0, none⟩) X (by show w.heap.size ≠ b4; omega) (.int .i64 0)
  replace o := o.setCell (p := ⟨b4, 0, none⟩) (by show w.heap.size ≤ b4; omega) (.int .i64 0)
  replace P4 := row_set P4 1 (.int .i64 0)
  replace P0 := row_other (p := ⟨b4, 1, none⟩) P0 (by show b0 ≠ b4; omega) (.int .i64 0)
  replace P1 := row_other (p := ⟨b4, 1, none⟩) P1 (by show b1 ≠ b4; omega) (.int .i64 0)
  replace P2 := row_other (p := ⟨b4, 1, none⟩) P2 (by show b2 ≠ b4; omega) (.int .i64 0)
  replace P3 := row_other (p := ⟨b4, 1, none⟩) P3 (by show b3 ≠ b4; omega) (.int .i64 0)
  replace X := row_other (p := ⟨b4, 1, none⟩) X (by show w.heap.size ≠ b4; omega) (.int .i64 0)
  replace o := o.setCell (p := ⟨b4, 1, none⟩) (by show w.heap.size ≤ b4; omega) (.int .i64 0)
  replace P4 := row_set P4 2 (.int .i64 0)
  replace P0 := row_other (p := ⟨b4, 2, none⟩) P0 (by show b0 ≠ b4; omega) (.int .i64 0)
  replace P1 := row_other (p := ⟨b4, 2, none⟩) P1 (by show b1 ≠ b4; omega) (.int .i64 0)
  replace P2 := row_other (p := ⟨b4, 2, none⟩) P2 (by show b2 ≠ b4; omega) (.int .i64 0)
  replace P3 := row_other (p := ⟨b4, 2, none⟩) P3 (by show b3 ≠ b4; omega) (.int .i64 0)
  replace X := row_other (p := ⟨b4, 2, none⟩) X (by show w.heap.size ≠ b4; omega) (.int .i64 0)
  replace o := o.setCell (p := ⟨b4, 2, none⟩) (by show w.heap.size ≤ b4; omega) (.int .i64 0)
  replace P4 := row_set P4 3 (.int .i64 0)
  replace P0 := row_other (p := ⟨b4, 3, none⟩) P0 (by show b0 ≠ b4; omega) (.int .i64 0)
  replace P1 := row_other (p := ⟨b4, 3, none⟩) P1 (by show b1 ≠ b4; omega) (.int .i64 0)
  replace P2 := row_other (p := ⟨b4, 3, none⟩) P2 (by show b2 ≠ b4; omega) (.int .i64 0)
  replace P3 := row_other (p := ⟨b4, 3, none⟩) P3 (by show b3 ≠ b4; omega) (.int .i64 0)
  replace X := row_other (p := ⟨b4, 3, none⟩) X (by show w.heap.size ≠ b4; omega) (.int .i64 0)
  replace o := o.setCell (p := ⟨b4, 3, none⟩) (by show w.heap.size ≤ b4; omega) (.int .i64 0)
  replace P4 := row_set P4 4 (.slice none 0 0)
  replace P0 := row_other (p := ⟨b4, 4, none⟩) P0 (by show b0 ≠ b4; omega) (.slice none 0 0)
  replace P1 := row_other (p := ⟨b4, 4, none⟩) P1 (by show b1 ≠ b4; omega) (.slice none 0 0)
  replace P2 := row_other (p := ⟨b4, 4, none⟩) P2 (by show b2 ≠ b4; omega) (.slice none 0 0)
  replace P3 := row_other (p := ⟨b4, 4, none⟩) P3 (by show b3 ≠ b4; omega) (.slice none 0 0)
  replace X := row_other (p := ⟨b4, 4, none⟩) X (by show w.heap.size ≠ b4; omega) (.slice none 0 0)
  replace o := o.setCell (p := ⟨b4, 4, none⟩) (by show w.heap.size ≤ b4; omega) (.slice none 0 0)
  replace P4 : Row (((((v2_3.setCell ⟨b4, 0, none⟩ (.int .i64 0)).setCell ⟨b4, 1, none⟩ (.int .i64 0)).setCell ⟨b4, 2, none⟩ (.int .i64 0)).setCell ⟨b4, 3, none⟩ (.int .i64 0)).setCell ⟨b4, 4, none⟩ (.slice none 0 0)) b4 56 #[.int .i64 0, .int .i64 0, .int .i64 0, .int .i64 0, .slice none 0 0] := P4
  generalize (((((v2_3.setCell ⟨b4, 0, none⟩ (.int .i64 0)).setCell ⟨b4, 1, none⟩ (.int .i64 0)).setCell ⟨b4, 2, none⟩ (.int .i64 0)).setCell ⟨b4, 3, none⟩ (.int .i64 0)).setCell ⟨b4, 4, none⟩ (.slice none 0 0)) = v2_4 at X o P0 P1 P2 P3 P4 ⊢
  clear HOK
  obtain ⟨y0, y1, y2, y3, yf0, yf1, yf2, yf3⟩ := row_four P0
  go_upto_region 16 with (fail)
  clear y0 yf0 y1 yf1 y2 yf2 y3 yf3 P0
  obtain ⟨y0, y1, yf0, yf1⟩ := row_two P1
  go_upto_region 18 with (fail)
  clear y0 yf0 y1 yf1 P1
  obtain ⟨y0, y1, y2, y3, y4, yf0, yf1, yf2, yf3, yf4⟩ := row_five P2
  go_upto_region 20 with (fail)
  clear y0 yf0 y1 yf1 y2 yf2 y3 yf3 y4 yf4 P2
  have q47 : v2_4.cell? ⟨w.heap.size, 47, none⟩ = some (.slice none 0 0) := row_cell X 47
  go_upto_region 22 with (fail)
  clear q47
  obtain ⟨y0, y1, y2, y3, yf0, yf1, yf2, yf3⟩ := row_four P3
  go_upto_region 24 with (fail)
  clear y0 yf0 y1 yf1 y2 yf2 y3 yf3 P3
  obtain ⟨y0, y1, y2, y3, y4, yf0, yf1, yf2, yf3, yf4⟩ := row_five P4
  go_wp2
  go_ret
  exact ⟨by first | rfl | exact ret_bool (by simp) | simp, o⟩
end Go.Proofs.YtdipoojjlddohaaGreat
end
section
/- Synopses of kind Count: the state is right, and the whole is valid, walked. -/
set_option linter.unusedVariables false
set_option linter.unusedSimpArgs false
set_option linter.unusedSectionVars false
set_option linter.unnecessarySimpa false
namespace Go.Proofs.YtdipoojjlddohaaGreat
open Go.RowKit
set_option maxRecDepth 100000 in
set_option maxHeartbeats 4000000 in
theorem prCount (A : Option Addr) (m c : Nat) (wd : Int) (k cap : Nat) (now : Int) (w : World) (HV : RowKit.Hid (∀ w', Below w.heap.size w w' → Calls Tryz.prog 133 #[.agg #[.int .i64 wd, .int .i64 (k : Nat), .int .i64 (cap : Nat), .int .i64 now, .slice A m c]] w' fun e w'' => e = .returned (.int .i64 0) ∧ Below w'.heap.size w' w'')) : Calls Tryz.prog 131 #[.agg #[.int .i64 2, .int .i64 0, .int .i64 wd, .int .i64 (k : Nat), .int .i64 (cap : Nat), .int .i64 0, .int .i64 0, .int .i64 0, .int .i64 0, .int .i64 0, .int .i64 0, .slice none 0 0, .int .i64 wd, .int .i64 (k : Nat), .int .i64 (cap : Nat), .int .i64 now, .slice A m c, .int .i64 0, .int .i64 0, .int .i64 0, .int .i64 0, .int .i64 0, .slice none 0 0, .int .i64 0, .int .i64 0, .int .i64 0, .int .i64 0, .int .i64 0, .int .i64 0, .slice none 0 0, .int .i64 0, .int .i64 0, .int .i64 0, .int .i64 0, .int .i64 0, .slice none 0 0, .int .i64 0, .int .i64 0, .int .i64 0, .slice none 0 0, .int .i64 0, .slice none 0 0, .bool false, .int .i64 0, .int .i64 0, .int .i64 0, .slice none 0 0, .slice none 0 0, .int .i64 0, .int .i64 0, .int .i64 0, .slice none 0 0, .int .i64 0, .int .i64 0, .int .i64 0, .int .i64 0, .slice none 0 0]] w fun e w' => e = .returned (.bool true) ∧ Below w.heap.size w w' := by
  go_enter Tryz.func131, Tryz.ntmps131
  go_upto_region 1 with (fail)
  have X : Row (w.alloc (.cells #[.int .i64 2, .int .i64 0, .int .i64 wd, .int .i64 (k : Nat), .int .i64 (cap : Nat), .int .i64 0, .int .i64 0, .int .i64 0, .int .i64 0, .int .i64 0, .int .i64 0, .slice none 0 0, .int .i64 wd, .int .i64 (k : Nat), .int .i64 (cap : Nat), .int .i64 now, .slice A m c, .int .i64 0, .int .i64 0, .int .i64 0, .int .i64 0, .int .i64 0, .slice none 0 0, .int .i64 0, .int .i64 0, .int .i64 0, .int .i64 0, .int .i64 0, .int .i64 0, .slice none 0 0, .int .i64 0, .int .i64 0, .int .i64 0, .int .i64 0, .int .i64 0, .slice none 0 0, .int .i64 0, .int .i64 0, .int .i64 0, .slice none 0 0, .int .i64 0, .slice none 0 0, .bool false, .int .i64 0, .int .i64 0, .int .i64 0, .slice none 0 0, .slice none 0 0, .int .i64 0, .int .i64 0, .int .i64 0, .slice none 0 0, .int .i64 0, .int .i64 0, .int .i64 0, .int .i64 0, .slice none 0 0] 58)) w.heap.size 58 #[.int .i64 2, .int .i64 0, .int .i64 wd, .int .i64 (k : Nat), .int .i64 (cap : Nat), .int .i64 0, .int .i64 0, .int .i64 0, .int .i64 0, .int .i64 0, .int .i64 0, .slice none 0 0, .int .i64 wd, .int .i64 (k : Nat), .int .i64 (cap : Nat), .int .i64 now, .slice A m c, .int .i64 0, .int .i64 0, .int .i64 0, .int .i64 0, .int .i64 0, .slice none 0 0, .int .i64 0, .int .i64 0, .int .i64 0, .int .i64 0, .int .i64 0, .int .i64 0, .slice none 0 0, .int .i64 0, .int .i64 0, .int .i64 0, .int .i64 0, .int .i64 0, .slice none 0 0, .int .i64 0, .int .i64 0, .int .i64 0, .slice none 0 0, .int .i64 0, .slice none 0 0, .bool false, .int .i64 0, .int .i64 0, .int .i64 0, .slice none 0 0, .slice none 0 0, .int .i64 0, .int .i64 0, .int .i64 0, .slice none 0 0, .int .i64 0, .int .i64 0, .int .i64 0, .int .i64 0, .slice none 0 0] := row_new rfl
  have o : Below w.heap.size w (w.alloc (.cells #[.int .i64 2, .int .i64 0, .int .i64 wd, .int .i64 (k : Nat), .int .i64 (cap : Nat), .int .i64 0, .int .i64 0, .int .i64 0, .int .i64 0, .int .i64 0, .int .i64 0, .slice none 0 0, .int .i64 wd, .int .i64 (k : Nat), .int .i64 (cap : Nat), .int .i64 now, .slice A m c, .int .i64 0, .int .i64 0, .int .i64 0, .int .i64 0, .int .i64 0, .slice none 0 0, .int .i64 0, .int .i64 0, .int .i64 0, .int .i64 0, .int .i64 0, .int .i64 0, .slice none 0 0, .int .i64 0, .int .i64 0, .int .i64 0, .int .i64 0, .int .i64 0, .slice none 0 0, .int .i64 0, .int .i64 0, .int .i64 0, .slice none 0 0, .int .i64 0, .slice none 0 0, .bool false, .int .i64 0, .int .i64 0, .int .i64 0, .slice none 0 0, .slice none 0 0, .int .i64 0, .int .i64 0, .int .i64 0, .slice none 0 0, .int .i64 0, .int .i64 0, .int .i64 0, .int .i64 0, .slice none 0 0] 58)) := by (repeat (first | exact Below.refl _ _ | refine Below.setCell ?_ (by first | (simp; done) | (simp; omega) | omega) _ | refine Below.alloc ?_ (by first | (simp; done) | (simp; omega) | omega) _ | refine Below.drew ?_ | refine Below.trans ?_ (Below.mono (by assumption) (by first | (simp; done) | (simp; omega) | omega))))
  generalize (w.alloc (.cells #[.int .i64 2, .int .i64 0, .int .i64 wd, .int .i64 (k : Nat), .int .i64 (cap : Nat), .int .i64 0, .int .i64 0, .int .i64 0, .int .i64 0, .int .i64 0, .int .i64 0, .slice none 0 0, .int .i64 wd, .int .i64 (k : Nat), .int .i64 (cap : Nat), .int .i64 now, .slice A m c, .int .i64 0, .int .i64 0, .int .i64 0, .int .i64 0, .int .i64 0, .slice none 0 0, .int .i64 0, .int .i64 0, .int .i64 0, .int .i64 0, .int .i64 0, .int .i64 0, .slice none 0 0, .int .i64 0, .int .i64 0, .int .i64 0, .int .i64 0, .int .i64 0, .slice none 0 0, .int .i64 0, .int .i64 0, .int .i64 0, .slice none 0 0, .int .i64 0, .slice none 0 0, .bool false, .int .i64 0, .int .i64 0, .int .i64 0, .slice none 0 0, .slice none 0 0, .int .i64 0, .int .i64 0, .int .i64 0, .slice none 0 0, .int .i64 0, .int .i64 0, .int .i64 0, .int .i64 0, .slice none 0 0] 58)) = w1 at X o ⊢
  have q0 : w1.cell? ⟨w.heap.size, 0, none⟩ = some (.int .i64 2) := row_cell X 0
  have q1 : w1.cell? ⟨w.heap.size, 1, none⟩ = some (.int .i64 0) := row_cell X 1
  have q2 : w1.cell? ⟨w.heap.size, 2, none⟩ = some (.int .i64 wd) := row_cell X 2
  have q3 : w1.cell? ⟨w.heap.size, 3, none⟩ = some (.int .i64 (k : Nat)) := row_cell X 3
  have q4 : w1.cell? ⟨w.heap.size, 4, none⟩ = some (.int .i64 (cap : Nat)) := row_cell X 4
  have q5 : w1.cell? ⟨w.heap.size, 5, none⟩ = some (.int .i64 0) := row_cell X 5
  have q6 : w1.cell? ⟨w.heap.size, 6, none⟩ = some (.int .i64 0) := row_cell X 6
  have q7 : w1.cell? ⟨w.heap.size, 7, none⟩ = some (.int .i64 0) := row_cell X 7
  go_upto_region 2 with (fail)
  clear q0 q1 q2 q3 q4 q5 q6 q7
  have C : Row (w1.alloc (.cells #[.int .i64 2, .int .i64 0, .int .i64 wd, .int .i64 (k : Nat), .int .i64 (cap : Nat), .int .i64 0, .int .i64 0, .int .i64 0] 27)) w1.heap.size 27 #[.int .i64 2, .int .i64 0, .int .i64 wd, .int .i64 (k : Nat), .int .i64 (cap : Nat), .int .i64 0, .int .i64 0, .int .i64 0] := row_new rfl
  replace X := row_alloc X (.cells #[.int .i64 2, .int .i64 0, .int .i64 wd, .int .i64 (k : Nat), .int .i64 (cap : Nat), .int .i64 0, .int .i64 0, .int .i64 0] 27)
  replace o := o.alloc o.size (.cells #[.int .i64 2, .int .i64 0, .int .i64 wd, .int .i64 (k : Nat), .int .i64 (cap : Nat), .int .i64 0, .int .i64 0, .int .i64 0] 27)
  generalize w1.alloc (.cells #[.int .i64 2, .int .i64 0, .int .i64 wd, .int .i64 (k : Nat), .int .i64 (cap : Nat), .int .i64 0, .int .i64 0, .int .i64 0] 27) = w2 at X C o ⊢
  generalize w1.heap.size = cb at C ⊢
  obtain ⟨C0, C1, C2, C3, C4, C5, C6, C7, Cf0, Cf1, Cf2, Cf3, Cf4, Cf5, Cf6, Cf7⟩ := row_eight C
  have q0 : w2.cell? ⟨w.heap.size, 12, none⟩ = some (.int .i64 wd) := row_cell X 12
  have q1 : w2.cell? ⟨w.heap.size, 13, none⟩ = some (.int .i64 (k : Nat)) := row_cell X 13
  have q2 : w2.cell? ⟨w.heap.size, 14, none⟩ = some (.int .i64 (cap : Nat)) := row_cell X 14
  have q3 : w2.cell? ⟨w.heap.size, 15, none⟩ = some (.int .i64 now) := row_cell X 15
  have q4 : w2.cell? ⟨w.heap.size, 16, none⟩ = some (.slice A m c) := row_cell X 16
  go_upto_region 8 with (fail)
  clear q0 q1 q2 q3 q4 C0 Cf0 C1 Cf1 C2 Cf2 C3 Cf3 C4 Cf4 C5 Cf5 C6 Cf6 C7 Cf7 X
  have V : Row (w2.alloc (.cells #[.int .i64 wd, .int .i64 (k : Nat), .int .i64 (cap : Nat), .int .i64 now, .slice A m c] 32)) w2.heap.size 32 #[.int .i64 wd, .int .i64 (k : Nat), .int .i64 (cap : Nat), .int .i64 now, .slice A m c] := row_new rfl
  replace C := row_alloc C (.cells #[.int .i64 wd, .int .i64 (k : Nat), .int .i64 (cap : Nat), .int .i64 now, .slice A m c] 32)
  replace o := o.alloc o.size (.cells #[.int .i64 wd, .int .i64 (k : Nat), .int .i64 (cap : Nat), .int .i64 now, .slice A m c] 32)
  generalize w2.alloc (.cells #[.int .i64 wd, .int .i64 (k : Nat), .int .i64 (cap : Nat), .int .i64 now, .slice A m c] 32) = w3 at V C o ⊢
  generalize w2.heap.size = vb at V ⊢
  obtain ⟨V0, V1, V2, V3, V4, Vf0, Vf1, Vf2, Vf3, Vf4⟩ := row_five V
  go_wp2_with fail
  refine (HV.out _ o).mono ?_
  rintro e w4 ⟨rfl, hb⟩
  clear V0 Vf0 V1 Vf1 V2 Vf2 V3 Vf3 V4 Vf4
  replace V := row_call V hb
  replace C := row_call C hb
  replace o := o.trans (hb.mono o.size)
  clear hb
  obtain ⟨V0, V1, V2, V3, V4, Vf0, Vf1, Vf2, Vf3, Vf4⟩ := row_five V
  obtain ⟨C0, C1, C2, C3, C4, C5, C6, C7, Cf0, Cf1, Cf2, Cf3, Cf4, Cf5, Cf6, Cf7⟩ := row_eight C
  go_wp2
  go_ret
  exact ⟨by first | rfl | exact ret_bool (by simp) | simp, o⟩
set_option maxRecDepth 100000 in
set_option maxHeartbeats 4000000 in
theorem pvCount (A : Option Addr) (m c : Nat) (wd : Int) (k cap : Nat) (now : Int) (w : World) (HV : RowKit.Hid (∀ w', Below w.heap.size w w' → Calls Tryz.prog 133 #[.agg #[.int .i64 wd, .int .i64 (k : Nat), .int .i64 (cap : Nat), .int .i64 now, .slice A m c]] w' fun e w'' => e = .returned (.int .i64 0) ∧ Below w'.heap.size w' w'')) (HC : RowKit.Hid (∀ w', Calls Tryz.prog 108 #[.agg #[.int .i64 2, .int .i64 0, .int .i64 wd, .int .i64 (k : Nat), .int .i64 (cap : Nat), .int .i64 0, .int .i64 0, .int .i64 0]] w' fun e w'' => e = .returned (.int .i64 0) ∧ Below w'.heap.size w' w'')) : Calls Tryz.prog 39 #[.agg #[.int .i64 2, .int .i64 0, .int .i64 wd, .int .i64 (k : Nat), .int .i64 (cap : Nat), .int .i64 0, .int .i64 0, .int .i64 0, .int .i64 0, .int .i64 0, .int .i64 0, .slice none 0 0, .int .i64 wd, .int .i64 (k : Nat), .int .i64 (cap : Nat), .int .i64 now, .slice A m c, .int .i64 0, .int .i64 0, .int .i64 0, .int .i64 0, .int .i64 0, .slice none 0 0, .int .i64 0, .int .i64 0, .int .i64 0, .int .i64 0, .int .i64 0, .int .i64 0, .slice none 0 0, .int .i64 0, .int .i64 0, .int .i64 0, .int .i64 0, .int .i64 0, .slice none 0 0, .int .i64 0, .int .i64 0, .int .i64 0, .slice none 0 0, .int .i64 0, .slice none 0 0, .bool false, .int .i64 0, .int .i64 0, .int .i64 0, .slice none 0 0, .slice none 0 0, .int .i64 0, .int .i64 0, .int .i64 0, .slice none 0 0, .int .i64 0, .int .i64 0, .int .i64 0, .int .i64 0, .slice none 0 0]] w fun e w' => e = .returned (.int .i64 0) ∧ Below w.heap.size w w' := by
  go_enter Tryz.func39, Tryz.ntmps39
  go_upto_region 1 with (fail)
  have X : Row (w.alloc (.cells #[.int .i64 2, .int .i64 0, .int .i64 wd, .int .i64 (k : Nat), .int .i64 (cap : Nat), .int .i64 0, .int .i64 0, .int .i64 0, .int .i64 0, .int .i64 0, .int .i64 0, .slice none 0 0, .int .i64 wd, .int .i64 (k : Nat), .int .i64 (cap : Nat), .int .i64 now, .slice A m c, .int .i64 0, .int .i64 0, .int .i64 0, .int .i64 0, .int .i64 0, .slice none 0 0, .int .i64 0, .int .i64 0, .int .i64 0, .int .i64 0, .int .i64 0, .int .i64 0, .slice none 0 0, .int .i64 0, .int .i64 0, .int .i64 0, .int .i64 0, .int .i64 0, .slice none 0 0, .int .i64 0, .int .i64 0, .int .i64 0, .slice none 0 0, .int .i64 0, .slice none 0 0, .bool false, .int .i64 0, .int .i64 0, .int .i64 0, .slice none 0 0, .slice none 0 0, .int .i64 0, .int .i64 0, .int .i64 0, .slice none 0 0, .int .i64 0, .int .i64 0, .int .i64 0, .int .i64 0, .slice none 0 0] 58)) w.heap.size 58 #[.int .i64 2, .int .i64 0, .int .i64 wd, .int .i64 (k : Nat), .int .i64 (cap : Nat), .int .i64 0, .int .i64 0, .int .i64 0, .int .i64 0, .int .i64 0, .int .i64 0, .slice none 0 0, .int .i64 wd, .int .i64 (k : Nat), .int .i64 (cap : Nat), .int .i64 now, .slice A m c, .int .i64 0, .int .i64 0, .int .i64 0, .int .i64 0, .int .i64 0, .slice none 0 0, .int .i64 0, .int .i64 0, .int .i64 0, .int .i64 0, .int .i64 0, .int .i64 0, .slice none 0 0, .int .i64 0, .int .i64 0, .int .i64 0, .int .i64 0, .int .i64 0, .slice none 0 0, .int .i64 0, .int .i64 0, .int .i64 0, .slice none 0 0, .int .i64 0, .slice none 0 0, .bool false, .int .i64 0, .int .i64 0, .int .i64 0, .slice none 0 0, .slice none 0 0, .int .i64 0, .int .i64 0, .int .i64 0, .slice none 0 0, .int .i64 0, .int .i64 0, .int .i64 0, .int .i64 0, .slice none 0 0] := row_new rfl
  have o : Below w.heap.size w (w.alloc (.cells #[.int .i64 2, .int .i64 0, .int .i64 wd, .int .i64 (k : Nat), .int .i64 (cap : Nat), .int .i64 0, .int .i64 0, .int .i64 0, .int .i64 0, .int .i64 0, .int .i64 0, .slice none 0 0, .int .i64 wd, .int .i64 (k : Nat), .int .i64 (cap : Nat), .int .i64 now, .slice A m c, .int .i64 0, .int .i64 0, .int .i64 0, .int .i64 0, .int .i64 0, .slice none 0 0, .int .i64 0, .int .i64 0, .int .i64 0, .int .i64 0, .int .i64 0, .int .i64 0, .slice none 0 0, .int .i64 0, .int .i64 0, .int .i64 0, .int .i64 0, .int .i64 0, .slice none 0 0, .int .i64 0, .int .i64 0, .int .i64 0, .slice none 0 0, .int .i64 0, .slice none 0 0, .bool false, .int .i64 0, .int .i64 0, .int .i64 0, .slice none 0 0, .slice none 0 0, .int .i64 0, .int .i64 0, .int .i64 0, .slice none 0 0, .int .i64 0, .int .i64 0, .int .i64 0, .int .i64 0, .slice none 0 0] 58)) := by (repeat (first | exact Below.refl _ _ | refine Below.setCell ?_ (by first | (simp; done) | (simp; omega) | omega) _ | refine Below.alloc ?_ (by first | (simp; done) | (simp; omega) | omega) _ | refine Below.drew ?_ | refine Below.trans ?_ (Below.mono (by assumption) (by first | (simp; done) | (simp; omega) | omega))))
  generalize (w.alloc (.cells #[.int .i64 2, .int .i64 0, .int .i64 wd, .int .i64 (k : Nat), .int .i64 (cap : Nat), .int .i64 0, .int .i64 0, .int .i64 0, .int .i64 0, .int .i64 0, .int .i64 0, .slice none 0 0, .int .i64 wd, .int .i64 (k : Nat), .int .i64 (cap : Nat), .int .i64 now, .slice A m c, .int .i64 0, .int .i64 0, .int .i64 0, .int .i64 0, .int .i64 0, .slice none 0 0, .int .i64 0, .int .i64 0, .int .i64 0, .int .i64 0, .int .i64 0, .int .i64 0, .slice none 0 0, .int .i64 0, .int .i64 0, .int .i64 0, .int .i64 0, .int .i64 0, .slice none 0 0, .int .i64 0, .int .i64 0, .int .i64 0, .slice none 0 0, .int .i64 0, .slice none 0 0, .bool false, .int .i64 0, .int .i64 0, .int .i64 0, .slice none 0 0, .slice none 0 0, .int .i64 0, .int .i64 0, .int .i64 0, .slice none 0 0, .int .i64 0, .int .i64 0, .int .i64 0, .int .i64 0, .slice none 0 0] 58)) = w1 at X o ⊢
  have q0 : w1.cell? ⟨w.heap.size, 0, none⟩ = some (.int .i64 2) := row_cell X 0
  have q1 : w1.cell? ⟨w.heap.size, 1, none⟩ = some (.int .i64 0) := row_cell X 1
  have q2 : w1.cell? ⟨w.heap.size, 2, none⟩ = some (.int .i64 wd) := row_cell X 2
  have q3 : w1.cell? ⟨w.heap.size, 3, none⟩ = some (.int .i64 (k : Nat)) := row_cell X 3
  have q4 : w1.cell? ⟨w.heap.size, 4, none⟩ = some (.int .i64 (cap : Nat)) := row_cell X 4
  have q5 : w1.cell? ⟨w.heap.size, 5, none⟩ = some (.int .i64 0) := row_cell X 5
  have q6 : w1.cell? ⟨w.heap.size, 6, none⟩ = some (.int .i64 0) := row_cell X 6
  have q7 : w1.cell? ⟨w.heap.size, 7, none⟩ = some (.int .i64 0) := row_cell X 7
  go_wp2_with fail
  refine (HC.out _).mono ?_
  rintro e w2 ⟨rfl, hb⟩
  clear q0 q1 q2 q3 q4 q5 q6 q7
  replace X := row_call X hb
  replace o := o.trans (hb.mono o.size)
  clear hb
  have PR := Lib.hid (fun w' (hb : Below w.heap.size w w') => prCount A m c wd k cap now w' (Lib.hid (fun w'' hb2 => HV.out w'' (hb.trans (hb2.mono hb.size)))))
  go_wp2_with (with_reducible refine wpList_lsyn_g X rfl rfl _ rfl rfl ?_)
  refine (PR.out _ o).mono ?_
  rintro e w3 ⟨rfl, hb⟩
  replace X := row_call X hb
  replace o := o.trans (hb.mono o.size)
  clear hb
  go_wp2_with (with_reducible refine wpList_lsyn_g X rfl rfl _ rfl rfl ?_)
  refine (poCount A m c wd k cap now _).mono ?_
  rintro e w4 ⟨rfl, hb⟩
  replace o := o.trans (hb.mono o.size)
  clear X
  go_wp2
  go_ret
  exact ⟨rfl, o⟩
end Go.Proofs.YtdipoojjlddohaaGreat
end
section
/- Synopses of kind Count: the clock moved on, an item more, walked. -/
set_option linter.unusedVariables false
set_option linter.unusedSimpArgs false
set_option linter.unusedSectionVars false
set_option linter.unnecessarySimpa false
namespace Go.Proofs.YtdipoojjlddohaaGreat
open Go.RowKit
set_option maxRecDepth 100000 in
set_option maxHeartbeats 4000000 in
theorem pyAdvanceCount (A : Option Addr) (m c : Nat) (wd : Int) (k cap : Nat) (now : Int) (tt : Int) (w : World) (IN : Option Addr → Nat → Nat → World → Prop) (hIN : InOK IN) (Fr : Nat → Prop) (hFr : ∀ b, Fr b → b < w.heap.size) (HV : RowKit.Hid (∀ w', Below w.heap.size w w' → Calls Tryz.prog 133 #[.agg #[.int .i64 wd, .int .i64 (k : Nat), .int .i64 (cap : Nat), .int .i64 now, .slice A m c]] w' fun e w'' => e = .returned (.int .i64 0) ∧ Below w'.heap.size w' w'')) (HC : RowKit.Hid (∀ w', Calls Tryz.prog 108 #[.agg #[.int .i64 2, .int .i64 0, .int .i64 wd, .int .i64 (k : Nat), .int .i64 (cap : Nat), .int .i64 0, .int .i64 0, .int .i64 0]] w' fun e w'' => e = .returned (.int .i64 0) ∧ Below w'.heap.size w' w'')) (HA : RowKit.Hid (∀ w', Below w.heap.size w w' → Calls Tryz.prog 65 #[.agg #[.int .i64 wd, .int .i64 (k : Nat), .int .i64 (cap : Nat), .int .i64 now, .slice A m c], .int .i64 tt] w' (GRet IN (fun A m c => #[.int .i64 wd, .int .i64 (k : Nat), .int .i64 (cap : Nat), .int .i64 tt, .slice A m c]) 0 Fr w'))) : Calls Tryz.prog 21 #[.agg #[.int .i64 2, .int .i64 0, .int .i64 wd, .int .i64 (k : Nat), .int .i64 (cap : Nat), .int .i64 0, .int .i64 0, .int .i64 0, .int .i64 0, .int .i64 0, .int .i64 0, .slice none 0 0, .int .i64 wd, .int .i64 (k : Nat), .int .i64 (cap : Nat), .int .i64 now, .slice A m c, .int .i64 0, .int .i64 0, .int .i64 0, .int .i64 0, .int .i64 0, .slice none 0 0, .int .i64 0, .int .i64 0, .int .i64 0, .int .i64 0, .int .i64 0, .int .i64 0, .slice none 0 0, .int .i64 0, .int .i64 0, .int .i64 0, .int .i64 0, .int .i64 0, .slice none 0 0, .int .i64 0, .int .i64 0, .int .i64 0, .slice none 0 0, .int .i64 0, .slice none 0 0, .bool false, .int .i64 0, .int .i64 0, .int .i64 0, .slice none 0 0, .slice none 0 0, .int .i64 0, .int .i64 0, .int .i64 0, .slice none 0 0, .int .i64 0, .int .i64 0, .int .i64 0, .int .i64 0, .slice none 0 0], .int .i64 tt] w (GRet IN (fun A m c => #[.int .i64 2, .int .i64 0, .int .i64 wd, .int .i64 (k : Nat), .int .i64 (cap : Nat), .int .i64 0, .int .i64 0, .int .i64 0, .int .i64 0, .int .i64 0, .int .i64 0, .slice none 0 0, .int .i64 wd, .int .i64 (k : Nat), .int .i64 (cap : Nat), .int .i64 tt, .slice A m c, .int .i64 0, .int .i64 0, .int .i64 0, .int .i64 0, .int .i64 0, .slice none 0 0, .int .i64 0, .int .i64 0, .int .i64 0, .int .i64 0, .int .i64 0, .int .i64 0, .slice none 0 0, .int .i64 0, .int .i64 0, .int .i64 0, .int .i64 0, .int .i64 0, .slice none 0 0, .int .i64 0, .int .i64 0, .int .i64 0, .slice none 0 0, .int .i64 0, .slice none 0 0, .bool false, .int .i64 0, .int .i64 0, .int .i64 0, .slice none 0 0, .slice none 0 0, .int .i64 0, .int .i64 0, .int .i64 0, .slice none 0 0, .int .i64 0, .int .i64 0, .int .i64 0, .int .i64 0, .slice none 0 0]) 0 Fr w) := by
  have PVd := Lib.hid (fun w' (hb : Below w.heap.size w w') => pvCount A m c wd k cap now w' (Lib.hid (fun w'' hb2 => HV.out w'' (hb.trans (hb2.mono hb.size)))) HC)
  go_enter Tryz.func21, Tryz.ntmps21
  go_upto_region 1 with (fail)
  have X : Row ((w.alloc (.cells #[.int .i64 2, .int .i64 0, .int .i64 wd, .int .i64 (k : Nat), .int .i64 (cap : Nat), .int .i64 0, .int .i64 0, .int .i64 0, .int .i64 0, .int .i64 0, .int .i64 0, .slice none 0 0, .int .i64 wd, .int .i64 (k : Nat), .int .i64 (cap : Nat), .int .i64 now, .slice A m c, .int .i64 0, .int .i64 0, .int .i64 0, .int .i64 0, .int .i64 0, .slice none 0 0, .int .i64 0, .int .i64 0, .int .i64 0, .int .i64 0, .int .i64 0, .int .i64 0, .slice none 0 0, .int .i64 0, .int .i64 0, .int .i64 0, .int .i64 0, .int .i64 0, .slice none 0 0, .int .i64 0, .int .i64 0, .int .i64 0, .slice none 0 0, .int .i64 0, .slice none 0 0, .bool false, .int .i64 0, .int .i64 0, .int .i64 0, .slice none 0 0, .slice none 0 0, .int .i64 0, .int .i64 0, .int .i64 0, .slice none 0 0, .int .i64 0, .int .i64 0, .int .i64 0, .int .i64 0, .slice none 0 0] 58)).alloc (.cells #[.int .i64 0, .int .i64 0, .int .i64 0, .int .i64 0, .int .i64 0, .int .i64 0, .int .i64 0, .int .i64 0, .int .i64 0, .int .i64 0, .int .i64 0, .slice none 0 0, .int .i64 0, .int .i64 0, .int .i64 0, .int .i64 0, .slice none 0 0, .int .i64 0, .int .i64 0, .int .i64 0, .int .i64 0, .int .i64 0, .slice none 0 0, .int .i64 0, .int .i64 0, .int .i64 0, .int .i64 0, .int .i64 0, .int .i64 0, .slice none 0 0, .int .i64 0, .int .i64 0, .int .i64 0, .int .i64 0, .int .i64 0, .slice none 0 0, .int .i64 0, .int .i64 0, .int .i64 0, .slice none 0 0, .int .i64 0, .slice none 0 0, .bool false, .int .i64 0, .int .i64 0, .int .i64 0, .slice none 0 0, .slice none 0 0, .int .i64 0, .int .i64 0, .int .i64 0, .slice none 0 0, .int .i64 0, .int .i64 0, .int .i64 0, .int .i64 0, .slice none 0 0] 58)) (w.heap.size) 58 #[.int .i64 2, .int .i64 0, .int .i64 wd, .int .i64 (k : Nat), .int .i64 (cap : Nat), .int .i64 0, .int .i64 0, .int .i64 0, .int .i64 0, .int .i64 0, .int .i64 0, .slice none 0 0, .int .i64 wd, .int .i64 (k : Nat), .int .i64 (cap : Nat), .int .i64 now, .slice A m c, .int .i64 0, .int .i64 0, .int .i64 0, .int .i64 0, .int .i64 0, .slice none 0 0, .int .i64 0, .int .i64 0, .int .i64 0, .int .i64 0, .int .i64 0, .int .i64 0, .slice none 0 0, .int .i64 0, .int .i64 0, .int .i64 0, .int .i64 0, .int .i64 0, .slice none 0 0, .int .i64 0, .int .i64 0, .int .i64 0, .slice none 0 0, .int .i64 0, .slice none 0 0, .bool false, .int .i64 0, .int .i64 0, .int .i64 0, .slice none 0 0, .slice none 0 0, .int .i64 0, .int .i64 0, .int .i64 0, .slice none 0 0, .int .i64 0, .int .i64 0, .int .i64 0, .int .i64 0, .slice none 0 0] := row_alloc (row_new rfl) _
  have R : Row ((w.alloc (.cells #[.int .i64 2, .int .i64 0, .int .i64 wd, .int .i64 (k : Nat), .int .i64 (cap : Nat), .int .i64 0, .int .i64 0, .int .i64 0, .int .i64 0, .int .i64 0, .int .i64 0, .slice none 0 0, .int .i64 wd, .int .i64 (k : Nat), .int .i64 (cap : Nat), .int .i64 now, .slice A m c, .int .i64 0, .int .i64 0, .int .i64 0, .int .i64 0, .int .i64 0, .slice none 0 0, .int .i64 0, .int .i64 0, .int .i64 0, .int .i64 0, .int .i64 0, .int .i64 0, .slice none 0 0, .int .i64 0, .int .i64 0, .int .i64 0, .int .i64 0, .int .i64 0, .slice none 0 0, .int .i64 0, .int .i64 0, .int .i64 0, .slice none 0 0, .int .i64 0, .slice none 0 0, .bool false, .int .i64 0, .int .i64 0, .int .i64 0, .slice none 0 0, .slice none 0 0, .int .i64 0, .int .i64 0, .int .i64 0, .slice none 0 0, .int .i64 0, .int .i64 0, .int .i64 0, .int .i64 0, .slice none 0 0] 58)).alloc (.cells #[.int .i64 0, .int .i64 0, .int .i64 0, .int .i64 0, .int .i64 0, .int .i64 0, .int .i64 0, .int .i64 0, .int .i64 0, .int .i64 0, .int .i64 0, .slice none 0 0, .int .i64 0, .int .i64 0, .int .i64 0, .int .i64 0, .slice none 0 0, .int .i64 0, .int .i64 0, .int .i64 0, .int .i64 0, .int .i64 0, .slice none 0 0, .int .i64 0, .int .i64 0, .int .i64 0, .int .i64 0, .int .i64 0, .int .i64 0, .slice none 0 0, .int .i64 0, .int .i64 0, .int .i64 0, .int .i64 0, .int .i64 0, .slice none 0 0, .int .i64 0, .int .i64 0, .int .i64 0, .slice none 0 0, .int .i64 0, .slice none 0 0, .bool false, .int .i64 0, .int .i64 0, .int .i64 0, .slice none 0 0, .slice none 0 0, .int .i64 0, .int .i64 0, .int .i64 0, .slice none 0 0, .int .i64 0, .int .i64 0, .int .i64 0, .int .i64 0, .slice none 0 0] 58)) (w.heap.size + 1) 58 #[.int .i64 0, .int .i64 0, .int .i64 0, .int .i64 0, .int .i64 0, .int .i64 0, .int .i64 0, .int .i64 0, .int .i64 0, .int .i64 0, .int .i64 0, .slice none 0 0, .int .i64 0, .int .i64 0, .int .i64 0, .int .i64 0, .slice none 0 0, .int .i64 0, .int .i64 0, .int .i64 0, .int .i64 0, .int .i64 0, .slice none 0 0, .int .i64 0, .int .i64 0, .int .i64 0, .int .i64 0, .int .i64 0, .int .i64 0, .slice none 0 0, .int .i64 0, .int .i64 0, .int .i64 0, .int .i64 0, .int .i64 0, .slice none 0 0, .int .i64 0, .int .i64 0, .int .i64 0, .slice none 0 0, .int .i64 0, .slice none 0 0, .bool false, .int .i64 0, .int .i64 0, .int .i64 0, .slice none 0 0, .slice none 0 0, .int .i64 0, .int .i64 0, .int .i64 0, .slice none 0 0, .int .i64 0, .int .i64 0, .int .i64 0, .int .i64 0, .slice none 0 0] := row_new (by simp)
  have o : Below w.heap.size w ((w.alloc (.cells #[.int .i64 2, .int .i64 0, .int .i64 wd, .int .i64 (k : Nat), .int .i64 (cap : Nat), .int .i64 0, .int .i64 0, .int .i64 0, .int .i64 0, .int .i64 0, .int .i64 0, .slice none 0 0, .int .i64 wd, .int .i64 (k : Nat), .int .i64 (cap : Nat), .int .i64 now, .slice A m c, .int .i64 0, .int .i64 0, .int .i64 0, .int .i64 0, .int .i64 0, .slice none 0 0, .int .i64 0, .int .i64 0, .int .i64 0, .int .i64 0, .int .i64 0, .int .i64 0, .slice none 0 0, .int .i64 0, .int .i64 0, .int .i64 0, .int .i64 0, .int .i64 0, .slice none 0 0, .int .i64 0, .int .i64 0, .int .i64 0, .slice none 0 0, .int .i64 0, .slice none 0 0, .bool false, .int .i64 0, .int .i64 0, .int .i64 0, .slice none 0 0, .slice none 0 0, .int .i64 0, .int .i64 0, .int .i64 0, .slice none 0 0, .int .i64 0, .int .i64 0, .int .i64 0, .int .i64 0, .slice none 0 0] 58)).alloc (.cells #[.int .i64 0, .int .i64 0, .int .i64 0, .int .i64 0, .int .i64 0, .int .i64 0, .int .i64 0, .int .i64 0, .int .i64 0, .int .i64 0, .int .i64 0, .slice none 0 0, .int .i64 0, .int .i64 0, .int .i64 0, .int .i64 0, .slice none 0 0, .int .i64 0, .int .i64 0, .int .i64 0, .int .i64 0, .int .i64 0, .slice none 0 0, .int .i64 0, .int .i64 0, .int .i64 0, .int .i64 0, .int .i64 0, .int .i64 0, .slice none 0 0, .int .i64 0, .int .i64 0, .int .i64 0, .int .i64 0, .int .i64 0, .slice none 0 0, .int .i64 0, .int .i64 0, .int .i64 0, .slice none 0 0, .int .i64 0, .slice none 0 0, .bool false, .int .i64 0, .int .i64 0, .int .i64 0, .slice none 0 0, .slice none 0 0, .int .i64 0, .int .i64 0, .int .i64 0, .slice none 0 0, .int .i64 0, .int .i64 0, .int .i64 0, .int .i64 0, .slice none 0 0] 58)) := by (repeat (first | exact Below.refl _ _ | refine Below.setCell ?_ (by first | (simp; done) | (simp; omega) | omega) _ | refine Below.alloc ?_ (by first | (simp; done) | (simp; omega) | omega) _ | refine Below.drew ?_ | refine Below.trans ?_ (Below.mono (by assumption) (by first | (simp; done) | (simp; omega) | omega))))
  generalize ((w.alloc (.cells #[.int .i64 2, .int .i64 0, .int .i64 wd, .int .i64 (k : Nat), .int .i64 (cap : Nat), .int .i64 0, .int .i64 0, .int .i64 0, .int .i64 0, .int .i64 0, .int .i64 0, .slice none 0 0, .int .i64 wd, .int .i64 (k : Nat), .int .i64 (cap : Nat), .int .i64 now, .slice A m c, .int .i64 0, .int .i64 0, .int .i64 0, .int .i64 0, .int .i64 0, .slice none 0 0, .int .i64 0, .int .i64 0, .int .i64 0, .int .i64 0, .int .i64 0, .int .i64 0, .slice none 0 0, .int .i64 0, .int .i64 0, .int .i64 0, .int .i64 0, .int .i64 0, .slice none 0 0, .int .i64 0, .int .i64 0, .int .i64 0, .slice none 0 0, .int .i64 0, .slice none 0 0, .bool false, .int .i64 0, .int .i64 0, .int .i64 0, .slice none 0 0, .slice none 0 0, .int .i64 0, .int .i64 0, .int .i64 0, .slice none 0 0, .int .i64 0, .int .i64 0, .int .i64 0, .int .i64 0, .slice none 0 0] 58)).alloc (.cells #[.int .i64 0, .int .i64 0, .int .i64 0, .int .i64 0, .int .i64 0, .int .i64 0, .int .i64 0, .int .i64 0, .int .i64 0, .int .i64 0, .int .i64 0, .slice none 0 0, .int .i64 0, .int .i64 0, .int .i64 0, .int .i64 0, .slice none 0 0, .int .i64 0, .int .i64 0, .int .i64 0, .int .i64 0, .int .i64 0, .slice none 0 0, .int .i64 0, .int .i64 0, .int .i64 0, .int .i64 0, .int .i64 0, .int .i64 0, .slice none 0 0, .int .i64 0, .int .i64 0, .int .i64 0, .int .i64 0, .int .i64 0, .slice none 0 0, .int .i64 0, .int .i64 0, .int .i64 0, .slice none 0 0, .int .i64 0, .slice none 0 0, .bool false, .int .i64 0, .int .i64 0, .int .i64 0, .slice none 0 0, .slice none 0 0, .int .i64 0, .int .i64 0, .int .i64 0, .slice none 0 0, .int .i64 0, .int .i64 0, .int .i64 0, .int .i64 0, .slice none 0 0] 58)) = w1 at X R o ⊢
  go_wp2_with (with_reducible refine wpList_lsyn X rfl rfl _ rfl rfl ?_)
  refine (PVd.out _ o).mono ?_
  rintro e w2 ⟨rfl, hb⟩
  replace X := row_call X hb
  replace R := row_call R hb
  replace o := o.trans (hb.mono o.size)
  clear hb PVd
  have k0 : w2.cell? ⟨w.heap.size, 0, none⟩ = some (.int .i64 2) := row_cell X 0
  have q0 : w2.cell? ⟨w.heap.size, 12, none⟩ = some (.int .i64 wd) := row_cell X 12
  have q1 : w2.cell? ⟨w.heap.size, 13, none⟩ = some (.int .i64 (k : Nat)) := row_cell X 13
  have q2 : w2.cell? ⟨w.heap.size, 14, none⟩ = some (.int .i64 (cap : Nat)) := row_cell X 14
  have q3 : w2.cell? ⟨w.heap.size, 15, none⟩ = some (.int .i64 now) := row_cell X 15
  have q4 : w2.cell? ⟨w.heap.size, 16, none⟩ = some (.slice A m c) := row_cell X 16
  go_wp2_with fail
  refine (HA.out _ o).mono ?_
  rintro e w3 ⟨A5, m5, c5, rfl, in5, hb, fr5⟩
  have z6 := row_lt R
  have zo := o.size
  have fr6 : 0 < m5 → ∀ a, A5 = some a → (w.heap.size ≠ a.block ∧ w.heap.size + 1 ≠ a.block) ∧ (w.heap.size ≤ a.block ∨ Fr a.block) := fun h0 a e => by
    rcases fr5 h0 a e with h | h
    · exact ⟨by omega, .inl (by omega)⟩
    · have := hFr _ h
      exact ⟨by omega, .inr h⟩
  replace X := row_call X hb
  replace R := row_call R hb
  replace o := o.trans (hb.mono o.size)
  clear hb fr5 HA q0 q1 q2 q3 q4 k0
  have q0 : w3.cell? ⟨w.heap.size, 12, none⟩ = some (.int .i64 wd) := row_cell X 12
  have q1 : w3.cell? ⟨w.heap.size, 13, none⟩ = some (.int .i64 (k : Nat)) := row_cell X 13
  have q2 : w3.cell? ⟨w.heap.size, 14, none⟩ = some (.int .i64 (cap : Nat)) := row_cell X 14
  have q3 : w3.cell? ⟨w.heap.size, 15, none⟩ = some (.int .i64 now) := row_cell X 15
  have q4 : w3.cell? ⟨w.heap.size, 16, none⟩ = some (.slice A m c) := row_cell X 16
  have f0 := row_free X 12
  have f1 := row_free X 13
  have f2 := row_free X 14
  have f3 := row_free X 15
  have f4 := row_free X 16
  go_upto_region 25 with (fail)
  clear q0 f0 q1 f1 q2 f2 q3 f3 q4 f4
  replace X := row_set X 12 (.int .i64 wd)
  replace R := row_other (p := ⟨w.heap.size, 12, none⟩) R (by show w.heap.size + 1 ≠ w.heap.size; omega) (.int .i64 wd)
  replace o := o.setCell (p := ⟨w.heap.size, 12, none⟩) (Nat.le_refl _) (.int .i64 wd)
  replace in5 := hIN.setc (p := ⟨w.heap.size, 12, none⟩) (.int .i64 wd) in5 (fun h0 a e => (fr6 h0 a e).1.1)
  replace X := row_set X 13 (.int .i64 (k : Nat))
  replace R := row_other (p := ⟨w.heap.size, 13, none⟩) R (by show w.heap.size + 1 ≠ w.heap.size; omega) (.int .i64 (k : Nat))
  replace o := o.setCell (p := ⟨w.heap.size, 13, none⟩) (Nat.le_refl _) (.int .i64 (k : Nat))
  replace in5 := hIN.setc (p := ⟨w.heap.size, 13, none⟩) (.int .i64 (k : Nat)) in5 (fun h0 a e => (fr6 h0 a e).1.1)
  replace X := row_set X 14 (.int .i64 (cap : Nat))
  replace R := row_other (p := ⟨w.heap.size, 14, none⟩) R (by show w.heap.size + 1 ≠ w.heap.size; omega) (.int .i64 (cap : Nat))
  replace o := o.setCell (p := ⟨w.heap.size, 14, none⟩) (Nat.le_refl _) (.int .i64 (cap : Nat))
  replace in5 := hIN.setc (p := ⟨w.heap.size, 14, none⟩) (.int .i64 (cap : Nat)) in5 (fun h0 a e => (fr6 h0 a e).1.1)
  replace X := row_set X 15 (.int .i64 tt)
  replace R := row_other (p := ⟨w.heap.size, 15, none⟩) R (by show w.heap.size + 1 ≠ w.heap.size; omega) (.int .i64 tt)
  replace o := o.setCell (p := ⟨w.heap.size, 15, none⟩) (Nat.le_refl _) (.int .i64 tt)
  replace in5 := hIN.setc (p := ⟨w.heap.size, 15, none⟩) (.int .i64 tt) in5 (fun h0 a e => (fr6 h0 a e).1.1)
  replace X := row_set X 16 (.slice A5 m5 c5)
  replace R := row_other (p := ⟨w.heap.size, 16, none⟩) R (by show w.heap.size + 1 ≠ w.heap.size; omega) (.slice A5 m5 c5)
  replace o := o.setCell (p := ⟨w.heap.size, 16, none⟩) (Nat.le_refl _) (.slice A5 m5 c5)
  replace in5 := hIN.setc (p := ⟨w.heap.size, 16, none⟩) (.slice A5 m5 c5) in5 (fun h0 a e => (fr6 h0 a e).1.1)
  replace X : Row (((((w3.setCell ⟨w.heap.size, 12, none⟩ (.int .i64 wd)).setCell ⟨w.heap.size, 13, none⟩ (.int .i64 (k : Nat))).setCell ⟨w.heap.size, 14, none⟩ (.int .i64 (cap : Nat))).setCell ⟨w.heap.size, 15, none⟩ (.int .i64 tt)).setCell ⟨w.heap.size, 16, none⟩ (.slice A5 m5 c5)) (w.heap.size) 58 #[.int .i64 2, .int .i64 0, .int .i64 wd, .int .i64 (k : Nat), .int .i64 (cap : Nat), .int .i64 0, .int .i64 0, .int .i64 0, .int .i64 0, .int .i64 0, .int .i64 0, .slice none 0 0, .int .i64 wd, .int .i64 (k : Nat), .int .i64 (cap : Nat), .int .i64 tt, .slice A5 m5 c5, .int .i64 0, .int .i64 0, .int .i64 0, .int .i64 0, .int .i64 0, .slice none 0 0, .int .i64 0, .int .i64 0, .int .i64 0, .int .i64 0, .int .i64 0, .int .i64 0, .slice none 0 0, .int .i64 0, .int .i64 0, .int .i64 0, .int .i64 0, .int .i64 0, .slice none 0 0, .int .i64 0, .int .i64 0, .int .i64 0, .slice none 0 0, .int .i64 0, .slice none 0 0, .bool false, .int .i64 0, .int .i64 0, .int .i64 0, .slice none 0 0, .slice none 0 0, .int .i64 0, .int .i64 0, .int .i64 0, .slice none 0 0, .int .i64 0, .int .i64 0, .int .i64 0, .int .i64 0, .slice none 0 0] := X
  generalize (((((w3.setCell ⟨w.heap.size, 12, none⟩ (.int .i64 wd)).setCell ⟨w.heap.size, 13, none⟩ (.int .i64 (k : Nat))).setCell ⟨w.heap.size, 14, none⟩ (.int .i64 (cap : Nat))).setCell ⟨w.heap.size, 15, none⟩ (.int .i64 tt)).setCell ⟨w.heap.size, 16, none⟩ (.slice A5 m5 c5)) = w4 at X R o in5 ⊢
  have k0 : w4.cell? ⟨w.heap.size, 0, none⟩ = some (.int .i64 2) := row_cell X 0
  have hone : (#[.int .i64 2, .int .i64 0, .int .i64 wd, .int .i64 (k : Nat), .int .i64 (cap : Nat), .int .i64 0, .int .i64 0, .int .i64 0, .int .i64 0, .int .i64 0, .int .i64 0, .slice none 0 0, .int .i64 wd, .int .i64 (k : Nat), .int .i64 (cap : Nat), .int .i64 tt, .slice A5 m5 c5, .int .i64 0, .int .i64 0, .int .i64 0, .int .i64 0, .int .i64 0, .slice none 0 0, .int .i64 0, .int .i64 0, .int .i64 0, .int .i64 0, .int .i64 0, .int .i64 0, .slice none 0 0, .int .i64 0, .int .i64 0, .int .i64 0, .int .i64 0, .int .i64 0, .slice none 0 0, .int .i64 0, .int .i64 0, .int .i64 0, .slice none 0 0, .int .i64 0, .slice none 0 0, .bool false, .int .i64 0, .int .i64 0, .int .i64 0, .slice none 0 0, .slice none 0 0, .int .i64 0, .int .i64 0, .int .i64 0, .slice none 0 0, .int .i64 0, .int .i64 0, .int .i64 0, .int .i64 0, .slice none 0 0] : Array Value).all (·.oneCell') = true := all_one rfl
  go_wp2_with (first | (with_reducible refine wpList_lsyn X rfl rfl _ rfl rfl ?_) | (with_reducible refine wpList_ssyn R rfl rfl hone rfl _ _ rfl rfl rfl ?_))
  have R9 := row_setRow (cs := #[.int .i64 2, .int .i64 0, .int .i64 wd, .int .i64 (k : Nat), .int .i64 (cap : Nat), .int .i64 0, .int .i64 0, .int .i64 0, .int .i64 0, .int .i64 0, .int .i64 0, .slice none 0 0, .int .i64 wd, .int .i64 (k : Nat), .int .i64 (cap : Nat), .int .i64 tt, .slice A5 m5 c5, .int .i64 0, .int .i64 0, .int .i64 0, .int .i64 0, .int .i64 0, .slice none 0 0, .int .i64 0, .int .i64 0, .int .i64 0, .int .i64 0, .int .i64 0, .int .i64 0, .slice none 0 0, .int .i64 0, .int .i64 0, .int .i64 0, .int .i64 0, .int .i64 0, .slice none 0 0, .int .i64 0, .int .i64 0, .int .i64 0, .slice none 0 0, .int .i64 0, .slice none 0 0, .bool false, .int .i64 0, .int .i64 0, .int .i64 0, .slice none 0 0, .slice none 0 0, .int .i64 0, .int .i64 0, .int .i64 0, .slice none 0 0, .int .i64 0, .int .i64 0, .int .i64 0, .int .i64 0, .slice none 0 0]) R
  refine bodyPost_ret (v := .tuple #[.agg #[.int .i64 2, .int .i64 0, .int .i64 wd, .int .i64 (k : Nat), .int .i64 (cap : Nat), .int .i64 0, .int .i64 0, .int .i64 0, .int .i64 0, .int .i64 0, .int .i64 0, .slice none 0 0, .int .i64 wd, .int .i64 (k : Nat), .int .i64 (cap : Nat), .int .i64 tt, .slice A5 m5 c5, .int .i64 0, .int .i64 0, .int .i64 0, .int .i64 0, .int .i64 0, .slice none 0 0, .int .i64 0, .int .i64 0, .int .i64 0, .int .i64 0, .int .i64 0, .int .i64 0, .slice none 0 0, .int .i64 0, .int .i64 0, .int .i64 0, .int .i64 0, .int .i64 0, .slice none 0 0, .int .i64 0, .int .i64 0, .int .i64 0, .slice none 0 0, .int .i64 0, .slice none 0 0, .bool false, .int .i64 0, .int .i64 0, .int .i64 0, .slice none 0 0, .slice none 0 0, .int .i64 0, .int .i64 0, .int .i64 0, .slice none 0 0, .int .i64 0, .int .i64 0, .int .i64 0, .int .i64 0, .slice none 0 0], .int .i64 0]) ?_ rfl ?_
  · exact results_syn (p := 4) (q := 5) rfl _ R9 rfl rfl
  · exact ⟨A5, m5, c5, rfl, hIN.setr _ in5 (fun h0 a e => (fr6 h0 a e).1.2), below_setRow o (by omega) _, fun h0 a e => (fr6 h0 a e).2⟩
set_option maxRecDepth 100000 in
set_option maxHeartbeats 4000000 in
theorem pyAddCount (A : Option Addr) (m c : Nat) (wd : Int) (k cap : Nat) (now : Int) (v : Int) (w : World) (IN : Option Addr → Nat → Nat → World → Prop) (hIN : InOK IN) (Fr : Nat → Prop) (hFr : ∀ b, Fr b → b < w.heap.size) (HV : RowKit.Hid (∀ w', Below w.heap.size w w' → Calls Tryz.prog 133 #[.agg #[.int .i64 wd, .int .i64 (k : Nat), .int .i64 (cap : Nat), .int .i64 now, .slice A m c]] w' fun e w'' => e = .returned (.int .i64 0) ∧ Below w'.heap.size w' w'')) (HC : RowKit.Hid (∀ w', Calls Tryz.prog 108 #[.agg #[.int .i64 2, .int .i64 0, .int .i64 wd, .int .i64 (k : Nat), .int .i64 (cap : Nat), .int .i64 0, .int .i64 0, .int .i64 0]] w' fun e w'' => e = .returned (.int .i64 0) ∧ Below w'.heap.size w' w'')) (HA : RowKit.Hid (∀ w', Below w.heap.size w w' → Calls Tryz.prog 121 #[.agg #[.int .i64 wd, .int .i64 (k : Nat), .int .i64 (cap : Nat), .int .i64 now, .slice A m c]] w' (GRet IN (fun A m c => #[.int .i64 wd, .int .i64 (k : Nat), .int .i64 (cap : Nat), .int .i64 now, .slice A m c]) 0 Fr w'))) (v0 : -4096 ≤ v) (v1 : v ≤ 4096) : Calls Tryz.prog 38 #[.agg #[.int .i64 2, .int .i64 0, .int .i64 wd, .int .i64 (k : Nat), .int .i64 (cap : Nat), .int .i64 0, .int .i64 0, .int .i64 0, .int .i64 0, .int .i64 0, .int .i64 0, .slice none 0 0, .int .i64 wd, .int .i64 (k : Nat), .int .i64 (cap : Nat), .int .i64 now, .slice A m c, .int .i64 0, .int .i64 0, .int .i64 0, .int .i64 0, .int .i64 0, .slice none 0 0, .int .i64 0, .int .i64 0, .int .i64 0, .int .i64 0, .int .i64 0, .int .i64 0, .slice none 0 0, .int .i64 0, .int .i64 0, .int .i64 0, .int .i64 0, .int .i64 0, .slice none 0 0, .int .i64 0, .int .i64 0, .int .i64 0, .slice none 0 0, .int .i64 0, .slice none 0 0, .bool false, .int .i64 0, .int .i64 0, .int .i64 0, .slice none 0 0, .slice none 0 0, .int .i64 0, .int .i64 0, .int .i64 0, .slice none 0 0, .int .i64 0, .int .i64 0, .int .i64 0, .int .i64 0, .slice none 0 0], .int .i64 v, .slice none 0 0] w (GRet IN (fun A m c => #[.int .i64 2, .int .i64 0, .int .i64 wd, .int .i64 (k : Nat), .int .i64 (cap : Nat), .int .i64 0, .int .i64 0, .int .i64 0, .int .i64 0, .int .i64 0, .int .i64 0, .slice none 0 0, .int .i64 wd, .int .i64 (k : Nat), .int .i64 (cap : Nat), .int .i64 now, .slice A m c, .int .i64 0, .int .i64 0, .int .i64 0, .int .i64 0, .int .i64 0, .slice none 0 0, .int .i64 0, .int .i64 0, .int .i64 0, .int .i64 0, .int .i64 0, .int .i64 0, .slice none 0 0, .int .i64 0, .int .i64 0, .int .i64 0, .int .i64 0, .int .i64 0, .slice none 0 0, .int .i64 0, .int .i64 0, .int .i64 0, .slice none 0 0, .int .i64 0, .slice none 0 0, .bool false, .int .i64 0, .int .i64 0, .int .i64 0, .slice none 0 0, .slice none 0 0, .int .i64 0, .int .i64 0, .int .i64 0, .slice none 0 0, .int .i64 0, .int .i64 0, .int .i64 0, .int .i64 0, .slice none 0 0]) 0 Fr w) := by
  have PVd := Lib.hid (fun w' (hb : Below w.heap.size w w') => pvCount A m c wd k cap now w' (Lib.hid (fun w'' hb2 => HV.out w'' (hb.trans (hb2.mono hb.size)))) HC)
  have v2 : ¬ v < -4096 := by omega
  have v3 : ¬ 4096 < v := by omega
  go_enter Tryz.func38, Tryz.ntmps38
  go_upto_region 1 with (fail)
  have X : Row ((w.alloc (.cells #[.int .i64 2, .int .i64 0, .int .i64 wd, .int .i64 (k : Nat), .int .i64 (cap : Nat), .int .i64 0, .int .i64 0, .int .i64 0, .int .i64 0, .int .i64 0, .int .i64 0, .slice none 0 0, .int .i64 wd, .int .i64 (k : Nat), .int .i64 (cap : Nat), .int .i64 now, .slice A m c, .int .i64 0, .int .i64 0, .int .i64 0, .int .i64 0, .int .i64 0, .slice none 0 0, .int .i64 0, .int .i64 0, .int .i64 0, .int .i64 0, .int .i64 0, .int .i64 0, .slice none 0 0, .int .i64 0, .int .i64 0, .int .i64 0, .int .i64 0, .int .i64 0, .slice none 0 0, .int .i64 0, .int .i64 0, .int .i64 0, .slice none 0 0, .int .i64 0, .slice none 0 0, .bool false, .int .i64 0, .int .i64 0, .int .i64 0, .slice none 0 0, .slice none 0 0, .int .i64 0, .int .i64 0, .int .i64 0, .slice none 0 0, .int .i64 0, .int .i64 0, .int .i64 0, .int .i64 0, .slice none 0 0] 58)).alloc (.cells #[.int .i64 0, .int .i64 0, .int .i64 0, .int .i64 0, .int .i64 0, .int .i64 0, .int .i64 0, .int .i64 0, .int .i64 0, .int .i64 0, .int .i64 0, .slice none 0 0, .int .i64 0, .int .i64 0, .int .i64 0, .int .i64 0, .slice none 0 0, .int .i64 0, .int .i64 0, .int .i64 0, .int .i64 0, .int .i64 0, .slice none 0 0, .int .i64 0, .int .i64 0, .int .i64 0, .int .i64 0, .int .i64 0, .int .i64 0, .slice none 0 0, .int .i64 0, .int .i64 0, .int .i64 0, .int .i64 0, .int .i64 0, .slice none 0 0, .int .i64 0, .int .i64 0, .int .i64 0, .slice none 0 0, .int .i64 0, .slice none 0 0, .bool false, .int .i64 0, .int .i64 0, .int .i64 0, .slice none 0 0, .slice none 0 0, .int .i64 0, .int .i64 0, .int .i64 0, .slice none 0 0, .int .i64 0, .int .i64 0, .int .i64 0, .int .i64 0, .slice none 0 0] 58)) (w.heap.size) 58 #[.int .i64 2, .int .i64 0, .int .i64 wd, .int .i64 (k : Nat), .int .i64 (cap : Nat), .int .i64 0, .int .i64 0, .int .i64 0, .int .i64 0, .int .i64 0, .int .i64 0, .slice none 0 0, .int .i64 wd, .int .i64 (k : Nat), .int .i64 (cap : Nat), .int .i64 now, .slice A m c, .int .i64 0, .int .i64 0, .int .i64 0, .int .i64 0, .int .i64 0, .slice none 0 0, .int .i64 0, .int .i64 0, .int .i64 0, .int .i64 0, .int .i64 0, .int .i64 0, .slice none 0 0, .int .i64 0, .int .i64 0, .int .i64 0, .int .i64 0, .int .i64 0, .slice none 0 0, .int .i64 0, .int .i64 0, .int .i64 0, .slice none 0 0, .int .i64 0, .slice none 0 0, .bool false, .int .i64 0, .int .i64 0, .int .i64 0, .slice none 0 0, .slice none 0 0, .int .i64 0, .int .i64 0, .int .i64 0, .slice none 0 0, .int .i64 0, .int .i64 0, .int .i64 0, .int .i64 0, .slice none 0 0] := row_alloc (row_new rfl) _
  have R : Row ((w.alloc (.cells #[.int .i64 2, .int .i64 0, .int .i64 wd, .int .i64 (k : Nat), .int .i64 (cap : Nat), .int .i64 0, .int .i64 0, .int .i64 0, .int .i64 0, .int .i64 0, .int .i64 0, .slice none 0 0, .int .i64 wd, .int .i64 (k : Nat), .int .i64 (cap : Nat), .int .i64 now, .slice A m c, .int .i64 0, .int .i64 0, .int .i64 0, .int .i64 0, .int .i64 0, .slice none 0 0, .int .i64 0, .int .i64 0, .int .i64 0, .int .i64 0, .int .i64 0, .int .i64 0, .slice none 0 0, .int .i64 0, .int .i64 0, .int .i64 0, .int .i64 0, .int .i64 0, .slice none 0 0, .int .i64 0, .int .i64 0, .int .i64 0, .slice none 0 0, .int .i64 0, .slice none 0 0, .bool false, .int .i64 0, .int .i64 0, .int .i64 0, .slice none 0 0, .slice none 0 0, .int .i64 0, .int .i64 0, .int .i64 0, .slice none 0 0, .int .i64 0, .int .i64 0, .int .i64 0, .int .i64 0, .slice none 0 0] 58)).alloc (.cells #[.int .i64 0, .int .i64 0, .int .i64 0, .int .i64 0, .int .i64 0, .int .i64 0, .int .i64 0, .int .i64 0, .int .i64 0, .int .i64 0, .int .i64 0, .slice none 0 0, .int .i64 0, .int .i64 0, .int .i64 0, .int .i64 0, .slice none 0 0, .int .i64 0, .int .i64 0, .int .i64 0, .int .i64 0, .int .i64 0, .slice none 0 0, .int .i64 0, .int .i64 0, .int .i64 0, .int .i64 0, .int .i64 0, .int .i64 0, .slice none 0 0, .int .i64 0, .int .i64 0, .int .i64 0, .int .i64 0, .int .i64 0, .slice none 0 0, .int .i64 0, .int .i64 0, .int .i64 0, .slice none 0 0, .int .i64 0, .slice none 0 0, .bool false, .int .i64 0, .int .i64 0, .int .i64 0, .slice none 0 0, .slice none 0 0, .int .i64 0, .int .i64 0, .int .i64 0, .slice none 0 0, .int .i64 0, .int .i64 0, .int .i64 0, .int .i64 0, .slice none 0 0] 58)) (w.heap.size + 1) 58 #[.int .i64 0, .int .i64 0, .int .i64 0, .int .i64 0, .int .i64 0, .int .i64 0, .int .i64 0, .int .i64 0, .int .i64 0, .int .i64 0, .int .i64 0, .slice none 0 0, .int .i64 0, .int .i64 0, .int .i64 0, .int .i64 0, .slice none 0 0, .int .i64 0, .int .i64 0, .int .i64 0, .int .i64 0, .int .i64 0, .slice none 0 0, .int .i64 0, .int .i64 0, .int .i64 0, .int .i64 0, .int .i64 0, .int .i64 0, .slice none 0 0, .int .i64 0, .int .i64 0, .int .i64 0, .int .i64 0, .int .i64 0, .slice none 0 0, .int .i64 0, .int .i64 0, .int .i64 0, .slice none 0 0, .int .i64 0, .slice none 0 0, .bool false, .int .i64 0, .int .i64 0, .int .i64 0, .slice none 0 0, .slice none 0 0, .int .i64 0, .int .i64 0, .int .i64 0, .slice none 0 0, .int .i64 0, .int .i64 0, .int .i64 0, .int .i64 0, .slice none 0 0] := row_new (by simp)
  have o : Below w.heap.size w ((w.alloc (.cells #[.int .i64 2, .int .i64 0, .int .i64 wd, .int .i64 (k : Nat), .int .i64 (cap : Nat), .int .i64 0, .int .i64 0, .int .i64 0, .int .i64 0, .int .i64 0, .int .i64 0, .slice none 0 0, .int .i64 wd, .int .i64 (k : Nat), .int .i64 (cap : Nat), .int .i64 now, .slice A m c, .int .i64 0, .int .i64 0, .int .i64 0, .int .i64 0, .int .i64 0, .slice none 0 0, .int .i64 0, .int .i64 0, .int .i64 0, .int .i64 0, .int .i64 0, .int .i64 0, .slice none 0 0, .int .i64 0, .int .i64 0, .int .i64 0, .int .i64 0, .int .i64 0, .slice none 0 0, .int .i64 0, .int .i64 0, .int .i64 0, .slice none 0 0, .int .i64 0, .slice none 0 0, .bool false, .int .i64 0, .int .i64 0, .int .i64 0, .slice none 0 0, .slice none 0 0, .int .i64 0, .int .i64 0, .int .i64 0, .slice none 0 0, .int .i64 0, .int .i64 0, .int .i64 0, .int .i64 0, .slice none 0 0] 58)).alloc (.cells #[.int .i64 0, .int .i64 0, .int .i64 0, .int .i64 0, .int .i64 0, .int .i64 0, .int .i64 0, .int .i64 0, .int .i64 0, .int .i64 0, .int .i64 0, .slice none 0 0, .int .i64 0, .int .i64 0, .int .i64 0, .int .i64 0, .slice none 0 0, .int .i64 0, .int .i64 0, .int .i64 0, .int .i64 0, .int .i64 0, .slice none 0 0, .int .i64 0, .int .i64 0, .int .i64 0, .int .i64 0, .int .i64 0, .int .i64 0, .slice none 0 0, .int .i64 0, .int .i64 0, .int .i64 0, .int .i64 0, .int .i64 0, .slice none 0 0, .int .i64 0, .int .i64 0, .int .i64 0, .slice none 0 0, .int .i64 0, .slice none 0 0, .bool false, .int .i64 0, .int .i64 0, .int .i64 0, .slice none 0 0, .slice none 0 0, .int .i64 0, .int .i64 0, .int .i64 0, .slice none 0 0, .int .i64 0, .int .i64 0, .int .i64 0, .int .i64 0, .slice none 0 0] 58)) := by (repeat (first | exact Below.refl _ _ | refine Below.setCell ?_ (by first | (simp; done) | (simp; omega) | omega) _ | refine Below.alloc ?_ (by first | (simp; done) | (simp; omega) | omega) _ | refine Below.drew ?_ | refine Below.trans ?_ (Below.mono (by assumption) (by first | (simp; done) | (simp; omega) | omega))))
  generalize ((w.alloc (.cells #[.int .i64 2, .int .i64 0, .int .i64 wd, .int .i64 (k : Nat), .int .i64 (cap : Nat), .int .i64 0, .int .i64 0, .int .i64 0, .int .i64 0, .int .i64 0, .int .i64 0, .slice none 0 0, .int .i64 wd, .int .i64 (k : Nat), .int .i64 (cap : Nat), .int .i64 now, .slice A m c, .int .i64 0, .int .i64 0, .int .i64 0, .int .i64 0, .int .i64 0, .slice none 0 0, .int .i64 0, .int .i64 0, .int .i64 0, .int .i64 0, .int .i64 0, .int .i64 0, .slice none 0 0, .int .i64 0, .int .i64 0, .int .i64 0, .int .i64 0, .int .i64 0, .slice none 0 0, .int .i64 0, .int .i64 0, .int .i64 0, .slice none 0 0, .int .i64 0, .slice none 0 0, .bool false, .int .i64 0, .int .i64 0, .int .i64 0, .slice none 0 0, .slice none 0 0, .int .i64 0, .int .i64 0, .int .i64 0, .slice none 0 0, .int .i64 0, .int .i64 0, .int .i64 0, .int .i64 0, .slice none 0 0] 58)).alloc (.cells #[.int .i64 0, .int .i64 0, .int .i64 0, .int .i64 0, .int .i64 0, .int .i64 0, .int .i64 0, .int .i64 0, .int .i64 0, .int .i64 0, .int .i64 0, .slice none 0 0, .int .i64 0, .int .i64 0, .int .i64 0, .int .i64 0, .slice none 0 0, .int .i64 0, .int .i64 0, .int .i64 0, .int .i64 0, .int .i64 0, .slice none 0 0, .int .i64 0, .int .i64 0, .int .i64 0, .int .i64 0, .int .i64 0, .int .i64 0, .slice none 0 0, .int .i64 0, .int .i64 0, .int .i64 0, .int .i64 0, .int .i64 0, .slice none 0 0, .int .i64 0, .int .i64 0, .int .i64 0, .slice none 0 0, .int .i64 0, .slice none 0 0, .bool false, .int .i64 0, .int .i64 0, .int .i64 0, .slice none 0 0, .slice none 0 0, .int .i64 0, .int .i64 0, .int .i64 0, .slice none 0 0, .int .i64 0, .int .i64 0, .int .i64 0, .int .i64 0, .slice none 0 0] 58)) = w1 at X R o ⊢
  go_wp2_with (with_reducible refine wpList_lsyn X rfl rfl _ rfl rfl ?_)
  refine (PVd.out _ o).mono ?_
  rintro e w2 ⟨rfl, hb⟩
  replace X := row_call X hb
  replace R := row_call R hb
  replace o := o.trans (hb.mono o.size)
  clear hb PVd
  have k0 : w2.cell? ⟨w.heap.size, 0, none⟩ = some (.int .i64 2) := row_cell X 0
  have q0 : w2.cell? ⟨w.heap.size, 12, none⟩ = some (.int .i64 wd) := row_cell X 12
  have q1 : w2.cell? ⟨w.heap.size, 13, none⟩ = some (.int .i64 (k : Nat)) := row_cell X 13
  have q2 : w2.cell? ⟨w.heap.size, 14, none⟩ = some (.int .i64 (cap : Nat)) := row_cell X 14
  have q3 : w2.cell? ⟨w.heap.size, 15, none⟩ = some (.int .i64 now) := row_cell X 15
  have q4 : w2.cell? ⟨w.heap.size, 16, none⟩ = some (.slice A m c) := row_cell X 16
  go_wp2_with fail
  refine (HA.out _ o).mono ?_
  rintro e w3 ⟨A5, m5, c5, rfl, in5, hb, fr5⟩
  have z6 := row_lt R
  have zo := o.size
  have fr6 : 0 < m5 → ∀ a, A5 = some a → (w.heap.size ≠ a.block ∧ w.heap.size + 1 ≠ a.block) ∧ (w.heap.size ≤ a.block ∨ Fr a.block) := fun h0 a e => by
    rcases fr5 h0 a e with h | h
    · exact ⟨by omega, .inl (by omega)⟩
    · have := hFr _ h
      exact ⟨by omega, .inr h⟩
  replace X := row_call X hb
  replace R := row_call R hb
  replace o := o.trans (hb.mono o.size)
  clear hb fr5 HA q0 q1 q2 q3 q4 k0
  have q0 : w3.cell? ⟨w.heap.size, 12, none⟩ = some (.int .i64 wd) := row_cell X 12
  have q1 : w3.cell? ⟨w.heap.size, 13, none⟩ = some (.int .i64 (k : Nat)) := row_cell X 13
  have q2 : w3.cell? ⟨w.heap.size, 14, none⟩ = some (.int .i64 (cap : Nat)) := row_cell X 14
  have q3 : w3.cell? ⟨w.heap.size, 15, none⟩ = some (.int .i64 now) := row_cell X 15
  have q4 : w3.cell? ⟨w.heap.size, 16, none⟩ = some (.slice A m c) := row_cell X 16
  have f0 := row_free X 12
  have f1 := row_free X 13
  have f2 := row_free X 14
  have f3 := row_free X 15
  have f4 := row_free X 16
  go_upto_region 29 with (fail)
  clear q0 f0 q1 f1 q2 f2 q3 f3 q4 f4
  replace X := row_set X 12 (.int .i64 wd)
  replace R := row_other (p := ⟨w.heap.size, 12, none⟩) R (by show w.heap.size + 1 ≠ w.heap.size; omega) (.int .i64 wd)
  replace o := o.setCell (p := ⟨w.heap.size, 12, none⟩) (Nat.le_refl _) (.int .i64 wd)
  replace in5 := hIN.setc (p := ⟨w.heap.size, 12, none⟩) (.int .i64 wd) in5 (fun h0 a e => (fr6 h0 a e).1.1)
  replace X := row_set X 13 (.int .i64 (k : Nat))
  replace R := row_other (p := ⟨w.heap.size, 13, none⟩) R (by show w.heap.size + 1 ≠ w.heap.size; omega) (.int .i64 (k : Nat))
  replace o := o.setCell (p := ⟨w.heap.size, 13, none⟩) (Nat.le_refl _) (.int .i64 (k : Nat))
  replace in5 := hIN.setc (p := ⟨w.heap.size, 13, none⟩) (.int .i64 (k : Nat)) in5 (fun h0 a e => (fr6 h0 a e).1.1)
  replace X := row_set X 14 (.int .i64 (cap : Nat))
  replace R := row_other (p := ⟨w.heap.size, 14, none⟩) R (by show w.heap.size + 1 ≠ w.heap.size; omega) (.int .i64 (cap : Nat))
  replace o := o.setCell (p := ⟨w.heap.size, 14, none⟩) (Nat.le_refl _) (.int .i64 (cap : Nat))
  replace in5 := hIN.setc (p := ⟨w.heap.size, 14, none⟩) (.int .i64 (cap : Nat)) in5 (fun h0 a e => (fr6 h0 a e).1.1)
  replace X := row_set X 15 (.int .i64 now)
  replace R := row_other (p := ⟨w.heap.size, 15, none⟩) R (by show w.heap.size + 1 ≠ w.heap.size; omega) (.int .i64 now)
  replace o := o.setCell (p := ⟨w.heap.size, 15, none⟩) (Nat.le_refl _) (.int .i64 now)
  replace in5 := hIN.setc (p := ⟨w.heap.size, 15, none⟩) (.int .i64 now) in5 (fun h0 a e => (fr6 h0 a e).1.1)
  replace X := row_set X 16 (.slice A5 m5 c5)
  replace R := row_other (p := ⟨w.heap.size, 16, none⟩) R (by show w.heap.size + 1 ≠ w.heap.size; omega) (.slice A5 m5 c5)
  replace o := o.setCell (p := ⟨w.heap.size, 16, none⟩) (Nat.le_refl _) (.slice A5 m5 c5)
  replace in5 := hIN.setc (p := ⟨w.heap.size, 16, none⟩) (.slice A5 m5 c5) in5 (fun h0 a e => (fr6 h0 a e).1.1)
  replace X : Row (((((w3.setCell ⟨w.heap.size, 12, none⟩ (.int .i64 wd)).setCell ⟨w.heap.size, 13, none⟩ (.int .i64 (k : Nat))).setCell ⟨w.heap.size, 14, none⟩ (.int .i64 (cap : Nat))).setCell ⟨w.heap.size, 15, none⟩ (.int .i64 now)).setCell ⟨w.heap.size, 16, none⟩ (.slice A5 m5 c5)) (w.heap.size) 58 #[.int .i64 2, .int .i64 0, .int .i64 wd, .int .i64 (k : Nat), .int .i64 (cap : Nat), .int .i64 0, .int .i64 0, .int .i64 0, .int .i64 0, .int .i64 0, .int .i64 0, .slice none 0 0, .int .i64 wd, .int .i64 (k : Nat), .int .i64 (cap : Nat), .int .i64 now, .slice A5 m5 c5, .int .i64 0, .int .i64 0, .int .i64 0, .int .i64 0, .int .i64 0, .slice none 0 0, .int .i64 0, .int .i64 0, .int .i64 0, .int .i64 0, .int .i64 0, .int .i64 0, .slice none 0 0, .int .i64 0, .int .i64 0, .int .i64 0, .int .i64 0, .int .i64 0, .slice none 0 0, .int .i64 0, .int .i64 0, .int .i64 0, .slice none 0 0, .int .i64 0, .slice none 0 0, .bool false, .int .i64 0, .int .i64 0, .int .i64 0, .slice none 0 0, .slice none 0 0, .int .i64 0, .int .i64 0, .int .i64 0, .slice none 0 0, .int .i64 0, .int .i64 0, .int .i64 0, .int .i64 0, .slice none 0 0] := X
  generalize (((((w3.setCell ⟨w.heap.size, 12, none⟩ (.int .i64 wd)).setCell ⟨w.heap.size, 13, none⟩ (.int .i64 (k : Nat))).setCell ⟨w.heap.size, 14, none⟩ (.int .i64 (cap : Nat))).setCell ⟨w.heap.size, 15, none⟩ (.int .i64 now)).setCell ⟨w.heap.size, 16, none⟩ (.slice A5 m5 c5)) = w4 at X R o in5 ⊢
  have k0 : w4.cell? ⟨w.heap.size, 0, none⟩ = some (.int .i64 2) := row_cell X 0
  have hone : (#[.int .i64 2, .int .i64 0, .int .i64 wd, .int .i64 (k : Nat), .int .i64 (cap : Nat), .int .i64 0, .int .i64 0, .int .i64 0, .int .i64 0, .int .i64 0, .int .i64 0, .slice none 0 0, .int .i64 wd, .int .i64 (k : Nat), .int .i64 (cap : Nat), .int .i64 now, .slice A5 m5 c5, .int .i64 0, .int .i64 0, .int .i64 0, .int .i64 0, .int .i64 0, .slice none 0 0, .int .i64 0, .int .i64 0, .int .i64 0, .int .i64 0, .int .i64 0, .int .i64 0, .slice none 0 0, .int .i64 0, .int .i64 0, .int .i64 0, .int .i64 0, .int .i64 0, .slice none 0 0, .int .i64 0, .int .i64 0, .int .i64 0, .slice none 0 0, .int .i64 0, .slice none 0 0, .bool false, .int .i64 0, .int .i64 0, .int .i64 0, .slice none 0 0, .slice none 0 0, .int .i64 0, .int .i64 0, .int .i64 0, .slice none 0 0, .int .i64 0, .int .i64 0, .int .i64 0, .int .i64 0, .slice none 0 0] : Array Value).all (·.oneCell') = true := all_one rfl
  go_wp2_with (first | (with_reducible refine wpList_lsyn X rfl rfl _ rfl rfl ?_) | (with_reducible refine wpList_ssyn R rfl rfl hone rfl _ _ rfl rfl rfl ?_))
  have R9 := row_setRow (cs := #[.int .i64 2, .int .i64 0, .int .i64 wd, .int .i64 (k : Nat), .int .i64 (cap : Nat), .int .i64 0, .int .i64 0, .int .i64 0, .int .i64 0, .int .i64 0, .int .i64 0, .slice none 0 0, .int .i64 wd, .int .i64 (k : Nat), .int .i64 (cap : Nat), .int .i64 now, .slice A5 m5 c5, .int .i64 0, .int .i64 0, .int .i64 0, .int .i64 0, .int .i64 0, .slice none 0 0, .int .i64 0, .int .i64 0, .int .i64 0, .int .i64 0, .int .i64 0, .int .i64 0, .slice none 0 0, .int .i64 0, .int .i64 0, .int .i64 0, .int .i64 0, .int .i64 0, .slice none 0 0, .int .i64 0, .int .i64 0, .int .i64 0, .slice none 0 0, .int .i64 0, .slice none 0 0, .bool false, .int .i64 0, .int .i64 0, .int .i64 0, .slice none 0 0, .slice none 0 0, .int .i64 0, .int .i64 0, .int .i64 0, .slice none 0 0, .int .i64 0, .int .i64 0, .int .i64 0, .int .i64 0, .slice none 0 0]) R
  refine bodyPost_ret (v := .tuple #[.agg #[.int .i64 2, .int .i64 0, .int .i64 wd, .int .i64 (k : Nat), .int .i64 (cap : Nat), .int .i64 0, .int .i64 0, .int .i64 0, .int .i64 0, .int .i64 0, .int .i64 0, .slice none 0 0, .int .i64 wd, .int .i64 (k : Nat), .int .i64 (cap : Nat), .int .i64 now, .slice A5 m5 c5, .int .i64 0, .int .i64 0, .int .i64 0, .int .i64 0, .int .i64 0, .slice none 0 0, .int .i64 0, .int .i64 0, .int .i64 0, .int .i64 0, .int .i64 0, .int .i64 0, .slice none 0 0, .int .i64 0, .int .i64 0, .int .i64 0, .int .i64 0, .int .i64 0, .slice none 0 0, .int .i64 0, .int .i64 0, .int .i64 0, .slice none 0 0, .int .i64 0, .slice none 0 0, .bool false, .int .i64 0, .int .i64 0, .int .i64 0, .slice none 0 0, .slice none 0 0, .int .i64 0, .int .i64 0, .int .i64 0, .slice none 0 0, .int .i64 0, .int .i64 0, .int .i64 0, .int .i64 0, .slice none 0 0], .int .i64 0]) ?_ rfl ?_
  · exact results_syn (p := 6) (q := 7) rfl _ R9 rfl rfl
  · exact ⟨A5, m5, c5, rfl, hIN.setr _ in5 (fun h0 a e => (fr6 h0 a e).1.2), below_setRow o (by omega) _, fun h0 a e => (fr6 h0 a e).2⟩
end Go.Proofs.YtdipoojjlddohaaGreat
end
section
/- Synopses of kind Count: the empty ones, and the answer, walked. -/
set_option linter.unusedVariables false
set_option linter.unusedSimpArgs false
set_option linter.unusedSectionVars false
set_option linter.unnecessarySimpa false
namespace Go.Proofs.YtdipoojjlddohaaGreat
open Go.RowKit
theorem pstick (x : Int) (w : World) (h0 : 0 ≤ x) (h1 : x ≤ 16777216) : Calls Tryz.prog 73 #[.int .i64 x] w fun e w' => e = .returned (.bool true) ∧ w' = w := by
  go_enter Tryz.func73, Tryz.ntmps73
  go_wp2_with fail
  go_ret
  exact ⟨by first | rfl | exact ret_bool (by simp; omega) | exact ret_bool (by simp [*]), rfl⟩
set_option maxRecDepth 100000 in
set_option maxHeartbeats 4000000 in
theorem pyNewCount (wd : Int) (k cap : Nat) (now : Int) (w : World) (n0 : 0 ≤ now) (n1 : now ≤ 16777216) (HC : RowKit.Hid (∀ w', Calls Tryz.prog 108 #[.agg #[.int .i64 2, .int .i64 0, .int .i64 wd, .int .i64 (k : Nat), .int .i64 (cap : Nat), .int .i64 0, .int .i64 0, .int .i64 0]] w' fun e w'' => e = .returned (.int .i64 0) ∧ Below w'.heap.size w' w'')) (HA : RowKit.Hid (∀ w', Calls Tryz.prog 110 #[.int .i64 wd, .int .i64 (k : Nat), .int .i64 (cap : Nat), .int .i64 now] w' fun e w'' => e = .returned (.tuple #[.agg #[.int .i64 wd, .int .i64 (k : Nat), .int .i64 (cap : Nat), .int .i64 now, .slice none 0 0], .int .i64 0]) ∧ Below w'.heap.size w' w'')) : Calls Tryz.prog 37 #[.agg #[.int .i64 2, .int .i64 0, .int .i64 wd, .int .i64 (k : Nat), .int .i64 (cap : Nat), .int .i64 0, .int .i64 0, .int .i64 0], .int .i64 now] w fun e w' => e = .returned (.tuple #[.agg #[.int .i64 2, .int .i64 0, .int .i64 wd, .int .i64 (k : Nat), .int .i64 (cap : Nat), .int .i64 0, .int .i64 0, .int .i64 0, .int .i64 0, .int .i64 0, .int .i64 0, .slice none 0 0, .int .i64 wd, .int .i64 (k : Nat), .int .i64 (cap : Nat), .int .i64 now, .slice none 0 0, .int .i64 0, .int .i64 0, .int .i64 0, .int .i64 0, .int .i64 0, .slice none 0 0, .int .i64 0, .int .i64 0, .int .i64 0, .int .i64 0, .int .i64 0, .int .i64 0, .slice none 0 0, .int .i64 0, .int .i64 0, .int .i64 0, .int .i64 0, .int .i64 0, .slice none 0 0, .int .i64 0, .int .i64 0, .int .i64 0, .slice none 0 0, .int .i64 0, .slice none 0 0, .bool false, .int .i64 0, .int .i64 0, .int .i64 0, .slice none 0 0, .slice none 0 0, .int .i64 0, .int .i64 0, .int .i64 0, .slice none 0 0, .int .i64 0, .int .i64 0, .int .i64 0, .int .i64 0, .slice none 0 0], .int .i64 0]) ∧ Below w.heap.size w w' := by
  have PT := Lib.hid (fun w => pstick now w n0 n1)
  go_enter Tryz.func37, Tryz.ntmps37
  go_upto_region 1 with (fail)
  have X : Row ((w.alloc (.cells #[.int .i64 2, .int .i64 0, .int .i64 wd, .int .i64 (k : Nat), .int .i64 (cap : Nat), .int .i64 0, .int .i64 0, .int .i64 0] 27)).alloc (.cells #[.int .i64 0, .int .i64 0, .int .i64 0, .int .i64 0, .int .i64 0, .int .i64 0, .int .i64 0, .int .i64 0, .int .i64 0, .int .i64 0, .int .i64 0, .slice none 0 0, .int .i64 0, .int .i64 0, .int .i64 0, .int .i64 0, .slice none 0 0, .int .i64 0, .int .i64 0, .int .i64 0, .int .i64 0, .int .i64 0, .slice none 0 0, .int .i64 0, .int .i64 0, .int .i64 0, .int .i64 0, .int .i64 0, .int .i64 0, .slice none 0 0, .int .i64 0, .int .i64 0, .int .i64 0, .int .i64 0, .int .i64 0, .slice none 0 0, .int .i64 0, .int .i64 0, .int .i64 0, .slice none 0 0, .int .i64 0, .slice none 0 0, .bool false, .int .i64 0, .int .i64 0, .int .i64 0, .slice none 0 0, .slice none 0 0, .int .i64 0, .int .i64 0, .int .i64 0, .slice none 0 0, .int .i64 0, .int .i64 0, .int .i64 0, .int .i64 0, .slice none 0 0] 58)) (w.heap.size) 27 #[.int .i64 2, .int .i64 0, .int .i64 wd, .int .i64 (k : Nat), .int .i64 (cap : Nat), .int .i64 0, .int .i64 0, .int .i64 0] := row_alloc (row_new rfl) _
  have R : Row ((w.alloc (.cells #[.int .i64 2, .int .i64 0, .int .i64 wd, .int .i64 (k : Nat), .int .i64 (cap : Nat), .int .i64 0, .int .i64 0, .int .i64 0] 27)).alloc (.cells #[.int .i64 0, .int .i64 0, .int .i64 0, .int .i64 0, .int .i64 0, .int .i64 0, .int .i64 0, .int .i64 0, .int .i64 0, .int .i64 0, .int .i64 0, .slice none 0 0, .int .i64 0, .int .i64 0, .int .i64 0, .int .i64 0, .slice none 0 0, .int .i64 0, .int .i64 0, .int .i64 0, .int .i64 0, .int .i64 0, .slice none 0 0, .int .i64 0, .int .i64 0, .int .i64 0, .int .i64 0, .int .i64 0, .int .i64 0, .slice none 0 0, .int .i64 0, .int .i64 0, .int .i64 0, .int .i64 0, .int .i64 0, .slice none 0 0, .int .i64 0, .int .i64 0, .int .i64 0, .slice none 0 0, .int .i64 0, .slice none 0 0, .bool false, .int .i64 0, .int .i64 0, .int .i64 0, .slice none 0 0, .slice none 0 0, .int .i64 0, .int .i64 0, .int .i64 0, .slice none 0 0, .int .i64 0, .int .i64 0, .int .i64 0, .int .i64 0, .slice none 0 0] 58)) (w.heap.size + 1) 58 #[.int .i64 0, .int .i64 0, .int .i64 0, .int .i64 0, .int .i64 0, .int .i64 0, .int .i64 0, .int .i64 0, .int .i64 0, .int .i64 0, .int .i64 0, .slice none 0 0, .int .i64 0, .int .i64 0, .int .i64 0, .int .i64 0, .slice none 0 0, .int .i64 0, .int .i64 0, .int .i64 0, .int .i64 0, .int .i64 0, .slice none 0 0, .int .i64 0, .int .i64 0, .int .i64 0, .int .i64 0, .int .i64 0, .int .i64 0, .slice none 0 0, .int .i64 0, .int .i64 0, .int .i64 0, .int .i64 0, .int .i64 0, .slice none 0 0, .int .i64 0, .int .i64 0, .int .i64 0, .slice none 0 0, .int .i64 0, .slice none 0 0, .bool false, .int .i64 0, .int .i64 0, .int .i64 0, .slice none 0 0, .slice none 0 0, .int .i64 0, .int .i64 0, .int .i64 0, .slice none 0 0, .int .i64 0, .int .i64 0, .int .i64 0, .int .i64 0, .slice none 0 0] := row_new (by simp)
  have o : Below w.heap.size w ((w.alloc (.cells #[.int .i64 2, .int .i64 0, .int .i64 wd, .int .i64 (k : Nat), .int .i64 (cap : Nat), .int .i64 0, .int .i64 0, .int .i64 0] 27)).alloc (.cells #[.int .i64 0, .int .i64 0, .int .i64 0, .int .i64 0, .int .i64 0, .int .i64 0, .int .i64 0, .int .i64 0, .int .i64 0, .int .i64 0, .int .i64 0, .slice none 0 0, .int .i64 0, .int .i64 0, .int .i64 0, .int .i64 0, .slice none 0 0, .int .i64 0, .int .i64 0, .int .i64 0, .int .i64 0, .int .i64 0, .slice none 0 0, .int .i64 0, .int .i64 0, .int .i64 0, .int .i64 0, .int .i64 0, .int .i64 0, .slice none 0 0, .int .i64 0, .int .i64 0, .int .i64 0, .int .i64 0, .int .i64 0, .slice none 0 0, .int .i64 0, .int .i64 0, .int .i64 0, .slice none 0 0, .int .i64 0, .slice none 0 0, .bool false, .int .i64 0, .int .i64 0, .int .i64 0, .slice none 0 0, .slice none 0 0, .int .i64 0, .int .i64 0, .int .i64 0, .slice none 0 0, .int .i64 0, .int .i64 0, .int .i64 0, .int .i64 0, .slice none 0 0] 58)) := by (repeat (first | exact Below.refl _ _ | refine Below.setCell ?_ (by first | (simp; done) | (simp; omega) | omega) _ | refine Below.alloc ?_ (by first | (simp; done) | (simp; omega) | omega) _ | refine Below.drew ?_ | refine Below.trans ?_ (Below.mono (by assumption) (by first | (simp; done) | (simp; omega) | omega))))
  generalize ((w.alloc (.cells #[.int .i64 2, .int .i64 0, .int .i64 wd, .int .i64 (k : Nat), .int .i64 (cap : Nat), .int .i64 0, .int .i64 0, .int .i64 0] 27)).alloc (.cells #[.int .i64 0, .int .i64 0, .int .i64 0, .int .i64 0, .int .i64 0, .int .i64 0, .int .i64 0, .int .i64 0, .int .i64 0, .int .i64 0, .int .i64 0, .slice none 0 0, .int .i64 0, .int .i64 0, .int .i64 0, .int .i64 0, .slice none 0 0, .int .i64 0, .int .i64 0, .int .i64 0, .int .i64 0, .int .i64 0, .slice none 0 0, .int .i64 0, .int .i64 0, .int .i64 0, .int .i64 0, .int .i64 0, .int .i64 0, .slice none 0 0, .int .i64 0, .int .i64 0, .int .i64 0, .int .i64 0, .int .i64 0, .slice none 0 0, .int .i64 0, .int .i64 0, .int .i64 0, .slice none 0 0, .int .i64 0, .slice none 0 0, .bool false, .int .i64 0, .int .i64 0, .int .i64 0, .slice none 0 0, .slice none 0 0, .int .i64 0, .int .i64 0, .int .i64 0, .slice none 0 0, .int .i64 0, .int .i64 0, .int .i64 0, .int .i64 0, .slice none 0 0] 58)) = w1 at X R o ⊢
  obtain ⟨X0, X1, X2, X3, X4, X5, X6, X7, Xf0, Xf1, Xf2, Xf3, Xf4, Xf5, Xf6, Xf7⟩ := row_eight X
  go_wp2_with fail
  refine (HC.out _).mono ?_
  rintro e w2 ⟨rfl, hb⟩
  replace X := row_call X hb
  replace R := row_call R hb
  replace o := o.trans (hb.mono o.size)
  clear hb X0 Xf0 X1 Xf1 X2 Xf2 X3 Xf3 X4 Xf4 X5 Xf5 X6 Xf6 X7 Xf7
  obtain ⟨X0, X1, X2, X3, X4, X5, X6, X7, Xf0, Xf1, Xf2, Xf3, Xf4, Xf5, Xf6, Xf7⟩ := row_eight X
  go_upto_region 6 with (go_at_call 73; with_reducible refine (PT.out _).mono ?_; rintro e w9 ⟨rfl, h9⟩; obtain rfl := h9.symm)
  have honeZ : (#[.int .i64 2, .int .i64 0, .int .i64 wd, .int .i64 (k : Nat), .int .i64 (cap : Nat), .int .i64 0, .int .i64 0, .int .i64 0, .int .i64 0, .int .i64 0, .int .i64 0, .slice none 0 0, .int .i64 0, .int .i64 0, .int .i64 0, .int .i64 0, .slice none 0 0, .int .i64 0, .int .i64 0, .int .i64 0, .int .i64 0, .int .i64 0, .slice none 0 0, .int .i64 0, .int .i64 0, .int .i64 0, .int .i64 0, .int .i64 0, .int .i64 0, .slice none 0 0, .int .i64 0, .int .i64 0, .int .i64 0, .int .i64 0, .int .i64 0, .slice none 0 0, .int .i64 0, .int .i64 0, .int .i64 0, .slice none 0 0, .int .i64 0, .slice none 0 0, .bool false, .int .i64 0, .int .i64 0, .int .i64 0, .slice none 0 0, .slice none 0 0, .int .i64 0, .int .i64 0, .int .i64 0, .slice none 0 0, .int .i64 0, .int .i64 0, .int .i64 0, .int .i64 0, .slice none 0 0] : Array Value).all (·.oneCell') = true := all_one rfl
  have SZ : Row (w2.alloc (.cells #[.int .i64 0, .int .i64 0, .int .i64 0, .int .i64 0, .int .i64 0, .int .i64 0, .int .i64 0, .int .i64 0, .int .i64 0, .int .i64 0, .int .i64 0, .slice none 0 0, .int .i64 0, .int .i64 0, .int .i64 0, .int .i64 0, .slice none 0 0, .int .i64 0, .int .i64 0, .int .i64 0, .int .i64 0, .int .i64 0, .slice none 0 0, .int .i64 0, .int .i64 0, .int .i64 0, .int .i64 0, .int .i64 0, .int .i64 0, .slice none 0 0, .int .i64 0, .int .i64 0, .int .i64 0, .int .i64 0, .int .i64 0, .slice none 0 0, .int .i64 0, .int .i64 0, .int .i64 0, .slice none 0 0, .int .i64 0, .slice none 0 0, .bool false, .int .i64 0, .int .i64 0, .int .i64 0, .slice none 0 0, .slice none 0 0, .int .i64 0, .int .i64 0, .int .i64 0, .slice none 0 0, .int .i64 0, .int .i64 0, .int .i64 0, .int .i64 0, .slice none 0 0] 58)) w2.heap.size 58 #[.int .i64 0, .int .i64 0, .int .i64 0, .int .i64 0, .int .i64 0, .int .i64 0, .int .i64 0, .int .i64 0, .int .i64 0, .int .i64 0, .int .i64 0, .slice none 0 0, .int .i64 0, .int .i64 0, .int .i64 0, .int .i64 0, .slice none 0 0, .int .i64 0, .int .i64 0, .int .i64 0, .int .i64 0, .int .i64 0, .slice none 0 0, .int .i64 0, .int .i64 0, .int .i64 0, .int .i64 0, .int .i64 0, .int .i64 0, .slice none 0 0, .int .i64 0, .int .i64 0, .int .i64 0, .int .i64 0, .int .i64 0, .slice none 0 0, .int .i64 0, .int .i64 0, .int .i64 0, .slice none 0 0, .int .i64 0, .slice none 0 0, .bool false, .int .i64 0, .int .i64 0, .int .i64 0, .slice none 0 0, .slice none 0 0, .int .i64 0, .int .i64 0, .int .i64 0, .slice none 0 0, .int .i64 0, .int .i64 0, .int .i64 0, .int .i64 0, .slice none 0 0] := row_new rfl
  go_upto_region 7 with (first | (with_reducible refine wpList_bsyn (.int .i64 2) (.int .i64 0) (.int .i64 wd) (.int .i64 (k : Nat)) (.int .i64 (cap : Nat)) (.int .i64 0) (.int .i64 0) (.int .i64 0) rfl _ rfl rfl ?_) | (with_reducible refine wpList_ssyn SZ rfl rfl honeZ rfl _ _ rfl rfl rfl ?_))
  have S := row_setRow (cs := #[.int .i64 2, .int .i64 0, .int .i64 wd, .int .i64 (k : Nat), .int .i64 (cap : Nat), .int .i64 0, .int .i64 0, .int .i64 0, .int .i64 0, .int .i64 0, .int .i64 0, .slice none 0 0, .int .i64 0, .int .i64 0, .int .i64 0, .int .i64 0, .slice none 0 0, .int .i64 0, .int .i64 0, .int .i64 0, .int .i64 0, .int .i64 0, .slice none 0 0, .int .i64 0, .int .i64 0, .int .i64 0, .int .i64 0, .int .i64 0, .int .i64 0, .slice none 0 0, .int .i64 0, .int .i64 0, .int .i64 0, .int .i64 0, .int .i64 0, .slice none 0 0, .int .i64 0, .int .i64 0, .int .i64 0, .slice none 0 0, .int .i64 0, .slice none 0 0, .bool false, .int .i64 0, .int .i64 0, .int .i64 0, .slice none 0 0, .slice none 0 0, .int .i64 0, .int .i64 0, .int .i64 0, .slice none 0 0, .int .i64 0, .int .i64 0, .int .i64 0, .int .i64 0, .slice none 0 0]) SZ
  have z2 := row_lt R
  replace X := row_setRow_other (g := w2.heap.size) (cs' := #[.int .i64 2, .int .i64 0, .int .i64 wd, .int .i64 (k : Nat), .int .i64 (cap : Nat), .int .i64 0, .int .i64 0, .int .i64 0, .int .i64 0, .int .i64 0, .int .i64 0, .slice none 0 0, .int .i64 0, .int .i64 0, .int .i64 0, .int .i64 0, .slice none 0 0, .int .i64 0, .int .i64 0, .int .i64 0, .int .i64 0, .int .i64 0, .slice none 0 0, .int .i64 0, .int .i64 0, .int .i64 0, .int .i64 0, .int .i64 0, .int .i64 0, .slice none 0 0, .int .i64 0, .int .i64 0, .int .i64 0, .int .i64 0, .int .i64 0, .slice none 0 0, .int .i64 0, .int .i64 0, .int .i64 0, .slice none 0 0, .int .i64 0, .slice none 0 0, .bool false, .int .i64 0, .int .i64 0, .int .i64 0, .slice none 0 0, .slice none 0 0, .int .i64 0, .int .i64 0, .int .i64 0, .slice none 0 0, .int .i64 0, .int .i64 0, .int .i64 0, .int .i64 0, .slice none 0 0]) (row_alloc X (.cells #[.int .i64 0, .int .i64 0, .int .i64 0, .int .i64 0, .int .i64 0, .int .i64 0, .int .i64 0, .int .i64 0, .int .i64 0, .int .i64 0, .int .i64 0, .slice none 0 0, .int .i64 0, .int .i64 0, .int .i64 0, .int .i64 0, .slice none 0 0, .int .i64 0, .int .i64 0, .int .i64 0, .int .i64 0, .int .i64 0, .slice none 0 0, .int .i64 0, .int .i64 0, .int .i64 0, .int .i64 0, .int .i64 0, .int .i64 0, .slice none 0 0, .int .i64 0, .int .i64 0, .int .i64 0, .int .i64 0, .int .i64 0, .slice none 0 0, .int .i64 0, .int .i64 0, .int .i64 0, .slice none 0 0, .int .i64 0, .slice none 0 0, .bool false, .int .i64 0, .int .i64 0, .int .i64 0, .slice none 0 0, .slice none 0 0, .int .i64 0, .int .i64 0, .int .i64 0, .slice none 0 0, .int .i64 0, .int .i64 0, .int .i64 0, .int .i64 0, .slice none 0 0] 58)) (by have := row_lt X; omega)
  replace R := row_setRow_other (g := w2.heap.size) (cs' := #[.int .i64 2, .int .i64 0, .int .i64 wd, .int .i64 (k : Nat), .int .i64 (cap : Nat), .int .i64 0, .int .i64 0, .int .i64 0, .int .i64 0, .int .i64 0, .int .i64 0, .slice none 0 0, .int .i64 0, .int .i64 0, .int .i64 0, .int .i64 0, .slice none 0 0, .int .i64 0, .int .i64 0, .int .i64 0, .int .i64 0, .int .i64 0, .slice none 0 0, .int .i64 0, .int .i64 0, .int .i64 0, .int .i64 0, .int .i64 0, .int .i64 0, .slice none 0 0, .int .i64 0, .int .i64 0, .int .i64 0, .int .i64 0, .int .i64 0, .slice none 0 0, .int .i64 0, .int .i64 0, .int .i64 0, .slice none 0 0, .int .i64 0, .slice none 0 0, .bool false, .int .i64 0, .int .i64 0, .int .i64 0, .slice none 0 0, .slice none 0 0, .int .i64 0, .int .i64 0, .int .i64 0, .slice none 0 0, .int .i64 0, .int .i64 0, .int .i64 0, .int .i64 0, .slice none 0 0]) (row_alloc R (.cells #[.int .i64 0, .int .i64 0, .int .i64 0, .int .i64 0, .int .i64 0, .int .i64 0, .int .i64 0, .int .i64 0, .int .i64 0, .int .i64 0, .int .i64 0, .slice none 0 0, .int .i64 0, .int .i64 0, .int .i64 0, .int .i64 0, .slice none 0 0, .int .i64 0, .int .i64 0, .int .i64 0, .int .i64 0, .int .i64 0, .slice none 0 0, .int .i64 0, .int .i64 0, .int .i64 0, .int .i64 0, .int .i64 0, .int .i64 0, .slice none 0 0, .int .i64 0, .int .i64 0, .int .i64 0, .int .i64 0, .int .i64 0, .slice none 0 0, .int .i64 0, .int .i64 0, .int .i64 0, .slice none 0 0, .int .i64 0, .slice none 0 0, .bool false, .int .i64 0, .int .i64 0, .int .i64 0, .slice none 0 0, .slice none 0 0, .int .i64 0, .int .i64 0, .int .i64 0, .slice none 0 0, .int .i64 0, .int .i64 0, .int .i64 0, .int .i64 0, .slice none 0 0] 58)) (by omega)
  replace o := below_setRow (g := w2.heap.size) (o.alloc o.size (.cells #[.int .i64 0, .int .i64 0, .int .i64 0, .int .i64 0, .int .i64 0, .int .i64 0, .int .i64 0, .int .i64 0, .int .i64 0, .int .i64 0, .int .i64 0, .slice none 0 0, .int .i64 0, .int .i64 0, .int .i64 0, .int .i64 0, .slice none 0 0, .int .i64 0, .int .i64 0, .int .i64 0, .int .i64 0, .int .i64 0, .slice none 0 0, .int .i64 0, .int .i64 0, .int .i64 0, .int .i64 0, .int .i64 0, .int .i64 0, .slice none 0 0, .int .i64 0, .int .i64 0, .int .i64 0, .int .i64 0, .int .i64 0, .slice none 0 0, .int .i64 0, .int .i64 0, .int .i64 0, .slice none 0 0, .int .i64 0, .slice none 0 0, .bool false, .int .i64 0, .int .i64 0, .int .i64 0, .slice none 0 0, .slice none 0 0, .int .i64 0, .int .i64 0, .int .i64 0, .slice none 0 0, .int .i64 0, .int .i64 0, .int .i64 0, .int .i64 0, .slice none 0 0] 58)) o.size #[.int .i64 2, .int .i64 0, .int .i64 wd, .int .i64 (k : Nat), .int .i64 (cap : Nat), .int .i64 0, .int .i64 0, .int .i64 0, .int .i64 0, .int .i64 0, .int .i64 0, .slice none 0 0, .int .i64 0, .int .i64 0, .int .i64 0, .int .i64 0, .slice none 0 0, .int .i64 0, .int .i64 0, .int .i64 0, .int .i64 0, .int .i64 0, .slice none 0 0, .int .i64 0, .int .i64 0, .int .i64 0, .int .i64 0, .int .i64 0, .int .i64 0, .slice none 0 0, .int .i64 0, .int .i64 0, .int .i64 0, .int .i64 0, .int .i64 0, .slice none 0 0, .int .i64 0, .int .i64 0, .int .i64 0, .slice none 0 0, .int .i64 0, .slice none 0 0, .bool false, .int .i64 0, .int .i64 0, .int .i64 0, .slice none 0 0, .slice none 0 0, .int .i64 0, .int .i64 0, .int .i64 0, .slice none 0 0, .int .i64 0, .int .i64 0, .int .i64 0, .int .i64 0, .slice none 0 0]
  obtain ⟨w3, hw3⟩ : ∃ x, x = (w2.alloc (.cells #[.int .i64 0, .int .i64 0, .int .i64 0, .int .i64 0, .int .i64 0, .int .i64 0, .int .i64 0, .int .i64 0, .int .i64 0, .int .i64 0, .int .i64 0, .slice none 0 0, .int .i64 0, .int .i64 0, .int .i64 0, .int .i64 0, .slice none 0 0, .int .i64 0, .int .i64 0, .int .i64 0, .int .i64 0, .int .i64 0, .slice none 0 0, .int .i64 0, .int .i64 0, .int .i64 0, .int .i64 0, .int .i64 0, .int .i64 0, .slice none 0 0, .int .i64 0, .int .i64 0, .int .i64 0, .int .i64 0, .int .i64 0, .slice none 0 0, .int .i64 0, .int .i64 0, .int .i64 0, .slice none 0 0, .int .i64 0, .slice none 0 0, .bool false, .int .i64 0, .int .i64 0, .int .i64 0, .slice none 0 0, .slice none 0 0, .int .i64 0, .int .i64 0, .int .i64 0, .slice none 0 0, .int .i64 0, .int .i64 0, .int .i64 0, .int .i64 0, .slice none 0 0] 58)).setRow w2.heap.size #[.int .i64 2, .int .i64 0, .int .i64 wd, .int .i64 (k : Nat), .int .i64 (cap : Nat), .int .i64 0, .int .i64 0, .int .i64 0, .int .i64 0, .int .i64 0, .int .i64 0, .slice none 0 0, .int .i64 0, .int .i64 0, .int .i64 0, .int .i64 0, .slice none 0 0, .int .i64 0, .int .i64 0, .int .i64 0, .int .i64 0, .int .i64 0, .slice none 0 0, .int .i64 0, .int .i64 0, .int .i64 0, .int .i64 0, .int .i64 0, .int .i64 0, .slice none 0 0, .int .i64 0, .int .i64 0, .int .i64 0, .int .i64 0, .int .i64 0, .slice none 0 0, .int .i64 0, .int .i64 0, .int .i64 0, .slice none 0 0, .int .i64 0, .slice none 0 0, .bool false, .int .i64 0, .int .i64 0, .int .i64 0, .slice none 0 0, .slice none 0 0, .int .i64 0, .int .i64 0, .int .i64 0, .slice none 0 0, .int .i64 0, .int .i64 0, .int .i64 0, .int .i64 0, .slice none 0 0] := ⟨_, rfl⟩
  rw [← hw3] at X R S o ⊢
  clear hw3
  generalize w2.heap.size = sb at S z2 ⊢
  clear SZ
  clear X0 Xf0 X1 Xf1 X2 Xf2 X3 Xf3 X4 Xf4 X5 Xf5 X6 Xf6 X7 Xf7
  obtain ⟨X0, X1, X2, X3, X4, X5, X6, X7, Xf0, Xf1, Xf2, Xf3, Xf4, Xf5, Xf6, Xf7⟩ := row_eight X
  go_wp2_with fail
  refine (HA.out _).mono ?_
  rintro e w4 ⟨rfl, hb⟩
  replace S := row_call S hb
  replace R := row_call R hb
  replace o := o.trans (hb.mono o.size)
  clear hb X X0 Xf0 X1 Xf1 X2 Xf2 X3 Xf3 X4 Xf4 X5 Xf5 X6 Xf6 X7 Xf7
  have q0 : w4.cell? ⟨sb, 12, none⟩ = some (.int .i64 0) := row_cell S 12
  have f0 := row_free S 12
  have q1 : w4.cell? ⟨sb, 13, none⟩ = some (.int .i64 0) := row_cell S 13
  have f1 := row_free S 13
  have q2 : w4.cell? ⟨sb, 14, none⟩ = some (.int .i64 0) := row_cell S 14
  have f2 := row_free S 14
  have q3 : w4.cell? ⟨sb, 15, none⟩ = some (.int .i64 0) := row_cell S 15
  have f3 := row_free S 15
  have q4 : w4.cell? ⟨sb, 16, none⟩ = some (.slice none 0 0) := row_cell S 16
  have f4 := row_free S 16
  go_upto_region 31 with (fail)
  clear q0 f0 q1 f1 q2 f2 q3 f3 q4 f4
  replace S := row_set S 12 (.int .i64 wd)
  replace R := row_other (p := ⟨sb, 12, none⟩) R (by show w.heap.size + 1 ≠ sb; omega) (.int .i64 wd)
  replace o := o.setCell (p := ⟨sb, 12, none⟩) (by show w.heap.size ≤ sb; omega) (.int .i64 wd)
  replace S := row_set S 13 (.int .i64 (k : Nat))
  replace R := row_other (p := ⟨sb, 13, none⟩) R (by show w.heap.size + 1 ≠ sb; omega) (.int .i64 (k : Nat))
  replace o := o.setCell (p := ⟨sb, 13, none⟩) (by show w.heap.size ≤ sb; omega) (.int .i64 (k : Nat))
  replace S := row_set S 14 (.int .i64 (cap : Nat))
  replace R := row_other (p := ⟨sb, 14, none⟩) R (by show w.heap.size + 1 ≠ sb; omega) (.int .i64 (cap : Nat))
  replace o := o.setCell (p := ⟨sb, 14, none⟩) (by show w.heap.size ≤ sb; omega) (.int .i64 (cap : Nat))
  replace S := row_set S 15 (.int .i64 now)
  replace R := row_other (p := ⟨sb, 15, none⟩) R (by show w.heap.size + 1 ≠ sb; omega) (.int .i64 now)
  replace o := o.setCell (p := ⟨sb, 15, none⟩) (by show w.heap.size ≤ sb; omega) (.int .i64 now)
  replace S := row_set S 16 (.slice none 0 0)
  replace R := row_other (p := ⟨sb, 16, none⟩) R (by show w.heap.size + 1 ≠ sb; omega) (.slice none 0 0)
  replace o := o.setCell (p := ⟨sb, 16, none⟩) (by show w.heap.size ≤ sb; omega) (.slice none 0 0)
  replace S : Row (((((w4.setCell ⟨sb, 12, none⟩ (.int .i64 wd)).setCell ⟨sb, 13, none⟩ (.int .i64 (k : Nat))).setCell ⟨sb, 14, none⟩ (.int .i64 (cap : Nat))).setCell ⟨sb, 15, none⟩ (.int .i64 now)).setCell ⟨sb, 16, none⟩ (.slice none 0 0)) sb 58 #[.int .i64 2, .int .i64 0, .int .i64 wd, .int .i64 (k : Nat), .int .i64 (cap : Nat), .int .i64 0, .int .i64 0, .int .i64 0, .int .i64 0, .int .i64 0, .int .i64 0, .slice none 0 0, .int .i64 wd, .int .i64 (k : Nat), .int .i64 (cap : Nat), .int .i64 now, .slice none 0 0, .int .i64 0, .int .i64 0, .int .i64 0, .int .i64 0, .int .i64 0, .slice none 0 0, .int .i64 0, .int .i64 0, .int .i64 0, .int .i64 0, .int .i64 0, .int .i64 0, .slice none 0 0, .int .i64 0, .int .i64 0, .int .i64 0, .int .i64 0, .int .i64 0, .slice none 0 0, .int .i64 0, .int .i64 0, .int .i64 0, .slice none 0 0, .int .i64 0, .slice none 0 0, .bool false, .int .i64 0, .int .i64 0, .int .i64 0, .slice none 0 0, .slice none 0 0, .int .i64 0, .int .i64 0, .int .i64 0, .slice none 0 0, .int .i64 0, .int .i64 0, .int .i64 0, .int .i64 0, .slice none 0 0] := S
  generalize (((((w4.setCell ⟨sb, 12, none⟩ (.int .i64 wd)).setCell ⟨sb, 13, none⟩ (.int .i64 (k : Nat))).setCell ⟨sb, 14, none⟩ (.int .i64 (cap : Nat))).setCell ⟨sb, 15, none⟩ (.int .i64 now)).setCell ⟨sb, 16, none⟩ (.slice none 0 0)) = w5 at S R o ⊢
  have hone : (#[.int .i64 2, .int .i64 0, .int .i64 wd, .int .i64 (k : Nat), .int .i64 (cap : Nat), .int .i64 0, .int .i64 0, .int .i64 0, .int .i64 0, .int .i64 0, .int .i64 0, .slice none 0 0, .int .i64 wd, .int .i64 (k : Nat), .int .i64 (cap : Nat), .int .i64 now, .slice none 0 0, .int .i64 0, .int .i64 0, .int .i64 0, .int .i64 0, .int .i64 0, .slice none 0 0, .int .i64 0, .int .i64 0, .int .i64 0, .int .i64 0, .int .i64 0, .int .i64 0, .slice none 0 0, .int .i64 0, .int .i64 0, .int .i64 0, .int .i64 0, .int .i64 0, .slice none 0 0, .int .i64 0, .int .i64 0, .int .i64 0, .slice none 0 0, .int .i64 0, .slice none 0 0, .bool false, .int .i64 0, .int .i64 0, .int .i64 0, .slice none 0 0, .slice none 0 0, .int .i64 0, .int .i64 0, .int .i64 0, .slice none 0 0, .int .i64 0, .int .i64 0, .int .i64 0, .int .i64 0, .slice none 0 0] : Array Value).all (·.oneCell') = true := all_one rfl
  go_wp2_with (first | (with_reducible refine wpList_lsyn S rfl rfl _ rfl rfl ?_) | (with_reducible refine wpList_ssyn R rfl rfl hone rfl _ _ rfl rfl rfl ?_))
  have R9 := row_setRow (cs := #[.int .i64 2, .int .i64 0, .int .i64 wd, .int .i64 (k : Nat), .int .i64 (cap : Nat), .int .i64 0, .int .i64 0, .int .i64 0, .int .i64 0, .int .i64 0, .int .i64 0, .slice none 0 0, .int .i64 wd, .int .i64 (k : Nat), .int .i64 (cap : Nat), .int .i64 now, .slice none 0 0, .int .i64 0, .int .i64 0, .int .i64 0, .int .i64 0, .int .i64 0, .slice none 0 0, .int .i64 0, .int .i64 0, .int .i64 0, .int .i64 0, .int .i64 0, .int .i64 0, .slice none 0 0, .int .i64 0, .int .i64 0, .int .i64 0, .int .i64 0, .int .i64 0, .slice none 0 0, .int .i64 0, .int .i64 0, .int .i64 0, .slice none 0 0, .int .i64 0, .slice none 0 0, .bool false, .int .i64 0, .int .i64 0, .int .i64 0, .slice none 0 0, .slice none 0 0, .int .i64 0, .int .i64 0, .int .i64 0, .slice none 0 0, .int .i64 0, .int .i64 0, .int .i64 0, .int .i64 0, .slice none 0 0]) R
  refine bodyPost_ret (v := .tuple #[.agg #[.int .i64 2, .int .i64 0, .int .i64 wd, .int .i64 (k : Nat), .int .i64 (cap : Nat), .int .i64 0, .int .i64 0, .int .i64 0, .int .i64 0, .int .i64 0, .int .i64 0, .slice none 0 0, .int .i64 wd, .int .i64 (k : Nat), .int .i64 (cap : Nat), .int .i64 now, .slice none 0 0, .int .i64 0, .int .i64 0, .int .i64 0, .int .i64 0, .int .i64 0, .slice none 0 0, .int .i64 0, .int .i64 0, .int .i64 0, .int .i64 0, .int .i64 0, .int .i64 0, .slice none 0 0, .int .i64 0, .int .i64 0, .int .i64 0, .int .i64 0, .int .i64 0, .slice none 0 0, .int .i64 0, .int .i64 0, .int .i64 0, .slice none 0 0, .int .i64 0, .slice none 0 0, .bool false, .int .i64 0, .int .i64 0, .int .i64 0, .slice none 0 0, .slice none 0 0, .int .i64 0, .int .i64 0, .int .i64 0, .slice none 0 0, .int .i64 0, .int .i64 0, .int .i64 0, .int .i64 0, .slice none 0 0], .int .i64 0]) ?_ rfl ?_
  · exact results_syn (p := 4) (q := 5) rfl _ R9 rfl rfl
  · exact ⟨rfl, below_setRow o (by omega) _⟩
set_option maxRecDepth 100000 in
theorem pansCount (wd : Int) (k cap : Nat) (w : World) (HC : RowKit.Hid (∀ w', Calls Tryz.prog 108 #[.agg #[.int .i64 2, .int .i64 0, .int .i64 wd, .int .i64 (k : Nat), .int .i64 (cap : Nat), .int .i64 0, .int .i64 0, .int .i64 0]] w' fun e w'' => e = .returned (.int .i64 0) ∧ Below w'.heap.size w' w'')) : Calls Tryz.prog 40 #[.agg #[.int .i64 2, .int .i64 0, .int .i64 wd, .int .i64 (k : Nat), .int .i64 (cap : Nat), .int .i64 0, .int .i64 0, .int .i64 0], .int .i64 1] w fun e w' => e = .returned (.bool true) ∧ Below w.heap.size w w' := by
  go_enter Tryz.func40, Tryz.ntmps40
  go_upto_region 1 with (fail)
  have X : Row (w.alloc (.cells #[.int .i64 2, .int .i64 0, .int .i64 wd, .int .i64 (k : Nat), .int .i64 (cap : Nat), .int .i64 0, .int .i64 0, .int .i64 0] 27)) w.heap.size 27 #[.int .i64 2, .int .i64 0, .int .i64 wd, .int .i64 (k : Nat), .int .i64 (cap : Nat), .int .i64 0, .int .i64 0, .int .i64 0] := row_new rfl
  have o : Below w.heap.size w (w.alloc (.cells #[.int .i64 2, .int .i64 0, .int .i64 wd, .int .i64 (k : Nat), .int .i64 (cap : Nat), .int .i64 0, .int .i64 0, .int .i64 0] 27)) := by (repeat (first | exact Below.refl _ _ | refine Below.setCell ?_ (by first | (simp; done) | (simp; omega) | omega) _ | refine Below.alloc ?_ (by first | (simp; done) | (simp; omega) | omega) _ | refine Below.drew ?_ | refine Below.trans ?_ (Below.mono (by assumption) (by first | (simp; done) | (simp; omega) | omega))))
  generalize (w.alloc (.cells #[.int .i64 2, .int .i64 0, .int .i64 wd, .int .i64 (k : Nat), .int .i64 (cap : Nat), .int .i64 0, .int .i64 0, .int .i64 0] 27)) = w1 at X o ⊢
  obtain ⟨X0, X1, X2, X3, X4, X5, X6, X7, Xf0, Xf1, Xf2, Xf3, Xf4, Xf5, Xf6, Xf7⟩ := row_eight X
  go_wp2_with fail
  refine (HC.out _).mono ?_
  rintro e w2 ⟨rfl, hb⟩
  replace X := row_call X hb
  replace o := o.trans (hb.mono o.size)
  clear hb X0 Xf0 X1 Xf1 X2 Xf2 X3 Xf3 X4 Xf4 X5 Xf5 X6 Xf6 X7 Xf7
  obtain ⟨X0, X1, X2, X3, X4, X5, X6, X7, Xf0, Xf1, Xf2, Xf3, Xf4, Xf5, Xf6, Xf7⟩ := row_eight X
  go_wp2
  go_ret
  exact ⟨by first | rfl | exact ret_bool (by simp) | simp, o⟩
set_option maxRecDepth 100000 in
set_option maxHeartbeats 4000000 in
theorem pyAskCount (A : Option Addr) (m c : Nat) (wd : Int) (k cap : Nat) (now : Int) (qa qb b0 b1 b2 b3 b4 b5 : Int) (w : World) (HV : RowKit.Hid (∀ w', Below w.heap.size w w' → Calls Tryz.prog 133 #[.agg #[.int .i64 wd, .int .i64 (k : Nat), .int .i64 (cap : Nat), .int .i64 now, .slice A m c]] w' fun e w'' => e = .returned (.int .i64 0) ∧ Below w'.heap.size w' w'')) (HC : RowKit.Hid (∀ w', Calls Tryz.prog 108 #[.agg #[.int .i64 2, .int .i64 0, .int .i64 wd, .int .i64 (k : Nat), .int .i64 (cap : Nat), .int .i64 0, .int .i64 0, .int .i64 0]] w' fun e w'' => e = .returned (.int .i64 0) ∧ Below w'.heap.size w' w'')) (HN : RowKit.Hid (∀ w', Calls Tryz.prog 40 #[.agg #[.int .i64 2, .int .i64 0, .int .i64 wd, .int .i64 (k : Nat), .int .i64 (cap : Nat), .int .i64 0, .int .i64 0, .int .i64 0], .int .i64 1] w' fun e w'' => e = .returned (.bool true) ∧ Below w'.heap.size w' w'')) (HQ : RowKit.Hid (∀ w', Below w.heap.size w w' → Calls Tryz.prog 41 #[.agg #[.int .i64 wd, .int .i64 (k : Nat), .int .i64 (cap : Nat), .int .i64 now, .slice A m c]] w' fun e w'' => e = .returned (.tuple #[.agg #[.int .i64 b0, .int .i64 b1, .int .i64 b2, .int .i64 b3, .int .i64 b4, .int .i64 b5], .int .i64 0]) ∧ Below w'.heap.size w' w'')) : Calls Tryz.prog 12 #[.agg #[.int .i64 2, .int .i64 0, .int .i64 wd, .int .i64 (k : Nat), .int .i64 (cap : Nat), .int .i64 0, .int .i64 0, .int .i64 0, .int .i64 0, .int .i64 0, .int .i64 0, .slice none 0 0, .int .i64 wd, .int .i64 (k : Nat), .int .i64 (cap : Nat), .int .i64 now, .slice A m c, .int .i64 0, .int .i64 0, .int .i64 0, .int .i64 0, .int .i64 0, .slice none 0 0, .int .i64 0, .int .i64 0, .int .i64 0, .int .i64 0, .int .i64 0, .int .i64 0, .slice none 0 0, .int .i64 0, .int .i64 0, .int .i64 0, .int .i64 0, .int .i64 0, .slice none 0 0, .int .i64 0, .int .i64 0, .int .i64 0, .slice none 0 0, .int .i64 0, .slice none 0 0, .bool false, .int .i64 0, .int .i64 0, .int .i64 0, .slice none 0 0, .slice none 0 0, .int .i64 0, .int .i64 0, .int .i64 0, .slice none 0 0, .int .i64 0, .int .i64 0, .int .i64 0, .int .i64 0, .slice none 0 0], .agg #[.int .i64 1, .int .i64 qa, .int .i64 qb]] w fun e w' => e = .returned (.tuple #[.agg #[.int .i64 b0, .int .i64 b1, .int .i64 b2, .int .i64 b3, .int .i64 b4, .int .i64 b5, .slice none 0 0, .int .u64 0, .int .u64 0, .int .u64 0, .int .u64 0], .int .i64 0]) ∧ Below w.heap.size w w' := by
  have PVd := Lib.hid (fun w' (hb : Below w.heap.size w w') => pvCount A m c wd k cap now w' (Lib.hid (fun w'' hb2 => HV.out w'' (hb.trans (hb2.mono hb.size)))) HC)
  go_enter Tryz.func12, Tryz.ntmps12
  go_upto_region 1 with (fail)
  have X : Row (((w.alloc (.cells #[.int .i64 2, .int .i64 0, .int .i64 wd, .int .i64 (k : Nat), .int .i64 (cap : Nat), .int .i64 0, .int .i64 0, .int .i64 0, .int .i64 0, .int .i64 0, .int .i64 0, .slice none 0 0, .int .i64 wd, .int .i64 (k : Nat), .int .i64 (cap : Nat), .int .i64 now, .slice A m c, .int .i64 0, .int .i64 0, .int .i64 0, .int .i64 0, .int .i64 0, .slice none 0 0, .int .i64 0, .int .i64 0, .int .i64 0, .int .i64 0, .int .i64 0, .int .i64 0, .slice none 0 0, .int .i64 0, .int .i64 0, .int .i64 0, .int .i64 0, .int .i64 0, .slice none 0 0, .int .i64 0, .int .i64 0, .int .i64 0, .slice none 0 0, .int .i64 0, .slice none 0 0, .bool false, .int .i64 0, .int .i64 0, .int .i64 0, .slice none 0 0, .slice none 0 0, .int .i64 0, .int .i64 0, .int .i64 0, .slice none 0 0, .int .i64 0, .int .i64 0, .int .i64 0, .int .i64 0, .slice none 0 0] 58)).alloc (.cells #[.int .i64 1, .int .i64 qa, .int .i64 qb] 76)).alloc (.cells #[.int .i64 0, .int .i64 0, .int .i64 0, .int .i64 0, .int .i64 0, .int .i64 0, .slice none 0 0, .int .u64 0, .int .u64 0, .int .u64 0, .int .u64 0] 71)) (w.heap.size) 58 #[.int .i64 2, .int .i64 0, .int .i64 wd, .int .i64 (k : Nat), .int .i64 (cap : Nat), .int .i64 0, .int .i64 0, .int .i64 0, .int .i64 0, .int .i64 0, .int .i64 0, .slice none 0 0, .int .i64 wd, .int .i64 (k : Nat), .int .i64 (cap : Nat), .int .i64 now, .slice A m c, .int .i64 0, .int .i64 0, .int .i64 0, .int .i64 0, .int .i64 0, .slice none 0 0, .int .i64 0, .int .i64 0, .int .i64 0, .int .i64 0, .int .i64 0, .int .i64 0, .slice none 0 0, .int .i64 0, .int .i64 0, .int .i64 0, .int .i64 0, .int .i64 0, .slice none 0 0, .int .i64 0, .int .i64 0, .int .i64 0, .slice none 0 0, .int .i64 0, .slice none 0 0, .bool false, .int .i64 0, .int .i64 0, .int .i64 0, .slice none 0 0, .slice none 0 0, .int .i64 0, .int .i64 0, .int .i64 0, .slice none 0 0, .int .i64 0, .int .i64 0, .int .i64 0, .int .i64 0, .slice none 0 0] := row_alloc (row_alloc (row_new rfl) _) _
  have Q : Row (((w.alloc (.cells #[.int .i64 2, .int .i64 0, .int .i64 wd, .int .i64 (k : Nat), .int .i64 (cap : Nat), .int .i64 0, .int .i64 0, .int .i64 0, .int .i64 0, .int .i64 0, .int .i64 0, .slice none 0 0, .int .i64 wd, .int .i64 (k : Nat), .int .i64 (cap : Nat), .int .i64 now, .slice A m c, .int .i64 0, .int .i64 0, .int .i64 0, .int .i64 0, .int .i64 0, .slice none 0 0, .int .i64 0, .int .i64 0, .int .i64 0, .int .i64 0, .int .i64 0, .int .i64 0, .slice none 0 0, .int .i64 0, .int .i64 0, .int .i64 0, .int .i64 0, .int .i64 0, .slice none 0 0, .int .i64 0, .int .i64 0, .int .i64 0, .slice none 0 0, .int .i64 0, .slice none 0 0, .bool false, .int .i64 0, .int .i64 0, .int .i64 0, .slice none 0 0, .slice none 0 0, .int .i64 0, .int .i64 0, .int .i64 0, .slice none 0 0, .int .i64 0, .int .i64 0, .int .i64 0, .int .i64 0, .slice none 0 0] 58)).alloc (.cells #[.int .i64 1, .int .i64 qa, .int .i64 qb] 76)).alloc (.cells #[.int .i64 0, .int .i64 0, .int .i64 0, .int .i64 0, .int .i64 0, .int .i64 0, .slice none 0 0, .int .u64 0, .int .u64 0, .int .u64 0, .int .u64 0] 71)) (w.heap.size + 1) 76 #[.int .i64 1, .int .i64 qa, .int .i64 qb] := row_alloc (row_new (by simp)) _
  have R : Row (((w.alloc (.cells #[.int .i64 2, .int .i64 0, .int .i64 wd, .int .i64 (k : Nat), .int .i64 (cap : Nat), .int .i64 0, .int .i64 0, .int .i64 0, .int .i64 0, .int .i64 0, .int .i64 0, .slice none 0 0, .int .i64 wd, .int .i64 (k : Nat), .int .i64 (cap : Nat), .int .i64 now, .slice A m c, .int .i64 0, .int .i64 0, .int .i64 0, .int .i64 0, .int .i64 0, .slice none 0 0, .int .i64 0, .int .i64 0, .int .i64 0, .int .i64 0, .int .i64 0, .int .i64 0, .slice none 0 0, .int .i64 0, .int .i64 0, .int .i64 0, .int .i64 0, .int .i64 0, .slice none 0 0, .int .i64 0, .int .i64 0, .int .i64 0, .slice none 0 0, .int .i64 0, .slice none 0 0, .bool false, .int .i64 0, .int .i64 0, .int .i64 0, .slice none 0 0, .slice none 0 0, .int .i64 0, .int .i64 0, .int .i64 0, .slice none 0 0, .int .i64 0, .int .i64 0, .int .i64 0, .int .i64 0, .slice none 0 0] 58)).alloc (.cells #[.int .i64 1, .int .i64 qa, .int .i64 qb] 76)).alloc (.cells #[.int .i64 0, .int .i64 0, .int .i64 0, .int .i64 0, .int .i64 0, .int .i64 0, .slice none 0 0, .int .u64 0, .int .u64 0, .int .u64 0, .int .u64 0] 71)) (w.heap.size + 2) 71 #[.int .i64 0, .int .i64 0, .int .i64 0, .int .i64 0, .int .i64 0, .int .i64 0, .slice none 0 0, .int .u64 0, .int .u64 0, .int .u64 0, .int .u64 0] := row_new (by simp)
  have o : Below w.heap.size w (((w.alloc (.cells #[.int .i64 2, .int .i64 0, .int .i64 wd, .int .i64 (k : Nat), .int .i64 (cap : Nat), .int .i64 0, .int .i64 0, .int .i64 0, .int .i64 0, .int .i64 0, .int .i64 0, .slice none 0 0, .int .i64 wd, .int .i64 (k : Nat), .int .i64 (cap : Nat), .int .i64 now, .slice A m c, .int .i64 0, .int .i64 0, .int .i64 0, .int .i64 0, .int .i64 0, .slice none 0 0, .int .i64 0, .int .i64 0, .int .i64 0, .int .i64 0, .int .i64 0, .int .i64 0, .slice none 0 0, .int .i64 0, .int .i64 0, .int .i64 0, .int .i64 0, .int .i64 0, .slice none 0 0, .int .i64 0, .int .i64 0, .int .i64 0, .slice none 0 0, .int .i64 0, .slice none 0 0, .bool false, .int .i64 0, .int .i64 0, .int .i64 0, .slice none 0 0, .slice none 0 0, .int .i64 0, .int .i64 0, .int .i64 0, .slice none 0 0, .int .i64 0, .int .i64 0, .int .i64 0, .int .i64 0, .slice none 0 0] 58)).alloc (.cells #[.int .i64 1, .int .i64 qa, .int .i64 qb] 76)).alloc (.cells #[.int .i64 0, .int .i64 0, .int .i64 0, .int .i64 0, .int .i64 0, .int .i64 0, .slice none 0 0, .int .u64 0, .int .u64 0, .int .u64 0, .int .u64 0] 71)) := by (repeat (first | exact Below.refl _ _ | refine Below.setCell ?_ (by first | (simp; done) | (simp; omega) | omega) _ | refine Below.alloc ?_ (by first | (simp; done) | (simp; omega) | omega) _ | refine Below.drew ?_ | refine Below.trans ?_ (Below.mono (by assumption) (by first | (simp; done) | (simp; omega) | omega))))
  obtain ⟨w1, hw1⟩ : ∃ x, x = (((w.alloc (.cells #[.int .i64 2, .int .i64 0, .int .i64 wd, .int .i64 (k : Nat), .int .i64 (cap : Nat), .int .i64 0, .int .i64 0, .int .i64 0, .int .i64 0, .int .i64 0, .int .i64 0, .slice none 0 0, .int .i64 wd, .int .i64 (k : Nat), .int .i64 (cap : Nat), .int .i64 now, .slice A m c, .int .i64 0, .int .i64 0, .int .i64 0, .int .i64 0, .int .i64 0, .slice none 0 0, .int .i64 0, .int .i64 0, .int .i64 0, .int .i64 0, .int .i64 0, .int .i64 0, .slice none 0 0, .int .i64 0, .int .i64 0, .int .i64 0, .int .i64 0, .int .i64 0, .slice none 0 0, .int .i64 0, .int .i64 0, .int .i64 0, .slice none 0 0, .int .i64 0, .slice none 0 0, .bool false, .int .i64 0, .int .i64 0, .int .i64 0, .slice none 0 0, .slice none 0 0, .int .i64 0, .int .i64 0, .int .i64 0, .slice none 0 0, .int .i64 0, .int .i64 0, .int .i64 0, .int .i64 0, .slice none 0 0] 58)).alloc (.cells #[.int .i64 1, .int .i64 qa, .int .i64 qb] 76)).alloc (.cells #[.int .i64 0, .int .i64 0, .int .i64 0, .int .i64 0, .int .i64 0, .int .i64 0, .slice none 0 0, .int .u64 0, .int .u64 0, .int .u64 0, .int .u64 0] 71)) := ⟨_, rfl⟩
  rw [← hw1] at X Q R o ⊢
  clear hw1
  go_wp2_with (with_reducible refine wpList_lsyn X rfl rfl _ rfl rfl ?_)
  refine (PVd.out _ o).mono ?_
  rintro e w2 ⟨rfl, hb⟩
  replace X := row_call X hb
  replace Q := row_call Q hb
  replace R := row_call R hb
  replace o := o.trans (hb.mono o.size)
  clear hb PVd
  have k0 : w2.cell? ⟨w.heap.size, 0, none⟩ = some (.int .i64 2) := row_cell X 0
  have k1 : w2.cell? ⟨w.heap.size, 1, none⟩ = some (.int .i64 0) := row_cell X 1
  have k2 : w2.cell? ⟨w.heap.size, 2, none⟩ = some (.int .i64 wd) := row_cell X 2
  have k3 : w2.cell? ⟨w.heap.size, 3, none⟩ = some (.int .i64 (k : Nat)) := row_cell X 3
  have k4 : w2.cell? ⟨w.heap.size, 4, none⟩ = some (.int .i64 (cap : Nat)) := row_cell X 4
  have k5 : w2.cell? ⟨w.heap.size, 5, none⟩ = some (.int .i64 0) := row_cell X 5
  have k6 : w2.cell? ⟨w.heap.size, 6, none⟩ = some (.int .i64 0) := row_cell X 6
  have k7 : w2.cell? ⟨w.heap.size, 7, none⟩ = some (.int .i64 0) := row_cell X 7
  obtain ⟨Q0, Q1, Q2, Qf0, Qf1, Qf2⟩ := row_three Q
  go_wp2_with fail
  refine (HN.out _).mono ?_
  rintro e w3 ⟨rfl, hb⟩
  replace X := row_call X hb
  replace R := row_call R hb
  replace o := o.trans (hb.mono o.size)
  clear hb HN Q Q0 Q1 Q2 Qf0 Qf1 Qf2 k0 k1 k2 k3 k4 k5 k6 k7
  go_upto_region 7 with (fail)
  have V : Row (w3.alloc (.cells #[.int .i64 0, .int .i64 0, .int .i64 0, .int .i64 0, .int .i64 0, .int .i64 0, .slice none 0 0, .int .u64 0, .int .u64 0, .int .u64 0, .int .u64 0] 71)) w3.heap.size 71 #[.int .i64 0, .int .i64 0, .int .i64 0, .int .i64 0, .int .i64 0, .int .i64 0, .slice none 0 0, .int .u64 0, .int .u64 0, .int .u64 0, .int .u64 0] := row_new rfl
  have z3 := row_lt R
  replace X := row_alloc X (.cells #[.int .i64 0, .int .i64 0, .int .i64 0, .int .i64 0, .int .i64 0, .int .i64 0, .slice none 0 0, .int .u64 0, .int .u64 0, .int .u64 0, .int .u64 0] 71)
  replace R := row_alloc R (.cells #[.int .i64 0, .int .i64 0, .int .i64 0, .int .i64 0, .int .i64 0, .int .i64 0, .slice none 0 0, .int .u64 0, .int .u64 0, .int .u64 0, .int .u64 0] 71)
  replace o := o.alloc o.size (.cells #[.int .i64 0, .int .i64 0, .int .i64 0, .int .i64 0, .int .i64 0, .int .i64 0, .slice none 0 0, .int .u64 0, .int .u64 0, .int .u64 0, .int .u64 0] 71)
  generalize w3.alloc (.cells #[.int .i64 0, .int .i64 0, .int .i64 0, .int .i64 0, .int .i64 0, .int .i64 0, .slice none 0 0, .int .u64 0, .int .u64 0, .int .u64 0, .int .u64 0] 71) = w4 at X R V o ⊢
  generalize w3.heap.size = vb at V z3 ⊢
  have k0 : w4.cell? ⟨w.heap.size, 0, none⟩ = some (.int .i64 2) := row_cell X 0
  have q0 : w4.cell? ⟨w.heap.size, 12, none⟩ = some (.int .i64 wd) := row_cell X 12
  have q1 : w4.cell? ⟨w.heap.size, 13, none⟩ = some (.int .i64 (k : Nat)) := row_cell X 13
  have q2 : w4.cell? ⟨w.heap.size, 14, none⟩ = some (.int .i64 (cap : Nat)) := row_cell X 14
  have q3 : w4.cell? ⟨w.heap.size, 15, none⟩ = some (.int .i64 now) := row_cell X 15
  have q4 : w4.cell? ⟨w.heap.size, 16, none⟩ = some (.slice A m c) := row_cell X 16
  go_wp2_with fail
  refine (HQ.out _ o).mono ?_
  rintro e w5 ⟨rfl, hb⟩
  replace V := row_call V hb
  replace R := row_call R hb
  replace o := o.trans (hb.mono o.size)
  clear hb HQ X k0 q0 q1 q2 q3 q4
  have v0 : w5.cell? ⟨vb, 0, none⟩ = some (.int .i64 0) := row_cell V 0
  have v1 : w5.cell? ⟨vb, 1, none⟩ = some (.int .i64 0) := row_cell V 1
  have v2 : w5.cell? ⟨vb, 2, none⟩ = some (.int .i64 0) := row_cell V 2
  have v3 : w5.cell? ⟨vb, 3, none⟩ = some (.int .i64 0) := row_cell V 3
  have v4 : w5.cell? ⟨vb, 4, none⟩ = some (.int .i64 0) := row_cell V 4
  have v5 : w5.cell? ⟨vb, 5, none⟩ = some (.int .i64 0) := row_cell V 5
  have v6 : w5.cell? ⟨vb, 6, none⟩ = some (.slice none 0 0) := row_cell V 6
  have v7 : w5.cell? ⟨vb, 7, none⟩ = some (.int .u64 0) := row_cell V 7
  have v8 : w5.cell? ⟨vb, 8, none⟩ = some (.int .u64 0) := row_cell V 8
  have v9 : w5.cell? ⟨vb, 9, none⟩ = some (.int .u64 0) := row_cell V 9
  have v10 : w5.cell? ⟨vb, 10, none⟩ = some (.int .u64 0) := row_cell V 10
  have g0 := row_free V 0
  have g1 := row_free V 1
  have g2 := row_free V 2
  have g3 := row_free V 3
  have g4 := row_free V 4
  have g5 := row_free V 5
  go_upto_region 39 with (fail)
  clear v0 v1 v2 v3 v4 v5 v6 v7 v8 v9 v10 g0 g1 g2 g3 g4 g5
  replace V := row_set V 0 (.int .i64 b0)
  replace R := row_other (p := ⟨vb, 0, none⟩) R (by show w.heap.size + 2 ≠ vb; omega) (.int .i64 b0)
  replace o := o.setCell (p := ⟨vb, 0, none⟩) (by show w.heap.size ≤ vb; omega) (.int .i64 b0)
  replace V := row_set V 1 (.int .i64 b1)
  replace R := row_other (p := ⟨vb, 1, none⟩) R (by show w.heap.size + 2 ≠ vb; omega) (.int .i64 b1)
  replace o := o.setCell (p := ⟨vb, 1, none⟩) (by show w.heap.size ≤ vb; omega) (.int .i64 b1)
  replace V := row_set V 2 (.int .i64 b2)
  replace R := row_other (p := ⟨vb, 2, none⟩) R (by show w.heap.size + 2 ≠ vb; omega) (.int .i64 b2)
  replace o := o.setCell (p := ⟨vb, 2, none⟩) (by show w.heap.size ≤ vb; omega) (.int .i64 b2)
  replace V := row_set V 3 (.int .i64 b3)
  replace R := row_other (p := ⟨vb, 3, none⟩) R (by show w.heap.size + 2 ≠ vb; omega) (.int .i64 b3)
  replace o := o.setCell (p := ⟨vb, 3, none⟩) (by show w.heap.size ≤ vb; omega) (.int .i64 b3)
  replace V := row_set V 4 (.int .i64 b4)
  replace R := row_other (p := ⟨vb, 4, none⟩) R (by show w.heap.size + 2 ≠ vb; omega) (.int .i64 b4)
  replace o := o.setCell (p := ⟨vb, 4, none⟩) (by show w.heap.size ≤ vb; omega) (.int .i64 b4)
  replace V := row_set V 5 (.int .i64 b5)
  replace R := row_other (p := ⟨vb, 5, none⟩) R (by show w.heap.size + 2 ≠ vb; omega) (.int .i64 b5)
  replace o := o.setCell (p := ⟨vb, 5, none⟩) (by show w.heap.size ≤ vb; omega) (.int .i64 b5)
  replace V : Row ((((((w5.setCell ⟨vb, 0, none⟩ (.int .i64 b0)).setCell ⟨vb, 1, none⟩ (.int .i64 b1)).setCell ⟨vb, 2, none⟩ (.int .i64 b2)).setCell ⟨vb, 3, none⟩ (.int .i64 b3)).setCell ⟨vb, 4, none⟩ (.int .i64 b4)).setCell ⟨vb, 5, none⟩ (.int .i64 b5)) vb 71 #[.int .i64 b0, .int .i64 b1, .int .i64 b2, .int .i64 b3, .int .i64 b4, .int .i64 b5, .slice none 0 0, .int .u64 0, .int .u64 0, .int .u64 0, .int .u64 0] := V
  generalize ((((((w5.setCell ⟨vb, 0, none⟩ (.int .i64 b0)).setCell ⟨vb, 1, none⟩ (.int .i64 b1)).setCell ⟨vb, 2, none⟩ (.int .i64 b2)).setCell ⟨vb, 3, none⟩ (.int .i64 b3)).setCell ⟨vb, 4, none⟩ (.int .i64 b4)).setCell ⟨vb, 5, none⟩ (.int .i64 b5)) = w6 at V R o ⊢
  have hone : (#[.int .i64 b0, .int .i64 b1, .int .i64 b2, .int .i64 b3, .int .i64 b4, .int .i64 b5, .slice none 0 0, .int .u64 0, .int .u64 0, .int .u64 0, .int .u64 0] : Array Value).all (·.oneCell') = true := all_one rfl
  go_wp2_with (first | (with_reducible refine wpList_lans V rfl rfl _ rfl rfl ?_) | (with_reducible refine wpList_sans R rfl rfl hone rfl _ _ rfl rfl rfl ?_))
  have R9 := row_setRow (cs := #[.int .i64 b0, .int .i64 b1, .int .i64 b2, .int .i64 b3, .int .i64 b4, .int .i64 b5, .slice none 0 0, .int .u64 0, .int .u64 0, .int .u64 0, .int .u64 0]) R
  refine bodyPost_ret (v := .tuple #[.agg #[.int .i64 b0, .int .i64 b1, .int .i64 b2, .int .i64 b3, .int .i64 b4, .int .i64 b5, .slice none 0 0, .int .u64 0, .int .u64 0, .int .u64 0, .int .u64 0], .int .i64 0]) ?_ rfl ?_
  · exact results_ans (p := 4) (q := 5) rfl _ R9 rfl rfl
  · exact ⟨rfl, below_setRow o (by omega) _⟩
end Go.Proofs.YtdipoojjlddohaaGreat
end
section
/- Synopses of counts, with what they know of the stream. -/
set_option linter.unusedVariables false
set_option linter.unusedSimpArgs false
set_option linter.unusedSectionVars false
set_option linter.unnecessarySimpa false
namespace Go.Proofs.YtdipoojjlddohaaGreat
open Go.RowKit
/-- A histogram of ticks: its list in memory. -/
def CtI (wd : Int) (k cap : Nat) (now : Int) (ts : List Int) (A : Option Addr) (m c : Nat) (w : World) : Prop := ∃ l, BIn A m c l w ∧ (CtS wd k cap now l ∧ BHist ts now wd l)
theorem ctI_ok (wd : Int) (k cap : Nat) (now : Int) (ts : List Int) : InOK (CtI wd k cap now ts) := inOK_bk _
def ctGood (wd : Int) (k cap : Nat) : Prop := 1 ≤ wd ∧ wd ≤ 1048576 ∧ 1 ≤ k ∧ k ≤ 64 ∧ 1 ≤ cap ∧ cap ≤ 65536
theorem cov_tot {ts : List Int} {now wd : Int} {l : List Bk} (h : BHist ts now wd l) : btot l ≤ ts.length := by
  obtain ⟨dead, live, e, _, hc⟩ := h.cov
  rw [← hc.len, e, List.length_append]
  omega
theorem ct_new {wd : Int} {k cap : Nat} {now : Int} (h : ctGood wd k cap) (n0 : 0 ≤ now) (n1 : now ≤ 16777216) : CtS wd k cap now [] ∧ BHist [] now wd [] :=
  ⟨⟨by unfold ctGood at h; omega, BV.nil k, by simp [btot], by simp⟩, BHist.nil now wd⟩
theorem ct_tick {wd : Int} {k cap : Nat} {now tt : Int} {ts : List Int} {l l' : List Bk} (h : CtS wd k cap now l) (hh : BHist ts now wd l) (h1 : now ≤ tt) (h2 : tt ≤ 16777216) (he : ExpP l (max 0 (tt - wd + 1)) l') : CtS wd k cap tt l' ∧ BHist ts tt wd l' := by
  obtain ⟨j, rfl, e1, e2⟩ := he
  have g := h.good
  have hlv : ∀ b ∈ l.drop j, tt - wd < b.t := fun b hb => by have := e2 b hb; omega
  have hd : ∀ b ∈ l.take j, b.t ≤ tt - wd := fun b hb => by
    have := e1 b hb
    have := (h.val.tick b (List.mem_of_mem_take hb)).1
    omega
  refine ⟨⟨by omega, h.val.drop j, ?_, fun b hb => ⟨hlv b hb, ?_⟩⟩, hh.expire h1 j hd hlv⟩
  · have := tot_append (l.take j) (l.drop j)
    rw [List.take_append_drop] at this
    have := h.cap
    omega
  · have := (h.live b (List.mem_of_mem_drop hb)).2
    omega
theorem ct_add {wd : Int} {k cap n : Nat} {now : Int} {ts : List Int} {l l' : List Bk} (h : CtS wd k cap now l) (hh : BHist ts now wd l) (hr : btot l + n ≤ cap) (hi : Ins k l now n l') : CtS wd k cap now l' ∧ BHist (ts ++ List.replicate n now) now wd l' := by
  have g := h.good
  refine ⟨⟨h.good, hi.val, by rw [hi.tot]; omega, fun b hb => ?_⟩, hh.add (by omega) (by omega) hi⟩
  rcases hi.ticks b hb with e | ⟨b0, hb0, e⟩
  · omega
  · have := h.live b0 hb0
    omega
theorem ct_cfg {wd : Int} {k cap : Nat} (h : ctGood wd k cap) (w : World) : Calls Tryz.prog 108 #[.agg #[.int .i64 2, .int .i64 0, .int .i64 wd, .int .i64 (k : Nat), .int .i64 (cap : Nat), .int .i64 0, .int .i64 0, .int .i64 0]] w fun e w' => e = .returned (.int .i64 0) ∧ Below w.heap.size w w' := by
  unfold ctGood at h
  exact pcfgCount (k : Nat) (cap : Nat) wd w (by omega) (by omega) (by omega) (by omega) (by omega) (by omega)
theorem tcNew {wd : Int} {k cap : Nat} {now : Int} (h : ctGood wd k cap) (n0 : 0 ≤ now) (n1 : now ≤ 16777216) (w : World) : Calls Tryz.prog 37 #[.agg #[.int .i64 2, .int .i64 0, .int .i64 wd, .int .i64 (k : Nat), .int .i64 (cap : Nat), .int .i64 0, .int .i64 0, .int .i64 0], .int .i64 now] w (GRet (CtI wd k cap now []) (fun A m c => #[.int .i64 2, .int .i64 0, .int .i64 wd, .int .i64 (k : Nat), .int .i64 (cap : Nat), .int .i64 0, .int .i64 0, .int .i64 0, .int .i64 0, .int .i64 0, .int .i64 0, .slice none 0 0, .int .i64 wd, .int .i64 (k : Nat), .int .i64 (cap : Nat), .int .i64 now, .slice A m c, .int .i64 0, .int .i64 0, .int .i64 0, .int .i64 0, .int .i64 0, .slice none 0 0, .int .i64 0, .int .i64 0, .int .i64 0, .int .i64 0, .int .i64 0, .int .i64 0, .slice none 0 0, .int .i64 0, .int .i64 0, .int .i64 0, .int .i64 0, .int .i64 0, .slice none 0 0, .int .i64 0, .int .i64 0, .int .i64 0, .slice none 0 0, .int .i64 0, .slice none 0 0, .bool false, .int .i64 0, .int .i64 0, .int .i64 0, .slice none 0 0, .slice none 0 0, .int .i64 0, .int .i64 0, .int .i64 0, .slice none 0 0, .int .i64 0, .int .i64 0, .int .i64 0, .int .i64 0, .slice none 0 0]) 0 (fun _ => False) w) := by
  have HG : 1 ≤ wd ∧ wd ≤ 1048576 ∧ 1 ≤ k ∧ k ≤ 64 ∧ 1 ≤ cap ∧ cap ≤ 65536 ∧ 0 ≤ now ∧ now ≤ 16777216 := by unfold ctGood at h; omega
  refine (pyNewCount wd k cap now w n0 n1 (Lib.hid (ct_cfg h)) (Lib.hid (fun w' => pctnew wd k cap now w' HG))).mono fun e w' ⟨he, hb⟩ => ?_
  exact ⟨none, 0, 0, he, ⟨[], BIn.nil, ct_new h n0 n1⟩, hb, fun _ a e => by cases e⟩
theorem tcHV {A : Option Addr} {m c : Nat} {wd : Int} {k cap : Nat} {now : Int} {ts : List Int} {w : World} (h : CtI wd k cap now ts A m c w) : RowKit.Hid (∀ w', Below w.heap.size w w' → Calls Tryz.prog 133 #[.agg #[.int .i64 wd, .int .i64 (k : Nat), .int .i64 (cap : Nat), .int .i64 now, .slice A m c]] w' fun e w'' => e = .returned (.int .i64 0) ∧ Below w'.heap.size w' w'') := by
  obtain ⟨l, hin, hs, _⟩ := h
  exact Lib.hid (fun w' hb => pctval A m c l wd k cap now w' (hin.below hb) hs)
theorem CtI.good {A : Option Addr} {m c : Nat} {wd : Int} {k cap : Nat} {now : Int} {ts : List Int} {w : World} (h : CtI wd k cap now ts A m c w) : ctGood wd k cap ∧ 0 ≤ now ∧ now ≤ 16777216 := by
  obtain ⟨l, _, hs, _⟩ := h
  have := hs.good
  unfold ctGood
  omega
theorem tcAdvance {A : Option Addr} {m c : Nat} {wd : Int} {k cap : Nat} {now tt : Int} {ts : List Int} {w : World} (h : CtI wd k cap now ts A m c w) (h1 : now ≤ tt) (h2 : tt ≤ 16777216) : Calls Tryz.prog 21 #[.agg #[.int .i64 2, .int .i64 0, .int .i64 wd, .int .i64 (k : Nat), .int .i64 (cap : Nat), .int .i64 0, .int .i64 0, .int .i64 0, .int .i64 0, .int .i64 0, .int .i64 0, .slice none 0 0, .int .i64 wd, .int .i64 (k : Nat), .int .i64 (cap : Nat), .int .i64 now, .slice A m c, .int .i64 0, .int .i64 0, .int .i64 0, .int .i64 0, .int .i64 0, .slice none 0 0, .int .i64 0, .int .i64 0, .int .i64 0, .int .i64 0, .int .i64 0, .int .i64 0, .slice none 0 0, .int .i64 0, .int .i64 0, .int .i64 0, .int .i64 0, .int .i64 0, .slice none 0 0, .int .i64 0, .int .i64 0, .int .i64 0, .slice none 0 0, .int .i64 0, .slice none 0 0, .bool false, .int .i64 0, .int .i64 0, .int .i64 0, .slice none 0 0, .slice none 0 0, .int .i64 0, .int .i64 0, .int .i64 0, .slice none 0 0, .int .i64 0, .int .i64 0, .int .i64 0, .int .i64 0, .slice none 0 0], .int .i64 tt] w (GRet (CtI wd k cap tt ts) (fun A m c => #[.int .i64 2, .int .i64 0, .int .i64 wd, .int .i64 (k : Nat), .int .i64 (cap : Nat), .int .i64 0, .int .i64 0, .int .i64 0, .int .i64 0, .int .i64 0, .int .i64 0, .slice none 0 0, .int .i64 wd, .int .i64 (k : Nat), .int .i64 (cap : Nat), .int .i64 tt, .slice A m c, .int .i64 0, .int .i64 0, .int .i64 0, .int .i64 0, .int .i64 0, .slice none 0 0, .int .i64 0, .int .i64 0, .int .i64 0, .int .i64 0, .int .i64 0, .int .i64 0, .slice none 0 0, .int .i64 0, .int .i64 0, .int .i64 0, .int .i64 0, .int .i64 0, .slice none 0 0, .int .i64 0, .int .i64 0, .int .i64 0, .slice none 0 0, .int .i64 0, .slice none 0 0, .bool false, .int .i64 0, .int .i64 0, .int .i64 0, .slice none 0 0, .slice none 0 0, .int .i64 0, .int .i64 0, .int .i64 0, .slice none 0 0, .int .i64 0, .int .i64 0, .int .i64 0, .int .i64 0, .slice none 0 0]) 0 (fun _ => False) w) := by
  have hg := h.good.1
  have HV := tcHV h
  obtain ⟨l, hin, hs, hh⟩ := h
  refine pyAdvanceCount A m c wd k cap now tt w _ (ctI_ok wd k cap tt ts) _ (fun b hb => hb.elim) HV (Lib.hid (ct_cfg hg)) (Lib.hid (fun w' hb => (pctadv A m c l wd k cap now tt w' (hin.below hb) hs h1 h2).mono fun e w'' hq => ?_))
  obtain ⟨A', m', c', l', he, hin', hP, hb', hf⟩ := hq
  exact ⟨A', m', c', he, ⟨l', hin', ct_tick hs hh h1 h2 hP⟩, hb', fun _ a e => .inl (hf a e)⟩
theorem tcAdd {A : Option Addr} {m c : Nat} {wd : Int} {k cap : Nat} {now v : Int} {ts : List Int} {w : World} (h : CtI wd k cap now ts A m c w) (hr : ts.length < cap) (v0 : -4096 ≤ v) (v1 : v ≤ 4096) : Calls Tryz.prog 38 #[.agg #[.int .i64 2, .int .i64 0, .int .i64 wd, .int .i64 (k : Nat), .int .i64 (cap : Nat), .int .i64 0, .int .i64 0, .int .i64 0, .int .i64 0, .int .i64 0, .int .i64 0, .slice none 0 0, .int .i64 wd, .int .i64 (k : Nat), .int .i64 (cap : Nat), .int .i64 now, .slice A m c, .int .i64 0, .int .i64 0, .int .i64 0, .int .i64 0, .int .i64 0, .slice none 0 0, .int .i64 0, .int .i64 0, .int .i64 0, .int .i64 0, .int .i64 0, .int .i64 0, .slice none 0 0, .int .i64 0, .int .i64 0, .int .i64 0, .int .i64 0, .int .i64 0, .slice none 0 0, .int .i64 0, .int .i64 0, .int .i64 0, .slice none 0 0, .int .i64 0, .slice none 0 0, .bool false, .int .i64 0, .int .i64 0, .int .i64 0, .slice none 0 0, .slice none 0 0, .int .i64 0, .int .i64 0, .int .i64 0, .slice none 0 0, .int .i64 0, .int .i64 0, .int .i64 0, .int .i64 0, .slice none 0 0], .int .i64 v, .slice none 0 0] w (GRet (CtI wd k cap now (ts ++ [now])) (fun A m c => #[.int .i64 2, .int .i64 0, .int .i64 wd, .int .i64 (k : Nat), .int .i64 (cap : Nat), .int .i64 0, .int .i64 0, .int .i64 0, .int .i64 0, .int .i64 0, .int .i64 0, .slice none 0 0, .int .i64 wd, .int .i64 (k : Nat), .int .i64 (cap : Nat), .int .i64 now, .slice A m c, .int .i64 0, .int .i64 0, .int .i64 0, .int .i64 0, .int .i64 0, .slice none 0 0, .int .i64 0, .int .i64 0, .int .i64 0, .int .i64 0, .int .i64 0, .int .i64 0, .slice none 0 0, .int .i64 0, .int .i64 0, .int .i64 0, .int .i64 0, .int .i64 0, .slice none 0 0, .int .i64 0, .int .i64 0, .int .i64 0, .slice none 0 0, .int .i64 0, .slice none 0 0, .bool false, .int .i64 0, .int .i64 0, .int .i64 0, .slice none 0 0, .slice none 0 0, .int .i64 0, .int .i64 0, .int .i64 0, .slice none 0 0, .int .i64 0, .int .i64 0, .int .i64 0, .int .i64 0, .slice none 0 0]) 0 (fun _ => False) w) := by
  have hg := h.good.1
  have HV := tcHV h
  obtain ⟨l, hin, hs, hh⟩ := h
  have hbt := cov_tot hh
  refine pyAddCount A m c wd k cap now v w _ (ctI_ok wd k cap now (ts ++ [now])) _ (fun b hb => hb.elim) HV (Lib.hid (ct_cfg hg)) (Lib.hid (fun w' hb => (pctadd A m c l wd k cap now w' (hin.below hb) hs (by omega)).mono fun e w'' hq => ?_)) v0 v1
  obtain ⟨A', m', c', l', he, hin', hP, hb', hf⟩ := hq
  exact ⟨A', m', c', he, ⟨l', hin', ct_add hs hh (by omega) hP⟩, hb', fun _ a e => .inl (hf a e)⟩
/-- The answer of a histogram of ticks. -/
def CtA (wd : Int) (k : Nat) (now : Int) (ts : List Int) (w : World) (e : Ending) (w' : World) : Prop := ∃ lo hi : Nat, e = .returned (.tuple #[.agg #[.int .i64 (lo : Nat), .int .i64 1, .int .i64 ((lo + hi) / 2 : Nat), .int .i64 1, .int .i64 (hi : Nat), .int .i64 1, .slice none 0 0, .int .u64 0, .int .u64 0, .int .u64 0, .int .u64 0], .int .i64 0]) ∧ (lo ≤ liveT (now - wd) ts ∧ liveT (now - wd) ts ≤ hi ∧ hi ≤ 65536 ∧ (k * (hi - lo) + 1 ≤ lo ∨ lo = 0 ∧ hi = 0)) ∧ Below w.heap.size w w'
theorem tcAsk {A : Option Addr} {m c : Nat} {wd : Int} {k cap : Nat} {now : Int} {ts : List Int} {w : World} (h : CtI wd k cap now ts A m c w) (qa qb : Int) : Calls Tryz.prog 12 #[.agg #[.int .i64 2, .int .i64 0, .int .i64 wd, .int .i64 (k : Nat), .int .i64 (cap : Nat), .int .i64 0, .int .i64 0, .int .i64 0, .int .i64 0, .int .i64 0, .int .i64 0, .slice none 0 0, .int .i64 wd, .int .i64 (k : Nat), .int .i64 (cap : Nat), .int .i64 now, .slice A m c, .int .i64 0, .int .i64 0, .int .i64 0, .int .i64 0, .int .i64 0, .slice none 0 0, .int .i64 0, .int .i64 0, .int .i64 0, .int .i64 0, .int .i64 0, .int .i64 0, .slice none 0 0, .int .i64 0, .int .i64 0, .int .i64 0, .int .i64 0, .int .i64 0, .slice none 0 0, .int .i64 0, .int .i64 0, .int .i64 0, .slice none 0 0, .int .i64 0, .slice none 0 0, .bool false, .int .i64 0, .int .i64 0, .int .i64 0, .slice none 0 0, .slice none 0 0, .int .i64 0, .int .i64 0, .int .i64 0, .slice none 0 0, .int .i64 0, .int .i64 0, .int .i64 0, .int .i64 0, .slice none 0 0], .agg #[.int .i64 1, .int .i64 qa, .int .i64 qb]] w (CtA wd k now ts w) := by
  have hg := h.good.1
  have HV := tcHV h
  obtain ⟨l, hin, hs, hh⟩ := h
  have HC := Lib.hid (ct_cfg hg)
  have hB : qLo l ≤ liveT (now - wd) ts ∧ liveT (now - wd) ts ≤ btot l ∧ (k * (btot l - qLo l) + 1 ≤ qLo l ∨ qLo l = 0 ∧ btot l = 0) := by
    unfold qLo
    by_cases e : l = []
    · rw [if_pos e]
      subst e
      rw [hh.none]
      exact ⟨Nat.le_refl _, Nat.zero_le _, .inr ⟨rfl, rfl⟩⟩
    · rw [if_neg e]
      have := hh.query e
      have hn := hs.val.narrow e
      have p1 := Nat.one_le_two_pow (n := topL l)
      generalize 2 ^ topL l = p at this hn p1 ⊢
      have e2 : btot l - (btot l - p + 1) = p - 1 := by omega
      rw [e2]
      generalize k * (p - 1) = q at hn ⊢
      omega
  have hc := hs.cap
  have hgg := hs.good
  refine (pyAskCount A m c wd k cap now qa qb (qLo l : Nat) 1 ((qLo l + btot l) / 2 : Nat) 1 (btot l : Nat) 1 w HV HC (Lib.hid (fun w' => pansCount wd k cap w' HC)) (Lib.hid (fun w' hb => pctask A m c l wd k cap now w' (hin.below hb) hs))).mono fun e w' ⟨he, hb⟩ => ?_
  exact ⟨qLo l, btot l, he, ⟨hB.1, hB.2.1, by omega, hB.2.2⟩, hb⟩
end Go.Proofs.YtdipoojjlddohaaGreat
end
