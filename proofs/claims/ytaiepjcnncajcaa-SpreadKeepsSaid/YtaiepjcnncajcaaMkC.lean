/- Marks of smooth histograms: marks that a later tick makes superfluous, walked. -/
import Derived.Test.YtaiepjcnncajcaaMkB
set_option linter.unusedVariables false
set_option linter.unusedSimpArgs false
set_option linter.unusedSectionVars false
set_option linter.unnecessarySimpa false
namespace Go.Proofs.Ytaiepjcnncajcaa
open Go.RowKit
/-- What a call leaves that answers the marks that stay: its argument's rear part, or marks of its own. -/
def MDrop (A0 : Option Addr) (l : List Mk) (w : World) (e : Ending) (w' : World) : Prop := ∃ (A : Option Addr) (m c : Nat), e = .returned (.slice A m c) ∧ MIn A m c l w' ∧ Below w.heap.size w w' ∧ ∀ a, A = some a → (w.heap.size ≤ a.block ∧ a.block < w'.heap.size) ∨ ∃ b, A0 = some b ∧ a.block = b.block
def lenV : Value → Nat
  | .slice _ n _ => n
  | _ => 0
theorem MIn.tail {ad : Addr} {m c : Nat} {a : Mk} {l : List Mk} {w : World} (h : MIn (some ad) m c (a :: l) w) : MIn (some ⟨ad.block, ad.off + 7, none⟩) (m - 1) (c - 1) l w := by
  rw [← mk_lit ad 7 (by decide)]
  have hl := h.len
  simp at hl
  refine ⟨⟨by have := h.reads.1; rw [mcells_cons] at this; simp at this; omega, fun hn => ?_⟩, fun i => h.mB (i + 1), by have := h.mc; omega, by have := h.cB; omega⟩
  obtain ⟨ad', e', hb, hc⟩ := h.reads.2 (by omega)
  obtain rfl : ad = ad' := by injection e'
  refine ⟨_, rfl, by rw [block_of_add]; exact hb, fun j u hu => ?_⟩
  rw [add_of_add]
  exact hc (7 + j) u (by rw [mcells_cons, show 7 + j = j + 1 + 1 + 1 + 1 + 1 + 1 + 1 by omega]; simpa using hu)
theorem MIn.zero {w : World} : MIn none 0 0 [] w := ⟨by simpa [mcells_nil] using Reads.none_, fun i => by unfold mkAt; simp; exact M64_zero, Nat.le_refl _, Nat.zero_le _⟩
theorem MIn.maxL {A : Option Addr} {m c : Nat} {l : List Mk} {w : World} (h : MIn A m c l w) : m ≤ maxLen := Nat.le_trans h.mc h.cB
theorem MIn.of_own {g m c : Nat} {l : List Mk} {w : World} (h : Own w 33 7 g m c (mcells l)) (hB : ∀ i, M64 (mkAt l i)) : MIn (some ⟨g, 0, none⟩) m c l w := ⟨h.reads, hB, h.cap.1, h.cap.2⟩
set_option maxHeartbeats 2000000 in
theorem pmdrop (A : Option Addr) (m c : Nat) (l : List Mk) (now wd : Int) (w : World) (hin : MIn A m c l w) (hmm : m ≤ 1000000) (n0 : 0 ≤ now) (n1 : now ≤ 16777216) (d0 : 1 ≤ wd) (d1 : wd ≤ 1048576) (hT : ∀ x ∈ l, 0 ≤ x.t ∧ x.t ≤ now) :
    Calls Try.prog 65 #[.slice A m c, .int .i64 now, .int .i64 wd] w fun e w' => MDrop A (dropM now wd l) w e w' := by
  have HT := Lib.hid hT
  clear hT
  obtain ⟨i0, hi0, iz0, iz1, iz2⟩ := info_parts info_mk
  go_enter Try.func65, Try.ntmps65
  go_wp2
  go_loopw [0] (fun s wr => ∃ (A' : Option Addr) (m' c' : Nat) (l' : List Mk), s = .slice A' m' c' ∧ MIn A' m' c' l' w ∧ m' ≤ m ∧ RowKit.Hid (dropM now wd l' = dropM now wd l ∧ (∀ x ∈ l', x ∈ l) ∧ ∀ a, A' = some a → ∃ b, A = some b ∧ a.block = b.block) ∧ w = wr) (fun s _ => lenV s)
  case atStart => exact ⟨A, m, c, l, rfl, hin, Nat.le_refl _, Lib.hid ⟨rfl, fun x h => h, fun a e => ⟨a, e, rfl⟩⟩, rfl⟩
  case round =>
    clear hin
    obtain ⟨A', m', c', l', rfl, hin', hm', HD, rfl⟩ := hrel
    have HI := Lib.hid hin'
    have HL := Lib.hid hin'.len
    have hcm := hin'.mc
    by_cases g2 : 2 ≤ m'
    · obtain ⟨ad, rfl, hadb, ht1⟩ := hin'.reads.mk (i := 1) (by omega)
      obtain ⟨a, b, r, rfl⟩ : ∃ a b r, l' = a :: b :: r := by
        have := hin'.len
        match l', this with
        | a :: b :: r, _ => exact ⟨a, b, r, rfl⟩
        | [], h => simp at h; omega
        | [a], h => simp at h; omega
      have q1 : w.cell? ⟨ad.block, ad.off + 7 + 1, none⟩ = some (.int .i64 b.t) := by
        have h := ht1.2.1
        rw [show ad.add (1 * 7) = ⟨ad.block, ad.off + 7, none⟩ from mk_lit ad 7 (by decide)] at h
        exact h
      have htb := HT.out b (HD.out.2.1 b (by simp))
      have PL := fun w => plive now wd b.t w n0 n1 d0 d1 htb.1 htb.2
      obtain ⟨tb, hb⟩ : ∃ x, x = b.t := ⟨_, rfl⟩
      rw [← hb] at q1 PL
      have HB := Lib.hid hb
      clear hb htb ht1 hin'
      have i1 : (1 : Int) < (m' : Int) := by omega
      have i3 : (1 : Int) ≤ (m' : Int) := by omega
      have i4 : (1 : Int) ≤ (c' : Int) := by omega
      have i5 : (m' : Int) ≤ (c' : Int) := by omega
      have i2 : ((m' : Int) == 1) = false := by simp; omega
      by_cases lv : now - wd < tb
      · rw [decide_eq_true lv] at PL
        replace PL := Lib.hid PL
        have HDr : RowKit.Hid (dropM now wd (a :: b :: r) = a :: b :: r) := Lib.hid (by rw [dropM_two, if_pos (by rw [← HB.out]; exact lv)])
        clear lv
        go_wp2_with (first | (go_at_call 77; with_reducible refine (PL.out _).mono ?_; rintro e w9 ⟨rfl, h9⟩; obtain rfl := h9.symm) | (at_builtin; refine wpList_clone rfl _ _ 22 rfl 33 i0 (.agg #[.int .i64 0, .int .i64 0, .int .i64 0, .int .i64 0, .int .i64 0, .int .i64 0, .int .i64 0]) 7 56 Try.underlying22 hi0 iz0 iz1 iz2 rfl (by decide) rfl w.heap.size (some ad) m' c' (mcells (a :: b :: r)) rfl HI.out.reads (Nat.le_refl _) (mcells_one _) HI.out.maxL (by omega) ?_; intro g c2 w2 own2 hg2 hb2 hz2))
        go_ret
        exact ⟨_, _, _, rfl, by rw [← HD.out.1, HDr.out]; exact MIn.of_own own2 HI.out.mB, hb2, fun a e => .inl (by cases e; exact ⟨hg2, own2.lt⟩)⟩
      · rw [decide_eq_false lv] at PL
        replace PL := Lib.hid PL
        have HDr : RowKit.Hid (dropM now wd (a :: b :: r) = dropM now wd (b :: r)) := Lib.hid (by rw [dropM_two, if_neg (by rw [← HB.out]; exact lv)])
        clear lv
        go_wp2_with (go_at_call 77; with_reducible refine (PL.out _).mono ?_; rintro e w9 ⟨rfl, h9⟩; obtain rfl := h9.symm)
        go_roundw
        case rel => exact ⟨_, m' - 1, c' - 1, b :: r, rfl, HI.out.tail, by omega, Lib.hid ⟨HDr.out ▸ HD.out.1, fun x hx => HD.out.2.1 x (by simp [hx]), fun x e => by cases e; exact HD.out.2.2 ad rfl⟩, by trivial⟩
        case measure => simp [lenV]; omega
    · by_cases g1 : m' = 1
      · subst g1
        obtain ⟨ad, rfl, hadb, ht0⟩ := hin'.reads.mk (i := 0) (by omega)
        obtain ⟨a, rfl⟩ : ∃ a, l' = [a] := by
          have := hin'.len
          match l', this with
          | [a], _ => exact ⟨a, rfl⟩
          | [], h => exact absurd h (by simp)
          | a :: b :: r, h => exact absurd h (by simp)
        have q1 : w.cell? ⟨ad.block, ad.off + 1, none⟩ = some (.int .i64 a.t) := ht0.2.1
        have hta := HT.out a (HD.out.2.1 a (by simp))
        have PL := fun w => plive now wd a.t w n0 n1 d0 d1 hta.1 hta.2
        obtain ⟨ta, hb⟩ : ∃ x, x = a.t := ⟨_, rfl⟩
        rw [← hb] at q1 PL
        have HB := Lib.hid hb
        clear hb hta ht0 hin'
        clear g2
        by_cases lv : now - wd < ta
        · rw [decide_eq_true lv] at PL
          replace PL := Lib.hid PL
          have HDr : RowKit.Hid (dropM now wd [a] = [a]) := Lib.hid (by rw [dropM_one, if_pos (by rw [← HB.out]; exact lv)])
          clear lv
          go_wp2_with (first | (go_at_call 77; with_reducible refine (PL.out _).mono ?_; rintro e w9 ⟨rfl, h9⟩; obtain rfl := h9.symm) | (at_builtin; refine wpList_clone rfl _ _ 22 rfl 33 i0 (.agg #[.int .i64 0, .int .i64 0, .int .i64 0, .int .i64 0, .int .i64 0, .int .i64 0, .int .i64 0]) 7 56 Try.underlying22 hi0 iz0 iz1 iz2 rfl (by decide) rfl w.heap.size (some ad) 1 c' (mcells [a]) rfl HI.out.reads (Nat.le_refl _) (mcells_one _) HI.out.maxL (by omega) ?_; intro g c2 w2 own2 hg2 hb2 hz2))
          go_ret
          exact ⟨_, _, _, rfl, by rw [← HD.out.1, HDr.out]; exact MIn.of_own own2 HI.out.mB, hb2, fun a e => .inl (by cases e; exact ⟨hg2, own2.lt⟩)⟩
        · rw [decide_eq_false lv] at PL
          replace PL := Lib.hid PL
          have HDr : RowKit.Hid (dropM now wd [a] = []) := Lib.hid (by rw [dropM_one, if_neg (by rw [← HB.out]; exact lv)])
          clear lv
          go_wp2_with (go_at_call 77; with_reducible refine (PL.out _).mono ?_; rintro e w9 ⟨rfl, h9⟩; obtain rfl := h9.symm)
          go_ret
          exact ⟨_, _, _, rfl, by rw [← HD.out.1, HDr.out]; exact MIn.zero, Below.refl _ _, fun a e => by cases e⟩
      · have i1 : ¬ (1 : Int) < (m' : Int) := by omega
        have i2 : ((m' : Int) == 1) = false := by simp; omega
        obtain rfl : l' = [] := by
          have := hin'.len
          match l', this with
          | [], _ => rfl
          | a :: r, h => simp at h; omega
        have HDr : RowKit.Hid (dropM now wd [] = []) := Lib.hid (dropM_nil _ _)
        clear hin' g1 g2
        go_wp2_with (first | (at_builtin; refine wpList_clone rfl _ _ 22 rfl 33 i0 (.agg #[.int .i64 0, .int .i64 0, .int .i64 0, .int .i64 0, .int .i64 0, .int .i64 0, .int .i64 0]) 7 56 Try.underlying22 hi0 iz0 iz1 iz2 rfl (by decide) rfl w.heap.size A' m' c' (mcells []) rfl HI.out.reads (Nat.le_refl _) (mcells_one _) HI.out.maxL (by omega) ?_; intro g c2 w2 own2 hg2 hb2 hz2))
        go_ret
        exact ⟨_, _, _, rfl, by rw [← HD.out.1, HDr.out]; exact MIn.of_own own2 HI.out.mB, hb2, fun a e => .inl (by cases e; exact ⟨hg2, own2.lt⟩)⟩
set_option maxHeartbeats 2000000 in
theorem rmdrop (A : Option Addr) (m c : Nat) (l : List Mk) (now wd : Int) (w : World) (hin : MIn A m c l w) (hmm : m ≤ 1000000) (n0 : 0 ≤ now) (n1 : now ≤ 16777216) (d0 : 1 ≤ wd) (d1 : wd ≤ 1048576) (hT : ∀ x ∈ l, 0 ≤ x.t ∧ x.t ≤ now) :
    Calls Try.prog 72 #[.slice A m c, .int .i64 now, .int .i64 wd] w fun e w' => MDrop A (dropM now wd l) w e w' := by
  have HT := Lib.hid hT
  clear hT
  obtain ⟨i0, hi0, iz0, iz1, iz2⟩ := info_parts info_mk
  go_enter Try.func72, Try.ntmps72
  go_wp2
  go_loopw [0] (fun s wr => ∃ (A' : Option Addr) (m' c' : Nat) (l' : List Mk), s = .slice A' m' c' ∧ MIn A' m' c' l' w ∧ m' ≤ m ∧ RowKit.Hid (dropM now wd l' = dropM now wd l ∧ (∀ x ∈ l', x ∈ l) ∧ ∀ a, A' = some a → ∃ b, A = some b ∧ a.block = b.block) ∧ w = wr) (fun s _ => lenV s)
  case atStart => exact ⟨A, m, c, l, rfl, hin, Nat.le_refl _, Lib.hid ⟨rfl, fun x h => h, fun a e => ⟨a, e, rfl⟩⟩, rfl⟩
  case round =>
    clear hin
    obtain ⟨A', m', c', l', rfl, hin', hm', HD, rfl⟩ := hrel
    have HI := Lib.hid hin'
    have HL := Lib.hid hin'.len
    have hcm := hin'.mc
    by_cases g2 : 2 ≤ m'
    · obtain ⟨ad, rfl, hadb, ht1⟩ := hin'.reads.mk (i := 1) (by omega)
      obtain ⟨a, b, r, rfl⟩ : ∃ a b r, l' = a :: b :: r := by
        have := hin'.len
        match l', this with
        | a :: b :: r, _ => exact ⟨a, b, r, rfl⟩
        | [], h => simp at h; omega
        | [a], h => simp at h; omega
      have q1 : w.cell? ⟨ad.block, ad.off + 7 + 1, none⟩ = some (.int .i64 b.t) := by
        have h := ht1.2.1
        rw [show ad.add (1 * 7) = ⟨ad.block, ad.off + 7, none⟩ from mk_lit ad 7 (by decide)] at h
        exact h
      have htb := HT.out b (HD.out.2.1 b (by simp))
      have PL := fun w => rlive now wd b.t w n0 n1 d0 d1 htb.1 htb.2
      obtain ⟨tb, hb⟩ : ∃ x, x = b.t := ⟨_, rfl⟩
      rw [← hb] at q1 PL
      have HB := Lib.hid hb
      clear hb htb ht1 hin'
      have i1 : (1 : Int) < (m' : Int) := by omega
      have i3 : (1 : Int) ≤ (m' : Int) := by omega
      have i4 : (1 : Int) ≤ (c' : Int) := by omega
      have i5 : (m' : Int) ≤ (c' : Int) := by omega
      have i2 : ((m' : Int) == 1) = false := by simp; omega
      by_cases lv : now - wd < tb
      · rw [decide_eq_true lv] at PL
        replace PL := Lib.hid PL
        have HDr : RowKit.Hid (dropM now wd (a :: b :: r) = a :: b :: r) := Lib.hid (by rw [dropM_two, if_pos (by rw [← HB.out]; exact lv)])
        clear lv
        go_wp2_with (go_at_call 79; with_reducible refine (PL.out _).mono ?_; rintro e w9 ⟨rfl, h9⟩; obtain rfl := h9.symm)
        go_ret
        exact ⟨_, _, _, rfl, by rw [← HD.out.1, HDr.out]; exact HI.out, Below.refl _ _, fun a e => .inr (HD.out.2.2 a e)⟩
      · rw [decide_eq_false lv] at PL
        replace PL := Lib.hid PL
        have HDr : RowKit.Hid (dropM now wd (a :: b :: r) = dropM now wd (b :: r)) := Lib.hid (by rw [dropM_two, if_neg (by rw [← HB.out]; exact lv)])
        clear lv
        go_wp2_with (go_at_call 79; with_reducible refine (PL.out _).mono ?_; rintro e w9 ⟨rfl, h9⟩; obtain rfl := h9.symm)
        go_roundw
        case rel => exact ⟨_, m' - 1, c' - 1, b :: r, rfl, HI.out.tail, by omega, Lib.hid ⟨HDr.out ▸ HD.out.1, fun x hx => HD.out.2.1 x (by simp [hx]), fun x e => by cases e; exact HD.out.2.2 ad rfl⟩, by trivial⟩
        case measure => simp [lenV]; omega
    · by_cases g1 : m' = 1
      · subst g1
        obtain ⟨ad, rfl, hadb, ht0⟩ := hin'.reads.mk (i := 0) (by omega)
        obtain ⟨a, rfl⟩ : ∃ a, l' = [a] := by
          have := hin'.len
          match l', this with
          | [a], _ => exact ⟨a, rfl⟩
          | [], h => exact absurd h (by simp)
          | a :: b :: r, h => exact absurd h (by simp)
        have q1 : w.cell? ⟨ad.block, ad.off + 1, none⟩ = some (.int .i64 a.t) := ht0.2.1
        have hta := HT.out a (HD.out.2.1 a (by simp))
        have PL := fun w => rlive now wd a.t w n0 n1 d0 d1 hta.1 hta.2
        obtain ⟨ta, hb⟩ : ∃ x, x = a.t := ⟨_, rfl⟩
        rw [← hb] at q1 PL
        have HB := Lib.hid hb
        clear hb hta ht0 hin'
        clear g2
        by_cases lv : now - wd < ta
        · rw [decide_eq_true lv] at PL
          replace PL := Lib.hid PL
          have HDr : RowKit.Hid (dropM now wd [a] = [a]) := Lib.hid (by rw [dropM_one, if_pos (by rw [← HB.out]; exact lv)])
          clear lv
          go_wp2_with (go_at_call 79; with_reducible refine (PL.out _).mono ?_; rintro e w9 ⟨rfl, h9⟩; obtain rfl := h9.symm)
          go_ret
          exact ⟨_, _, _, rfl, by rw [← HD.out.1, HDr.out]; exact HI.out, Below.refl _ _, fun a e => .inr (HD.out.2.2 a e)⟩
        · rw [decide_eq_false lv] at PL
          replace PL := Lib.hid PL
          have HDr : RowKit.Hid (dropM now wd [a] = []) := Lib.hid (by rw [dropM_one, if_neg (by rw [← HB.out]; exact lv)])
          clear lv
          go_wp2_with (go_at_call 79; with_reducible refine (PL.out _).mono ?_; rintro e w9 ⟨rfl, h9⟩; obtain rfl := h9.symm)
          go_ret
          exact ⟨_, _, _, rfl, by rw [← HD.out.1, HDr.out]; exact MIn.zero, Below.refl _ _, fun a e => by cases e⟩
      · have i1 : ¬ (1 : Int) < (m' : Int) := by omega
        have i2 : ((m' : Int) == 1) = false := by simp; omega
        obtain rfl : l' = [] := by
          have := hin'.len
          match l', this with
          | [], _ => rfl
          | a :: r, h => simp at h; omega
        have HDr : RowKit.Hid (dropM now wd [] = []) := Lib.hid (dropM_nil _ _)
        clear hin' g1 g2
        go_wp2_with (fail)
        go_ret
        exact ⟨_, _, _, rfl, by rw [← HD.out.1, HDr.out]; exact HI.out, Below.refl _ _, fun a e => .inr (HD.out.2.2 a e)⟩
end Go.Proofs.Ytaiepjcnncajcaa
