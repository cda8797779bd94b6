/- Counters that halve: adding a value, walked. -/
import Derived.Test.YtpbhagikndamnaaHalveV
import Derived.Test.YtpbhagikndamnaaVec
import Derived.Test.YtpbhagikndamnaaMathHalve2
namespace Go.Proofs.Ytpbhagikndamnaa
open Go.RowKit Go.Shelf
/-- A counter as an argument. -/
structure HIn (now : Int) (A : Option Addr) (n c : Nat) (zs : List Int) (w : World) : Prop where
  reads : Reads w w.heap.size 1 A n (zs.map (Value.int .i64))
  nowB : -9223372036854775808 ≤ now ∧ now ≤ 9223372036854775807
  zsB : ∀ k, -9223372036854775808 ≤ zs.getD k 0 ∧ zs.getD k 0 ≤ 9223372036854775807
  nc : n ≤ c
  cB : c ≤ maxLen
section
variable {now : Int} {A : Option Addr} {n c : Nat} {zs : List Int} {w w' : World}
theorem HIn.nB (h : HIn now A n c zs w) : n ≤ 9223372036854775807 := by
  have := h.nc
  have := h.cB
  unfold maxLen at *
  omega
theorem HIn.len (h : HIn now A n c zs w) : zs.length = n := h.reads.num_len
theorem HIn.below (h : HIn now A n c zs w) (hb : Below w.heap.size w w') : HIn now A n c zs w' := ⟨(h.reads.below hb).more hb.size, h.nowB, h.zsB, h.nc, h.cB⟩
theorem hin_zero : HIn 0 none 0 0 [] w := ⟨by simpa using Reads.none_, by decide, by simp [List.getD], Nat.le_refl _, Nat.zero_le _⟩
end
/-- What a call of a counter's operation leaves: a counter and an error. -/
def HRet (r : HOut) (w : World) (e : Ending) (w' : World) : Prop :=
  ∃ A n c, e = .returned (.tuple #[.agg #[.int .i64 r.now, .slice A n c], .int .i64 r.f]) ∧ HIn r.now A n c r.zs w' ∧ Below w.heap.size w w' ∧ ∀ a, A = some a → w.heap.size ≤ a.block
theorem hret_zero {w w' : World} {f : Int} (hb : Below w.heap.size w w') : HRet (hzero f) w (.returned (.tuple #[.agg #[.int .i64 0, .slice none 0 0], .int .i64 f])) w' := ⟨none, 0, 0, rfl, hin_zero, hb, fun a h => by cases h⟩
theorem hret_own {w w' : World} {now f : Int} {zs : List Int} {g n c : Nat} (ho : Own w' 2 1 g n c (zs.map (Value.int .i64))) (hnow : -9223372036854775808 ≤ now ∧ now ≤ 9223372036854775807)
    (hz : ∀ k, -9223372036854775808 ≤ zs.getD k 0 ∧ zs.getD k 0 ≤ 9223372036854775807) (hb : Below w.heap.size w w') (hg : w.heap.size ≤ g) : HRet ⟨now, zs, f⟩ w (.returned (.tuple #[.agg #[.int .i64 now, .slice (some ⟨g, 0, none⟩) n c], .int .i64 f])) w' :=
  ⟨some ⟨g, 0, none⟩, n, c, rfl, ⟨ho.reads, hnow, hz, ho.cap.1, ho.cap.2⟩, hb, fun a h => by cases h; exact hg⟩
theorem HIn.other {now : Int} {A : Option Addr} {n c : Nat} {zs : List Int} {w : World} (h : HIn now A n c zs w) {p : Addr} (hp : ∀ a, A = some a → a.block ≠ p.block) (v : Value) : HIn now A n c zs (w.setCell p v) := by
  obtain ⟨h1, h2, h3, h4, h5⟩ := h
  refine ⟨⟨h1.1, fun hn => ?_⟩, h2, h3, h4, h5⟩
  obtain ⟨ad, e, hb, hc⟩ := h1.2 hn
  refine ⟨ad, e, by rw [size_setCell]; exact hb, fun j u hu => ?_⟩
  rw [World.cell?_setCell_other w p _ v (fun x => hp ad e (by rw [x, block_of_add]))]
  exact hc j u hu
theorem num_at {zs : List Int} {n k : Nat} {z : Int} (hl : zs.length = n) (hk : k < n) (h : zs.getD k 0 = z) : (zs.map (Value.int .i64))[k]? = some (.int .i64 z) := by
  subst hl
  subst h
  simp [List.getD, hk]
theorem info_i64 : (Try.prog.info? 2).map (fun i => (i.zero, i.size, i.bytes)) = some (some (.int .i64 0), 1, 8) := by kernel_rfl
theorem set_bound {zs : List Int} {v : Int} (h : ∀ k, -9223372036854775808 ≤ zs.getD k 0 ∧ zs.getD k 0 ≤ 9223372036854775807) (j : Nat) (hv : -9223372036854775808 ≤ v ∧ v ≤ 9223372036854775807) (k : Nat) :
    -9223372036854775808 ≤ (zs.set j v).getD k 0 ∧ (zs.set j v).getD k 0 ≤ 9223372036854775807 := by
  simp only [List.getD_eq_getElem?_getD, List.getElem?_set]
  split
  · split
    · exact hv
    · exact ⟨by decide, by decide⟩
  · exact h k
theorem rvalue_in (v : Int) (h0 : -4096 ≤ v) (h1 : v ≤ 4096) (w : World) : Calls Try.prog 33 #[.int .i64 v] w fun e w' => e = .returned (.bool true) ∧ w' = w := by
  go_enter Try.func33, Try.ntmps33
  go_wp2
  go_ret
  exact ⟨rfl, rfl⟩
theorem rvalue_high (v : Int) (h0 : 4096 < v) (w : World) : Calls Try.prog 33 #[.int .i64 v] w fun e w' => e = .returned (.bool false) ∧ w' = w := by
  have h1 : -4096 ≤ v := by omega
  go_enter Try.func33, Try.ntmps33
  go_wp2
  go_ret
  exact ⟨ret_bool (by simp; omega), rfl⟩
theorem phadd_bad (now : Int) (A : Option Addr) (n c : Nat) (zs : List Int) (v : Int) (w : World) (hin : HIn now A n c zs w) (hv : hvalE now zs = 2) : Calls Try.prog 16 #[.agg #[.int .i64 now, .slice A n c], .int .i64 v] w fun e w' => HRet (hadd now zs v) w e w' := by
  rw [hadd_bad hv]
  have P := fun w1 (hb : Below w.heap.size w w1) => phval now A n c zs w1 ((hin.reads.below hb).more hb.size) hin.nowB hin.zsB hin.nB
  rw [hv] at P
  have P := Lib.hid P
  clear hv hin
  go_enter Try.func16, Try.ntmps16
  go_wp2_with (first | (go_at_call 20; with_reducible refine (P.out _ (by (repeat (first | exact Below.refl _ _ | refine Below.setCell ?_ (by first | (simp; done) | (simp; omega) | omega) _ | refine Below.alloc ?_ (by first | (simp; done) | (simp; omega) | omega) _ | refine Below.drew ?_ | refine Below.trans ?_ (Below.mono (by assumption) (by first | (simp; done) | (simp; omega) | omega)))))).mono ?_; rintro e w1 ⟨rfl, hb1⟩; have hz1 := hb1.size; (try simp at hz1); have o1 : Below w.heap.size w w1 := (by (repeat (first | exact Below.refl _ _ | refine Below.setCell ?_ (by first | (simp; done) | (simp; omega) | omega) _ | refine Below.alloc ?_ (by first | (simp; done) | (simp; omega) | omega) _ | refine Below.drew ?_ | refine Below.trans ?_ (Below.mono (by assumption) (by first | (simp; done) | (simp; omega) | omega))))); have q1_0 : w.heap.size < w1.heap.size := (by omega); have r1_0 : Row w1 (w.heap.size) 24 #[.int .i64 now, .slice A n c] := row_call (by (repeat (first | assumption | (refine row_new ?_; (first | (simp; done) | omega)) | refine row_alloc ?_ _ | refine row_drew ?_ | refine row_call ?_ (by assumption)))) hb1; obtain ⟨c1_0a, c1_0b, f1_0a, f1_0b⟩ := row_two r1_0; have q1_1 : w.heap.size + 1 < w1.heap.size := (by omega); have r1_1 : Row w1 (w.heap.size + 1) 24 #[.int .i64 0, .slice none 0 0] := row_call (by (repeat (first | assumption | (refine row_new ?_; (first | (simp; done) | omega)) | refine row_alloc ?_ _ | refine row_drew ?_ | refine row_call ?_ (by assumption)))) hb1; obtain ⟨c1_1a, c1_1b, f1_1a, f1_1b⟩ := row_two r1_1))
  exact bodyPost_ret (v := .tuple #[.agg #[.int .i64 0, .slice none 0 0], .int .i64 2]) (by simp [results, Try.results16, go_sem, c1_1a, c1_1b]) rfl (hret_zero (by (repeat (first | exact Below.refl _ _ | refine Below.setCell ?_ (by first | (simp; done) | (simp; omega) | omega) _ | refine Below.alloc ?_ (by first | (simp; done) | (simp; omega) | omega) _ | refine Below.drew ?_ | refine Below.trans ?_ (Below.mono (by assumption) (by first | (simp; done) | (simp; omega) | omega))))))
theorem phadd_low (now : Int) (A : Option Addr) (n c : Nat) (zs : List Int) (v : Int) (w : World) (hin : HIn now A n c zs w) (hv : hvalE now zs = 0) (h1 : v < 0) : Calls Try.prog 16 #[.agg #[.int .i64 now, .slice A n c], .int .i64 v] w fun e w' => HRet (hadd now zs v) w e w' := by
  rw [hadd_low hv h1]
  have P := fun w1 (hb : Below w.heap.size w w1) => phval now A n c zs w1 ((hin.reads.below hb).more hb.size) hin.nowB hin.zsB hin.nB
  rw [hv] at P
  have P := Lib.hid P
  clear hv hin
  go_enter Try.func16, Try.ntmps16
  go_wp2_with (first | (go_at_call 20; with_reducible refine (P.out _ (by (repeat (first | exact Below.refl _ _ | refine Below.setCell ?_ (by first | (simp; done) | (simp; omega) | omega) _ | refine Below.alloc ?_ (by first | (simp; done) | (simp; omega) | omega) _ | refine Below.drew ?_ | refine Below.trans ?_ (Below.mono (by assumption) (by first | (simp; done) | (simp; omega) | omega)))))).mono ?_; rintro e w1 ⟨rfl, hb1⟩; have hz1 := hb1.size; (try simp at hz1); have o1 : Below w.heap.size w w1 := (by (repeat (first | exact Below.refl _ _ | refine Below.setCell ?_ (by first | (simp; done) | (simp; omega) | omega) _ | refine Below.alloc ?_ (by first | (simp; done) | (simp; omega) | omega) _ | refine Below.drew ?_ | refine Below.trans ?_ (Below.mono (by assumption) (by first | (simp; done) | (simp; omega) | omega))))); have q1_0 : w.heap.size < w1.heap.size := (by omega); have r1_0 : Row w1 (w.heap.size) 24 #[.int .i64 now, .slice A n c] := row_call (by (repeat (first | assumption | (refine row_new ?_; (first | (simp; done) | omega)) | refine row_alloc ?_ _ | refine row_drew ?_ | refine row_call ?_ (by assumption)))) hb1; obtain ⟨c1_0a, c1_0b, f1_0a, f1_0b⟩ := row_two r1_0; have q1_1 : w.heap.size + 1 < w1.heap.size := (by omega); have r1_1 : Row w1 (w.heap.size + 1) 24 #[.int .i64 0, .slice none 0 0] := row_call (by (repeat (first | assumption | (refine row_new ?_; (first | (simp; done) | omega)) | refine row_alloc ?_ _ | refine row_drew ?_ | refine row_call ?_ (by assumption)))) hb1; obtain ⟨c1_1a, c1_1b, f1_1a, f1_1b⟩ := row_two r1_1))
  exact bodyPost_ret (v := .tuple #[.agg #[.int .i64 0, .slice none 0 0], .int .i64 4]) (by simp [results, Try.results16, go_sem, c1_1a, c1_1b]) rfl (hret_zero (by (repeat (first | exact Below.refl _ _ | refine Below.setCell ?_ (by first | (simp; done) | (simp; omega) | omega) _ | refine Below.alloc ?_ (by first | (simp; done) | (simp; omega) | omega) _ | refine Below.drew ?_ | refine Below.trans ?_ (Below.mono (by assumption) (by first | (simp; done) | (simp; omega) | omega))))))
theorem phadd_high (now : Int) (A : Option Addr) (n c : Nat) (zs : List Int) (v : Int) (w : World) (hin : HIn now A n c zs w) (hv : hvalE now zs = 0) (h1 : 4096 < v) : Calls Try.prog 16 #[.agg #[.int .i64 now, .slice A n c], .int .i64 v] w fun e w' => HRet (hadd now zs v) w e w' := by
  rw [hadd_high hv h1]
  have P := fun w1 (hb : Below w.heap.size w w1) => phval now A n c zs w1 ((hin.reads.below hb).more hb.size) hin.nowB hin.zsB hin.nB
  rw [hv] at P
  have P := Lib.hid P
  have h2 : 0 ≤ v := by omega
  clear hv hin
  go_enter Try.func16, Try.ntmps16
  go_wp2_with (first | (go_at_call 20; with_reducible refine (P.out _ (by (repeat (first | exact Below.refl _ _ | refine Below.setCell ?_ (by first | (simp; done) | (simp; omega) | omega) _ | refine Below.alloc ?_ (by first | (simp; done) | (simp; omega) | omega) _ | refine Below.drew ?_ | refine Below.trans ?_ (Below.mono (by assumption) (by first | (simp; done) | (simp; omega) | omega)))))).mono ?_; rintro e w1 ⟨rfl, hb1⟩; have hz1 := hb1.size; (try simp at hz1); have o1 : Below w.heap.size w w1 := (by (repeat (first | exact Below.refl _ _ | refine Below.setCell ?_ (by first | (simp; done) | (simp; omega) | omega) _ | refine Below.alloc ?_ (by first | (simp; done) | (simp; omega) | omega) _ | refine Below.drew ?_ | refine Below.trans ?_ (Below.mono (by assumption) (by first | (simp; done) | (simp; omega) | omega))))); have q1_0 : w.heap.size < w1.heap.size := (by omega); have r1_0 : Row w1 (w.heap.size) 24 #[.int .i64 now, .slice A n c] := row_call (by (repeat (first | assumption | (refine row_new ?_; (first | (simp; done) | omega)) | refine row_alloc ?_ _ | refine row_drew ?_ | refine row_call ?_ (by assumption)))) hb1; obtain ⟨c1_0a, c1_0b, f1_0a, f1_0b⟩ := row_two r1_0; have q1_1 : w.heap.size + 1 < w1.heap.size := (by omega); have r1_1 : Row w1 (w.heap.size + 1) 24 #[.int .i64 0, .slice none 0 0] := row_call (by (repeat (first | assumption | (refine row_new ?_; (first | (simp; done) | omega)) | refine row_alloc ?_ _ | refine row_drew ?_ | refine row_call ?_ (by assumption)))) hb1; obtain ⟨c1_1a, c1_1b, f1_1a, f1_1b⟩ := row_two r1_1))
  exact bodyPost_ret (v := .tuple #[.agg #[.int .i64 0, .slice none 0 0], .int .i64 4]) (by simp [results, Try.results16, go_sem, c1_1a, c1_1b]) rfl (hret_zero (by (repeat (first | exact Below.refl _ _ | refine Below.setCell ?_ (by first | (simp; done) | (simp; omega) | omega) _ | refine Below.alloc ?_ (by first | (simp; done) | (simp; omega) | omega) _ | refine Below.drew ?_ | refine Below.trans ?_ (Below.mono (by assumption) (by first | (simp; done) | (simp; omega) | omega))))))
set_option maxHeartbeats 1000000 in
theorem phadd_over (now : Int) (A : Option Addr) (n c : Nat) (zs : List Int) (v : Int) (w : World) (hin : HIn now A n c zs w) (hv : hvalE now zs = 0) (h0 : 0 ≤ v) (h1 : v ≤ 4096) (h2 : 1099511627776 < zs.getD 0 0 + v) : Calls Try.prog 16 #[.agg #[.int .i64 now, .slice A n c], .int .i64 v] w fun e w' => HRet (hadd now zs v) w e w' := by
  rw [hadd_over hv h0 h1 h2]
  have P := fun w1 (hb : Below w.heap.size w w1) => phval now A n c zs w1 ((hin.reads.below hb).more hb.size) hin.nowB hin.zsB hin.nB
  rw [hv] at P
  have P := Lib.hid P
  have hl := hin.len
  have V := hvalid_of hv
  have hlen1 : 1 ≤ n := by omega
  have hlen2 : n ≤ 64 := by omega
  have V0 := V.2.2.2.2 0 (by omega)
  have HR := Lib.hid hin
  obtain ⟨ad, hA, hadb, hcell⟩ := hin.reads.num (k := 0) (by omega)
  subst hA
  have hcell : w.cell? ad = some (.int .i64 (zs.getD 0 0)) := hcell
  generalize hz0 : zs.getD 0 0 = z0 at V0 hcell h2
  have HZ0 := Lib.hid hz0
  have HL := Lib.hid hl
  have h2' : 1099511627776 - v < z0 := by omega
  have hs1 : 0 ≤ z0 := V0.1
  have hs2 : z0 ≤ 1099511627776 := V0.2
  clear hv hin hl V V0 hz0 h2
  go_enter Try.func16, Try.ntmps16
  go_wp2_with (first | (go_at_call 20; with_reducible refine (P.out _ (by (repeat (first | exact Below.refl _ _ | refine Below.setCell ?_ (by first | (simp; done) | (simp; omega) | omega) _ | refine Below.alloc ?_ (by first | (simp; done) | (simp; omega) | omega) _ | refine Below.drew ?_ | refine Below.trans ?_ (Below.mono (by assumption) (by first | (simp; done) | (simp; omega) | omega)))))).mono ?_; rintro e w1 ⟨rfl, hb1⟩; have hz1 := hb1.size; (try simp at hz1); have o1 : Below w.heap.size w w1 := (by (repeat (first | exact Below.refl _ _ | refine Below.setCell ?_ (by first | (simp; done) | (simp; omega) | omega) _ | refine Below.alloc ?_ (by first | (simp; done) | (simp; omega) | omega) _ | refine Below.drew ?_ | refine Below.trans ?_ (Below.mono (by assumption) (by first | (simp; done) | (simp; omega) | omega))))); have q1_0 : w.heap.size < w1.heap.size := (by omega); have r1_0 : Row w1 (w.heap.size) 24 #[.int .i64 now, .slice (some ad) n c] := row_call (by (repeat (first | assumption | (refine row_new ?_; (first | (simp; done) | omega)) | refine row_alloc ?_ _ | refine row_drew ?_ | refine row_call ?_ (by assumption)))) hb1; obtain ⟨c1_0a, c1_0b, f1_0a, f1_0b⟩ := row_two r1_0; have q1_1 : w.heap.size + 1 < w1.heap.size := (by omega); have r1_1 : Row w1 (w.heap.size + 1) 24 #[.int .i64 0, .slice none 0 0] := row_call (by (repeat (first | assumption | (refine row_new ?_; (first | (simp; done) | omega)) | refine row_alloc ?_ _ | refine row_drew ?_ | refine row_call ?_ (by assumption)))) hb1; obtain ⟨c1_1a, c1_1b, f1_1a, f1_1b⟩ := row_two r1_1; have e1_0 := (o1.cell hadb).trans hcell))
  exact bodyPost_ret (v := .tuple #[.agg #[.int .i64 0, .slice none 0 0], .int .i64 6]) (by simp [results, Try.results16, go_sem, c1_1a, c1_1b]) rfl (hret_zero (by (repeat (first | exact Below.refl _ _ | refine Below.setCell ?_ (by first | (simp; done) | (simp; omega) | omega) _ | refine Below.alloc ?_ (by first | (simp; done) | (simp; omega) | omega) _ | refine Below.drew ?_ | refine Below.trans ?_ (Below.mono (by assumption) (by first | (simp; done) | (simp; omega) | omega))))))
set_option maxHeartbeats 1000000 in
theorem phadd_ok (now : Int) (A : Option Addr) (n c : Nat) (zs : List Int) (v : Int) (w : World) (hin : HIn now A n c zs w) (hv : hvalE now zs = 0) (h0 : 0 ≤ v) (h1 : v ≤ 4096) (h2 : zs.getD 0 0 + v ≤ 1099511627776) :
    Calls Try.prog 16 #[.agg #[.int .i64 now, .slice A n c], .int .i64 v] w fun e w' => HRet (hadd now zs v) w e w' := by
  rw [hadd_ok hv h0 h1 h2]
  have P := fun w1 (hb : Below w.heap.size w w1) => phval now A n c zs w1 ((hin.reads.below hb).more hb.size) hin.nowB hin.zsB hin.nB
  rw [hv] at P
  have P := Lib.hid P
  have hl := hin.len
  have V := hvalid_of hv
  have hlen1 : 1 ≤ n := by omega
  have hlen2 : n ≤ 64 := by omega
  have V0 := V.2.2.2.2 0 (by omega)
  have HR := Lib.hid hin
  obtain ⟨ad, hA, hadb, hcell⟩ := hin.reads.num (k := 0) (by omega)
  subst hA
  have hcell : w.cell? ad = some (.int .i64 (zs.getD 0 0)) := hcell
  generalize hz0 : zs.getD 0 0 = z0 at V0 hcell h2
  have HZ0 := Lib.hid hz0
  have HL := Lib.hid hl
  have h2' : z0 ≤ 1099511627776 - v := by omega
  have hs1 : 0 ≤ z0 := V0.1
  have hs2 : z0 ≤ 1099511627776 := V0.2
  obtain ⟨i0, hi, iz0, iz1, iz2⟩ := info_parts info_i64
  clear hv hin hl V V0 hz0 h2
  go_enter Try.func16, Try.ntmps16
  go_wp2_with (first | (go_at_call 20; with_reducible refine (P.out _ (by (repeat (first | exact Below.refl _ _ | refine Below.setCell ?_ (by first | (simp; done) | (simp; omega) | omega) _ | refine Below.alloc ?_ (by first | (simp; done) | (simp; omega) | omega) _ | refine Below.drew ?_ | refine Below.trans ?_ (Below.mono (by assumption) (by first | (simp; done) | (simp; omega) | omega)))))).mono ?_; rintro e w1 ⟨rfl, hb1⟩; have hz1 := hb1.size; (try simp at hz1); have o1 : Below w.heap.size w w1 := (by (repeat (first | exact Below.refl _ _ | refine Below.setCell ?_ (by first | (simp; done) | (simp; omega) | omega) _ | refine Below.alloc ?_ (by first | (simp; done) | (simp; omega) | omega) _ | refine Below.drew ?_ | refine Below.trans ?_ (Below.mono (by assumption) (by first | (simp; done) | (simp; omega) | omega))))); have q1_0 : w.heap.size < w1.heap.size := (by omega); have r1_0 : Row w1 (w.heap.size) 24 #[.int .i64 now, .slice (some ad) n c] := row_call (by (repeat (first | assumption | (refine row_new ?_; (first | (simp; done) | omega)) | refine row_alloc ?_ _ | refine row_drew ?_ | refine row_call ?_ (by assumption)))) hb1; obtain ⟨c1_0a, c1_0b, f1_0a, f1_0b⟩ := row_two r1_0; have q1_1 : w.heap.size + 1 < w1.heap.size := (by omega); have r1_1 : Row w1 (w.heap.size + 1) 24 #[.int .i64 0, .slice none 0 0] := row_call (by (repeat (first | assumption | (refine row_new ?_; (first | (simp; done) | omega)) | refine row_alloc ?_ _ | refine row_drew ?_ | refine row_call ?_ (by assumption)))) hb1; obtain ⟨c1_1a, c1_1b, f1_1a, f1_1b⟩ := row_two r1_1; have e1_0 := (o1.cell hadb).trans hcell) | (at_builtin; refine wpList_clone rfl _ _ 22 rfl 2 i0 (.int .i64 0) 1 8 Try.underlying22 hi iz0 iz1 iz2 rfl (by decide) rfl w.heap.size (some ad) n c (zs.map (Value.int .i64)) rfl (HR.out.reads.below o1) o1.size (ints_oneCell _ _) (by show n ≤ 9223372036854775807; omega) (by omega) ?_; intro g c2 w2 own2 hg2 hb2 hz2; have o2 : Below w.heap.size w w2 := (by (repeat (first | exact Below.refl _ _ | refine Below.setCell ?_ (by first | (simp; done) | (simp; omega) | omega) _ | refine Below.alloc ?_ (by first | (simp; done) | (simp; omega) | omega) _ | refine Below.drew ?_ | refine Below.trans ?_ (Below.mono (by assumption) (by first | (simp; done) | (simp; omega) | omega))))); have q2_0 : w.heap.size < w2.heap.size := (by omega); have r2_0 : Row w2 (w.heap.size) 24 #[.int .i64 now, .slice (some ad) n c] := row_call (by (repeat (first | assumption | (refine row_new ?_; (first | (simp; done) | omega)) | refine row_alloc ?_ _ | refine row_drew ?_ | refine row_call ?_ (by assumption)))) hb2; obtain ⟨c2_0a, c2_0b, f2_0a, f2_0b⟩ := row_two r2_0; have q2_1 : w.heap.size + 1 < w2.heap.size := (by omega); have r2_1 : Row w2 (w.heap.size + 1) 24 #[.int .i64 0, .slice none 0 0] := row_call (by (repeat (first | assumption | (refine row_new ?_; (first | (simp; done) | omega)) | refine row_alloc ?_ _ | refine row_drew ?_ | refine row_call ?_ (by assumption)))) hb2; obtain ⟨c2_1a, c2_1b, f2_1a, f2_1b⟩ := row_two r2_1; have d2 : w2.cell? ⟨g, 0, none⟩ = some (.int .i64 z0) := ((own2.cell (j := 0) (by omega)).trans (num_at HL.out (by omega) HZ0.out)); have d3 := own2.free 0; have hne : g ≠ w.heap.size := (by omega); have hne1 : g ≠ w.heap.size + 1 := (by omega)))
  have ow : Own ((((w2.setCell ⟨w.heap.size, 1, none⟩ (.slice (some ⟨g, 0, none⟩) n c2)).setCell ⟨g, 0, none⟩ (.int .i64 (z0 + v))).setCell ⟨w.heap.size + 1, 0, none⟩ (.int .i64 now)).setCell ⟨w.heap.size + 1, 1, none⟩ (.slice (some ⟨g, 0, none⟩) n c2)) 2 1 g n c2 (((zs.set 0 (z0 + v)).map (Value.int .i64))) := by
    rw [List.map_set]
    exact ((((own2.other (by simp; omega) _).set 0 (.int .i64 (z0 + v))).other (by simp; omega) _).other (by simp; omega) _)
  have ob : Below w.heap.size w ((((w2.setCell ⟨w.heap.size, 1, none⟩ (.slice (some ⟨g, 0, none⟩) n c2)).setCell ⟨g, 0, none⟩ (.int .i64 (z0 + v))).setCell ⟨w.heap.size + 1, 0, none⟩ (.int .i64 now)).setCell ⟨w.heap.size + 1, 1, none⟩ (.slice (some ⟨g, 0, none⟩) n c2)) := by (repeat (first | exact Below.refl _ _ | refine Below.setCell ?_ (by first | (simp; done) | (simp; omega) | omega) _ | refine Below.alloc ?_ (by first | (simp; done) | (simp; omega) | omega) _ | refine Below.drew ?_ | refine Below.trans ?_ (Below.mono (by assumption) (by first | (simp; done) | (simp; omega) | omega))))
  exact bodyPost_ret (v := .tuple #[.agg #[.int .i64 now, .slice (some ⟨g, 0, none⟩) n c2], .int .i64 0]) (by simp [results, Try.results16, go_sem, c2_1a, c2_1b, hne, hne.symm, hne1, hne1.symm]) rfl (hret_own ow HR.out.nowB (set_bound HR.out.zsB 0 (by omega)) ob (by omega))
theorem phadd (now : Int) (A : Option Addr) (n c : Nat) (zs : List Int) (v : Int) (w : World) (hin : HIn now A n c zs w) : Calls Try.prog 16 #[.agg #[.int .i64 now, .slice A n c], .int .i64 v] w fun e w' => HRet (hadd now zs v) w e w' := by
  rcases hvalE_two (now := now) (zs := zs) with hv | hv
  · by_cases h0 : v < 0
    · exact phadd_low now A n c zs v w hin hv h0
    · by_cases h1 : 4096 < v
      · exact phadd_high now A n c zs v w hin hv h1
      · by_cases h2 : 1099511627776 < zs.getD 0 0 + v
        · exact phadd_over now A n c zs v w hin hv (by omega) (by omega) h2
        · exact phadd_ok now A n c zs v w hin hv (by omega) (by omega) (by omega)
  · exact phadd_bad now A n c zs v w hin hv
theorem rhadd_bad (now : Int) (A : Option Addr) (n c : Nat) (zs : List Int) (v : Int) (w : World) (hin : HIn now A n c zs w) (hv : hvalE now zs = 2) : Calls Try.prog 17 #[.agg #[.int .i64 now, .slice A n c], .int .i64 v] w fun e w' => HRet (hadd now zs v) w e w' := by
  rw [hadd_bad hv]
  have P := fun w1 (hb : Below w.heap.size w w1) => rhval now A n c zs w1 ((hin.reads.below hb).more hb.size) hin.nowB hin.zsB hin.nB
  rw [hv] at P
  have P := Lib.hid P
  clear hv hin
  go_enter Try.func17, Try.ntmps17
  go_wp2_with (first | (go_at_call 21; with_reducible refine (P.out _ (by (repeat (first | exact Below.refl _ _ | refine Below.setCell ?_ (by first | (simp; done) | (simp; omega) | omega) _ | refine Below.alloc ?_ (by first | (simp; done) | (simp; omega) | omega) _ | refine Below.drew ?_ | refine Below.trans ?_ (Below.mono (by assumption) (by first | (simp; done) | (simp; omega) | omega)))))).mono ?_; rintro e w1 ⟨rfl, hb1⟩; have hz1 := hb1.size; (try simp at hz1); have o1 : Below w.heap.size w w1 := (by (repeat (first | exact Below.refl _ _ | refine Below.setCell ?_ (by first | (simp; done) | (simp; omega) | omega) _ | refine Below.alloc ?_ (by first | (simp; done) | (simp; omega) | omega) _ | refine Below.drew ?_ | refine Below.trans ?_ (Below.mono (by assumption) (by first | (simp; done) | (simp; omega) | omega))))); have q1_0 : w.heap.size < w1.heap.size := (by omega); have r1_0 : Row w1 (w.heap.size) 24 #[.int .i64 now, .slice A n c] := row_call (by (repeat (first | assumption | (refine row_new ?_; (first | (simp; done) | omega)) | refine row_alloc ?_ _ | refine row_drew ?_ | refine row_call ?_ (by assumption)))) hb1; obtain ⟨c1_0a, c1_0b, f1_0a, f1_0b⟩ := row_two r1_0; have q1_1 : w.heap.size + 1 < w1.heap.size := (by omega); have r1_1 : Row w1 (w.heap.size + 1) 24 #[.int .i64 0, .slice none 0 0] := row_call (by (repeat (first | assumption | (refine row_new ?_; (first | (simp; done) | omega)) | refine row_alloc ?_ _ | refine row_drew ?_ | refine row_call ?_ (by assumption)))) hb1; obtain ⟨c1_1a, c1_1b, f1_1a, f1_1b⟩ := row_two r1_1))
  exact bodyPost_ret (v := .tuple #[.agg #[.int .i64 0, .slice none 0 0], .int .i64 2]) (by simp [results, Try.results17, go_sem, c1_1a, c1_1b]) rfl (hret_zero (by (repeat (first | exact Below.refl _ _ | refine Below.setCell ?_ (by first | (simp; done) | (simp; omega) | omega) _ | refine Below.alloc ?_ (by first | (simp; done) | (simp; omega) | omega) _ | refine Below.drew ?_ | refine Below.trans ?_ (Below.mono (by assumption) (by first | (simp; done) | (simp; omega) | omega))))))
theorem rhadd_low (now : Int) (A : Option Addr) (n c : Nat) (zs : List Int) (v : Int) (w : World) (hin : HIn now A n c zs w) (hv : hvalE now zs = 0) (h1 : v < 0) : Calls Try.prog 17 #[.agg #[.int .i64 now, .slice A n c], .int .i64 v] w fun e w' => HRet (hadd now zs v) w e w' := by
  rw [hadd_low hv h1]
  have P := fun w1 (hb : Below w.heap.size w w1) => rhval now A n c zs w1 ((hin.reads.below hb).more hb.size) hin.nowB hin.zsB hin.nB
  rw [hv] at P
  have P := Lib.hid P
  clear hv hin
  go_enter Try.func17, Try.ntmps17
  go_wp2_with (first | (go_at_call 21; with_reducible refine (P.out _ (by (repeat (first | exact Below.refl _ _ | refine Below.setCell ?_ (by first | (simp; done) | (simp; omega) | omega) _ | refine Below.alloc ?_ (by first | (simp; done) | (simp; omega) | omega) _ | refine Below.drew ?_ | refine Below.trans ?_ (Below.mono (by assumption) (by first | (simp; done) | (simp; omega) | omega)))))).mono ?_; rintro e w1 ⟨rfl, hb1⟩; have hz1 := hb1.size; (try simp at hz1); have o1 : Below w.heap.size w w1 := (by (repeat (first | exact Below.refl _ _ | refine Below.setCell ?_ (by first | (simp; done) | (simp; omega) | omega) _ | refine Below.alloc ?_ (by first | (simp; done) | (simp; omega) | omega) _ | refine Below.drew ?_ | refine Below.trans ?_ (Below.mono (by assumption) (by first | (simp; done) | (simp; omega) | omega))))); have q1_0 : w.heap.size < w1.heap.size := (by omega); have r1_0 : Row w1 (w.heap.size) 24 #[.int .i64 now, .slice A n c] := row_call (by (repeat (first | assumption | (refine row_new ?_; (first | (simp; done) | omega)) | refine row_alloc ?_ _ | refine row_drew ?_ | refine row_call ?_ (by assumption)))) hb1; obtain ⟨c1_0a, c1_0b, f1_0a, f1_0b⟩ := row_two r1_0; have q1_1 : w.heap.size + 1 < w1.heap.size := (by omega); have r1_1 : Row w1 (w.heap.size + 1) 24 #[.int .i64 0, .slice none 0 0] := row_call (by (repeat (first | assumption | (refine row_new ?_; (first | (simp; done) | omega)) | refine row_alloc ?_ _ | refine row_drew ?_ | refine row_call ?_ (by assumption)))) hb1; obtain ⟨c1_1a, c1_1b, f1_1a, f1_1b⟩ := row_two r1_1))
  exact bodyPost_ret (v := .tuple #[.agg #[.int .i64 0, .slice none 0 0], .int .i64 4]) (by simp [results, Try.results17, go_sem, c1_1a, c1_1b]) rfl (hret_zero (by (repeat (first | exact Below.refl _ _ | refine Below.setCell ?_ (by first | (simp; done) | (simp; omega) | omega) _ | refine Below.alloc ?_ (by first | (simp; done) | (simp; omega) | omega) _ | refine Below.drew ?_ | refine Below.trans ?_ (Below.mono (by assumption) (by first | (simp; done) | (simp; omega) | omega))))))
theorem rhadd_high (now : Int) (A : Option Addr) (n c : Nat) (zs : List Int) (v : Int) (w : World) (hin : HIn now A n c zs w) (hv : hvalE now zs = 0) (h1 : 4096 < v) : Calls Try.prog 17 #[.agg #[.int .i64 now, .slice A n c], .int .i64 v] w fun e w' => HRet (hadd now zs v) w e w' := by
  rw [hadd_high hv h1]
  have P := fun w1 (hb : Below w.heap.size w w1) => rhval now A n c zs w1 ((hin.reads.below hb).more hb.size) hin.nowB hin.zsB hin.nB
  rw [hv] at P
  have P := Lib.hid P
  have h2 : 0 ≤ v := by omega
  clear hv hin
  go_enter Try.func17, Try.ntmps17
  go_wp2_with (first | (go_at_call 21; with_reducible refine (P.out _ (by (repeat (first | exact Below.refl _ _ | refine Below.setCell ?_ (by first | (simp; done) | (simp; omega) | omega) _ | refine Below.alloc ?_ (by first | (simp; done) | (simp; omega) | omega) _ | refine Below.drew ?_ | refine Below.trans ?_ (Below.mono (by assumption) (by first | (simp; done) | (simp; omega) | omega)))))).mono ?_; rintro e w1 ⟨rfl, hb1⟩; have hz1 := hb1.size; (try simp at hz1); have o1 : Below w.heap.size w w1 := (by (repeat (first | exact Below.refl _ _ | refine Below.setCell ?_ (by first | (simp; done) | (simp; omega) | omega) _ | refine Below.alloc ?_ (by first | (simp; done) | (simp; omega) | omega) _ | refine Below.drew ?_ | refine Below.trans ?_ (Below.mono (by assumption) (by first | (simp; done) | (simp; omega) | omega))))); have q1_0 : w.heap.size < w1.heap.size := (by omega); have r1_0 : Row w1 (w.heap.size) 24 #[.int .i64 now, .slice A n c] := row_call (by (repeat (first | assumption | (refine row_new ?_; (first | (simp; done) | omega)) | refine row_alloc ?_ _ | refine row_drew ?_ | refine row_call ?_ (by assumption)))) hb1; obtain ⟨c1_0a, c1_0b, f1_0a, f1_0b⟩ := row_two r1_0; have q1_1 : w.heap.size + 1 < w1.heap.size := (by omega); have r1_1 : Row w1 (w.heap.size + 1) 24 #[.int .i64 0, .slice none 0 0] := row_call (by (repeat (first | assumption | (refine row_new ?_; (first | (simp; done) | omega)) | refine row_alloc ?_ _ | refine row_drew ?_ | refine row_call ?_ (by assumption)))) hb1; obtain ⟨c1_1a, c1_1b, f1_1a, f1_1b⟩ := row_two r1_1) | (go_at_call 33; refine (rvalue_high _ h1 _).mono ?_; rintro e w9 ⟨rfl, rfl⟩))
  exact bodyPost_ret (v := .tuple #[.agg #[.int .i64 0, .slice none 0 0], .int .i64 4]) (by simp [results, Try.results17, go_sem, c1_1a, c1_1b]) rfl (hret_zero (by (repeat (first | exact Below.refl _ _ | refine Below.setCell ?_ (by first | (simp; done) | (simp; omega) | omega) _ | refine Below.alloc ?_ (by first | (simp; done) | (simp; omega) | omega) _ | refine Below.drew ?_ | refine Below.trans ?_ (Below.mono (by assumption) (by first | (simp; done) | (simp; omega) | omega))))))
set_option maxHeartbeats 1000000 in
theorem rhadd_over (now : Int) (A : Option Addr) (n c : Nat) (zs : List Int) (v : Int) (w : World) (hin : HIn now A n c zs w) (hv : hvalE now zs = 0) (h0 : 0 ≤ v) (h1 : v ≤ 4096) (h2 : 1099511627776 < zs.getD 0 0 + v) : Calls Try.prog 17 #[.agg #[.int .i64 now, .slice A n c], .int .i64 v] w fun e w' => HRet (hadd now zs v) w e w' := by
  rw [hadd_over hv h0 h1 h2]
  have P := fun w1 (hb : Below w.heap.size w w1) => rhval now A n c zs w1 ((hin.reads.below hb).more hb.size) hin.nowB hin.zsB hin.nB
  rw [hv] at P
  have P := Lib.hid P
  have hl := hin.len
  have V := hvalid_of hv
  have hlen1 : 1 ≤ n := by omega
  have hlen2 : n ≤ 64 := by omega
  have V0 := V.2.2.2.2 0 (by omega)
  have HR := Lib.hid hin
  obtain ⟨ad, hA, hadb, hcell⟩ := hin.reads.num (k := 0) (by omega)
  subst hA
  have hcell : w.cell? ad = some (.int .i64 (zs.getD 0 0)) := hcell
  generalize hz0 : zs.getD 0 0 = z0 at V0 hcell h2
  have HZ0 := Lib.hid hz0
  have HL := Lib.hid hl
  have h2' : 1099511627776 < z0 + v := by omega
  have hs1 : 0 ≤ z0 := V0.1
  have hs2 : z0 ≤ 1099511627776 := V0.2
  clear hv hin hl V V0 hz0 h2
  go_enter Try.func17, Try.ntmps17
  go_wp2_with (first | (go_at_call 21; with_reducible refine (P.out _ (by (repeat (first | exact Below.refl _ _ | refine Below.setCell ?_ (by first | (simp; done) | (simp; omega) | omega) _ | refine Below.alloc ?_ (by first | (simp; done) | (simp; omega) | omega) _ | refine Below.drew ?_ | refine Below.trans ?_ (Below.mono (by assumption) (by first | (simp; done) | (simp; omega) | omega)))))).mono ?_; rintro e w1 ⟨rfl, hb1⟩; have hz1 := hb1.size; (try simp at hz1); have o1 : Below w.heap.size w w1 := (by (repeat (first | exact Below.refl _ _ | refine Below.setCell ?_ (by first | (simp; done) | (simp; omega) | omega) _ | refine Below.alloc ?_ (by first | (simp; done) | (simp; omega) | omega) _ | refine Below.drew ?_ | refine Below.trans ?_ (Below.mono (by assumption) (by first | (simp; done) | (simp; omega) | omega))))); have q1_0 : w.heap.size < w1.heap.size := (by omega); have r1_0 : Row w1 (w.heap.size) 24 #[.int .i64 now, .slice (some ad) n c] := row_call (by (repeat (first | assumption | (refine row_new ?_; (first | (simp; done) | omega)) | refine row_alloc ?_ _ | refine row_drew ?_ | refine row_call ?_ (by assumption)))) hb1; obtain ⟨c1_0a, c1_0b, f1_0a, f1_0b⟩ := row_two r1_0; have q1_1 : w.heap.size + 1 < w1.heap.size := (by omega); have r1_1 : Row w1 (w.heap.size + 1) 24 #[.int .i64 0, .slice none 0 0] := row_call (by (repeat (first | assumption | (refine row_new ?_; (first | (simp; done) | omega)) | refine row_alloc ?_ _ | refine row_drew ?_ | refine row_call ?_ (by assumption)))) hb1; obtain ⟨c1_1a, c1_1b, f1_1a, f1_1b⟩ := row_two r1_1; have e1_0 := (o1.cell hadb).trans hcell) | (go_at_call 33; refine (rvalue_in _ (by omega) h1 _).mono ?_; rintro e w9 ⟨rfl, rfl⟩))
  exact bodyPost_ret (v := .tuple #[.agg #[.int .i64 0, .slice none 0 0], .int .i64 6]) (by simp [results, Try.results17, go_sem, c1_1a, c1_1b]) rfl (hret_zero (by (repeat (first | exact Below.refl _ _ | refine Below.setCell ?_ (by first | (simp; done) | (simp; omega) | omega) _ | refine Below.alloc ?_ (by first | (simp; done) | (simp; omega) | omega) _ | refine Below.drew ?_ | refine Below.trans ?_ (Below.mono (by assumption) (by first | (simp; done) | (simp; omega) | omega))))))
set_option maxHeartbeats 1000000 in
theorem rhadd_ok (now : Int) (A : Option Addr) (n c : Nat) (zs : List Int) (v : Int) (w : World) (hin : HIn now A n c zs w) (hv : hvalE now zs = 0) (h0 : 0 ≤ v) (h1 : v ≤ 4096) (h2 : zs.getD 0 0 + v ≤ 1099511627776) :
    Calls Try.prog 17 #[.agg #[.int .i64 now, .slice A n c], .int .i64 v] w fun e w' => HRet (hadd now zs v) w e w' := by
  rw [hadd_ok hv h0 h1 h2]
  have P := fun w1 (hb : Below w.heap.size w w1) => rhval now A n c zs w1 ((hin.reads.below hb).more hb.size) hin.nowB hin.zsB hin.nB
  rw [hv] at P
  have P := Lib.hid P
  have hl := hin.len
  have V := hvalid_of hv
  have hlen1 : 1 ≤ n := by omega
  have hlen2 : n ≤ 64 := by omega
  have V0 := V.2.2.2.2 0 (by omega)
  have HR := Lib.hid hin
  obtain ⟨ad, hA, hadb, hcell⟩ := hin.reads.num (k := 0) (by omega)
  subst hA
  have hcell : w.cell? ad = some (.int .i64 (zs.getD 0 0)) := hcell
  generalize hz0 : zs.getD 0 0 = z0 at V0 hcell h2
  have HZ0 := Lib.hid hz0
  have HL := Lib.hid hl
  have h2' : z0 + v ≤ 1099511627776 := by omega
  have hs1 : 0 ≤ z0 := V0.1
  have hs2 : z0 ≤ 1099511627776 := V0.2
  obtain ⟨i0, hi, iz0, iz1, iz2⟩ := info_parts info_i64
  clear hv hin hl V V0 hz0 h2
  go_enter Try.func17, Try.ntmps17
  go_wp2_with (first | (go_at_call 21; with_reducible refine (P.out _ (by (repeat (first | exact Below.refl _ _ | refine Below.setCell ?_ (by first | (simp; done) | (simp; omega) | omega) _ | refine Below.alloc ?_ (by first | (simp; done) | (simp; omega) | omega) _ | refine Below.drew ?_ | refine Below.trans ?_ (Below.mono (by assumption) (by first | (simp; done) | (simp; omega) | omega)))))).mono ?_; rintro e w1 ⟨rfl, hb1⟩; have hz1 := hb1.size; (try simp at hz1); have o1 : Below w.heap.size w w1 := (by (repeat (first | exact Below.refl _ _ | refine Below.setCell ?_ (by first | (simp; done) | (simp; omega) | omega) _ | refine Below.alloc ?_ (by first | (simp; done) | (simp; omega) | omega) _ | refine Below.drew ?_ | refine Below.trans ?_ (Below.mono (by assumption) (by first | (simp; done) | (simp; omega) | omega))))); have q1_0 : w.heap.size < w1.heap.size := (by omega); have r1_0 : Row w1 (w.heap.size) 24 #[.int .i64 now, .slice (some ad) n c] := row_call (by (repeat (first | assumption | (refine row_new ?_; (first | (simp; done) | omega)) | refine row_alloc ?_ _ | refine row_drew ?_ | refine row_call ?_ (by assumption)))) hb1; obtain ⟨c1_0a, c1_0b, f1_0a, f1_0b⟩ := row_two r1_0; have q1_1 : w.heap.size + 1 < w1.heap.size := (by omega); have r1_1 : Row w1 (w.heap.size + 1) 24 #[.int .i64 0, .slice none 0 0] := row_call (by (repeat (first | assumption | (refine row_new ?_; (first | (simp; done) | omega)) | refine row_alloc ?_ _ | refine row_drew ?_ | refine row_call ?_ (by assumption)))) hb1; obtain ⟨c1_1a, c1_1b, f1_1a, f1_1b⟩ := row_two r1_1; have e1_0 := (o1.cell hadb).trans hcell) | (go_at_call 33; refine (rvalue_in _ (by omega) h1 _).mono ?_; rintro e w9 ⟨rfl, rfl⟩) | (at_builtin; refine wpList_clone rfl _ _ 22 rfl 2 i0 (.int .i64 0) 1 8 Try.underlying22 hi iz0 iz1 iz2 rfl (by decide) rfl w.heap.size (some ad) n c (zs.map (Value.int .i64)) rfl (HR.out.reads.below o1) o1.size (ints_oneCell _ _) (by show n ≤ 9223372036854775807; omega) (by omega) ?_; intro g c2 w2 own2 hg2 hb2 hz2; have o2 : Below w.heap.size w w2 := (by (repeat (first | exact Below.refl _ _ | refine Below.setCell ?_ (by first | (simp; done) | (simp; omega) | omega) _ | refine Below.alloc ?_ (by first | (simp; done) | (simp; omega) | omega) _ | refine Below.drew ?_ | refine Below.trans ?_ (Below.mono (by assumption) (by first | (simp; done) | (simp; omega) | omega))))); have q2_0 : w.heap.size < w2.heap.size := (by omega); have r2_0 : Row w2 (w.heap.size) 24 #[.int .i64 now, .slice (some ad) n c] := row_call (by (repeat (first | assumption | (refine row_new ?_; (first | (simp; done) | omega)) | refine row_alloc ?_ _ | refine row_drew ?_ | refine row_call ?_ (by assumption)))) hb2; obtain ⟨c2_0a, c2_0b, f2_0a, f2_0b⟩ := row_two r2_0; have q2_1 : w.heap.size + 1 < w2.heap.size := (by omega); have r2_1 : Row w2 (w.heap.size + 1) 24 #[.int .i64 0, .slice none 0 0] := row_call (by (repeat (first | assumption | (refine row_new ?_; (first | (simp; done) | omega)) | refine row_alloc ?_ _ | refine row_drew ?_ | refine row_call ?_ (by assumption)))) hb2; obtain ⟨c2_1a, c2_1b, f2_1a, f2_1b⟩ := row_two r2_1; have d2 : w2.cell? ⟨g, 0, none⟩ = some (.int .i64 z0) := ((own2.cell (j := 0) (by omega)).trans (num_at HL.out (by omega) HZ0.out)); have d3 := own2.free 0; have hne : g ≠ w.heap.size := (by omega); have hne1 : g ≠ w.heap.size + 1 := (by omega)))
  have ow : Own (((w2.setCell ⟨g, 0, none⟩ (.int .i64 (z0 + v))).setCell ⟨w.heap.size + 1, 0, none⟩ (.int .i64 now)).setCell ⟨w.heap.size + 1, 1, none⟩ (.slice (some ⟨g, 0, none⟩) n c2)) 2 1 g n c2 (((zs.set 0 (z0 + v)).map (Value.int .i64))) := by
    rw [List.map_set]
    exact (((own2.set 0 (.int .i64 (z0 + v))).other (by simp; omega) _).other (by simp; omega) _)
  have ob : Below w.heap.size w (((w2.setCell ⟨g, 0, none⟩ (.int .i64 (z0 + v))).setCell ⟨w.heap.size + 1, 0, none⟩ (.int .i64 now)).setCell ⟨w.heap.size + 1, 1, none⟩ (.slice (some ⟨g, 0, none⟩) n c2)) := by (repeat (first | exact Below.refl _ _ | refine Below.setCell ?_ (by first | (simp; done) | (simp; omega) | omega) _ | refine Below.alloc ?_ (by first | (simp; done) | (simp; omega) | omega) _ | refine Below.drew ?_ | refine Below.trans ?_ (Below.mono (by assumption) (by first | (simp; done) | (simp; omega) | omega))))
  exact bodyPost_ret (v := .tuple #[.agg #[.int .i64 now, .slice (some ⟨g, 0, none⟩) n c2], .int .i64 0]) (by simp [results, Try.results17, go_sem, c2_1a, c2_1b, hne, hne.symm, hne1, hne1.symm]) rfl (hret_own ow HR.out.nowB (set_bound HR.out.zsB 0 (by omega)) ob (by omega))
theorem rhadd (now : Int) (A : Option Addr) (n c : Nat) (zs : List Int) (v : Int) (w : World) (hin : HIn now A n c zs w) : Calls Try.prog 17 #[.agg #[.int .i64 now, .slice A n c], .int .i64 v] w fun e w' => HRet (hadd now zs v) w e w' := by
  rcases hvalE_two (now := now) (zs := zs) with hv | hv
  · by_cases h0 : v < 0
    · exact rhadd_low now A n c zs v w hin hv h0
    · by_cases h1 : 4096 < v
      · exact rhadd_high now A n c zs v w hin hv h1
      · by_cases h2 : 1099511627776 < zs.getD 0 0 + v
        · exact rhadd_over now A n c zs v w hin hv (by omega) (by omega) h2
        · exact rhadd_ok now A n c zs v w hin hv (by omega) (by omega) (by omega)
  · exact rhadd_bad now A n c zs v w hin hv
end Go.Proofs.Ytpbhagikndamnaa
