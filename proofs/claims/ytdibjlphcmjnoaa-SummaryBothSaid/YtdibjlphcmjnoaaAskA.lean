/- Summaries of a stream: entries, walked. -/
import Derived.Test.YtdibjlphcmjnoaaSumF
import Derived.Test.YtdibjlphcmjnoaaSumR
import Derived.Test.YtdibjlphcmjnoaaMathSum6
import Derived.Test.YtdibjlphcmjnoaaSumW
set_option linter.unusedVariables false
set_option linter.unusedSimpArgs false
set_option linter.unusedSectionVars false
set_option linter.unnecessarySimpa false
namespace Go.Proofs.Ytdibjlphcmjnoaa
open Go.RowKit
theorem info_ent : (Try.prog.info? 56).map (fun i => (i.zero, i.size, i.bytes)) = some (some (.agg #[.int .i64 0, .int .i64 0, .int .i64 0]), 3, 24) := by kernel_rfl
theorem orow_less {w : World} {b base : Nat} {e : TypeId} {size : Nat} {v : Value} {n : Nat} {xs : List Value} (h : w.ownsRow base e size v n xs) (hb : b ≤ base) : w.ownsRow b e size v n xs := by
  refine ⟨h.1, ?_⟩
  rcases h.2 with hn | ⟨g, cap, cur, rfl, hg, rest⟩
  · exact .inl hn
  · exact .inr ⟨g, cap, cur, rfl, Nat.le_trans hb hg, rest⟩
set_option maxHeartbeats 2000000 in
theorem pentries (k cap n : Int) (A : Option Addr) (m c : Nat) (ts : List Tup) (w : World) (hin : SIn k cap n A m c ts w) (hv : svalE k cap n ts = 0) : Calls Try.prog 43 #[.agg #[.int .i64 k, .int .i64 cap, .int .i64 n, .slice A m c]] w (fun e w' => ∃ v, e = .returned v ∧ w'.ownsRow w.heap.size 56 3 v m (tcells (ents ts m)) ∧ Below w.heap.size w w') := by
  have HR := Lib.hid hin
  have hl := hin.len
  have EB := Lib.hid (fun i (hi : i < m) => ents_bound hv (i := i) (by rw [hl]; exact hi))
  have hmB : m ≤ 65536 := by have := of_svalE hv; rw [hl] at this; omega
  have hnB : n ≤ 1099511627776 := by have := of_svalE hv; omega
  obtain ⟨i0, hi0, iz0, iz1, iz2⟩ := info_parts info_ent
  clear hin hl hv
  have o : Below w.heap.size w (w.alloc (.cells #[.int .i64 k, .int .i64 cap, .int .i64 n, .slice A m c] 24)) := (Below.refl _ _).alloc (Nat.le_refl _) _
  go_enter Try.func43, Try.ntmps43
  go_wp2
  go_loopw [3, 4, 10] (fun v r i wr => ∃ j : Nat, j ≤ m ∧ i = .int .i64 (j : Nat) ∧ r = .int .i64 (gsum ts j) ∧ wr.ownsRow w.heap.size 56 3 v j (tcells (ents ts j)) ∧ Below w.heap.size w wr) (fun _ _ i _ => m - (intOf i).toNat)
  case atStart => exact ⟨0, by omega, rfl, rfl, World.ownsRow_nil _ _ _ _, o⟩
  case round =>
    clear o
    obtain ⟨j, hj, rfl, rfl, own, o⟩ := hrel
    by_cases hlt : j < m
    · obtain ⟨ad, rfl, hadb, ht0⟩ := HR.out.reads.tup hlt
      obtain ⟨p0, p1, p2⟩ := ht0.below o (by rw [block_of_add]; exact hadb)
      obtain ⟨b1, b2, b3, b4, b5, b6⟩ := EB.out j hlt
      have HE : RowKit.Hid (ents ts (j + 1) = ents ts j ++ [entAt ts j]) := Lib.hid (ents_succ ts j)
      have hea : entAt ts j = ⟨(tupAt ts j).v, gsum ts (j + 1), gsum ts (j + 1) + (tupAt ts j).d⟩ := rfl
      generalize (tupAt ts j).v = tv at p0 hea
      generalize (tupAt ts j).g = tg at p1 b5
      generalize (tupAt ts j).d = td at p2 hea b3 b4
      generalize gsum ts j = s0 at b5 b6 ⊢
      generalize hs1 : gsum ts (j + 1) = s1 at hea b1 b2 b5
      subst b5
      have HS1 := Lib.hid hs1
      have HEA := Lib.hid hea
      clear hs1 hea ht0
      have wa : IntKind.i64.wrap (s0 + tg) = s0 + tg := IntWalk.i64_in _ (by omega)
      have wb : IntKind.i64.wrap (s0 + tg + td) = s0 + tg + td := IntWalk.i64_in _ (by omega)
      have i1 : (j : Int) < (m : Int) := by omega
      have i2 : (0 : Int) ≤ (j : Int) := by omega
      go_upto_region 6 with (fail)
      have ti : Row (wr.alloc (.cells #[.int .i64 tv, .int .i64 tg, .int .i64 td] 66)) wr.heap.size 66 #[.int .i64 tv, .int .i64 tg, .int .i64 td] := row_new rfl
      replace own := own.alloc (.cells #[.int .i64 tv, .int .i64 tg, .int .i64 td] 66)
      replace o := o.alloc o.size (.cells #[.int .i64 tv, .int .i64 tg, .int .i64 td] 66)
      generalize wr.alloc (.cells #[.int .i64 tv, .int .i64 tg, .int .i64 td] 66) = w3 at own o ti ⊢
      generalize wr.heap.size = tb at ti ⊢
      clear p0 p1 p2
      obtain ⟨T0, T1, T2, Tf0, Tf1, Tf2⟩ := row_three ti
      have hbl := own.lt
      have OWN := Lib.hid own
      have zo := o.size
      clear own
      go_wp2_with (at_builtin; refine wpList_push rfl _ _ 44 rfl 56 i0 (.agg #[.int .i64 0, .int .i64 0, .int .i64 0]) 3 24 Try.underlying44 hi0 iz0 iz1 iz2 rfl (by decide) w.heap.size u3 j (tcells (ents ts j)) rfl OWN.out #[.int .i64 tv, .int .i64 (s0 + tg), .int .i64 (s0 + tg + td)] rfl rfl (by simp [Value.oneCell']) (by unfold maxLen; omega) (by omega) (by omega) ?_; intro g' c4 w9 own9 hg9 hat9 hgr9)
      have own : w9.ownsRow w.heap.size 56 3 (.slice (some ⟨g', 0, none⟩) (j + 1) c4) (j + 1) (tcells (ents ts (j + 1))) := by
        rw [HE.out, HEA.out, tcells_append]
        exact own9.row hg9
      replace o := below_grown (o.alloc o.size (.cells #[.int .i64 tv, .int .i64 (s0 + tg), .int .i64 (s0 + tg + td)] 56)) hgr9 (fun b e => (hbl b e).1) (by simp; omega)
      clear own9 hgr9 hat9 OWN ti zo
      go_wp2
      go_roundw
      case rel => exact ⟨j + 1, by omega, by go_num, by rw [HS1.out], own, o⟩
      case measure => simp [intOf]; omega
    · have i1 : ¬ (j : Int) < (m : Int) := by omega
      obtain rfl : j = m := by omega
      go_wp2
      go_ret
      exact ⟨_, rfl, own, o⟩
theorem pEntries_bad (k cap n : Int) (A : Option Addr) (m c : Nat) (ts : List Tup) (w : World) (hin : SIn k cap n A m c ts w) (hv : svalE k cap n ts = 2) : Calls Try.prog 25 #[.agg #[.int .i64 k, .int .i64 cap, .int .i64 n, .slice A m c]] w fun e w' => e = .returned (.tuple #[.slice none 0 0, .int .i64 2]) ∧ Below w.heap.size w w' := by
  have P := fun w1 (hb : Below w.heap.size w w1) => psval k cap n A m c ts w1 (hin.below hb)
  rw [hv] at P
  have P := Lib.hid P
  clear hin hv
  go_enter Try.func25, Try.ntmps25
  go_wp2_with (first | (go_at_call 19; with_reducible refine (P.out _ (by (repeat (first | exact Below.refl _ _ | refine Below.setCell ?_ (by first | (simp; done) | (simp; omega) | omega) _ | refine Below.alloc ?_ (by first | (simp; done) | (simp; omega) | omega) _ | refine Below.drew ?_ | refine Below.trans ?_ (Below.mono (by assumption) (by first | (simp; done) | (simp; omega) | omega)))))).mono ?_; rintro e w1 ⟨rfl, hb1⟩; have hz1 := hb1.size; (try simp at hz1); have o1 : Below w.heap.size w w1 := (by (repeat (first | exact Below.refl _ _ | refine Below.setCell ?_ (by first | (simp; done) | (simp; omega) | omega) _ | refine Below.alloc ?_ (by first | (simp; done) | (simp; omega) | omega) _ | refine Below.drew ?_ | refine Below.trans ?_ (Below.mono (by assumption) (by first | (simp; done) | (simp; omega) | omega))))); have q1_0 : w.heap.size < w1.heap.size := (by omega); have r1_0 : Row w1 (w.heap.size) 24 #[.int .i64 k, .int .i64 cap, .int .i64 n, .slice A m c] := row_call (by (repeat (first | assumption | (refine row_new ?_; (first | (simp; done) | omega)) | refine row_alloc ?_ _ | refine row_drew ?_ | refine row_call ?_ (by assumption)))) hb1; obtain ⟨c1_0a, c1_0b, c1_0c, c1_0d, f1_0a, f1_0b, f1_0c, f1_0d⟩ := row_four r1_0))
  go_ret2
  exact ⟨rfl, by (repeat (first | exact Below.refl _ _ | refine Below.setCell ?_ (by first | (simp; done) | (simp; omega) | omega) _ | refine Below.alloc ?_ (by first | (simp; done) | (simp; omega) | omega) _ | refine Below.drew ?_ | refine Below.trans ?_ (Below.mono (by assumption) (by first | (simp; done) | (simp; omega) | omega))))⟩
theorem pEntries_ok (k cap n : Int) (A : Option Addr) (m c : Nat) (ts : List Tup) (w : World) (hin : SIn k cap n A m c ts w) (hv : svalE k cap n ts = 0) : Calls Try.prog 25 #[.agg #[.int .i64 k, .int .i64 cap, .int .i64 n, .slice A m c]] w (fun e w' => ∃ v, e = .returned (.tuple #[v, .int .i64 0]) ∧ w'.ownsRow w.heap.size 56 3 v m (tcells (ents ts m)) ∧ Below w.heap.size w w') := by
  have P := fun w1 (hb : Below w.heap.size w w1) => psval k cap n A m c ts w1 (hin.below hb)
  rw [hv] at P
  have P := Lib.hid P
  have PE := Lib.hid (fun w1 (hb : Below w.heap.size w w1) => pentries k cap n A m c ts w1 (hin.below hb) hv)
  clear hin hv
  go_enter Try.func25, Try.ntmps25
  go_wp2_with (first | (go_at_call 19; with_reducible refine (P.out _ (by (repeat (first | exact Below.refl _ _ | refine Below.setCell ?_ (by first | (simp; done) | (simp; omega) | omega) _ | refine Below.alloc ?_ (by first | (simp; done) | (simp; omega) | omega) _ | refine Below.drew ?_ | refine Below.trans ?_ (Below.mono (by assumption) (by first | (simp; done) | (simp; omega) | omega)))))).mono ?_; rintro e w1 ⟨rfl, hb1⟩; have hz1 := hb1.size; (try simp at hz1); have o1 : Below w.heap.size w w1 := (by (repeat (first | exact Below.refl _ _ | refine Below.setCell ?_ (by first | (simp; done) | (simp; omega) | omega) _ | refine Below.alloc ?_ (by first | (simp; done) | (simp; omega) | omega) _ | refine Below.drew ?_ | refine Below.trans ?_ (Below.mono (by assumption) (by first | (simp; done) | (simp; omega) | omega))))); have q1_0 : w.heap.size < w1.heap.size := (by omega); have r1_0 : Row w1 (w.heap.size) 24 #[.int .i64 k, .int .i64 cap, .int .i64 n, .slice A m c] := row_call (by (repeat (first | assumption | (refine row_new ?_; (first | (simp; done) | omega)) | refine row_alloc ?_ _ | refine row_drew ?_ | refine row_call ?_ (by assumption)))) hb1; obtain ⟨c1_0a, c1_0b, c1_0c, c1_0d, f1_0a, f1_0b, f1_0c, f1_0d⟩ := row_four r1_0) | (go_at_call 43; with_reducible refine (PE.out _ (by exact o1)).mono ?_; rintro e w2 ⟨v, rfl, own, hb2⟩))
  go_ret2
  have z1 := o1.size
  exact ⟨v, rfl, orow_less own z1, o1.trans (hb2.mono z1)⟩
theorem rEntries_bad (k cap n : Int) (A : Option Addr) (m c : Nat) (ts : List Tup) (w : World) (hin : SIn k cap n A m c ts w) (hv : svalE k cap n ts = 2) : Calls Try.prog 26 #[.agg #[.int .i64 k, .int .i64 cap, .int .i64 n, .slice A m c]] w fun e w' => e = .returned (.tuple #[.slice none 0 0, .int .i64 2]) ∧ Below w.heap.size w w' := by
  have P := fun w1 (hb : Below w.heap.size w w1) => rsval k cap n A m c ts w1 (hin.below hb)
  rw [hv] at P
  have P := Lib.hid P
  clear hin hv
  go_enter Try.func26, Try.ntmps26
  go_wp2_with (first | (go_at_call 20; with_reducible refine (P.out _ (by (repeat (first | exact Below.refl _ _ | refine Below.setCell ?_ (by first | (simp; done) | (simp; omega) | omega) _ | refine Below.alloc ?_ (by first | (simp; done) | (simp; omega) | omega) _ | refine Below.drew ?_ | refine Below.trans ?_ (Below.mono (by assumption) (by first | (simp; done) | (simp; omega) | omega)))))).mono ?_; rintro e w1 ⟨rfl, hb1⟩; have hz1 := hb1.size; (try simp at hz1); have o1 : Below w.heap.size w w1 := (by (repeat (first | exact Below.refl _ _ | refine Below.setCell ?_ (by first | (simp; done) | (simp; omega) | omega) _ | refine Below.alloc ?_ (by first | (simp; done) | (simp; omega) | omega) _ | refine Below.drew ?_ | refine Below.trans ?_ (Below.mono (by assumption) (by first | (simp; done) | (simp; omega) | omega))))); have q1_0 : w.heap.size < w1.heap.size := (by omega); have r1_0 : Row w1 (w.heap.size) 24 #[.int .i64 k, .int .i64 cap, .int .i64 n, .slice A m c] := row_call (by (repeat (first | assumption | (refine row_new ?_; (first | (simp; done) | omega)) | refine row_alloc ?_ _ | refine row_drew ?_ | refine row_call ?_ (by assumption)))) hb1; obtain ⟨c1_0a, c1_0b, c1_0c, c1_0d, f1_0a, f1_0b, f1_0c, f1_0d⟩ := row_four r1_0))
  go_ret2
  exact ⟨rfl, by (repeat (first | exact Below.refl _ _ | refine Below.setCell ?_ (by first | (simp; done) | (simp; omega) | omega) _ | refine Below.alloc ?_ (by first | (simp; done) | (simp; omega) | omega) _ | refine Below.drew ?_ | refine Below.trans ?_ (Below.mono (by assumption) (by first | (simp; done) | (simp; omega) | omega))))⟩
set_option maxHeartbeats 2000000 in
theorem rEntries_ok (k cap n : Int) (A : Option Addr) (m c : Nat) (ts : List Tup) (w : World) (hin : SIn k cap n A m c ts w) (hv : svalE k cap n ts = 0) : Calls Try.prog 26 #[.agg #[.int .i64 k, .int .i64 cap, .int .i64 n, .slice A m c]] w (fun e w' => ∃ v, e = .returned (.tuple #[v, .int .i64 0]) ∧ w'.ownsRow w.heap.size 56 3 v m (tcells (ents ts m)) ∧ Below w.heap.size w w') := by
  have P := fun w1 (hb : Below w.heap.size w w1) => rsval k cap n A m c ts w1 (hin.below hb)
  rw [hv] at P
  have P := Lib.hid P
  have HR := Lib.hid hin
  have hl := hin.len
  have EB := Lib.hid (fun i (hi : i < m) => ents_bound hv (i := i) (by rw [hl]; exact hi))
  have hmB : m ≤ 65536 := by have := of_svalE hv; rw [hl] at this; omega
  have hnB : n ≤ 1099511627776 := by have := of_svalE hv; omega
  obtain ⟨i0, hi0, iz0, iz1, iz2⟩ := info_parts info_ent
  clear hin hl hv
  go_enter Try.func26, Try.ntmps26
  go_wp2_with (first | (go_at_call 20; with_reducible refine (P.out _ (by (repeat (first | exact Below.refl _ _ | refine Below.setCell ?_ (by first | (simp; done) | (simp; omega) | omega) _ | refine Below.alloc ?_ (by first | (simp; done) | (simp; omega) | omega) _ | refine Below.drew ?_ | refine Below.trans ?_ (Below.mono (by assumption) (by first | (simp; done) | (simp; omega) | omega)))))).mono ?_; rintro e w1 ⟨rfl, hb1⟩; have hz1 := hb1.size; (try simp at hz1); have o1 : Below w.heap.size w w1 := (by (repeat (first | exact Below.refl _ _ | refine Below.setCell ?_ (by first | (simp; done) | (simp; omega) | omega) _ | refine Below.alloc ?_ (by first | (simp; done) | (simp; omega) | omega) _ | refine Below.drew ?_ | refine Below.trans ?_ (Below.mono (by assumption) (by first | (simp; done) | (simp; omega) | omega))))); have q1_0 : w.heap.size < w1.heap.size := (by omega); have r1_0 : Row w1 (w.heap.size) 24 #[.int .i64 k, .int .i64 cap, .int .i64 n, .slice A m c] := row_call (by (repeat (first | assumption | (refine row_new ?_; (first | (simp; done) | omega)) | refine row_alloc ?_ _ | refine row_drew ?_ | refine row_call ?_ (by assumption)))) hb1; obtain ⟨c1_0a, c1_0b, c1_0c, c1_0d, f1_0a, f1_0b, f1_0c, f1_0d⟩ := row_four r1_0))
  have o := o1
  clear r1_0 o1 hb1 c1_0a c1_0b c1_0c c1_0d f1_0a f1_0b f1_0c f1_0d P
  go_loopw [5, 6, 17] (fun v r i wr => ∃ j : Nat, j ≤ m ∧ i = .int .i64 (j : Nat) ∧ r = .int .i64 (gsum ts j) ∧ wr.ownsRow w.heap.size 56 3 v j (tcells (ents ts j)) ∧ Below w.heap.size w wr) (fun _ _ i _ => m - (intOf i).toNat)
  case atStart => exact ⟨0, by omega, rfl, rfl, World.ownsRow_nil _ _ _ _, o⟩
  case round =>
    clear o
    obtain ⟨j, hj, rfl, rfl, own, o⟩ := hrel
    by_cases hlt : j < m
    · obtain ⟨ad, rfl, hadb, ht0⟩ := HR.out.reads.tup hlt
      obtain ⟨p0, p1, p2⟩ := ht0.below o (by rw [block_of_add]; exact hadb)
      obtain ⟨b1, b2, b3, b4, b5, b6⟩ := EB.out j hlt
      have HE : RowKit.Hid (ents ts (j + 1) = ents ts j ++ [entAt ts j]) := Lib.hid (ents_succ ts j)
      have hea : entAt ts j = ⟨(tupAt ts j).v, gsum ts (j + 1), gsum ts (j + 1) + (tupAt ts j).d⟩ := rfl
      generalize (tupAt ts j).v = tv at p0 hea
      generalize (tupAt ts j).g = tg at p1 b5
      generalize (tupAt ts j).d = td at p2 hea b3 b4
      generalize gsum ts j = s0 at b5 b6 ⊢
      generalize hs1 : gsum ts (j + 1) = s1 at hea b1 b2 b5
      subst b5
      have HS1 := Lib.hid hs1
      have HEA := Lib.hid hea
      clear hs1 hea ht0
      have wa : IntKind.i64.wrap (s0 + tg) = s0 + tg := IntWalk.i64_in _ (by omega)
      have wb : IntKind.i64.wrap (s0 + tg + td) = s0 + tg + td := IntWalk.i64_in _ (by omega)
      have i1 : (j : Int) < (m : Int) := by omega
      have i2 : (0 : Int) ≤ (j : Int) := by omega
      go_upto_region 9 with (fail)
      have ti : Row (wr.alloc (.cells #[.int .i64 tv, .int .i64 tg, .int .i64 td] 66)) wr.heap.size 66 #[.int .i64 tv, .int .i64 tg, .int .i64 td] := row_new rfl
      replace own := own.alloc (.cells #[.int .i64 tv, .int .i64 tg, .int .i64 td] 66)
      replace o := o.alloc o.size (.cells #[.int .i64 tv, .int .i64 tg, .int .i64 td] 66)
      generalize wr.alloc (.cells #[.int .i64 tv, .int .i64 tg, .int .i64 td] 66) = w3 at own o ti ⊢
      generalize wr.heap.size = tb at ti ⊢
      clear p0 p1 p2
      obtain ⟨T0, T1, T2, Tf0, Tf1, Tf2⟩ := row_three ti
      have hbl := own.lt
      have OWN := Lib.hid own
      have zo := o.size
      clear own
      go_wp2_with (at_builtin; refine wpList_push rfl _ _ 44 rfl 56 i0 (.agg #[.int .i64 0, .int .i64 0, .int .i64 0]) 3 24 Try.underlying44 hi0 iz0 iz1 iz2 rfl (by decide) w.heap.size u5 j (tcells (ents ts j)) rfl OWN.out #[.int .i64 tv, .int .i64 (s0 + tg), .int .i64 (s0 + tg + td)] rfl rfl (by simp [Value.oneCell']) (by unfold maxLen; omega) (by omega) (by omega) ?_; intro g' c4 w9 own9 hg9 hat9 hgr9)
      have own : w9.ownsRow w.heap.size 56 3 (.slice (some ⟨g', 0, none⟩) (j + 1) c4) (j + 1) (tcells (ents ts (j + 1))) := by
        rw [HE.out, HEA.out, tcells_append]
        exact own9.row hg9
      replace o := below_grown (o.alloc o.size (.cells #[.int .i64 tv, .int .i64 (s0 + tg), .int .i64 (s0 + tg + td)] 56)) hgr9 (fun b e => (hbl b e).1) (by simp; omega)
      clear own9 hgr9 hat9 OWN ti zo
      go_wp2
      go_roundw
      case rel => exact ⟨j + 1, by omega, by go_num, by rw [HS1.out], own, o⟩
      case measure => simp [intOf]; omega
    · have i1 : ¬ (j : Int) < (m : Int) := by omega
      obtain rfl : j = m := by omega
      go_wp2
      go_ret2
      exact ⟨_, rfl, own, o⟩
end Go.Proofs.Ytdibjlphcmjnoaa
