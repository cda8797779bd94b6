/- The items that the laws on summaries make out of any numbers, walked. -/
import Derived.Test.YtdibjlphcmjnoaaItm
set_option linter.unusedVariables false
set_option linter.unusedSimpArgs false
set_option linter.unusedSectionVars false
set_option linter.unnecessarySimpa false
namespace Go.Proofs.Ytdibjlphcmjnoaa
open Go.RowKit
/-- Any numbers as an argument. -/
structure NIn (A : Option Addr) (m c : Nat) (l : List Int) (w : World) : Prop where
  reads : Reads w w.heap.size 1 A m (l.map (Value.int .i64))
  vB : ∀ i, -9223372036854775808 ≤ l.getD i 0 ∧ l.getD i 0 ≤ 9223372036854775807
  mc : m ≤ c
  cB : c ≤ maxLen
theorem NIn.below {A : Option Addr} {m c : Nat} {l : List Int} {w w' : World} (h : NIn A m c l w) (hb : Below w.heap.size w w') : NIn A m c l w' := ⟨(h.reads.below hb).more hb.size, h.vB, h.mc, h.cB⟩
/-- The items of values, at tick 0. -/
def vitems (vs : List Int) : List Itm := vs.map fun v => ⟨0, v⟩
theorem vitems_len (vs : List Int) : (vitems vs).length = vs.length := by unfold vitems; simp
theorem vitems_at {vs : List Int} {i : Nat} (h : i < vs.length) : itmAt (vitems vs) i = ⟨0, vs.getD i 0⟩ := by
  unfold vitems itmAt
  rw [List.getD_eq_getElem?_getD, List.getD_eq_getElem?_getD, List.getElem?_map, List.getElem?_eq_getElem h]
  rfl
theorem vitems_append (a b : List Int) : vitems (a ++ b) = vitems a ++ vitems b := by unfold vitems; simp
theorem Reads.of_own' {w : World} {base : Nat} {e : TypeId} {size n : Nat} {v : Value} {xs : List Value} (h : w.ownsRow base e size v n xs) : ∃ A c, v = .slice A n c ∧ Reads w w.heap.size size A n xs ∧ ∀ ad, A = some ad → base ≤ ad.block := by
  have hv : ∃ A c, v = .slice A n c ∧ ∀ ad, A = some ad → base ≤ ad.block := by
    rcases h.2 with ⟨h1, h2⟩ | ⟨g, cap, cur, h1, h2, _⟩
    · exact ⟨none, 0, by rw [h1, h2], fun ad e => by cases e⟩
    · exact ⟨_, _, h1, fun ad e => by cases e; exact h2⟩
  obtain ⟨A, c, rfl, hb⟩ := hv
  exact ⟨A, c, rfl, Reads.of_own h, hb⟩
theorem Reads.other {w : World} {B size n : Nat} {A : Option Addr} {xs : List Value} (h : Reads w B size A n xs) {p : Addr} (hp : ∀ a, A = some a → a.block ≠ p.block) (v : Value) : Reads (w.setCell p v) B size A n xs := by
  refine ⟨h.1, fun hn => ?_⟩
  obtain ⟨ad, e, hb, hc⟩ := h.2 hn
  refine ⟨ad, e, hb, fun j u hu => ?_⟩
  rw [World.cell?_setCell_other w p _ v (fun x => hp ad e (by rw [x, block_of_add]))]
  exact hc j u hu
theorem Reads.row4 {w : World} {B size n b : Nat} {A : Option Addr} {xs : List Value} (h : Reads w B size A n xs) (hp : ∀ a, A = some a → a.block ≠ b) (u0 u1 u2 u3 : Value) : Reads ((((w.setCell ⟨b, 0, none⟩ u0).setCell ⟨b, 1, none⟩ u1).setCell ⟨b, 2, none⟩ u2).setCell ⟨b, 3, none⟩ u3) B size A n xs :=
  (((h.other (p := ⟨b, 0, none⟩) hp u0).other (p := ⟨b, 1, none⟩) hp u1).other (p := ⟨b, 2, none⟩) hp u2).other (p := ⟨b, 3, none⟩) hp u3
/-- What the making of items leaves. -/
def VRet (most : Nat) (w : World) (e : Ending) (w' : World) : Prop :=
  ∃ (v : Value) (vs : List Int), e = .returned v ∧ w'.ownsRow w.heap.size 41 2 v vs.length (icells (vitems vs)) ∧ vs.length ≤ most ∧ (∀ x ∈ vs, -4096 ≤ x ∧ x ≤ 4096) ∧ Below w.heap.size w w'
set_option maxHeartbeats 2000000 in
theorem pvalues (A : Option Addr) (m c : Nat) (l : List Int) (most : Nat) (w : World) (hin : NIn A m c l w) (hmost : most ≤ 100000) :
    Calls Try.prog 22 #[.slice A m c, .int .i64 most] w (VRet most w) := by
  have HR := Lib.hid hin
  have hmB : m ≤ 9223372036854775807 := by have := hin.mc; have := hin.cB; unfold maxLen at *; omega
  obtain ⟨i1, hi1, iz0, iz1, iz2⟩ := info_parts info_itm
  clear hin
  go_enter Try.func22, Try.ntmps22
  go_wp2
  go_loopw [5, 6] (fun v i wr => ∃ vs : List Int, vs.length ≤ m ∧ vs.length ≤ most ∧ i = .int .i64 (vs.length : Nat) ∧ wr.ownsRow w.heap.size 41 2 v vs.length (icells (vitems vs)) ∧ RowKit.Hid (∀ x ∈ vs, -4096 ≤ x ∧ x ≤ 4096) ∧ Below w.heap.size w wr) (fun _ i _ => m - (intOf i).toNat)
  case atStart => exact ⟨[], by simp, by simp, rfl, World.ownsRow_nil _ _ _ _, Lib.hid (by simp), Below.refl _ _⟩
  case round =>
    obtain ⟨vs, hk1, hk2, rfl, own, HM, hb⟩ := hrel
    generalize hk : vs.length = k at hk1 hk2 own ⊢
    have HK := Lib.hid hk
    clear hk
    by_cases hlt : k < m
    · by_cases hlt2 : k < most
      · obtain ⟨ad, rfl, hadb, hi0⟩ := HR.out.reads.num hlt
        have c0 := (hb.cell (by rw [block_of_add]; exact hadb)).trans hi0
        have vB := HR.out.vB k
        have PV := Lib.hid (fun w => pval (l.getD k 0) vB w)
        have wB := mval_bd (l.getD k 0)
        generalize mval (l.getD k 0) = v at PV wB
        generalize l.getD k 0 = rv at c0 PV
        have HM2 : RowKit.Hid (∀ x ∈ vs ++ [v], -4096 ≤ x ∧ x ≤ 4096) := Lib.hid (fun x hx => (List.mem_append.1 hx).elim (HM.out x) (fun h => by have e : x = v := (by simpa using h); rw [e]; exact wB))
        obtain ⟨wB0, wB1⟩ := wB
        have i2 : (k : Int) < (m : Int) := by omega
        have i3 : (k : Int) < (most : Int) := by omega
        have i4 : (0 : Int) ≤ (k : Int) := by omega
        have hbl := own.lt
        have OWN := Lib.hid own
        have zb := hb.size
        clear hi0 vB own
        go_wp2_with (first | (go_at_call 41; with_reducible refine (PV.out _).mono ?_; rintro e w9 ⟨rfl, rfl⟩) | (at_builtin; refine wpList_push rfl _ _ 38 rfl 41 i1 (.agg #[.int .i64 0, .int .i64 0]) 2 16 Try.underlying38 hi1 iz0 iz1 iz2 rfl (by decide) w.heap.size u5 k (icells (vitems vs)) rfl OWN.out #[.int .i64 0, .int .i64 v] rfl rfl (by simp [Value.oneCell']) (by unfold maxLen; omega) (by omega) zb ?_; intro g' c4 w8 own8 hg8 hat8 hgr8))
        have L8 : w8.ownsRow w.heap.size 41 2 (.slice (some ⟨g', 0, none⟩) (k + 1) c4) (vs ++ [v]).length (icells (vitems (vs ++ [v]))) := by
          rw [vitems_append, icells_append, List.length_append, HK.out]
          exact own8.row hg8
        have L9 : Below w.heap.size w w8 := below_grown (hb.alloc zb _) hgr8 (fun b e => (hbl b e).1) (by simp; omega)
        have hlen : (vs ++ [v]).length = k + 1 := by rw [List.length_append, HK.out]; rfl
        clear own8 hgr8 hat8
        go_roundw
        case rel => exact ⟨vs ++ [v], by omega, by omega, by rw [hlen]; go_num, L8, HM2, L9⟩
        case measure => simp [intOf]; omega
      · have i2 : (k : Int) < (m : Int) := by omega
        have i3 : ¬ (k : Int) < (most : Int) := by omega
        go_wp2
        go_ret
        exact ⟨_, vs, rfl, by rw [HK.out]; exact own, by rw [HK.out]; omega, HM.out, hb⟩
    · have i2 : ¬ (k : Int) < (m : Int) := by omega
      go_wp2
      go_ret
      exact ⟨_, vs, rfl, by rw [HK.out]; exact own, by rw [HK.out]; omega, HM.out, hb⟩
end Go.Proofs.Ytdibjlphcmjnoaa
