/- The law HalveSplit of the given program: for every input the call returns true, and each argument reads behind the call as it read before. No conditions. -/
import Derived.Test.YtpbhagikndamnaaHalveK
import Derived.Test.YtpbhagikndamnaaRows
import Derived.Test.YtpbhagikndamnaaBase
import Derived.Test.YtpbhagikndamnaaStay
import Derived.ProofKit
import Derived.Lib.SmallJoins
import Derived.SizedLaws
import Derived.Carry
import Derived.Deep.Slices
import Derived.Deep.Fields
namespace Go.Proofs.Ytpbhagikndamnaa.lHalveSplit
open Go.ChangeShapes Go.WideShapes Go.ChangeAt Go.RowKit Go.Joins Go.WideMaps Go.WideElems Go.Deep

theorem own : ownKnob Try.prog.godebug = none := by kernel_rfl
theorem i64_of_wf {x : Int} (h : (Lit.int .i64 x).wf = true) : -9223372036854775808 ≤ x ∧ x ≤ 9223372036854775807 := by
  simp [Lit.wf, IntKind.min, IntKind.max, IntKind.signed, IntKind.bits] at h
  exact ⟨by omega, by omega⟩
theorem laid_out : laidOutB Try.prog = true := by kernel_rfl
theorem cellsH : Try.prog.cellsOf 24 = 2 := by kernel_rfl
theorem cellsI : Try.prog.cellsOf 2 = 1 := by kernel_rfl
section
variable {H : Type} {enc : TypeId × Value → H} {W : World}
theorem hin_open {now : Int} {m : Nat} {v : Value} {y : DataW H × List MemPlace} (h0 : -9223372036854775808 ≤ now ∧ now ≤ 9223372036854775807) (h : DataW.trod enc Try.prog W 0 (fun _ => true) true m 22 [v] = some y) :
    ∃ A n c zs, v = .slice A n c ∧ HIn now A n c zs W := by
  rcases open_ints Try.underlying22 Try.underlying2 cellsI h with ⟨h1, _⟩ | ⟨a, len, cap, zs, h1, _, hl, hc, hz, _, hcell, hwf⟩
  · obtain rfl : v = .slice none 0 0 := by simpa using h1
    exact ⟨none, 0, 0, [], rfl, by simpa using Reads.none_, h0, by simp [List.getD], Nat.le_refl _, Nat.zero_le _⟩
  · obtain rfl : v = .slice (some a) len cap := by simpa using h1
    simp only [if_true] at hz
    have hb : ∀ k, -9223372036854775808 ≤ (zs.take len).getD k 0 ∧ (zs.take len).getD k 0 ≤ 9223372036854775807 := by
      intro k
      rw [List.getD_eq_getElem?_getD, List.getElem?_take]
      split
      · by_cases hk : k < zs.length
        · rw [List.getElem?_eq_getElem hk]
          exact i64_of_wf (hwf _ (List.getElem_mem hk))
        · rw [List.getElem?_eq_none (by omega)]
          exact ⟨by simp, by simp⟩
      · exact ⟨by simp, by simp⟩
    refine ⟨some a, len, cap, zs.take len, rfl, ⟨by simp; omega, fun h0 => ⟨a, rfl, ?_, fun j u hu => ?_⟩⟩, h0, hb, hl, hc⟩
    · have := World.block_lt_of_cell? W _ (hcell 0 (by omega))
      rw [block_add] at this
      exact this
    · simp only [List.getElem?_map, List.getElem?_take] at hu
      split at hu
      · rename_i hj
        rw [List.getElem?_eq_getElem (by omega)] at hu
        simp at hu
        subst hu
        rw [hcell j (by omega)]
        simp [List.getD, show j < zs.length by omega]
      · cases hu
end
theorem readable : (Try.f6.params.toList.all fun t => Try.prog.readableRec t && decide (t < Try.prog.types.size)) = true := by kernel_rfl
set_option maxRecDepth 100000 in
theorem lifted (os : Os) (started : os.Started) (H : Type) (enc : TypeId × Value → H) :
    ReturnsInHanded {} Try.checked os 6 .any (Rows.halveSplitSpec.pre6 enc Try.prog Try.f6 Rows.halveSplitRow.domain false) (Rows.halveSplitSpec.post enc Try.prog Try.f6 false true false false) := by
  refine returnsInHanded_of_change (C := Try.checked) own started (by kernel_rfl) Try.func6
    (ChangeSpec.witness6 (enc := enc) (C := Try.checked) false ⟨#[], #[.agg #[.int .i64 0, .slice none 0 0], .int .i64 0, .int .i64 0], []⟩ 8 (by kernel_rfl) (by kernel_rfl) (by kernel_rfl) (by kernel_rfl)) ?_
  intro W base args ds gs before hval0 hW hcnd _
  have hval : ∀ (j : Nat) t v, Try.f6.params[j]? = some t → args[j]? = some v → Value.okWide Try.prog W .any base t v := hval0
  have hW' := hW
  obtain ⟨p, q, hA0, hV, rfl, hfz, hnd⟩ := hW
  have hA : DataW.TrodAll enc Try.prog W 0 (fun _ => true) true Try.f6.params.toList args.toList ds p := hA0
  have hAA := hA
  rw [Try.params6] at hA hval
  obtain ⟨v0, v1, v2, d0, d1, d2, p0, p1, p2, rfl, rfl, rfl, h0, h1, h2⟩ := trodAll_three hA
  obtain ⟨rfl, rfl⟩ := trodVars_none hV
  obtain ⟨a0, b0, y00, y01, m0, rfl, rfl, _, hy00, hy01⟩ := open_agg2 Try.underlying24 (by kernel_rfl) cellsH (hval 0 24 v0 rfl rfl) h0
  obtain ⟨x0, ea0, _, wx0⟩ := DataW.trod_int Try.underlying2 hy00
  simp at ea0
  subst ea0
  obtain ⟨A0, n0, c0, zs0, rfl, hin0⟩ := hin_open (i64_of_wf wx0) hy01
  obtain ⟨x1, rfl, rfl, rfl, wx1⟩ := open_int Try.underlying2 (hval 1 2 v1 rfl rfl) h1
  obtain ⟨x2, rfl, rfl, rfl, wx2⟩ := open_int Try.underlying2 (hval 2 2 v2 rfl rfl) h2
  clear hA0 hval0
  refine (halveSplit x0 A0 n0 c0 zs0 x1 x2 W hin0).mono fun e W' ⟨he, hb⟩ => ?_
  subst he
  refine ⟨_, rfl, post_of_below (pa := _) (pv := []) hW' (fun _ _ _ => trodAll_mk1 (shut_bool Try.underlying4 _)) (fun sp hsp => ?_) (fun _ _ => rfl) rfl hb (ok_one (by kernel_rfl) rfl (okWide_bool_mk Try.underlying4 _))⟩
  exact trodAll_stays laid_out hb (fun t ht => by have := List.all_eq_true.1 readable t ht; simpa using this) hAA (fun x hx => hW'.lt x (List.mem_append_left _ hx)) (fun x hx => hsp x (List.mem_append_left _ hx))

theorem holds : Rows.HalveSplitSaid :=
  OpenClaim.holds_of_wide 6 Try.f6 rfl rfl rfl rfl rfl rfl rfl ⟨rfl, rfl, rfl, rfl, rfl⟩ rfl rfl rfl rfl rfl (by kernel_rfl) Try.func6 (by kernel_rfl)
    (of_decide_eq_true (by kernel_rfl)) (by unfold Func.isWrapper; first | (rw [if_pos (by decide +kernel)]; kernel_rfl) | (rw [if_neg (by decide +kernel)]; exact ⟨rfl, rfl⟩))
    (fun os started H enc _ => lifted os started H enc)
#print axioms holds
end Go.Proofs.Ytpbhagikndamnaa.lHalveSplit
