/- What the law TopTwoWays needs, joined of its texts by a program (slim.py); part 5. -/
import Derived.Test.YtdipoojjlddohaaGreatZTopTwoWays4
section
/- Synopses of kind Smooth: the fields of all other kinds are zero, walked. -/
set_option linter.unusedVariables false
set_option linter.unusedSimpArgs false
set_option linter.unusedSectionVars false
set_option linter.unnecessarySimpa false
namespace Go.Proofs.YtdipoojjlddohaaGreat
open Go.RowKit
set_option maxRecDepth 100000 in
set_option maxHeartbeats 8000000 in
theorem poSmooth (A : Option Addr) (m c : Nat) (agg wd k cap now seq : Int) (w : World) : Calls Tryz.prog 132 #[.agg #[.int .i64 4, .int .i64 agg, .int .i64 wd, .int .i64 k, .int .i64 cap, .int .i64 0, .int .i64 0, .int .i64 0, .int .i64 0, .int .i64 0, .int .i64 0, .slice none 0 0, .int .i64 0, .int .i64 0, .int .i64 0, .int .i64 0, .slice none 0 0, .int .i64 0, .int .i64 0, .int .i64 0, .int .i64 0, .int .i64 0, .slice none 0 0, .int .i64 agg, .int .i64 wd, .int .i64 k, .int .i64 cap, .int .i64 now, .int .i64 seq, .slice A m c, .int .i64 0, .int .i64 0, .int .i64 0, .int .i64 0, .int .i64 0, .slice none 0 0, .int .i64 0, .int .i64 0, .int .i64 0, .slice none 0 0, .int .i64 0, .slice none 0 0, .bool false, .int .i64 0, .int .i64 0, .int .i64 0, .slice none 0 0, .slice none 0 0, .int .i64 0, .int .i64 0, .int .i64 0, .slice none 0 0, .int .i64 0, .int .i64 0, .int .i64 0, .int .i64 0, .slice none 0 0]] w fun e w' => e = .returned (.bool true) ∧ Below w.heap.size w w' := by
  go_enter Tryz.func132, Tryz.ntmps132
  go_upto_region 1 with (fail)
  have X : Row (w.alloc (.cells #[.int .i64 4, .int .i64 agg, .int .i64 wd, .int .i64 k, .int .i64 cap, .int .i64 0, .int .i64 0, .int .i64 0, .int .i64 0, .int .i64 0, .int .i64 0, .slice none 0 0, .int .i64 0, .int .i64 0, .int .i64 0, .int .i64 0, .slice none 0 0, .int .i64 0, .int .i64 0, .int .i64 0, .int .i64 0, .int .i64 0, .slice none 0 0, .int .i64 agg, .int .i64 wd, .int .i64 k, .int .i64 cap, .int .i64 now, .int .i64 seq, .slice A m c, .int .i64 0, .int .i64 0, .int .i64 0, .int .i64 0, .int .i64 0, .slice none 0 0, .int .i64 0, .int .i64 0, .int .i64 0, .slice none 0 0, .int .i64 0, .slice none 0 0, .bool false, .int .i64 0, .int .i64 0, .int .i64 0, .slice none 0 0, .slice none 0 0, .int .i64 0, .int .i64 0, .int .i64 0, .slice none 0 0, .int .i64 0, .int .i64 0, .int .i64 0, .int .i64 0, .slice none 0 0] 58)) w.heap.size 58 #[.int .i64 4, .int .i64 agg, .int .i64 wd, .int .i64 k, .int .i64 cap, .int .i64 0, .int .i64 0, .int .i64 0, .int .i64 0, .int .i64 0, .int .i64 0, .slice none 0 0, .int .i64 0, .int .i64 0, .int .i64 0, .int .i64 0, .slice none 0 0, .int .i64 0, .int .i64 0, .int .i64 0, .int .i64 0, .int .i64 0, .slice none 0 0, .int .i64 agg, .int .i64 wd, .int .i64 k, .int .i64 cap, .int .i64 now, .int .i64 seq, .slice A m c, .int .i64 0, .int .i64 0, .int .i64 0, .int .i64 0, .int .i64 0, .slice none 0 0, .int .i64 0, .int .i64 0, .int .i64 0, .slice none 0 0, .int .i64 0, .slice none 0 0, .bool false, .int .i64 0, .int .i64 0, .int .i64 0, .slice none 0 0, .slice none 0 0, .int .i64 0, .int .i64 0, .int .i64 0, .slice none 0 0, .int .i64 0, .int .i64 0, .int .i64 0, .int .i64 0, .slice none 0 0] := row_new rfl
  have o : Below w.heap.size w (w.alloc (.cells #[.int .i64 4, .int .i64 agg, .int .i64 wd, .int .i64 k, .int .i64 cap, .int .i64 0, .int .i64 0, .int .i64 0, .int .i64 0, .int .i64 0, .int .i64 0, .slice none 0 0, .int .i64 0, .int .i64 0, .int .i64 0, .int .i64 0, .slice none 0 0, .int .i64 0, .int .i64 0, .int .i64 0, .int .i64 0, .int .i64 0, .slice none 0 0, .int .i64 agg, .int .i64 wd, .int .i64 k, .int .i64 cap, .int .i64 now, .int .i64 seq, .slice A m c, .int .i64 0, .int .i64 0, .int .i64 0, .int .i64 0, .int .i64 0, .slice none 0 0, .int .i64 0, .int .i64 0, .int .i64 0, .slice none 0 0, .int .i64 0, .slice none 0 0, .bool false, .int .i64 0, .int .i64 0, .int .i64 0, .slice none 0 0, .slice none 0 0, .int .i64 0, .int .i64 0, .int .i64 0, .slice none 0 0, .int .i64 0, .int .i64 0, .int .i64 0, .int .i64 0, .slice none 0 0] 58)) := by (repeat (first | exact Below.refl _ _ | refine Below.setCell ?_ (by first | (simp; done) | (simp; omega) | omega) _ | refine Below.alloc ?_ (by first | (simp; done) | (simp; omega) | omega) _ | refine Below.drew ?_ | refine Below.trans ?_ (Below.mono (by assumption) (by first | (simp; done) | (simp; omega) | omega))))
  generalize w.alloc (.cells #[.int .i64 4, .int .i64 agg, .int .i64 wd, .int .i64 k, .int .i64 cap, .int .i64 0, .int .i64 0, .int .i64 0, .int .i64 0, .int .i64 0, .int .i64 0, .slice none 0 0, .int .i64 0, .int .i64 0, .int .i64 0, .int .i64 0, .slice none 0 0, .int .i64 0, .int .i64 0, .int .i64 0, .int .i64 0, .int .i64 0, .slice none 0 0, .int .i64 agg, .int .i64 wd, .int .i64 k, .int .i64 cap, .int .i64 now, .int .i64 seq, .slice A m c, .int .i64 0, .int .i64 0, .int .i64 0, .int .i64 0, .int .i64 0, .slice none 0 0, .int .i64 0, .int .i64 0, .int .i64 0, .slice none 0 0, .int .i64 0, .slice none 0 0, .bool false, .int .i64 0, .int .i64 0, .int .i64 0, .slice none 0 0, .slice none 0 0, .int .i64 0, .int .i64 0, .int .i64 0, .slice none 0 0, .int .i64 0, .int .i64 0, .int .i64 0, .int .i64 0, .slice none 0 0] 58) = w1 at X o ⊢
  have k0 : w1.cell? ⟨w.heap.size, 0, none⟩ = some (.int .i64 4) := row_cell X 0
  go_upto_region 2 with (fail)
  clear k0
  refine wp_region_phase 19 (fun w' => Row w' w.heap.size 58 #[.int .i64 4, .int .i64 agg, .int .i64 wd, .int .i64 k, .int .i64 cap, .int .i64 0, .int .i64 0, .int .i64 0, .int .i64 0, .int .i64 0, .int .i64 0, .slice none 0 0, .int .i64 0, .int .i64 0, .int .i64 0, .int .i64 0, .slice none 0 0, .int .i64 0, .int .i64 0, .int .i64 0, .int .i64 0, .int .i64 0, .slice none 0 0, .int .i64 agg, .int .i64 wd, .int .i64 k, .int .i64 cap, .int .i64 now, .int .i64 seq, .slice A m c, .int .i64 0, .int .i64 0, .int .i64 0, .int .i64 0, .int .i64 0, .slice none 0 0, .int .i64 0, .int .i64 0, .int .i64 0, .slice none 0 0, .int .i64 0, .slice none 0 0, .bool false, .int .i64 0, .int .i64 0, .int .i64 0, .slice none 0 0, .slice none 0 0, .int .i64 0, .int .i64 0, .int .i64 0, .slice none 0 0, .int .i64 0, .int .i64 0, .int .i64 0, .int .i64 0, .slice none 0 0] ∧ Below w.heap.size w w') (by kernel_rfl) (by kernel_rfl) (by kernel_rfl) (by kernel_rfl) (by kernel_rfl) (fun HOK => ?_)
  have HS := (⟨row_drew X, o.drew⟩ : Row w1.drew w.heap.size 58 #[.int .i64 4, .int .i64 agg, .int .i64 wd, .int .i64 k, .int .i64 cap, .int .i64 0, .int .i64 0, .int .i64 0, .int .i64 0, .int .i64 0, .int .i64 0, .slice none 0 0, .int .i64 0, .int .i64 0, .int .i64 0, .int .i64 0, .slice none 0 0, .int .i64 0, .int .i64 0, .int .i64 0, .int .i64 0, .int .i64 0, .slice none 0 0, .int .i64 agg, .int .i64 wd, .int .i64 k, .int .i64 cap, .int .i64 now, .int .i64 seq, .slice A m c, .int .i64 0, .int .i64 0, .int .i64 0, .int .i64 0, .int .i64 0, .slice none 0 0, .int .i64 0, .int .i64 0, .int .i64 0, .slice none 0 0, .int .i64 0, .slice none 0 0, .bool false, .int .i64 0, .int .i64 0, .int .i64 0, .slice none 0 0, .slice none 0 0, .int .i64 0, .int .i64 0, .int .i64 0, .slice none 0 0, .int .i64 0, .int .i64 0, .int .i64 0, .int .i64 0, .slice none 0 0] ∧ Below w.heap.size w w1.drew)
  (refine hw_take HOK (i := 0) ?_ rfl (by decide) (by kernel_rfl) (by kernel_rfl) (by exact fun _ _ _ h => h) (Or.inl ⟨by rfl, fun w' hS => ?_⟩) HS ?_; rotate_left; (go_simp; try with_reducible rfl); simp only [Act.put, List.getElem_toArray, List.getElem_cons_zero, List.getElem_cons_succ,  List.setIfInBounds_toArray, List.set_cons_zero, List.set_cons_succ])
  (refine hw_take HOK (i := 1) ?_ rfl (by decide) (by kernel_rfl) (by kernel_rfl) (by exact fun _ _ _ h => h) (Or.inl ⟨by rfl, fun w' hS => ?_⟩) HS ?_; rotate_left; (have q0 : w'.cell? ⟨w.heap.size, 8, none⟩ = some (.int .i64 0) := row_cell hS.1 8; have q1 : w'.cell? ⟨w.heap.size, 9, none⟩ = some (.int .i64 0) := row_cell hS.1 9; have q2 : w'.cell? ⟨w.heap.size, 10, none⟩ = some (.int .i64 0) := row_cell hS.1 10; have q3 : w'.cell? ⟨w.heap.size, 11, none⟩ = some (.slice none 0 0) := row_cell hS.1 11; go_simp; try with_reducible rfl); simp only [Act.put, List.getElem_toArray, List.getElem_cons_zero, List.getElem_cons_succ,  List.setIfInBounds_toArray, List.set_cons_zero, List.set_cons_succ])
  (refine hw_take HOK (i := 2) ?_ rfl (by decide) (by kernel_rfl) (by kernel_rfl) (by exact fun _ _ _ h => h) (Or.inl ⟨by rfl, fun w' hS => ?_⟩) HS ?_; rotate_left; (go_simp; try with_reducible rfl); simp only [Act.put, List.getElem_toArray, List.getElem_cons_zero, List.getElem_cons_succ,  List.setIfInBounds_toArray, List.set_cons_zero, List.set_cons_succ])
  (refine hw_take HOK (i := 3) ?_ rfl (by decide) (by kernel_rfl) (by kernel_rfl) (by exact fun _ _ _ h => h) (Or.inl ⟨by rfl, fun w' hS => ?_⟩) HS ?_; rotate_left; (have q0 : w'.cell? ⟨w.heap.size, 12, none⟩ = some (.int .i64 0) := row_cell hS.1 12; have q1 : w'.cell? ⟨w.heap.size, 13, none⟩ = some (.int .i64 0) := row_cell hS.1 13; have q2 : w'.cell? ⟨w.heap.size, 14, none⟩ = some (.int .i64 0) := row_cell hS.1 14; have q3 : w'.cell? ⟨w.heap.size, 15, none⟩ = some (.int .i64 0) := row_cell hS.1 15; have q4 : w'.cell? ⟨w.heap.size, 16, none⟩ = some (.slice none 0 0) := row_cell hS.1 16; go_simp; try with_reducible rfl); simp only [Act.put, List.getElem_toArray, List.getElem_cons_zero, List.getElem_cons_succ,  List.setIfInBounds_toArray, List.set_cons_zero, List.set_cons_succ])
  (refine hw_take HOK (i := 4) ?_ rfl (by decide) (by kernel_rfl) (by kernel_rfl) (by exact fun _ _ _ h => h) (Or.inl ⟨by rfl, fun w' hS => ?_⟩) HS ?_; rotate_left; (go_simp; try with_reducible rfl); simp only [Act.put, List.getElem_toArray, List.getElem_cons_zero, List.getElem_cons_succ,  List.setIfInBounds_toArray, List.set_cons_zero, List.set_cons_succ])
  (refine hw_take HOK (i := 5) ?_ rfl (by decide) (by kernel_rfl) (by kernel_rfl) (by exact fun _ _ _ h => h) (Or.inl ⟨by rfl, fun w' hS => ?_⟩) HS ?_; rotate_left; (have q0 : w'.cell? ⟨w.heap.size, 17, none⟩ = some (.int .i64 0) := row_cell hS.1 17; have q1 : w'.cell? ⟨w.heap.size, 18, none⟩ = some (.int .i64 0) := row_cell hS.1 18; have q2 : w'.cell? ⟨w.heap.size, 19, none⟩ = some (.int .i64 0) := row_cell hS.1 19; have q3 : w'.cell? ⟨w.heap.size, 20, none⟩ = some (.int .i64 0) := row_cell hS.1 20; have q4 : w'.cell? ⟨w.heap.size, 21, none⟩ = some (.int .i64 0) := row_cell hS.1 21; have q5 : w'.cell? ⟨w.heap.size, 22, none⟩ = some (.slice none 0 0) := row_cell hS.1 22; go_simp; try with_reducible rfl); simp only [Act.put, List.getElem_toArray, List.getElem_cons_zero, List.getElem_cons_succ,  List.setIfInBounds_toArray, List.set_cons_zero, List.set_cons_succ])
  (refine hw_take HOK (i := 6) ?_ rfl (by decide) (by kernel_rfl) (by kernel_rfl) (by exact fun _ _ _ h => h) (Or.inl ⟨by rfl, fun w' hS => ?_⟩) HS ?_; rotate_left; (go_simp; try with_reducible rfl); simp only [Act.put, List.getElem_toArray, List.getElem_cons_zero, List.getElem_cons_succ,  List.setIfInBounds_toArray, List.set_cons_zero, List.set_cons_succ])
  (refine hw_take HOK (i := 7) ?_ rfl (by decide) (by kernel_rfl) (by kernel_rfl) (by exact fun _ _ _ h => h) (Or.inl ⟨by rfl, fun w' hS => ?_⟩) HS ?_; rotate_left; (have q0 : w'.cell? ⟨w.heap.size, 23, none⟩ = some (.int .i64 agg) := row_cell hS.1 23; have q1 : w'.cell? ⟨w.heap.size, 24, none⟩ = some (.int .i64 wd) := row_cell hS.1 24; have q2 : w'.cell? ⟨w.heap.size, 25, none⟩ = some (.int .i64 k) := row_cell hS.1 25; have q3 : w'.cell? ⟨w.heap.size, 26, none⟩ = some (.int .i64 cap) := row_cell hS.1 26; have q4 : w'.cell? ⟨w.heap.size, 27, none⟩ = some (.int .i64 now) := row_cell hS.1 27; have q5 : w'.cell? ⟨w.heap.size, 28, none⟩ = some (.int .i64 seq) := row_cell hS.1 28; have q6 : w'.cell? ⟨w.heap.size, 29, none⟩ = some (.slice A m c) := row_cell hS.1 29; go_simp; try with_reducible rfl); simp only [Act.put, List.getElem_toArray, List.getElem_cons_zero, List.getElem_cons_succ,  List.setIfInBounds_toArray, List.set_cons_zero, List.set_cons_succ])
  (refine hw_take HOK (i := 8) ?_ rfl (by decide) (by kernel_rfl) (by kernel_rfl) (by exact fun _ _ _ h => h) (Or.inl ⟨by rfl, fun w' hS => ?_⟩) HS ?_; rotate_left; (go_simp; try with_reducible rfl); simp only [Act.put, List.getElem_toArray, List.getElem_cons_zero, List.getElem_cons_succ,  List.setIfInBounds_toArray, List.set_cons_zero, List.set_cons_succ])
  (refine hw_take HOK (i := 9) ?_ rfl (by decide) (by kernel_rfl) (by kernel_rfl) (by exact fun _ _ _ h => h) (Or.inl ⟨by rfl, fun w' hS => ?_⟩) HS ?_; rotate_left; (have q0 : w'.cell? ⟨w.heap.size, 30, none⟩ = some (.int .i64 0) := row_cell hS.1 30; have q1 : w'.cell? ⟨w.heap.size, 31, none⟩ = some (.int .i64 0) := row_cell hS.1 31; have q2 : w'.cell? ⟨w.heap.size, 32, none⟩ = some (.int .i64 0) := row_cell hS.1 32; have q3 : w'.cell? ⟨w.heap.size, 33, none⟩ = some (.int .i64 0) := row_cell hS.1 33; have q4 : w'.cell? ⟨w.heap.size, 34, none⟩ = some (.int .i64 0) := row_cell hS.1 34; have q5 : w'.cell? ⟨w.heap.size, 35, none⟩ = some (.slice none 0 0) := row_cell hS.1 35; go_simp; try with_reducible rfl); simp only [Act.put, List.getElem_toArray, List.getElem_cons_zero, List.getElem_cons_succ,  List.setIfInBounds_toArray, List.set_cons_zero, List.set_cons_succ])
  refine hw_news (f := 4) (fun x o hx => ⟨row_alloc hx.1 o, hx.2.alloc hx.2.size o⟩) [⟨10, 4, 29, #[.int .i64 0, .int .i64 0, .int .i64 0, .slice none 0 0]⟩, ⟨11, 5, 32, #[.int .i64 0, .int .i64 0, .int .i64 0, .int .i64 0, .slice none 0 0]⟩, ⟨12, 6, 34, #[.int .i64 0, .int .i64 0, .int .i64 0, .int .i64 0, .int .i64 0, .slice none 0 0]⟩, ⟨13, 7, 37, #[.int .i64 0, .int .i64 0, .int .i64 0, .int .i64 0, .int .i64 0, .int .i64 0, .slice none 0 0]⟩, ⟨14, 8, 39, #[.int .i64 0, .int .i64 0, .int .i64 0, .int .i64 0, .int .i64 0, .slice none 0 0]⟩] _ _ _ (by kernel_rfl) (List.forall_mem_cons.2 ⟨⟨⟨_, _, rfl, rfl, rfl, fun ρ w' => by go_simp⟩, rfl, by decide⟩, List.forall_mem_cons.2 ⟨⟨⟨_, _, rfl, rfl, rfl, fun ρ w' => by go_simp⟩, rfl, by decide⟩, List.forall_mem_cons.2 ⟨⟨⟨_, _, rfl, rfl, rfl, fun ρ w' => by go_simp⟩, rfl, by decide⟩, List.forall_mem_cons.2 ⟨⟨⟨_, _, rfl, rfl, rfl, fun ρ w' => by go_simp⟩, rfl, by decide⟩, List.forall_mem_cons.2 ⟨⟨⟨_, _, rfl, rfl, rfl, fun ρ w' => by go_simp⟩, rfl, by decide⟩, fun _ h => by cases h⟩⟩⟩⟩⟩) (by decide) HS ?_
  intro bs w2 hS hN
  clear HS
  obtain ⟨b0, b1, b2, b3, b4, rfl⟩ : ∃ b0 b1 b2 b3 b4, bs = [b0, b1, b2, b3, b4] := by
    match bs, hN.len with
    | [b0, b1, b2, b3, b4], _ => exact ⟨_, _, _, _, _, rfl⟩
  have zx := row_lt X
  have nd := hN.nodup
  simp only [List.nodup_cons, List.mem_cons, List.not_mem_nil, or_false, not_or] at nd
  obtain ⟨⟨n01, n02, n03, n04⟩, ⟨n12, n13, n14⟩, ⟨n23, n24⟩, n34, _⟩ := nd
  have R0 : Row w2 b0 29 #[.int .i64 0, .int .i64 0, .int .i64 0, .slice none 0 0] := hN.rows 0 _ _ rfl rfl
  have ge0 : w.heap.size + 1 ≤ b0 := Nat.le_trans zx (hN.ge b0 (by simp))
  have R1 : Row w2 b1 32 #[.int .i64 0, .int .i64 0, .int .i64 0, .int .i64 0, .slice none 0 0] := hN.rows 1 _ _ rfl rfl
  have ge1 : w.heap.size + 1 ≤ b1 := Nat.le_trans zx (hN.ge b1 (by simp))
  have R2 : Row w2 b2 34 #[.int .i64 0, .int .i64 0, .int .i64 0, .int .i64 0, .int .i64 0, .slice none 0 0] := hN.rows 2 _ _ rfl rfl
  have ge2 : w.heap.size + 1 ≤ b2 := Nat.le_trans zx (hN.ge b2 (by simp))
  have R3 : Row w2 b3 37 #[.int .i64 0, .int .i64 0, .int .i64 0, .int .i64 0, .int .i64 0, .int .i64 0, .slice none 0 0] := hN.rows 3 _ _ rfl rfl
  have ge3 : w.heap.size + 1 ≤ b3 := Nat.le_trans zx (hN.ge b3 (by simp))
  have R4 : Row w2 b4 39 #[.int .i64 0, .int .i64 0, .int .i64 0, .int .i64 0, .int .i64 0, .slice none 0 0] := hN.rows 4 _ _ rfl rfl
  have ge4 : w.heap.size + 1 ≤ b4 := Nat.le_trans zx (hN.ge b4 (by simp))
  replace X := hS.1
  replace o := hS.2
  clear hN hS zx
  simp only [putAll, setAll, List.foldl]
  try simp only [Act.put, List.getElem_toArray, List.getElem_cons_zero, List.getElem_cons_succ, List.setIfInBounds_toArray, List.set_cons_zero, List.set_cons_succ]
  refine hw_one (i := 15) rfl (by decide) (by kernel_rfl) (fun K hK => ?_)
  obtain ⟨y0, y1, y2, y3, yf0, yf1, yf2, yf3⟩ := row_four R0
  go_simp
  clear y0 yf0 y1 yf1 y2 yf2 y3 yf3
  replace R0 := row_set R0 0 (.int .i64 0)
  replace R1 := row_other (p := ⟨b0, 0, none⟩) R1 (by show b1 ≠ b0; omega) (.int .i64 0)
  replace R2 := row_other (p := ⟨b0, 0, none⟩) R2 (by show b2 ≠ b0; omega) (.int .i64 0)
  replace R3 := row_other (p := ⟨b0, 0, none⟩) R3 (by show b3 ≠ b0; omega) (.int .i64 0)
  replace R4 := row_other (p := ⟨b0, 0, none⟩) R4 (by show b4 ≠ b0; omega) (.int .i64 0)
  replace X := row_other (p := ⟨b0, 0, none⟩) X (by show w.heap.size ≠ b0; omega) (.int .i64 0)
  replace o := o.setCell (p := ⟨b0, 0, none⟩) (by show w.heap.size ≤ b0; omega) (.int .i64 0)
  replace R0 := row_set R0 1 (.int .i64 0)
  replace R1 := row_other (p := ⟨b0, 1, none⟩) R1 (by show b1 ≠ b0; omega) (.int .i64 0)
  replace R2 := row_other (p := ⟨b0, 1, none⟩) R2 (by show b2 ≠ b0; omega) (.int .i64 0)
  replace R3 := row_other (p := ⟨b0, 1, none⟩) R3 (by show b3 ≠ b0; omega) (.int .i64 0)
  replace R4 := row_other (p := ⟨b0, 1, none⟩) R4 (by show b4 ≠ b0; omega) (.int .i64 0)
  replace X := row_other (p := ⟨b0, 1, none⟩) X (by show w.heap.size ≠ b0; omega) (.int .i64 0)
  replace o := o.setCell (p := ⟨b0, 1, none⟩) (by show w.heap.size ≤ b0; omega) (.int .i64 0)
  replace R0 := row_set R0 2 (.int .i64 0)
  replace R1 := row_other (p := ⟨b0, 2, none⟩) R1 (by show b1 ≠ b0; omega) (.int .i64 0)
  replace R2 := row_other (p := ⟨b0, 2, none⟩) R2 (by show b2 ≠ b0; omega) (.int .i64 0)
  replace R3 := row_other (p := ⟨b0, 2, none⟩) R3 (by show b3 ≠ b0; omega) (.int .i64 0)
  replace R4 := row_other (p := ⟨b0, 2, none⟩) R4 (by show b4 ≠ b0; omega) (.int .i64 0)
  replace X := row_other (p := ⟨b0, 2, none⟩) X (by show w.heap.size ≠ b0; omega) (.int .i64 0)
  replace o := o.setCell (p := ⟨b0, 2, none⟩) (by show w.heap.size ≤ b0; omega) (.int .i64 0)
  replace R0 := row_set R0 3 (.slice none 0 0)
  replace R1 := row_other (p := ⟨b0, 3, none⟩) R1 (by show b1 ≠ b0; omega) (.slice none 0 0)
  replace R2 := row_other (p := ⟨b0, 3, none⟩) R2 (by show b2 ≠ b0; omega) (.slice none 0 0)
  replace R3 := row_other (p := ⟨b0, 3, none⟩) R3 (by show b3 ≠ b0; omega) (.slice none 0 0)
  replace R4 := row_other (p := ⟨b0, 3, none⟩) R4 (by show b4 ≠ b0; omega) (.slice none 0 0)
  replace X := row_other (p := ⟨b0, 3, none⟩) X (by show w.heap.size ≠ b0; omega) (.slice none 0 0)
  replace o := o.setCell (p := ⟨b0, 3, none⟩) (by show w.heap.size ≤ b0; omega) (.slice none 0 0)
  replace R0 : Row ((((w2.setCell ⟨b0, 0, none⟩ (.int .i64 0)).setCell ⟨b0, 1, none⟩ (.int .i64 0)).setCell ⟨b0, 2, none⟩ (.int .i64 0)).setCell ⟨b0, 3, none⟩ (.slice none 0 0)) b0 29 #[.int .i64 0, .int .i64 0, .int .i64 0, .slice none 0 0] := R0
  generalize ((((w2.setCell ⟨b0, 0, none⟩ (.int .i64 0)).setCell ⟨b0, 1, none⟩ (.int .i64 0)).setCell ⟨b0, 2, none⟩ (.int .i64 0)).setCell ⟨b0, 3, none⟩ (.slice none 0 0)) = w2_0 at X o R0 R1 R2 R3 R4 ⊢
  refine hK _ _ ⟨X, o⟩ ?_
  clear hK K
  try simp only [Act.put, List.getElem_toArray, List.getElem_cons_zero, List.getElem_cons_succ, List.setIfInBounds_toArray, List.set_cons_zero, List.set_cons_succ]
  refine hw_one (i := 16) rfl (by decide) (by kernel_rfl) (fun K hK => ?_)
  obtain ⟨y0, y1, y2, y3, y4, yf0, yf1, yf2, yf3, yf4⟩ := row_five R1
  go_simp
  clear y0 yf0 y1 yf1 y2 yf2 y3 yf3 y4 yf4
  replace R1 := row_set R1 0 (.int .i64 0)
  replace R0 := row_other (p := ⟨b1, 0, none⟩) R0 (by show b0 ≠ b1; omega) (.int .i64 0)
  replace R2 := row_other (p := ⟨b1, 0, none⟩) R2 (by show b2 ≠ b1; omega) (.int .i64 0)
  replace R3 := row_other (p := ⟨b1, 0, none⟩) R3 (by show b3 ≠ b1; omega) (.int .i64 0)
  replace R4 := row_other (p := ⟨b1, 0, none⟩) R4 (by show b4 ≠ b1; omega) (.int .i64 0)
  replace X := row_other (p := ⟨b1, 0, none⟩) X (by show w.heap.size ≠ b1; omega) (.int .i64 0)
  replace o := o.setCell (p := ⟨b1, 0, none⟩) (by show w.heap.size ≤ b1; omega) (.int .i64 0)
  replace R1 := row_set R1 1 (.int .i64 0)
  replace R0 := row_other (p := ⟨b1, 1, none⟩) R0 (by show b0 ≠ b1; omega) (.int .i64 0)
  replace R2 := row_other (p := ⟨b1, 1, none⟩) R2 (by show b2 ≠ b1; omega) (.int .i64 0)
  replace R3 := row_other (p := ⟨b1, 1, none⟩) R3 (by show b3 ≠ b1; omega) (.int .i64 0)
  replace R4 := row_other (p := ⟨b1, 1, none⟩) R4 (by show b4 ≠ b1; omega) (.int .i64 0)
  replace X := row_other (p := ⟨b1, 1, none⟩) X (by show w.heap.size ≠ b1; omega) (.int .i64 0)
  replace o := o.setCell (p := ⟨b1, 1, none⟩) (by show w.heap.size ≤ b1; omega) (.int .i64 0)
  replace R1 := row_set R1 2 (.int .i64 0)
  replace R0 := row_other (p := ⟨b1, 2, none⟩) R0 (by show b0 ≠ b1; omega) (.int .i64 0)
  replace R2 := row_other (p := ⟨b1, 2, none⟩) R2 (by show b2 ≠ b1; omega) (.int .i64 0)
  replace R3 := row_other (p := ⟨b1, 2, none⟩) R3 (by show b3 ≠ b1; omega) (.int .i64 0)
  replace R4 := row_other (p := ⟨b1, 2, none⟩) R4 (by show b4 ≠ b1; omega) (.int .i64 0)
  replace X := row_other (p := ⟨b1, 2, none⟩) X (by show w.heap.size ≠ b1; omega) (.int .i64 0)
  replace o := o.setCell (p := ⟨b1, 2, none⟩) (by show w.heap.size ≤ b1; omega) (.int .i64 0)
  replace R1 := row_set R1 3 (.int .i64 0)
  replace R0 := row_other (p := ⟨b1, 3, none⟩) R0 (by show b0 ≠ b1; omega) (.int .i64 0)
  replace R2 := row_other (p := ⟨b1, 3, none⟩) R2 (by show b2 ≠ b1; omega) (.int .i64 0)
  replace R3 := row_other (p := ⟨b1, 3, none⟩) R3 (by show b3 ≠ b1; omega) (.int .i64 0)
  replace R4 := row_other (p := ⟨b1, 3, none⟩) R4 (by show b4 ≠ b1; omega) (.int .i64 0)
  replace X := row_other (p := ⟨b1, 3, none⟩) X (by show w.heap.size ≠ b1; omega) (.int .i64 0)
  replace o := o.setCell (p := ⟨b1, 3, none⟩) (by show w.heap.size ≤ b1; omega) (.int .i64 0)
  replace R1 := row_set R1 4 (.slice none 0 0)
  replace R0 := row_other (p := ⟨b1, 4, none⟩) R0 (by show b0 ≠ b1; omega) (.slice none 0 0)
  replace R2 := row_other (p := ⟨b1, 4, none⟩) R2 (by show b2 ≠ b1; omega) (.slice none 0 0)
  replace R3 := row_other (p := ⟨b1, 4, none⟩) R3 (by show b3 ≠ b1; omega) (.slice none 0 0)
  replace R4 := row_other (p := ⟨b1, 4, none⟩) R4 (by show b4 ≠ b1; omega) (.slice none 0 0)
  replace X := row_other (p := ⟨b1, 4, none⟩) X (by show w.heap.size ≠ b1; omega) (.slice none 0 0)
  replace o := o.setCell (p := ⟨b1, 4, none⟩) (by show w.heap.size ≤ b1; omega) (.slice none 0 0)
  replace R1 : Row (((((w2_0.setCell ⟨b1, 0, none⟩ (.int .i64 0)).setCell ⟨b1, 1, none⟩ (.int .i64 0)).setCell ⟨b1, 2, none⟩ (.int .i64 0)).setCell ⟨b1, 3, none⟩ (.int .i64 0)).setCell ⟨b1, 4, none⟩ (.slice none 0 0)) b1 32 #[.int .i64 0, .int .i64 0, .int .i64 0, .int .i64 0, .slice none 0 0] := R1
  generalize (((((w2_0.setCell ⟨b1, 0, none⟩ (.int .i64 0)).setCell ⟨b1, 1, none⟩ (.int .i64 0)).setCell ⟨b1, 2, none⟩ (.int .i64 0)).setCell ⟨b1, 3, none⟩ (.int .i64 0)).setCell ⟨b1, 4, none⟩ (.slice none 0 0)) = w2_1 at X o R0 R1 R2 R3 R4 ⊢
  refine hK _ _ ⟨X, o⟩ ?_
  clear hK K
  try simp only [Act.put, List.getElem_toArray, List.getElem_cons_zero, List.getElem_cons_succ, List.setIfInBounds_toArray, List.set_cons_zero, List.set_cons_succ]
  refine hw_one (i := 17) rfl (by decide) (by kernel_rfl) (fun K hK => ?_)
  obtain ⟨y0, y1, y2, y3, y4, y5, yf0, yf1, yf2, yf3, yf4, yf5⟩ := row_six R2
  go_simp
  clear y0 yf0 y1 yf1 y2 yf2 y3 yf3 y4 yf4 y5 yf5
  replace R2 := row_set R2 0 (.int .i64 0)
  replace R0 := row_other (p := ⟨b2, 0, none⟩) R0 (by show b0 ≠ b2; omega) (.int .i64 0)
  replace R1 := row_other (p := ⟨b2, 0, none⟩) R1 (by show b1 ≠ b2; omega) (.int .i64 0)
  replace R3 := row_other (p := ⟨b2, 0, none⟩) R3 (by show b3 ≠ b2; omega) (.int .i64 0)
  replace R4 := row_other (p := ⟨b2, 0, none⟩) R4 (by show b4 ≠ b2; omega) (.int .i64 0)
  replace X := row_other (p := ⟨b2, 0, none⟩) X (by show w.heap.size ≠ b2; omega) (.int .i64 0)
  replace o := o.setCell (p := ⟨b2, 0, none⟩) (by show w.heap.size ≤ b2; omega) (.int .i64 0)
  replace R2 := row_set R2 1 (.int .i64 0)
  replace R0 := row_other (p := ⟨b2, 1, none⟩) R0 (by show b0 ≠ b2; omega) (.int .i64 0)
  replace R1 := row_other (p := ⟨b2, 1, none⟩) R1 (by show b1 ≠ b2; omega) (.int .i64 0)
  replace R3 := row_other (p := ⟨b2, 1, none⟩) R3 (by show b3 ≠ b2; omega) (.int .i64 0)
  replace R4 := row_other (p := ⟨b2, 1, none⟩) R4 (by show b4 ≠ b2; omega) (.int .i64 0)
  replace X := row_other (p := ⟨b2, 1, none⟩) X (by show w.heap.size ≠ b2; omega) (.int .i64 0)
  replace o := o.setCell (p := ⟨b2, 1, none⟩) (by show w.heap.size ≤ b2; omega) (.int .i64 0)
  replace R2 := row_set R2 2 (.int .i64 0)
  replace R0 := row_other (p := ⟨b2, 2, none⟩) R0 (by show b0 ≠ b2; omega) (.int .i64 0)
  replace R1 := row_other (p := ⟨b2, 2, none⟩) R1 (by show b1 ≠ b2; omega) (.int .i64 0)
  replace R3 := row_other (p := ⟨b2, 2, none⟩) R3 (by show b3 ≠ b2; omega) (.int .i64 0)
  replace R4 := row_other (p := ⟨b2, 2, none⟩) R4 (by show b4 ≠ b2; omega) (.int .i64 0)
  replace X := row_other (p := ⟨b2, 2, none⟩) X (by show w.heap.size ≠ b2; omega) (.int .i64 0)
  replace o := o.setCell (p := ⟨b2, 2, none⟩) (by show w.heap.size ≤ b2; omega) (.int .i64 0)
  replace R2 := row_set R2 3 (.int .i64 0)
  replace R0 := row_other (p := ⟨b2, 3, none⟩) R0 (by show b0 ≠ b2; omega) (.int .i64 0)
  replace R1 := row_other (p := ⟨b2, 3, none⟩) R1 (by show b1 ≠ b2; omega) (.int .i64 0)
  replace R3 := row_other (p := ⟨b2, 3, none⟩) R3 (by show b3 ≠ b2; omega) (.int .i64 0)
  replace R4 := row_other (p := ⟨b2, 3, none⟩) R4 (by show b4 ≠ b2; omega) (.int .i64 0)
  replace X := row_other (p := ⟨b2, 3, none⟩) X (by show w.heap.size ≠ b2; omega) (.int .i64 0)
  replace o := o.setCell (p := ⟨b2, 3, none⟩) (by show w.heap.size ≤ b2; omega) (.int .i64 0)
  replace R2 := row_set R2 4 (.int .i64 0)
  replace R0 := row_other (p := ⟨b2, 4, none⟩) R0 (by show b0 ≠ b2; omega) (.int .i64 0)
  replace R1 := row_other (p := ⟨b2, 4, none⟩) R1 (by show b1 ≠ b2; omega) (.int .i64 0)
  replace R3 := row_other (p := ⟨b2, 4, none⟩) R3 (by show b3 ≠ b2; omega) (.int .i64 0)
  replace R4 := row_other (p := ⟨b2, 4, none⟩) R4 (by show b4 ≠ b2; omega) (.int .i64 0)
  replace X := row_other (p := ⟨b2, 4, none⟩) X (by show w.heap.size ≠ b2; omega) (.int .i64 0)
  replace o := o.setCell (p := ⟨b2, 4, none⟩) (by show w.heap.size ≤ b2; omega) (.int .i64 0)
  replace R2 := row_set R2 5 (.slice none 0 0)
  replace R0 := row_other (p := ⟨b2, 5, none⟩) R0 (by show b0 ≠ b2; omega) (.slice none 0 0)
  replace R1 := row_other (p := ⟨b2, 5, none⟩) R1 (by show b1 ≠ b2; omega) (.slice none 0 0)
  replace R3 := row_other (p := ⟨b2, 5, none⟩) R3 (by show b3 ≠ b2; omega) (.slice none 0 0)
  replace R4 := row_other (p := ⟨b2, 5, none⟩) R4 (by show b4 ≠ b2; omega) (.slice none 0 0)
  replace X := row_other (p := ⟨b2, 5, none⟩) X (by show w.heap.size ≠ b2; omega) (.slice none 0 0)
  replace o := o.setCell (p := ⟨b2, 5, none⟩) (by show w.heap.size ≤ b2; omega) (.slice none 0 0)
  replace R2 : Row ((((((w2_1.setCell ⟨b2, 0, none⟩ (.int .i64 0)).setCell ⟨b2, 1, none⟩ (.int .i64 0)).setCell ⟨b2, 2, none⟩ (.int .i64 0)).setCell ⟨b2, 3, none⟩ (.int .i64 0)).setCell ⟨b2, 4, none⟩ (.int .i64 0)).setCell ⟨b2, 5, none⟩ (.slice none 0 0)) b2 34 #[.int .i64 0, .int .i64 0, .int .i64 0, .int .i64 0, .int .i64 0, .slice none 0 0] := R2
  generalize ((((((w2_1.setCell ⟨b2, 0, none⟩ (.int .i64 0)).setCell ⟨b2, 1, none⟩ (.int .i64 0)).setCell ⟨b2, 2, none⟩ (.int .i64 0)).setCell ⟨b2, 3, none⟩ (.int .i64 0)).setCell ⟨b2, 4, none⟩ (.int .i64 0)).setCell ⟨b2, 5, none⟩ (.slice none 0 0)) = w2_2 at X o R0 R1 R2 R3 R4 ⊢
  refine hK _ _ ⟨X, o⟩ ?_
  clear hK K
  try simp only [Act.put, List.getElem_toArray, List.getElem_cons_zero, List.getElem_cons_succ, List.setIfInBounds_toArray, List.set_cons_zero, List.set_cons_succ]
  refine hw_one (i := 18) rfl (by decide) (by kernel_rfl) (fun K hK => ?_)
  obtain ⟨y0, y1, y2, y3, y4, y5, y6, yf0, yf1, yf2, yf3, yf4, yf5, yf6⟩ := row_seven R3
  go_simp
  clear y0 yf0 y1 yf1 y2 yf2 y3 yf3 y4 yf4 y5 yf5 y6 yf6
  replace R3 := row_set R3 0 (.int .i64 agg)
  replace R0 := row_other (p := ⟨b3, 0, none⟩) R0 (by show b0 ≠ b3; omega) (.int .i64 agg)
  replace R1 := row_other (p := ⟨b3, 0, none⟩) R1 (by show b1 ≠ b3; omega) (.int .i64 agg)
  replace R2 := row_other (p := ⟨b3, 0, none⟩) R2 (by show b2 ≠ b3; omega) (.int .i64 agg)
  replace R4 := row_other (p := ⟨b3, 0, none⟩) R4 (by show b4 ≠ b3; omega) (.int .i64 agg)
  replace X := row_other (p := ⟨b3, 0, none⟩) X (by show w.heap.size ≠ b3; omega) (.int .i64 agg)
  replace o := o.setCell (p := ⟨b3, 0, none⟩) (by show w.heap.size ≤ b3; omega) (.int .i64 agg)
  replace R3 := row_set R3 1 (.int .i64 wd)
  replace R0 := row_other (p := ⟨b3, 1, none⟩) R0 (by show b0 ≠ b3; omega) (.int .i64 wd)
  replace R1 := row_other (p := ⟨b3, 1, none⟩) R1 (by show b1 ≠ b3; omega) (.int .i64 wd)
  replace R2 := row_other (p := ⟨b3, 1, none⟩) R2 (by show b2 ≠ b3; omega) (.int .i64 wd)
  replace R4 := row_other (p := ⟨b3, 1, none⟩) R4 (by show b4 ≠ b3; omega) (.int .i64 wd)
  replace X := row_other (p := ⟨b3, 1, none⟩) X (by show w.heap.size ≠ b3; omega) (.int .i64 wd)
  replace o := o.setCell (p := ⟨b3, 1, none⟩) (by show w.heap.size ≤ b3; omega) (.int .i64 wd)
  replace R3 := row_set R3 2 (.int .i64 k)
  replace R0 := row_other (p := ⟨b3, 2, none⟩) R0 (by show b0 ≠ b3; omega) (.int .i64 k)
  replace R1 := row_other (p := ⟨b3, 2, none⟩) R1 (by show b1 ≠ b3; omega) (.int .i64 k)
  replace R2 := row_other (p := ⟨b3, 2, none⟩) R2 (by show b2 ≠ b3; omega) (.int .i64 k)
  replace R4 := row_other (p := ⟨b3, 2, none⟩) R4 (by show b4 ≠ b3; omega) (.int .i64 k)
  replace X := row_other (p := ⟨b3, 2, none⟩) X (by show w.heap.size ≠ b3; omega) (.int .i64 k)
  replace o := o.setCell (p := ⟨b3, 2, none⟩) (by show w.heap.size ≤ b3; omega) (.int .i64 k)
  replace R3 := row_set R3 3 (.int .i64 cap)
  replace R0 := row_other (p := ⟨b3, 3, none⟩) R0 (by show b0 ≠ b3; omega) (.int .i64 cap)
  replace R1 := row_other (p := ⟨b3, 3, none⟩) R1 (by show b1 ≠ b3; omega) (.int .i64 cap)
  replace R2 := row_other (p := ⟨b3, 3, none⟩) R2 (by show b2 ≠ b3; omega) (.int .i64 cap)
  replace R4 := row_other (p := ⟨b3, 3, none⟩) R4 (by show b4 ≠ b3; omega) (.int .i64 cap)
  replace X := row_other (p := ⟨b3, 3, none⟩) X (by show w.heap.size ≠ b3; omega) (.int .i64 cap)
  replace o := o.setCell (p := ⟨b3, 3, none⟩) (by show w.heap.size ≤ b3; omega) (.int .i64 cap)
  replace R3 := row_set R3 4 (.int .i64 now)
  replace R0 := row_other (p := ⟨b3, 4, none⟩) R0 (by show b0 ≠ b3; omega) (.int .i64 now)
  replace R1 := row_other (p := ⟨b3, 4, none⟩) R1 (by show b1 ≠ b3; omega) (.int .i64 now)
  replace R2 := row_other (p := ⟨b3, 4, none⟩) R2 (by show b2 ≠ b3; omega) (.int .i64 now)
  replace R4 := row_other (p := ⟨b3, 4, none⟩) R4 (by show b4 ≠ b3; omega) (.int .i64 now)
  replace X := row_other (p := ⟨b3, 4, none⟩) X (by show w.heap.size ≠ b3; omega) (.int .i64 now)
  replace o := o.setCell (p := ⟨b3, 4, none⟩) (by show w.heap.size ≤ b3; omega) (.int .i64 now)
  replace R3 := row_set R3 5 (.int .i64 seq)
  replace R0 := row_other (p := ⟨b3, 5, none⟩) R0 (by show b0 ≠ b3; omega) (.int .i64 seq)
  replace R1 := row_other (p := ⟨b3, 5, none⟩) R1 (by show b1 ≠ b3; omega) (.int .i64 seq)
  replace R2 := row_other (p := ⟨b3, 5, none⟩) R2 (by show b2 ≠ b3; omega) (.int .i64 seq)
  replace R4 := row_other (p := ⟨b3, 5, none⟩) R4 (by show b4 ≠ b3; omega) (.int .i64 seq)
  replace X := row_other (p := ⟨b3, 5, none⟩) X (by show w.heap.size ≠ b3; omega) (.int .i64 seq)
  replace o := o.setCell (p := ⟨b3, 5, none⟩) (by show w.heap.size ≤ b3; omega) (.int .i64 seq)
  replace R3 := row_set R3 6 (.slice A m c)
  replace R0 := row_other (p := ⟨b3, 6, none⟩) R0 (by show b0 ≠ b3; omega) (.slice A m c)
  replace R1 := row_other (p := ⟨b3, 6, none⟩) R1 (by show b1 ≠ b3; omega) (.slice A m c)
  replace R2 := row_other (p := ⟨b3, 6, none⟩) R2 (by show b2 ≠ b3; omega) (.slice A m c)
  replace R4 := row_other (p := ⟨b3, 6, none⟩) R4 (by show b4 ≠ b3; omega) (.slice A m c)
  replace X := row_other (p := ⟨b3, 6, none⟩) X (by show w.heap.size ≠ b3; omega) (.slice A m c)
  replace o := o.setCell (p := ⟨b3, 6, none⟩) (by show w.heap.size ≤ b3; omega) (.slice A m c)
  replace R3 : Row (((((((w2_2.setCell ⟨b3, 0, none⟩ (.int .i64 agg)).setCell ⟨b3, 1, none⟩ (.int .i64 wd)).setCell ⟨b3, 2, none⟩ (.int .i64 k)).setCell ⟨b3, 3, none⟩ (.int .i64 cap)).setCell ⟨b3, 4, none⟩ (.int .i64 now)).setCell ⟨b3, 5, none⟩ (.int .i64 seq)).setCell ⟨b3, 6, none⟩ (.slice A m c)) b3 37 #[.int .i64 agg, .int .i64 wd, .int .i64 k, .int .i64 cap, .int .i64 now, .int .i64 seq, .slice A m c] := R3
  generalize (((((((w2_2.setCell ⟨b3, 0, none⟩ (.int .i64 agg)).setCell ⟨b3, 1, none⟩ (.int .i64 wd)).setCell ⟨b3, 2, none⟩ (.int .i64 k)).setCell ⟨b3, 3, none⟩ (.int .i64 cap)).setCell ⟨b3, 4, none⟩ (.int .i64 now)).setCell ⟨b3, 5, none⟩ (.int .i64 seq)).setCell ⟨b3, 6, none⟩ (.slice A m c)) = w2_3 at X o R0 R1 R2 R3 R4 ⊢
  refine hK _ _ ⟨X, o⟩ ?_
  clear hK K
  try simp only [Act.put, List.getElem_toArray, List.getElem_cons_zero, List.getElem_cons_succ, List.setIfInBounds_toArray, List.set_cons_zero, List.set_cons_succ]
  refine hw_done (by kernel_rfl) ?_
  try simp only [List.drop_succ_cons, List.drop_zero]
  obtain ⟨y0, y1, y2, y3, y4, y5, yf0, yf1, yf2, yf3, yf4, yf5⟩ := row_six R4
  go_upto_region 3 with (fail)
  clear y0 yf0 y1 yf1 y2 yf2 y3 yf3 y4 yf4 y5 yf5
  replace R4 := row_set R4 0 (.int .i64 0)
  replace R0 := row_other (p := ⟨b4, 0, none⟩) R0 (by show b0 ≠ b4; omega) (.int .i64 0)
  replace R1 := row_other (p := ⟨b4, 0, none⟩) R1 (by show b1 ≠ b4; omega) (.int .i64 0)
  replace R2 := row_other (p := ⟨b4, 0, none⟩) R2 (by show b2 ≠ b4; omega) (.int .i64 0)
  replace R3 := row_other (p := ⟨b4, 0, none⟩) R3 (by show b3 ≠ b4; omega) (.int .i64 0)
  replace X := row_other (p := ⟨b4, 0, none⟩) X (by show w.heap.size ≠ b4; omega) (.int .i64 0)
  replace o := o.setCell (p := ⟨b4, 0, none⟩) (by show w.heap.size ≤ b4; omega) (.int .i64 0)
  replace R4 := row_set R4 1 (.int .i64 0)
  replace R0 := row_other (p := ⟨b4, 1, none⟩) R0 (by show b0 ≠ b4; omega) (.int .i64 0)
  replace R1 := row_other (p := ⟨b4, 1, none⟩) R1 (by show b1 ≠ b4; omega) (.int .i64 0)
  replace R2 := row_other (p := ⟨b4, 1, none⟩) R2 (by show b2 ≠ b4; omega) (.int .i64 0)
  replace R3 := row_other (p := ⟨b4, 1, none⟩) R3 (by show b3 ≠ b4; omega) (.int .i64 0)
  replace X := row_other (p := ⟨b4, 1, none⟩) X (by show w.heap.size ≠ b4; omega) (.int .i64 0)
  replace o := o.setCell (p := ⟨b4, 1, none⟩) (by show w.heap.size ≤ b4; omega) (.int .i64 0)
  replace R4 := row_set R4 2 (.int .i64 0)
  replace R0 := row_other (p := ⟨b4, 2, none⟩) R0 (by show b0 ≠ b4; omega) (.int .i64 0)
  replace R1 := row_other (p := ⟨b4, 2, none⟩) R1 (by show b1 ≠ b4; omega) (.int .i64 0)
  replace R2 := row_other (p := ⟨b4, 2, none⟩) R2 (by show b2 ≠ b4; omega) (.int .i64 0)
  replace R3 := row_other (p := ⟨b4, 2, none⟩) R3 (by show b3 ≠ b4; omega) (.int .i64 0)
  replace X := row_other (p := ⟨b4, 2, none⟩) X (by show w.heap.size ≠ b4; omega) (.int .i64 0)
  replace o := o.setCell (p := ⟨b4, 2, none⟩) (by show w.heap.size ≤ b4; omega) (.int .i64 0)
  replace R4 := row_set R4 3 (.int .i64 0)
  replace R0 := row_other (p := ⟨b4, 3, none⟩) R0 (by show b0 ≠ b4; omega) (.int .i64 0)
  replace R1 := row_other (p := ⟨b4, 3, none⟩) R1 (by show b1 ≠ b4; omega) (.int .i64 0)
  replace R2 := row_other (p := ⟨b4, 3, none⟩) R2 (by show b2 ≠ b4; omega) (.int .i64 0)
  replace R3 := row_other (p := ⟨b4, 3, none⟩) R3 (by show b3 ≠ b4; omega) (.int .i64 0)
  replace X := row_other (p := ⟨b4, 3, none⟩) X (by show w.heap.size ≠ b4; omega) (.int .i64 0)
  replace o := o.setCell (p := ⟨b4, 3, none⟩) (by show w.heap.size ≤ b4; omega) (.int .i64 0)
  replace R4 := row_set R4 4 (.int .i64 0)
  replace R0 := row_other (p := ⟨b4, 4, none⟩) R0 (by show b0 ≠ b4; omega) (.int .i64 0)
  replace R1 := row_other (p := ⟨b4, 4, none⟩) R1 (by show b1 ≠ b4; omega) (.int .i64 0)
  replace R2 := row_other (p := ⟨b4, 4, none⟩) R2 (by show b2 ≠ b4; omega) (.int .i64 0)
  replace R3 := row_other (p := ⟨b4, 4, none⟩) R3 (by show b3 ≠ b4; omega) (.int .i64 0)
  replace X := row_other (p := ⟨b4, 4, none⟩) X (by show w.heap.size ≠ b4; omega) (.int .i64 0)
  replace o := o.setCell (p := ⟨b4, 4, none⟩) (by show w.heap.size ≤ b4; omega) (.int .i64 0)
  replace R4 := row_set R4 5 (.slice none 0 0)
  replace R0 := row_other (p := ⟨b4, 5, none⟩) R0 (by show b0 ≠ b4; omega) (.slice none 0 0)
  replace R1 := row_other (p := ⟨b4, 5, none⟩) R1 (by show b1 ≠ b4; omega) (.slice none 0 0)
  replace R2 := row_other (p := ⟨b4, 5, none⟩) R2 (by show b2 ≠ b4; omega) (.slice none 0 0)
  replace R3 := row_other (p := ⟨b4, 5, none⟩) R3 (by show b3 ≠ b4; omega) (.slice none 0 0)
  replace X := row_other (p := ⟨b4, 5, none⟩) X (by show w.heap.size ≠ b4; omega) (.slice none 0 0)
  replace o := o.setCell (p := ⟨b4, 5, none⟩) (by show w.heap.size ≤ b4; omega) (.slice none 0 0)
  replace R4 : Row ((((((w2_3.setCell ⟨b4, 0, none⟩ (.int .i64 0)).setCell ⟨b4, 1, none⟩ (.int .i64 0)).setCell ⟨b4, 2, none⟩ (.int .i64 0)).setCell ⟨b4, 3, none⟩ (.int .i64 0)).setCell ⟨b4, 4, none⟩ (.int .i64 0)).setCell ⟨b4, 5, none⟩ (.slice none 0 0)) b4 39 #[.int .i64 0, .int .i64 0, .int .i64 0, .int .i64 0, .int .i64 0, .slice none 0 0] := R4
  generalize ((((((w2_3.setCell ⟨b4, 0, none⟩ (.int .i64 0)).setCell ⟨b4, 1, none⟩ (.int .i64 0)).setCell ⟨b4, 2, none⟩ (.int .i64 0)).setCell ⟨b4, 3, none⟩ (.int .i64 0)).setCell ⟨b4, 4, none⟩ (.int .i64 0)).setCell ⟨b4, 5, none⟩ (.slice none 0 0)) = w2_4 at X o R0 R1 R2 R3 R4 ⊢
  clear HOK
  obtain ⟨y0, y1, y2, y3, yf0, yf1, yf2, yf3⟩ := row_four R0
  go_upto_region 5 with (fail)
  clear y0 yf0 y1 yf1 y2 yf2 y3 yf3 R0
  obtain ⟨y0, y1, y2, y3, y4, yf0, yf1, yf2, yf3, yf4⟩ := row_five R1
  go_upto_region 7 with (fail)
  clear y0 yf0 y1 yf1 y2 yf2 y3 yf3 y4 yf4 R1
  obtain ⟨y0, y1, y2, y3, y4, y5, yf0, yf1, yf2, yf3, yf4, yf5⟩ := row_six R2
  go_upto_region 9 with (fail)
  clear y0 yf0 y1 yf1 y2 yf2 y3 yf3 y4 yf4 y5 yf5 R2
  obtain ⟨y0, y1, y2, y3, y4, y5, y6, yf0, yf1, yf2, yf3, yf4, yf5, yf6⟩ := row_seven R3
  go_upto_region 11 with (fail)
  clear y0 yf0 y1 yf1 y2 yf2 y3 yf3 y4 yf4 y5 yf5 y6 yf6 R3
  obtain ⟨y0, y1, y2, y3, y4, y5, yf0, yf1, yf2, yf3, yf4, yf5⟩ := row_six R4
  go_upto_region 13 with (fail)
  clear y0 yf0 y1 yf1 y2 yf2 y3 yf3 y4 yf4 y5 yf5 R4
  refine wp_region_phase 19 (fun w' => Row w' w.heap.size 58 #[.int .i64 4, .int .i64 agg, .int .i64 wd, .int .i64 k, .int .i64 cap, .int .i64 0, .int .i64 0, .int .i64 0, .int .i64 0, .int .i64 0, .int .i64 0, .slice none 0 0, .int .i64 0, .int .i64 0, .int .i64 0, .int .i64 0, .slice none 0 0, .int .i64 0, .int .i64 0, .int .i64 0, .int .i64 0, .int .i64 0, .slice none 0 0, .int .i64 agg, .int .i64 wd, .int .i64 k, .int .i64 cap, .int .i64 now, .int .i64 seq, .slice A m c, .int .i64 0, .int .i64 0, .int .i64 0, .int .i64 0, .int .i64 0, .slice none 0 0, .int .i64 0, .int .i64 0, .int .i64 0, .slice none 0 0, .int .i64 0, .slice none 0 0, .bool false, .int .i64 0, .int .i64 0, .int .i64 0, .slice none 0 0, .slice none 0 0, .int .i64 0, .int .i64 0, .int .i64 0, .slice none 0 0, .int .i64 0, .int .i64 0, .int .i64 0, .int .i64 0, .slice none 0 0] ∧ Below w.heap.size w w') (by kernel_rfl) (by kernel_rfl) (by kernel_rfl) (by kernel_rfl) (by kernel_rfl) (fun HOK => ?_)
  have HS := (⟨row_drew X, o.drew⟩ : Row w2_4.drew w.heap.size 58 #[.int .i64 4, .int .i64 agg, .int .i64 wd, .int .i64 k, .int .i64 cap, .int .i64 0, .int .i64 0, .int .i64 0, .int .i64 0, .int .i64 0, .int .i64 0, .slice none 0 0, .int .i64 0, .int .i64 0, .int .i64 0, .int .i64 0, .slice none 0 0, .int .i64 0, .int .i64 0, .int .i64 0, .int .i64 0, .int .i64 0, .slice none 0 0, .int .i64 agg, .int .i64 wd, .int .i64 k, .int .i64 cap, .int .i64 now, .int .i64 seq, .slice A m c, .int .i64 0, .int .i64 0, .int .i64 0, .int .i64 0, .int .i64 0, .slice none 0 0, .int .i64 0, .int .i64 0, .int .i64 0, .slice none 0 0, .int .i64 0, .slice none 0 0, .bool false, .int .i64 0, .int .i64 0, .int .i64 0, .slice none 0 0, .slice none 0 0, .int .i64 0, .int .i64 0, .int .i64 0, .slice none 0 0, .int .i64 0, .int .i64 0, .int .i64 0, .int .i64 0, .slice none 0 0] ∧ Below w.heap.size w w2_4.drew)
  (refine hw_take HOK (i := 0) ?_ rfl (by decide) (by kernel_rfl) (by kernel_rfl) (by exact fun _ _ _ h => h) (Or.inl ⟨by rfl, fun w' hS => ?_⟩) HS ?_; rotate_left; (go_simp; try with_reducible rfl); simp only [Act.put, List.getElem_toArray, List.getElem_cons_zero, List.getElem_cons_succ,  List.setIfInBounds_toArray, List.set_cons_zero, List.set_cons_succ])
  (refine hw_take HOK (i := 1) ?_ rfl (by decide) (by kernel_rfl) (by kernel_rfl) (by exact fun _ _ _ h => h) (Or.inl ⟨by rfl, fun w' hS => ?_⟩) HS ?_; rotate_left; (have q0 : w'.cell? ⟨w.heap.size, 36, none⟩ = some (.int .i64 0) := row_cell hS.1 36; have q1 : w'.cell? ⟨w.heap.size, 37, none⟩ = some (.int .i64 0) := row_cell hS.1 37; have q2 : w'.cell? ⟨w.heap.size, 38, none⟩ = some (.int .i64 0) := row_cell hS.1 38; have q3 : w'.cell? ⟨w.heap.size, 39, none⟩ = some (.slice none 0 0) := row_cell hS.1 39; go_simp; try with_reducible rfl); simp only [Act.put, List.getElem_toArray, List.getElem_cons_zero, List.getElem_cons_succ,  List.setIfInBounds_toArray, List.set_cons_zero, List.set_cons_succ])
  (refine hw_take HOK (i := 2) ?_ rfl (by decide) (by kernel_rfl) (by kernel_rfl) (by exact fun _ _ _ h => h) (Or.inl ⟨by rfl, fun w' hS => ?_⟩) HS ?_; rotate_left; (go_simp; try with_reducible rfl); simp only [Act.put, List.getElem_toArray, List.getElem_cons_zero, List.getElem_cons_succ,  List.setIfInBounds_toArray, List.set_cons_zero, List.set_cons_succ])
  (refine hw_take HOK (i := 3) ?_ rfl (by decide) (by kernel_rfl) (by kernel_rfl) (by exact fun _ _ _ h => h) (Or.inl ⟨by rfl, fun w' hS => ?_⟩) HS ?_; rotate_left; (have q0 : w'.cell? ⟨w.heap.size, 40, none⟩ = some (.int .i64 0) := row_cell hS.1 40; have q1 : w'.cell? ⟨w.heap.size, 41, none⟩ = some (.slice none 0 0) := row_cell hS.1 41; go_simp; try with_reducible rfl); simp only [Act.put, List.getElem_toArray, List.getElem_cons_zero, List.getElem_cons_succ,  List.setIfInBounds_toArray, List.set_cons_zero, List.set_cons_succ])
  (refine hw_take HOK (i := 4) ?_ rfl (by decide) (by kernel_rfl) (by kernel_rfl) (by exact fun _ _ _ h => h) (Or.inl ⟨by rfl, fun w' hS => ?_⟩) HS ?_; rotate_left; (go_simp; try with_reducible rfl); simp only [Act.put, List.getElem_toArray, List.getElem_cons_zero, List.getElem_cons_succ,  List.setIfInBounds_toArray, List.set_cons_zero, List.set_cons_succ])
  (refine hw_take HOK (i := 5) ?_ rfl (by decide) (by kernel_rfl) (by kernel_rfl) (by exact fun _ _ _ h => h) (Or.inl ⟨by rfl, fun w' hS => ?_⟩) HS ?_; rotate_left; (have q0 : w'.cell? ⟨w.heap.size, 42, none⟩ = some (.bool false) := row_cell hS.1 42; have q1 : w'.cell? ⟨w.heap.size, 43, none⟩ = some (.int .i64 0) := row_cell hS.1 43; have q2 : w'.cell? ⟨w.heap.size, 44, none⟩ = some (.int .i64 0) := row_cell hS.1 44; have q3 : w'.cell? ⟨w.heap.size, 45, none⟩ = some (.int .i64 0) := row_cell hS.1 45; have q4 : w'.cell? ⟨w.heap.size, 46, none⟩ = some (.slice none 0 0) := row_cell hS.1 46; go_simp; try with_reducible rfl); simp only [Act.put, List.getElem_toArray, List.getElem_cons_zero, List.getElem_cons_succ,  List.setIfInBounds_toArray, List.set_cons_zero, List.set_cons_succ])
  (refine hw_take HOK (i := 6) ?_ rfl (by decide) (by kernel_rfl) (by kernel_rfl) (by exact fun _ _ _ h => h) (Or.inl ⟨by rfl, fun w' hS => ?_⟩) HS ?_; rotate_left; (go_simp; try with_reducible rfl); simp only [Act.put, List.getElem_toArray, List.getElem_cons_zero, List.getElem_cons_succ,  List.setIfInBounds_toArray, List.set_cons_zero, List.set_cons_succ])
  (refine hw_take HOK (i := 7) ?_ rfl (by decide) (by kernel_rfl) (by kernel_rfl) (by exact fun _ _ _ h => h) (Or.inl ⟨by rfl, fun w' hS => ?_⟩) HS ?_; rotate_left; (have q0 : w'.cell? ⟨w.heap.size, 48, none⟩ = some (.int .i64 0) := row_cell hS.1 48; have q1 : w'.cell? ⟨w.heap.size, 49, none⟩ = some (.int .i64 0) := row_cell hS.1 49; have q2 : w'.cell? ⟨w.heap.size, 50, none⟩ = some (.int .i64 0) := row_cell hS.1 50; have q3 : w'.cell? ⟨w.heap.size, 51, none⟩ = some (.slice none 0 0) := row_cell hS.1 51; go_simp; try with_reducible rfl); simp only [Act.put, List.getElem_toArray, List.getElem_cons_zero, List.getElem_cons_succ,  List.setIfInBounds_toArray, List.set_cons_zero, List.set_cons_succ])
  (refine hw_take HOK (i := 8) ?_ rfl (by decide) (by kernel_rfl) (by kernel_rfl) (by exact fun _ _ _ h => h) (Or.inl ⟨by rfl, fun w' hS => ?_⟩) HS ?_; rotate_left; (go_simp; try with_reducible rfl); simp only [Act.put, List.getElem_toArray, List.getElem_cons_zero, List.getElem_cons_succ,  List.setIfInBounds_toArray, List.set_cons_zero, List.set_cons_succ])
  (refine hw_take HOK (i := 9) ?_ rfl (by decide) (by kernel_rfl) (by kernel_rfl) (by exact fun _ _ _ h => h) (Or.inl ⟨by rfl, fun w' hS => ?_⟩) HS ?_; rotate_left; (have q0 : w'.cell? ⟨w.heap.size, 52, none⟩ = some (.int .i64 0) := row_cell hS.1 52; have q1 : w'.cell? ⟨w.heap.size, 53, none⟩ = some (.int .i64 0) := row_cell hS.1 53; have q2 : w'.cell? ⟨w.heap.size, 54, none⟩ = some (.int .i64 0) := row_cell hS.1 54; have q3 : w'.cell? ⟨w.heap.size, 55, none⟩ = some (.int .i64 0) := row_cell hS.1 55; have q4 : w'.cell? ⟨w.heap.size, 56, none⟩ = some (.slice none 0 0) := row_cell hS.1 56; go_simp; try with_reducible rfl); simp only [Act.put, List.getElem_toArray, List.getElem_cons_zero, List.getElem_cons_succ,  List.setIfInBounds_toArray, List.set_cons_zero, List.set_cons_succ])
  refine hw_news (f := 4) (fun x o hx => ⟨row_alloc hx.1 o, hx.2.alloc hx.2.size o⟩) [⟨10, 9, 42, #[.int .i64 0, .int .i64 0, .int .i64 0, .slice none 0 0]⟩, ⟨11, 10, 45, #[.int .i64 0, .slice none 0 0]⟩, ⟨12, 11, 47, #[.bool false, .int .i64 0, .int .i64 0, .int .i64 0, .slice none 0 0]⟩, ⟨13, 12, 53, #[.int .i64 0, .int .i64 0, .int .i64 0, .slice none 0 0]⟩, ⟨14, 13, 56, #[.int .i64 0, .int .i64 0, .int .i64 0, .int .i64 0, .slice none 0 0]⟩] _ _ _ (by kernel_rfl) (List.forall_mem_cons.2 ⟨⟨⟨_, _, rfl, rfl, rfl, fun ρ w' => by go_simp⟩, rfl, by decide⟩, List.forall_mem_cons.2 ⟨⟨⟨_, _, rfl, rfl, rfl, fun ρ w' => by go_simp⟩, rfl, by decide⟩, List.forall_mem_cons.2 ⟨⟨⟨_, _, rfl, rfl, rfl, fun ρ w' => by go_simp⟩, rfl, by decide⟩, List.forall_mem_cons.2 ⟨⟨⟨_, _, rfl, rfl, rfl, fun ρ w' => by go_simp⟩, rfl, by decide⟩, List.forall_mem_cons.2 ⟨⟨⟨_, _, rfl, rfl, rfl, fun ρ w' => by go_simp⟩, rfl, by decide⟩, fun _ h => by cases h⟩⟩⟩⟩⟩) (by decide) HS ?_
  intro bs v2 hS hN
  clear HS
  obtain ⟨b0, b1, b2, b3, b4, rfl⟩ : ∃ b0 b1 b2 b3 b4, bs = [b0, b1, b2, b3, b4] := by
    match bs, hN.len with
    | [b0, b1, b2, b3, b4], _ => exact ⟨_, _, _, _, _, rfl⟩
  have zx := row_lt X
  have nd := hN.nodup
  simp only [List.nodup_cons, List.mem_cons, List.not_mem_nil, or_false, not_or] at nd
  obtain ⟨⟨n01, n02, n03, n04⟩, ⟨n12, n13, n14⟩, ⟨n23, n24⟩, n34, _⟩ := nd
  have P0 : Row v2 b0 42 #[.int .i64 0, .int .i64 0, .int .i64 0, .slice none 0 0] := hN.rows 0 _ _ rfl rfl
  have ge0 : w.heap.size + 1 ≤ b0 := Nat.le_trans zx (hN.ge b0 (by simp))
  have P1 : Row v2 b1 45 #[.int .i64 0, .slice none 0 0] := hN.rows 1 _ _ rfl rfl
  have ge1 : w.heap.size + 1 ≤ b1 := Nat.le_trans zx (hN.ge b1 (by simp))
  have P2 : Row v2 b2 47 #[.bool false, .int .i64 0, .int .i64 0, .int .i64 0, .slice none 0 0] := hN.rows 2 _ _ rfl rfl
  have ge2 : w.heap.size + 1 ≤ b2 := Nat.le_trans zx (hN.ge b2 (by simp))
  have P3 : Row v2 b3 53 #[.int .i64 0, .int .i64 0, .int .i64 0, .slice none 0 0] := hN.rows 3 _ _ rfl rfl
  have ge3 : w.heap.size + 1 ≤ b3 := Nat.le_trans zx (hN.ge b3 (by simp))
  have P4 : Row v2 b4 56 #[.int .i64 0, .int .i64 0, .int .i64 0, .int .i64 0, .slice none 0 0] := hN.rows 4 _ _ rfl rfl
  have ge4 : w.heap.size + 1 ≤ b4 := Nat.le_trans zx (hN.ge b4 (by simp))
  replace X := hS.1
  replace o := hS.2
  clear hN hS zx
  simp only [putAll, setAll, List.foldl]
  try simp only [Act.put, List.getElem_toArray, List.getElem_cons_zero, List.getElem_cons_succ, List.setIfInBounds_toArray, List.set_cons_zero, List.set_cons_succ]
  refine hw_one (i := 15) rfl (by decide) (by kernel_rfl) (fun K hK => ?_)
  obtain ⟨y0, y1, y2, y3, yf0, yf1, yf2, yf3⟩ := row_four P0
  go_simp
  clear y0 yf0 y1 yf1 y2 yf2 y3 yf3
  replace P0 := row_set P0 0 (.int .i64 0)
  replace P1 := row_other (p := ⟨b0, 0, none⟩) P1 (by show b1 ≠ b0; omega) (.int .i64 0)
  replace P2 := row_other (p := ⟨b0, 0, none⟩) P2 (by show b2 ≠ b0; omega) (.int .i64 0)
  replace P3 := row_other (p := ⟨b0, 0, none⟩) P3 (by show b3 ≠ b0; omega) (.int .i64 0)
  replace P4 := row_other (p := ⟨b0, 0, none⟩) P4 (by show b4 ≠ b0; omega) (.int .i64 0)
  replace X := row_other (p := ⟨b0, 0, none⟩) X (by show w.heap.size ≠ b0; omega) (.int .i64 0)
  replace o := o.setCell (p := ⟨b0, 0, none⟩) (by show w.heap.size ≤ b0; omega) (.int .i64 0)
  replace P0 := row_set P0 1 (.int .i64 0)
  replace P1 := row_other (p := ⟨b0, 1, none⟩) P1 (by show b1 ≠ b0; omega) (.int .i64 0)
  replace P2 := row_other (p := ⟨b0, 1, none⟩) P2 (by show b2 ≠ b0; omega) (.int .i64 0)
  replace P3 := row_other (p := ⟨b0, 1, none⟩) P3 (by show b3 ≠ b0; omega) (.int .i64 0)
  replace P4 := row_other (p := ⟨b0, 1, none⟩) P4 (by show b4 ≠ b0; omega) (.int .i64 0)
  replace X := row_other (p := ⟨b0, 1, none⟩) X (by show w.heap.size ≠ b0; omega) (.int .i64 0)
  replace o := o.setCell (p := ⟨b0, 1, none⟩) (by show w.heap.size ≤ b0; omega) (.int .i64 0)
  replace P0 := row_set P0 2 (.int .i64 0)
  replace P1 := row_other (p := ⟨b0, 2, none⟩) P1 (by show b1 ≠ b0; omega) (.int .i64 0)
  replace P2 := row_other (p := ⟨b0, 2, none⟩) P2 (by show b2 ≠ b0; omega) (.int .i64 0)
  replace P3 := row_other (p := ⟨b0, 2, none⟩) P3 (by show b3 ≠ b0; omega) (.int .i64 0)
  replace P4 := row_other (p := ⟨b0, 2, none⟩) P4 (by show b4 ≠ b0; omega) (.int .i64 0)
  replace X := row_other (p := ⟨b0, 2, none⟩) X (by show w.heap.size ≠ b0; omega) (.int .i64 0)
  replace o := o.setCell (p := ⟨b0, 2, none⟩) (by show w.heap.size ≤ b0; omega) (.int .i64 0)
  replace P0 := row_set P0 3 (.slice none 0 0)
  replace P1 := row_other (p := ⟨b0, 3, none⟩) P1 (by show b1 ≠ b0; omega) (.slice none 0 0)
  replace P2 := row_other (p := ⟨b0, 3, none⟩) P2 (by show b2 ≠ b0; omega) (.slice none 0 0)
  replace P3 := row_other (p := ⟨b0, 3, none⟩) P3 (by show b3 ≠ b0; omega) (.slice none 0 0)
  replace P4 := row_other (p := ⟨b0, 3, none⟩) P4 (by show b4 ≠ b0; omega) (.slice none 0 0)
  replace X := row_other (p := ⟨b0, 3, none⟩) X (by show w.heap.size ≠ b0; omega) (.slice none 0 0)
  replace o := o.setCell (p := ⟨b0, 3, none⟩) (by show w.heap.size ≤ b0; omega) (.slice none 0 0)
  replace P0 : Row ((((v2.setCell ⟨b0, 0, none⟩ (.int .i64 0)).setCell ⟨b0, 1, none⟩ (.int .i64 0)).setCell ⟨b0, 2, none⟩ (.int .i64 0)).setCell ⟨b0, 3, none⟩ (.slice none 0 0)) b0 42 #[.int .i64 0, .int .i64 0, .int .i64 0, .slice none 0 0] := P0
  generalize ((((v2.setCell ⟨b0, 0, none⟩ (.int .i64 0)).setCell ⟨b0, 1, none⟩ (.int .i64 0)).setCell ⟨b0, 2, none⟩ (.int .i64 0)).setCell ⟨b0, 3, none⟩ (.slice none 0 0)) = v2_0 at X o P0 P1 P2 P3 P4 ⊢
  refine hK _ _ ⟨X, o⟩ ?_
  clear hK K
  try simp only [Act.put, List.getElem_toArray, List.getElem_cons_zero, List.getElem_cons_succ, List.setIfInBounds_toArray, List.set_cons_zero, List.set_cons_succ]
  refine hw_one (i := 16) rfl (by decide) (by kernel_rfl) (fun K hK => ?_)
  obtain ⟨y0, y1, yf0, yf1⟩ := row_two P1
  go_simp
  clear y0 yf0 y1 yf1
  replace P1 := row_set P1 0 (.int .i64 0)
  replace P0 := row_other (p := ⟨b1, 0, none⟩) P0 (by show b0 ≠ b1; omega) (.int .i64 0)
  replace P2 := row_other (p := ⟨b1, 0, none⟩) P2 (by show b2 ≠ b1; omega) (.int .i64 0)
  replace P3 := row_other (p := ⟨b1, 0, none⟩) P3 (by show b3 ≠ b1; omega) (.int .i64 0)
  replace P4 := row_other (p := ⟨b1, 0, none⟩) P4 (by show b4 ≠ b1; omega) (.int .i64 0)
  replace X := row_other (p := ⟨b1, 0, none⟩) X (by show w.heap.size ≠ b1; omega) (.int .i64 0)
  replace o := o.setCell (p := ⟨b1, 0, none⟩) (by show w.heap.size ≤ b1; omega) (.int .i64 0)
  replace P1 := row_set P1 1 (.slice none 0 0)
  replace P0 := row_other (p := ⟨b1, 1, none⟩) P0 (by show b0 ≠ b1; omega) (.slice none 0 0)
  replace P2 := row_other (p := ⟨b1, 1, none⟩) P2 (by show b2 ≠ b1; omega) (.slice none 0 0)
  replace P3 := row_other (p := ⟨b1, 1, none⟩) P3 (by show b3 ≠ b1; omega) (.slice none 0 0)
  replace P4 := row_other (p := ⟨b1, 1, none⟩) P4 (by show b4 ≠ b1; omega) (.slice none 0 0)
  replace X := row_other (p := ⟨b1, 1, none⟩) X (by show w.heap.size ≠ b1; omega) (.slice none 0 0)
  replace o := o.setCell (p := ⟨b1, 1, none⟩) (by show w.heap.size ≤ b1; omega) (.slice none 0 0)
  replace P1 : Row ((v2_0.setCell ⟨b1, 0, none⟩ (.int .i64 0)).setCell ⟨b1, 1, none⟩ (.slice none 0 0)) b1 45 #[.int .i64 0, .slice none 0 0] := P1
  generalize ((v2_0.setCell ⟨b1, 0, none⟩ (.int .i64 0)).setCell ⟨b1, 1, none⟩ (.slice none 0 0)) = v2_1 at X o P0 P1 P2 P3 P4 ⊢
  refine hK _ _ ⟨X, o⟩ ?_
  clear hK K
  try simp only [Act.put, List.getElem_toArray, List.getElem_cons_zero, List.getElem_cons_succ, List.setIfInBounds_toArray, List.set_cons_zero, List.set_cons_succ]
  refine hw_one (i := 17) rfl (by decide) (by kernel_rfl) (fun K hK => ?_)
  obtain ⟨y0, y1, y2, y3, y4, yf0, yf1, yf2, yf3, yf4⟩ := row_five P2
  go_simp
  clear y0 yf0 y1 yf1 y2 yf2 y3 yf3 y4 yf4
  replace P2 := row_set P2 0 (.bool false)
  replace P0 := row_other (p := ⟨b2, 0, none⟩) P0 (by show b0 ≠ b2; omega) (.bool false)
  replace P1 := row_other (p := ⟨b2, 0, none⟩) P1 (by show b1 ≠ b2; omega) (.bool false)
  replace P3 := row_other (p := ⟨b2, 0, none⟩) P3 (by show b3 ≠ b2; omega) (.bool false)
  replace P4 := row_other (p := ⟨b2, 0, none⟩) P4 (by show b4 ≠ b2; omega) (.bool false)
  replace X := row_other (p := ⟨b2, 0, none⟩) X (by show w.heap.size ≠ b2; omega) (.bool false)
  replace o := o.setCell (p := ⟨b2, 0, none⟩) (by show w.heap.size ≤ b2; omega) (.bool false)
  replace P2 := row_set P2 1 (.int .i64 0)
  replace P0 := row_other (p := ⟨b2, 1, none⟩) P0 (by show b0 ≠ b2; omega) (.int .i64 0)
  replace P1 := row_other (p := ⟨b2, 1, none⟩) P1 (by show b1 ≠ b2; omega) (.int .i64 0)
  replace P3 := row_other (p := ⟨b2, 1, none⟩) P3 (by show b3 ≠ b2; omega) (.int .i64 0)
  replace P4 := row_other (p := ⟨b2, 1, none⟩) P4 (by show b4 ≠ b2; omega) (.int .i64 0)
  replace X := row_other (p := ⟨b2, 1, none⟩) X (by show w.heap.size ≠ b2; omega) (.int .i64 0)
  replace o := o.setCell (p := ⟨b2, 1, none⟩) (by show w.heap.size ≤ b2; omega) (.int .i64 0)
  replace P2 := row_set P2 2 (.int .i64 0)
  replace P0 := row_other (p := ⟨b2, 2, none⟩) P0 (by show b0 ≠ b2; omega) (.int .i64 0)
  replace P1 := row_other (p := ⟨b2, 2, none⟩) P1 (by show b1 ≠ b2; omega) (.int .i64 0)
  replace P3 := row_other (p := ⟨b2, 2, none⟩) P3 (by show b3 ≠ b2; omega) (.int .i64 0)
  replace P4 := row_other (p := ⟨b2, 2, none⟩) P4 (by show b4 ≠ b2; omega) (.int .i64 0)
  replace X := row_other (p := ⟨b2, 2, none⟩) X (by show w.heap.size ≠ b2; omega) (.int .i64 0)
  replace o := o.setCell (p := ⟨b2, 2, none⟩) (by show w.heap.size ≤ b2; omega) (.int .i64 0)
  replace P2 := row_set P2 3 (.int .i64 0)
  replace P0 := row_other (p := ⟨b2, 3, none⟩) P0 (by show b0 ≠ b2; omega) (.int .i64 0)
  replace P1 := row_other (p := ⟨b2, 3, none⟩) P1 (by show b1 ≠ b2; omega) (.int .i64 0)
  replace P3 := row_other (p := ⟨b2, 3, none⟩) P3 (by show b3 ≠ b2; omega) (.int .i64 0)
  replace P4 := row_other (p := ⟨b2, 3, none⟩) P4 (by show b4 ≠ b2; omega) (.int .i64 0)
  replace X := row_other (p := ⟨b2, 3, none⟩) X (by show w.heap.size ≠ b2; omega) (.int .i64 0)
  replace o := o.setCell (p := ⟨b2, 3, none⟩) (by show w.heap.size ≤ b2; omega) (.int .i64 0)
  replace P2 := row_set P2 4 (.slice none 0 0)
  replace P0 := row_other (p := ⟨b2, 4, none⟩) P0 (by show b0 ≠ b2; omega) (.slice none 0 0)
  replace P1 := row_other (p := ⟨b2, 4, none⟩) P1 (by show b1 ≠ b2; omega) (.slice none 0 0)
  replace P3 := row_other (p := ⟨b2, 4, none⟩) P3 (by show b3 ≠ b2; omega) (.slice none 0 0)
  replace P4 := row_other (p := ⟨b2, 4, none⟩) P4 (by show b4 ≠ b2; omega) (.slice none 0 0)
  replace X := row_other (p := ⟨b2, 4, none⟩) X (by show w.heap.size ≠ b2; omega) (.slice none 0 0)
  replace o := o.setCell (p := ⟨b2, 4, none⟩) (by show w.heap.size ≤ b2; omega) (.slice none 0 0)
  replace P2 : Row (((((v2_1.setCell ⟨b2, 0, none⟩ (.bool false)).setCell ⟨b2, 1, none⟩ (.int .i64 0)).setCell ⟨b2, 2, none⟩ (.int .i64 0)).setCell ⟨b2, 3, none⟩ (.int .i64 0)).setCell ⟨b2, 4, none⟩ (.slice none 0 0)) b2 47 #[.bool false, .int .i64 0, .int .i64 0, .int .i64 0, .slice none 0 0] := P2
  generalize (((((v2_1.setCell ⟨b2, 0, none⟩ (.bool false)).setCell ⟨b2, 1, none⟩ (.int .i64 0)).setCell ⟨b2, 2, none⟩ (.int .i64 0)).setCell ⟨b2, 3, none⟩ (.int .i64 0)).setCell ⟨b2, 4, none⟩ (.slice none 0 0)) = v2_2 at X o P0 P1 P2 P3 P4 ⊢
  refine hK _ _ ⟨X, o⟩ ?_
  clear hK K
  try simp only [Act.put, List.getElem_toArray, List.getElem_cons_zero, List.getElem_cons_succ, List.setIfInBounds_toArray, List.set_cons_zero, List.set_cons_succ]
  refine hw_one (i := 18) rfl (by decide) (by kernel_rfl) (fun K hK => ?_)
  obtain ⟨y0, y1, y2, y3, yf0, yf1, yf2, yf3⟩ := row_four P3
  go_simp
  clear y0 yf0 y1 yf1 y2 yf2 y3 yf3
  replace P3 := row_set P3 0 (.int .i64 0)
  replace P0 := row_other (p := ⟨b3, 0, none⟩) P0 (by show b0 ≠ b3; omega) (.int .i64 0)
  replace P1 := row_other (p := ⟨b3, 0, none⟩) P1 (by show b1 ≠ b3; omega) (.int .i64 0)
  replace P2 := row_other (p := ⟨b3, 0, none⟩) P2 (by show b2 ≠ b3; omega) (.int .i64 0)
  replace P4 := row_other (p := ⟨b3, 0, none⟩) P4 (by show b4 ≠ b3; omega) (.int .i64 0)
  replace X := row_other (p := ⟨b3, 0, none⟩) X (by show w.heap.size ≠ b3; omega) (.int .i64 0)
  replace o := o.setCell (p := ⟨b3, 0, none⟩) (by show w.heap.size ≤ b3; omega) (.int .i64 0)
  replace P3 := row_set P3 1 (.int .i64 0)
  replace P0 := row_other (p := ⟨b3, 1, none⟩) P0 (by show b0 ≠ b3; omega) (.int .i64 0)
  replace P1 := row_other (p := ⟨b3, 1, none⟩) P1 (by show b1 ≠ b3; omega) (.int .i64 0)
  replace P2 := row_other (p := ⟨b3, 1, none⟩) P2 (by show b2 ≠ b3; omega) (.int .i64 0)
  replace P4 := row_other (p := ⟨b3, 1, none⟩) P4 (by show b4 ≠ b3; omega) (.int .i64 0)
  replace X := row_other (p := ⟨b3, 1, none⟩) X (by show w.heap.size ≠ b3; omega) (.int .i64 0)
  replace o := o.setCell (p := ⟨b3, 1, none⟩) (by show w.heap.size ≤ b3; omega) (.int .i64 0)
  replace P3 := row_set P3 2 (.int .i64 0)
  replace P0 := row_other (p := ⟨b3, 2, none⟩) P0 (by show b0 ≠ b3; omega) (.int .i64 0)
  replace P1 := row_other (p := ⟨b3, 2, none⟩) P1 (by show b1 ≠ b3; omega) (.int .i64 0)
  replace P2 := row_other (p := ⟨b3, 2, none⟩) P2 (by show b2 ≠ b3; omega) (.int .i64 0)
  replace P4 := row_other (p := ⟨b3, 2, none⟩) P4 (by show b4 ≠ b3; omega) (.int .i64 0)
  replace X := row_other (p := ⟨b3, 2, none⟩) X (by show w.heap.size ≠ b3; omega) (.int .i64 0)
  replace o := o.setCell (p := ⟨b3, 2, none⟩) (by show w.heap.size ≤ b3; omega) (.int .i64 0)
  replace P3 := row_set P3 3 (.slice none 0 0)
  replace P0 := row_other (p := ⟨b3, 3, none⟩) P0 (by show b0 ≠ b3; omega) (.slice none 0 0)
  replace P1 := row_other (p := ⟨b3, 3, none⟩) P1 (by show b1 ≠ b3; omega) (.slice none 0 0)
  replace P2 := row_other (p := ⟨b3, 3, none⟩) P2 (by show b2 ≠ b3; omega) (.slice none 0 0)
  replace P4 := row_other (p := ⟨b3, 3, none⟩) P4 (by show b4 ≠ b3; omega) (.slice none 0 0)
  replace X := row_other (p := ⟨b3, 3, none⟩) X (by show w.heap.size ≠ b3; omega) (.slice none 0 0)
  replace o := o.setCell (p := ⟨b3, 3, none⟩) (by show w.heap.size ≤ b3; omega) (.slice none 0 0)
  replace P3 : Row ((((v2_2.setCell ⟨b3, 0, none⟩ (.int .i64 0)).setCell ⟨b3, 1, none⟩ (.int .i64 0)).setCell ⟨b3, 2, none⟩ (.int .i64 0)).setCell ⟨b3, 3, none⟩ (.slice none 0 0)) b3 53 #[.int .i64 0, .int .i64 0, .int .i64 0, .slice none 0 0] := P3
  generalize ((((v2_2.setCell ⟨b3, 0, none⟩ (.int .i64 0)).setCell ⟨b3, 1, none⟩ (.int .i64 0)).setCell ⟨b3, 2, none⟩ (.int .i64 0)).setCell ⟨b3, 3, none⟩ (.slice none 0 0)) = v2_3 at X o P0 P1 P2 P3 P4 ⊢
  refine hK _ _ ⟨X, o⟩ ?_
  clear hK K
  try simp only [Act.put, List.getElem_toArray, List.getElem_cons_zero, List.getElem_cons_succ, List.setIfInBounds_toArray, List.set_cons_zero, List.set_cons_succ]
  refine hw_done (by kernel_rfl) ?_
  try simp only [List.drop_succ_cons, List.drop_zero]
  obtain ⟨y0, y1, y2, y3, y4, yf0, yf1, yf2, yf3, yf4⟩ := row_five P4
  go_upto_region 14 with (fail)
  clear y0 yf0 y1 yf1 y2 yf2 y3 yf3 y4 yf4
  replace P4 := row_set P4 0 (.int .i64 0)
  replace P0 := row_other (p := ⟨b4, 0, none⟩) P0 (by show b0 ≠ b4; omega) (.int .i64 0)
  replace P1 := row_other (p := ⟨b4, 0, none⟩) P1 (by show b1 ≠ b4; omega) (.int .i64 0)
  replace P2 := row_other (p := ⟨b4, 0, none⟩) P2 (by show b2 ≠ b4; omega) (.int .i64 0)
  replace P3 := row_other (p := ⟨b4, 0, none⟩) P3 (by show b3 ≠ b4; omega) (.int .i64 0)
  replace X := row_other (p := ⟨b4, 0, none⟩) X (by show w.heap.size ≠ b4; omega) (.int .i64 0)
  replace o := o.setCell (p := ⟨b4, 0, none⟩) (by show w.heap.size ≤ b4; omega) (.int .i64 0)
  replace P4 := row_set P4 1 (.int .i64 0)
  replace P0 := row_other (p := ⟨b4, 1, none⟩) P0 (by show b0 ≠ b4; omega) (.int .i64 0)
  replace P1 := row_other (p := ⟨b4, 1, none⟩) P1 (by show b1 ≠ b4; omega) (.int .i64 0)
  replace P2 := row_other (p := ⟨b4, 1, none⟩) P2 (by show b2 ≠ b4; omega) (.int .i64 0)
  replace P3 := row_other (p := ⟨b4, 1, none⟩) P3 (by show b3 ≠ b4; omega) (.int .i64 0)
  replace X := row_other (p := ⟨b4, 1, none⟩) X (by show w.heap.size ≠ b4; omega) (.int .i64 0)
  replace o := o.setCell (p := ⟨b4, 1, none⟩) (by show w.heap.size ≤ b4; omega) (.int .i64 0)
  replace P4 := row_set P4 2 (.int .i64 0)
  replace P0 := row_other (p := ⟨b4, 2, none⟩) P0 (by show b0 ≠ b4; omega) (.int .i64 0)
  replace P1 := row_other (p := ⟨b4, 2, none⟩) P1 (by show b1 ≠ b4; omega) (.int .i64 0)
  replace P2 := row_other (p := ⟨b4, 2, none⟩) P2 (by show b2 ≠ b4; omega) (.int .i64 0)
  replace P3 := row_other (p := ⟨b4, 2, none⟩) P3 (by show b3 ≠ b4; omega) (.int .i64 0)
  replace X := row_other (p := ⟨b4, 2, none⟩) X (by show w.heap.size ≠ b4; omega) (.int .i64 0)
  replace o := o.setCell (p := ⟨b4, 2, none⟩) (by show w.heap.size ≤ b4; omega) (.int .i64 0)
  replace P4 := row_set P4 3 (.int .i64 0)
  replace P0 := row_other (p := ⟨b4, 3, none⟩) P0 (by show b0 ≠ b4; omega) (.int .i64 0)
  replace P1 := row_other (p := ⟨b4, 3, none⟩) P1 (by show b1 ≠ b4; omega) (.int .i64 0)
  replace P2 := row_other (p := ⟨b4, 3, none⟩) P2 (by show b2 ≠ b4; omega) (.int .i64 0)
  replace P3 := row_other (p := ⟨b4, 3, none⟩) P3 (by show b3 ≠ b4; omega) (.int .i64 0)
  replace X := row_other (p := ⟨b4, 3, none⟩) X (by show w.heap.size ≠ b4; omega) (.int .i64 0)
  replace o := o.setCell (p := ⟨b4, 3, none⟩) (by show w.heap.size ≤ b4; omega) (.int .i64 0)
  replace P4 := row_set P4 4 (.slice none 0 0)
  replace P0 := row_other (p := ⟨b4, 4, none⟩) P0 (by show b0 ≠ b4; omega) (.slice none 0 0)
  replace P1 := row_other (p := ⟨b4, 4, none⟩) P1 (by show b1 ≠ b4; omega) (.slice none 0 0)
  replace P2 := row_other (p := ⟨b4, 4, none⟩) P2 (by show b2 ≠ b4; omega) (.slice none 0 0)
  replace P3 := row_other (p := ⟨b4, 4, none⟩) P3 (by show b3 ≠ b4; omega) (.slice none 0 0)
  replace X := row_other (p := ⟨b4, 4, none⟩) X (by show w.heap.size ≠ b4; omega) (.slice none 0 0)
  replace o := o.setCell (p := ⟨b4, 4, none⟩) (by show w.heap.size ≤ b4; omega) (.slice none 0 0)
  replace P4 : Row (((((v2_3.setCell ⟨b4, 0, none⟩ (.int .i64 0)).setCell ⟨b4, 1, none⟩ (.int .i64 0)).setCell ⟨b4, 2, none⟩ (.int .i64 0)).setCell ⟨b4, 3, none⟩ (.int .i64 0)).setCell ⟨b4, 4, none⟩ (.slice none 0 0)) b4 56 #[.int .i64 0, .int .i64 0, .int .i64 0, .int .i64 0, .slice none 0 0] := P4
  generalize (((((v2_3.setCell ⟨b4, 0, none⟩ (.int .i64 0)).setCell ⟨b4, 1, none⟩ (.int .i64 0)).setCell ⟨b4, 2, none⟩ (.int .i64 0)).setCell ⟨b4, 3, none⟩ (.int .i64 0)).setCell ⟨b4, 4, none⟩ (.slice none 0 0)) = v2_4 at X o P0 P1 P2 P3 P4 ⊢
  clear HOK
  obtain ⟨y0, y1, y2, y3, yf0, yf1, yf2, yf3⟩ := row_four P0
  go_upto_region 16 with (fail)
  clear y0 yf0 y1 yf1 y2 yf2 y3 yf3 P0
  obtain ⟨y0, y1, yf0, yf1⟩ := row_two P1
  go_upto_region 18 with (fail)
  clear y0 yf0 y1 yf1 P1
  obtain ⟨y0, y1, y2, y3, y4, yf0, yf1, yf2, yf3, yf4⟩ := row_five P2
  go_upto_region 20 with (fail)
  clear y0 yf0 y1 yf1 y2 yf2 y3 yf3 y4 yf4 P2
  have q47 : v2_4.cell? ⟨w.heap.size, 47, none⟩ = some (.slice none 0 0) := row_cell X 47
  go_upto_region 22 with (fail)
  clear q47
  obtain ⟨y0, y1, y2, y3, yf0, yf1, yf2, yf3⟩ := row_four P3
  go_upto_region 24 with (fail)
  clear y0 yf0 y1 yf1 y2 yf2 y3 yf3 P3
  obtain ⟨y0, y1, y2, y3, y4, yf0, yf1, yf2, yf3, yf4⟩ := row_five P4
  go_wp2
  go_ret
  exact ⟨by first | rfl | exact ret_bool (by simp) | simp, o⟩
end Go.Proofs.YtdipoojjlddohaaGreat
end
section
/- Synopses of kind Smooth: the state is right, and the whole is valid, walked. -/
set_option linter.unusedVariables false
set_option linter.unusedSimpArgs false
set_option linter.unusedSectionVars false
set_option linter.unnecessarySimpa false
namespace Go.Proofs.YtdipoojjlddohaaGreat
open Go.RowKit
set_option maxRecDepth 100000 in
set_option maxHeartbeats 4000000 in
theorem prSmooth (A : Option Addr) (m c : Nat) (agg wd k cap now seq : Int) (w : World) (HV : RowKit.Hid (∀ w', Below w.heap.size w w' → Calls Tryz.prog 136 #[.agg #[.int .i64 agg, .int .i64 wd, .int .i64 k, .int .i64 cap, .int .i64 now, .int .i64 seq, .slice A m c]] w' fun e w'' => e = .returned (.int .i64 0) ∧ Below w'.heap.size w' w'')) : Calls Tryz.prog 131 #[.agg #[.int .i64 4, .int .i64 agg, .int .i64 wd, .int .i64 k, .int .i64 cap, .int .i64 0, .int .i64 0, .int .i64 0, .int .i64 0, .int .i64 0, .int .i64 0, .slice none 0 0, .int .i64 0, .int .i64 0, .int .i64 0, .int .i64 0, .slice none 0 0, .int .i64 0, .int .i64 0, .int .i64 0, .int .i64 0, .int .i64 0, .slice none 0 0, .int .i64 agg, .int .i64 wd, .int .i64 k, .int .i64 cap, .int .i64 now, .int .i64 seq, .slice A m c, .int .i64 0, .int .i64 0, .int .i64 0, .int .i64 0, .int .i64 0, .slice none 0 0, .int .i64 0, .int .i64 0, .int .i64 0, .slice none 0 0, .int .i64 0, .slice none 0 0, .bool false, .int .i64 0, .int .i64 0, .int .i64 0, .slice none 0 0, .slice none 0 0, .int .i64 0, .int .i64 0, .int .i64 0, .slice none 0 0, .int .i64 0, .int .i64 0, .int .i64 0, .int .i64 0, .slice none 0 0]] w fun e w' => e = .returned (.bool true) ∧ Below w.heap.size w w' := by
  go_enter Tryz.func131, Tryz.ntmps131
  go_upto_region 1 with (fail)
  have X : Row (w.alloc (.cells #[.int .i64 4, .int .i64 agg, .int .i64 wd, .int .i64 k, .int .i64 cap, .int .i64 0, .int .i64 0, .int .i64 0, .int .i64 0, .int .i64 0, .int .i64 0, .slice none 0 0, .int .i64 0, .int .i64 0, .int .i64 0, .int .i64 0, .slice none 0 0, .int .i64 0, .int .i64 0, .int .i64 0, .int .i64 0, .int .i64 0, .slice none 0 0, .int .i64 agg, .int .i64 wd, .int .i64 k, .int .i64 cap, .int .i64 now, .int .i64 seq, .slice A m c, .int .i64 0, .int .i64 0, .int .i64 0, .int .i64 0, .int .i64 0, .slice none 0 0, .int .i64 0, .int .i64 0, .int .i64 0, .slice none 0 0, .int .i64 0, .slice none 0 0, .bool false, .int .i64 0, .int .i64 0, .int .i64 0, .slice none 0 0, .slice none 0 0, .int .i64 0, .int .i64 0, .int .i64 0, .slice none 0 0, .int .i64 0, .int .i64 0, .int .i64 0, .int .i64 0, .slice none 0 0] 58)) w.heap.size 58 #[.int .i64 4, .int .i64 agg, .int .i64 wd, .int .i64 k, .int .i64 cap, .int .i64 0, .int .i64 0, .int .i64 0, .int .i64 0, .int .i64 0, .int .i64 0, .slice none 0 0, .int .i64 0, .int .i64 0, .int .i64 0, .int .i64 0, .slice none 0 0, .int .i64 0, .int .i64 0, .int .i64 0, .int .i64 0, .int .i64 0, .slice none 0 0, .int .i64 agg, .int .i64 wd, .int .i64 k, .int .i64 cap, .int .i64 now, .int .i64 seq, .slice A m c, .int .i64 0, .int .i64 0, .int .i64 0, .int .i64 0, .int .i64 0, .slice none 0 0, .int .i64 0, .int .i64 0, .int .i64 0, .slice none 0 0, .int .i64 0, .slice none 0 0, .bool false, .int .i64 0, .int .i64 0, .int .i64 0, .slice none 0 0, .slice none 0 0, .int .i64 0, .int .i64 0, .int .i64 0, .slice none 0 0, .int .i64 0, .int .i64 0, .int .i64 0, .int .i64 0, .slice none 0 0] := row_new rfl
  have o : Below w.heap.size w (w.alloc (.cells #[.int .i64 4, .int .i64 agg, .int .i64 wd, .int .i64 k, .int .i64 cap, .int .i64 0, .int .i64 0, .int .i64 0, .int .i64 0, .int .i64 0, .int .i64 0, .slice none 0 0, .int .i64 0, .int .i64 0, .int .i64 0, .int .i64 0, .slice none 0 0, .int .i64 0, .int .i64 0, .int .i64 0, .int .i64 0, .int .i64 0, .slice none 0 0, .int .i64 agg, .int .i64 wd, .int .i64 k, .int .i64 cap, .int .i64 now, .int .i64 seq, .slice A m c, .int .i64 0, .int .i64 0, .int .i64 0, .int .i64 0, .int .i64 0, .slice none 0 0, .int .i64 0, .int .i64 0, .int .i64 0, .slice none 0 0, .int .i64 0, .slice none 0 0, .bool false, .int .i64 0, .int .i64 0, .int .i64 0, .slice none 0 0, .slice none 0 0, .int .i64 0, .int .i64 0, .int .i64 0, .slice none 0 0, .int .i64 0, .int .i64 0, .int .i64 0, .int .i64 0, .slice none 0 0] 58)) := by (repeat (first | exact Below.refl _ _ | refine Below.setCell ?_ (by first | (simp; done) | (simp; omega) | omega) _ | refine Below.alloc ?_ (by first | (simp; done) | (simp; omega) | omega) _ | refine Below.drew ?_ | refine Below.trans ?_ (Below.mono (by assumption) (by first | (simp; done) | (simp; omega) | omega))))
  generalize (w.alloc (.cells #[.int .i64 4, .int .i64 agg, .int .i64 wd, .int .i64 k, .int .i64 cap, .int .i64 0, .int .i64 0, .int .i64 0, .int .i64 0, .int .i64 0, .int .i64 0, .slice none 0 0, .int .i64 0, .int .i64 0, .int .i64 0, .int .i64 0, .slice none 0 0, .int .i64 0, .int .i64 0, .int .i64 0, .int .i64 0, .int .i64 0, .slice none 0 0, .int .i64 agg, .int .i64 wd, .int .i64 k, .int .i64 cap, .int .i64 now, .int .i64 seq, .slice A m c, .int .i64 0, .int .i64 0, .int .i64 0, .int .i64 0, .int .i64 0, .slice none 0 0, .int .i64 0, .int .i64 0, .int .i64 0, .slice none 0 0, .int .i64 0, .slice none 0 0, .bool false, .int .i64 0, .int .i64 0, .int .i64 0, .slice none 0 0, .slice none 0 0, .int .i64 0, .int .i64 0, .int .i64 0, .slice none 0 0, .int .i64 0, .int .i64 0, .int .i64 0, .int .i64 0, .slice none 0 0] 58)) = w1 at X o ⊢
  have q0 : w1.cell? ⟨w.heap.size, 0, none⟩ = some (.int .i64 4) := row_cell X 0
  have q1 : w1.cell? ⟨w.heap.size, 1, none⟩ = some (.int .i64 agg) := row_cell X 1
  have q2 : w1.cell? ⟨w.heap.size, 2, none⟩ = some (.int .i64 wd) := row_cell X 2
  have q3 : w1.cell? ⟨w.heap.size, 3, none⟩ = some (.int .i64 k) := row_cell X 3
  have q4 : w1.cell? ⟨w.heap.size, 4, none⟩ = some (.int .i64 cap) := row_cell X 4
  have q5 : w1.cell? ⟨w.heap.size, 5, none⟩ = some (.int .i64 0) := row_cell X 5
  have q6 : w1.cell? ⟨w.heap.size, 6, none⟩ = some (.int .i64 0) := row_cell X 6
  have q7 : w1.cell? ⟨w.heap.size, 7, none⟩ = some (.int .i64 0) := row_cell X 7
  go_upto_region 2 with (fail)
  clear q0 q1 q2 q3 q4 q5 q6 q7
  have C : Row (w1.alloc (.cells #[.int .i64 4, .int .i64 agg, .int .i64 wd, .int .i64 k, .int .i64 cap, .int .i64 0, .int .i64 0, .int .i64 0] 27)) w1.heap.size 27 #[.int .i64 4, .int .i64 agg, .int .i64 wd, .int .i64 k, .int .i64 cap, .int .i64 0, .int .i64 0, .int .i64 0] := row_new rfl
  replace X := row_alloc X (.cells #[.int .i64 4, .int .i64 agg, .int .i64 wd, .int .i64 k, .int .i64 cap, .int .i64 0, .int .i64 0, .int .i64 0] 27)
  replace o := o.alloc o.size (.cells #[.int .i64 4, .int .i64 agg, .int .i64 wd, .int .i64 k, .int .i64 cap, .int .i64 0, .int .i64 0, .int .i64 0] 27)
  generalize w1.alloc (.cells #[.int .i64 4, .int .i64 agg, .int .i64 wd, .int .i64 k, .int .i64 cap, .int .i64 0, .int .i64 0, .int .i64 0] 27) = w2 at X C o ⊢
  generalize w1.heap.size = cb at C ⊢
  obtain ⟨C0, C1, C2, C3, C4, C5, C6, C7, Cf0, Cf1, Cf2, Cf3, Cf4, Cf5, Cf6, Cf7⟩ := row_eight C
  have q0 : w2.cell? ⟨w.heap.size, 23, none⟩ = some (.int .i64 agg) := row_cell X 23
  have q1 : w2.cell? ⟨w.heap.size, 24, none⟩ = some (.int .i64 wd) := row_cell X 24
  have q2 : w2.cell? ⟨w.heap.size, 25, none⟩ = some (.int .i64 k) := row_cell X 25
  have q3 : w2.cell? ⟨w.heap.size, 26, none⟩ = some (.int .i64 cap) := row_cell X 26
  have q4 : w2.cell? ⟨w.heap.size, 27, none⟩ = some (.int .i64 now) := row_cell X 27
  have q5 : w2.cell? ⟨w.heap.size, 28, none⟩ = some (.int .i64 seq) := row_cell X 28
  have q6 : w2.cell? ⟨w.heap.size, 29, none⟩ = some (.slice A m c) := row_cell X 29
  go_upto_region 14 with (fail)
  clear q0 q1 q2 q3 q4 q5 q6 C0 Cf0 C1 Cf1 C2 Cf2 C3 Cf3 C4 Cf4 C5 Cf5 C6 Cf6 C7 Cf7 X
  have V : Row (w2.alloc (.cells #[.int .i64 agg, .int .i64 wd, .int .i64 k, .int .i64 cap, .int .i64 now, .int .i64 seq, .slice A m c] 37)) w2.heap.size 37 #[.int .i64 agg, .int .i64 wd, .int .i64 k, .int .i64 cap, .int .i64 now, .int .i64 seq, .slice A m c] := row_new rfl
  replace C := row_alloc C (.cells #[.int .i64 agg, .int .i64 wd, .int .i64 k, .int .i64 cap, .int .i64 now, .int .i64 seq, .slice A m c] 37)
  replace o := o.alloc o.size (.cells #[.int .i64 agg, .int .i64 wd, .int .i64 k, .int .i64 cap, .int .i64 now, .int .i64 seq, .slice A m c] 37)
  generalize w2.alloc (.cells #[.int .i64 agg, .int .i64 wd, .int .i64 k, .int .i64 cap, .int .i64 now, .int .i64 seq, .slice A m c] 37) = w3 at V C o ⊢
  generalize w2.heap.size = vb at V ⊢
  obtain ⟨V0, V1, V2, V3, V4, V5, V6, Vf0, Vf1, Vf2, Vf3, Vf4, Vf5, Vf6⟩ := row_seven V
  go_wp2_with fail
  refine (HV.out _ o).mono ?_
  rintro e w4 ⟨rfl, hb⟩
  clear V0 Vf0 V1 Vf1 V2 Vf2 V3 Vf3 V4 Vf4 V5 Vf5 V6 Vf6
  replace V := row_call V hb
  replace C := row_call C hb
  replace o := o.trans (hb.mono o.size)
  clear hb
  obtain ⟨V0, V1, V2, V3, V4, V5, V6, Vf0, Vf1, Vf2, Vf3, Vf4, Vf5, Vf6⟩ := row_seven V
  obtain ⟨C0, C1, C2, C3, C4, C5, C6, C7, Cf0, Cf1, Cf2, Cf3, Cf4, Cf5, Cf6, Cf7⟩ := row_eight C
  go_wp2
  go_ret
  exact ⟨by first | rfl | exact ret_bool (by simp) | simp, o⟩
set_option maxRecDepth 100000 in
set_option maxHeartbeats 4000000 in
theorem pvSmooth (A : Option Addr) (m c : Nat) (agg wd k cap now seq : Int) (w : World) (HV : RowKit.Hid (∀ w', Below w.heap.size w w' → Calls Tryz.prog 136 #[.agg #[.int .i64 agg, .int .i64 wd, .int .i64 k, .int .i64 cap, .int .i64 now, .int .i64 seq, .slice A m c]] w' fun e w'' => e = .returned (.int .i64 0) ∧ Below w'.heap.size w' w'')) (HC : RowKit.Hid (∀ w', Calls Tryz.prog 108 #[.agg #[.int .i64 4, .int .i64 agg, .int .i64 wd, .int .i64 k, .int .i64 cap, .int .i64 0, .int .i64 0, .int .i64 0]] w' fun e w'' => e = .returned (.int .i64 0) ∧ Below w'.heap.size w' w'')) : Calls Tryz.prog 39 #[.agg #[.int .i64 4, .int .i64 agg, .int .i64 wd, .int .i64 k, .int .i64 cap, .int .i64 0, .int .i64 0, .int .i64 0, .int .i64 0, .int .i64 0, .int .i64 0, .slice none 0 0, .int .i64 0, .int .i64 0, .int .i64 0, .int .i64 0, .slice none 0 0, .int .i64 0, .int .i64 0, .int .i64 0, .int .i64 0, .int .i64 0, .slice none 0 0, .int .i64 agg, .int .i64 wd, .int .i64 k, .int .i64 cap, .int .i64 now, .int .i64 seq, .slice A m c, .int .i64 0, .int .i64 0, .int .i64 0, .int .i64 0, .int .i64 0, .slice none 0 0, .int .i64 0, .int .i64 0, .int .i64 0, .slice none 0 0, .int .i64 0, .slice none 0 0, .bool false, .int .i64 0, .int .i64 0, .int .i64 0, .slice none 0 0, .slice none 0 0, .int .i64 0, .int .i64 0, .int .i64 0, .slice none 0 0, .int .i64 0, .int .i64 0, .int .i64 0, .int .i64 0, .slice none 0 0]] w fun e w' => e = .returned (.int .i64 0) ∧ Below w.heap.size w w' := by
  go_enter Tryz.func39, Tryz.ntmps39
  go_upto_region 1 with (fail)
  have X : Row (w.alloc (.cells #[.int .i64 4, .int .i64 agg, .int .i64 wd, .int .i64 k, .int .i64 cap, .int .i64 0, .int .i64 0, .int .i64 0, .int .i64 0, .int .i64 0, .int .i64 0, .slice none 0 0, .int .i64 0, .int .i64 0, .int .i64 0, .int .i64 0, .slice none 0 0, .int .i64 0, .int .i64 0, .int .i64 0, .int .i64 0, .int .i64 0, .slice none 0 0, .int .i64 agg, .int .i64 wd, .int .i64 k, .int .i64 cap, .int .i64 now, .int .i64 seq, .slice A m c, .int .i64 0, .int .i64 0, .int .i64 0, .int .i64 0, .int .i64 0, .slice none 0 0, .int .i64 0, .int .i64 0, .int .i64 0, .slice none 0 0, .int .i64 0, .slice none 0 0, .bool false, .int .i64 0, .int .i64 0, .int .i64 0, .slice none 0 0, .slice none 0 0, .int .i64 0, .int .i64 0, .int .i64 0, .slice none 0 0, .int .i64 0, .int .i64 0, .int .i64 0, .int .i64 0, .slice none 0 0] 58)) w.heap.size 58 #[.int .i64 4, .int .i64 agg, .int .i64 wd, .int .i64 k, .int .i64 cap, .int .i64 0, .int .i64 0, .int .i64 0, .int .i64 0, .int .i64 0, .int .i64 0, .slice none 0 0, .int .i64 0, .int .i64 0, .int .i64 0, .int .i64 0, .slice none 0 0, .int .i64 0, .int .i64 0, .int .i64 0, .int .i64 0, .int .i64 0, .slice none 0 0, .int .i64 agg, .int .i64 wd, .int .i64 k, .int .i64 cap, .int .i64 now, .int .i64 seq, .slice A m c, .int .i64 0, .int .i64 0, .int .i64 0, .int .i64 0, .int .i64 0, .slice none 0 0, .int .i64 0, .int .i64 0, .int .i64 0, .slice none 0 0, .int .i64 0, .slice none 0 0, .bool false, .int .i64 0, .int .i64 0, .int .i64 0, .slice none 0 0, .slice none 0 0, .int .i64 0, .int .i64 0, .int .i64 0, .slice none 0 0, .int .i64 0, .int .i64 0, .int .i64 0, .int .i64 0, .slice none 0 0] := row_new rfl
  have o : Below w.heap.size w (w.alloc (.cells #[.int .i64 4, .int .i64 agg, .int .i64 wd, .int .i64 k, .int .i64 cap, .int .i64 0, .int .i64 0, .int .i64 0, .int .i64 0, .int .i64 0, .int .i64 0, .slice none 0 0, .int .i64 0, .int .i64 0, .int .i64 0, .int .i64 0, .slice none 0 0, .int .i64 0, .int .i64 0, .int .i64 0, .int .i64 0, .int .i64 0, .slice none 0 0, .int .i64 agg, .int .i64 wd, .int .i64 k, .int .i64 cap, .int .i64 now, .int .i64 seq, .slice A m c, .int .i64 0, .int .i64 0, .int .i64 0, .int .i64 0, .int .i64 0, .slice none 0 0, .int .i64 0, .int .i64 0, .int .i64 0, .slice none 0 0, .int .i64 0, .slice none 0 0, .bool false, .int .i64 0, .int .i64 0, .int .i64 0, .slice none 0 0, .slice none 0 0, .int .i64 0, .int .i64 0, .int .i64 0, .slice none 0 0, .int .i64 0, .int .i64 0, .int .i64 0, .int .i64 0, .slice none 0 0] 58)) := by (repeat (first | exact Below.refl _ _ | refine Below.setCell ?_ (by first | (simp; done) | (simp; omega) | omega) _ | refine Below.alloc ?_ (by first | (simp; done) | (simp; omega) | omega) _ | refine Below.drew ?_ | refine Below.trans ?_ (Below.mono (by assumption) (by first | (simp; done) | (simp; omega) | omega))))
  generalize (w.alloc (.cells #[.int .i64 4, .int .i64 agg, .int .i64 wd, .int .i64 k, .int .i64 cap, .int .i64 0, .int .i64 0, .int .i64 0, .int .i64 0, .int .i64 0, .int .i64 0, .slice none 0 0, .int .i64 0, .int .i64 0, .int .i64 0, .int .i64 0, .slice none 0 0, .int .i64 0, .int .i64 0, .int .i64 0, .int .i64 0, .int .i64 0, .slice none 0 0, .int .i64 agg, .int .i64 wd, .int .i64 k, .int .i64 cap, .int .i64 now, .int .i64 seq, .slice A m c, .int .i64 0, .int .i64 0, .int .i64 0, .int .i64 0, .int .i64 0, .slice none 0 0, .int .i64 0, .int .i64 0, .int .i64 0, .slice none 0 0, .int .i64 0, .slice none 0 0, .bool false, .int .i64 0, .int .i64 0, .int .i64 0, .slice none 0 0, .slice none 0 0, .int .i64 0, .int .i64 0, .int .i64 0, .slice none 0 0, .int .i64 0, .int .i64 0, .int .i64 0, .int .i64 0, .slice none 0 0] 58)) = w1 at X o ⊢
  have q0 : w1.cell? ⟨w.heap.size, 0, none⟩ = some (.int .i64 4) := row_cell X 0
  have q1 : w1.cell? ⟨w.heap.size, 1, none⟩ = some (.int .i64 agg) := row_cell X 1
  have q2 : w1.cell? ⟨w.heap.size, 2, none⟩ = some (.int .i64 wd) := row_cell X 2
  have q3 : w1.cell? ⟨w.heap.size, 3, none⟩ = some (.int .i64 k) := row_cell X 3
  have q4 : w1.cell? ⟨w.heap.size, 4, none⟩ = some (.int .i64 cap) := row_cell X 4
  have q5 : w1.cell? ⟨w.heap.size, 5, none⟩ = some (.int .i64 0) := row_cell X 5
  have q6 : w1.cell? ⟨w.heap.size, 6, none⟩ = some (.int .i64 0) := row_cell X 6
  have q7 : w1.cell? ⟨w.heap.size, 7, none⟩ = some (.int .i64 0) := row_cell X 7
  go_wp2_with fail
  refine (HC.out _).mono ?_
  rintro e w2 ⟨rfl, hb⟩
  clear q0 q1 q2 q3 q4 q5 q6 q7
  replace X := row_call X hb
  replace o := o.trans (hb.mono o.size)
  clear hb
  have PR := Lib.hid (fun w' (hb : Below w.heap.size w w') => prSmooth A m c agg wd k cap now seq w' (Lib.hid (fun w'' hb2 => HV.out w'' (hb.trans (hb2.mono hb.size)))))
  go_wp2_with (with_reducible refine wpList_lsyn_g X rfl rfl _ rfl rfl ?_)
  refine (PR.out _ o).mono ?_
  rintro e w3 ⟨rfl, hb⟩
  replace X := row_call X hb
  replace o := o.trans (hb.mono o.size)
  clear hb
  go_wp2_with (with_reducible refine wpList_lsyn_g X rfl rfl _ rfl rfl ?_)
  refine (poSmooth A m c agg wd k cap now seq _).mono ?_
  rintro e w4 ⟨rfl, hb⟩
  replace o := o.trans (hb.mono o.size)
  clear X
  go_wp2
  go_ret
  exact ⟨rfl, o⟩
end Go.Proofs.YtdipoojjlddohaaGreat
end
section
/- Synopses of kind Smooth: the clock moved on, an item more, walked. -/
set_option linter.unusedVariables false
set_option linter.unusedSimpArgs false
set_option linter.unusedSectionVars false
set_option linter.unnecessarySimpa false
namespace Go.Proofs.YtdipoojjlddohaaGreat
open Go.RowKit
set_option maxRecDepth 100000 in
set_option maxHeartbeats 4000000 in
theorem pyAdvanceSmooth (A : Option Addr) (m c : Nat) (agg wd k cap now seq : Int) (tt : Int) (w : World) (IN : Option Addr → Nat → Nat → World → Prop) (hIN : InOK IN) (Fr : Nat → Prop) (hFr : ∀ b, Fr b → b < w.heap.size) (HV : RowKit.Hid (∀ w', Below w.heap.size w w' → Calls Tryz.prog 136 #[.agg #[.int .i64 agg, .int .i64 wd, .int .i64 k, .int .i64 cap, .int .i64 now, .int .i64 seq, .slice A m c]] w' fun e w'' => e = .returned (.int .i64 0) ∧ Below w'.heap.size w' w'')) (HC : RowKit.Hid (∀ w', Calls Tryz.prog 108 #[.agg #[.int .i64 4, .int .i64 agg, .int .i64 wd, .int .i64 k, .int .i64 cap, .int .i64 0, .int .i64 0, .int .i64 0]] w' fun e w'' => e = .returned (.int .i64 0) ∧ Below w'.heap.size w' w'')) (HA : RowKit.Hid (∀ w', Below w.heap.size w w' → Calls Tryz.prog 67 #[.agg #[.int .i64 agg, .int .i64 wd, .int .i64 k, .int .i64 cap, .int .i64 now, .int .i64 seq, .slice A m c], .int .i64 tt] w' (GRet IN (fun A m c => #[.int .i64 agg, .int .i64 wd, .int .i64 k, .int .i64 cap, .int .i64 tt, .int .i64 seq, .slice A m c]) 0 Fr w'))) : Calls Tryz.prog 21 #[.agg #[.int .i64 4, .int .i64 agg, .int .i64 wd, .int .i64 k, .int .i64 cap, .int .i64 0, .int .i64 0, .int .i64 0, .int .i64 0, .int .i64 0, .int .i64 0, .slice none 0 0, .int .i64 0, .int .i64 0, .int .i64 0, .int .i64 0, .slice none 0 0, .int .i64 0, .int .i64 0, .int .i64 0, .int .i64 0, .int .i64 0, .slice none 0 0, .int .i64 agg, .int .i64 wd, .int .i64 k, .int .i64 cap, .int .i64 now, .int .i64 seq, .slice A m c, .int .i64 0, .int .i64 0, .int .i64 0, .int .i64 0, .int .i64 0, .slice none 0 0, .int .i64 0, .int .i64 0, .int .i64 0, .slice none 0 0, .int .i64 0, .slice none 0 0, .bool false, .int .i64 0, .int .i64 0, .int .i64 0, .slice none 0 0, .slice none 0 0, .int .i64 0, .int .i64 0, .int .i64 0, .slice none 0 0, .int .i64 0, .int .i64 0, .int .i64 0, .int .i64 0, .slice none 0 0], .int .i64 tt] w (GRet IN (fun A m c => #[.int .i64 4, .int .i64 agg, .int .i64 wd, .int .i64 k, .int .i64 cap, .int .i64 0, .int .i64 0, .int .i64 0, .int .i64 0, .int .i64 0, .int .i64 0, .slice none 0 0, .int .i64 0, .int .i64 0, .int .i64 0, .int .i64 0, .slice none 0 0, .int .i64 0, .int .i64 0, .int .i64 0, .int .i64 0, .int .i64 0, .slice none 0 0, .int .i64 agg, .int .i64 wd, .int .i64 k, .int .i64 cap, .int .i64 tt, .int .i64 seq, .slice A m c, .int .i64 0, .int .i64 0, .int .i64 0, .int .i64 0, .int .i64 0, .slice none 0 0, .int .i64 0, .int .i64 0, .int .i64 0, .slice none 0 0, .int .i64 0, .slice none 0 0, .bool false, .int .i64 0, .int .i64 0, .int .i64 0, .slice none 0 0, .slice none 0 0, .int .i64 0, .int .i64 0, .int .i64 0, .slice none 0 0, .int .i64 0, .int .i64 0, .int .i64 0, .int .i64 0, .slice none 0 0]) 0 Fr w) := by
  have PVd := Lib.hid (fun w' (hb : Below w.heap.size w w') => pvSmooth A m c agg wd k cap now seq w' (Lib.hid (fun w'' hb2 => HV.out w'' (hb.trans (hb2.mono hb.size)))) HC)
  go_enter Tryz.func21, Tryz.ntmps21
  go_upto_region 1 with (fail)
  have X : Row ((w.alloc (.cells #[.int .i64 4, .int .i64 agg, .int .i64 wd, .int .i64 k, .int .i64 cap, .int .i64 0, .int .i64 0, .int .i64 0, .int .i64 0, .int .i64 0, .int .i64 0, .slice none 0 0, .int .i64 0, .int .i64 0, .int .i64 0, .int .i64 0, .slice none 0 0, .int .i64 0, .int .i64 0, .int .i64 0, .int .i64 0, .int .i64 0, .slice none 0 0, .int .i64 agg, .int .i64 wd, .int .i64 k, .int .i64 cap, .int .i64 now, .int .i64 seq, .slice A m c, .int .i64 0, .int .i64 0, .int .i64 0, .int .i64 0, .int .i64 0, .slice none 0 0, .int .i64 0, .int .i64 0, .int .i64 0, .slice none 0 0, .int .i64 0, .slice none 0 0, .bool false, .int .i64 0, .int .i64 0, .int .i64 0, .slice none 0 0, .slice none 0 0, .int .i64 0, .int .i64 0, .int .i64 0, .slice none 0 0, .int .i64 0, .int .i64 0, .int .i64 0, .int .i64 0, .slice none 0 0] 58)).alloc (.cells #[.int .i64 0, .int .i64 0, .int .i64 0, .int .i64 0, .int .i64 0, .int .i64 0, .int .i64 0, .int .i64 0, .int .i64 0, .int .i64 0, .int .i64 0, .slice none 0 0, .int .i64 0, .int .i64 0, .int .i64 0, .int .i64 0, .slice none 0 0, .int .i64 0, .int .i64 0, .int .i64 0, .int .i64 0, .int .i64 0, .slice none 0 0, .int .i64 0, .int .i64 0, .int .i64 0, .int .i64 0, .int .i64 0, .int .i64 0, .slice none 0 0, .int .i64 0, .int .i64 0, .int .i64 0, .int .i64 0, .int .i64 0, .slice none 0 0, .int .i64 0, .int .i64 0, .int .i64 0, .slice none 0 0, .int .i64 0, .slice none 0 0, .bool false, .int .i64 0, .int .i64 0, .int .i64 0, .slice none 0 0, .slice none 0 0, .int .i64 0, .int .i64 0, .int .i64 0, .slice none 0 0, .int .i64 0, .int .i64 0, .int .i64 0, .int .i64 0, .slice none 0 0] 58)) (w.heap.size) 58 #[.int .i64 4, .int .i64 agg, .int .i64 wd, .int .i64 k, .int .i64 cap, .int .i64 0, .int .i64 0, .int .i64 0, .int .i64 0, .int .i64 0, .int .i64 0, .slice none 0 0, .int .i64 0, .int .i64 0, .int .i64 0, .int .i64 0, .slice none 0 0, .int .i64 0, .int .i64 0, .int .i64 0, .int .i64 0, .int .i64 0, .slice none 0 0, .int .i64 agg, .int .i64 wd, .int .i64 k, .int .i64 cap, .int .i64 now, .int .i64 seq, .slice A m c, .int .i64 0, .int .i64 0, .int .i64 0, .int .i64 0, .int .i64 0, .slice none 0 0, .int .i64 0, .int .i64 0, .int .i64 0, .slice none 0 0, .int .i64 0, .slice none 0 0, .bool false, .int .i64 0, .int .i64 0, .int .i64 0, .slice none 0 0, .slice none 0 0, .int .i64 0, .int .i64 0, .int .i64 0, .slice none 0 0, .int .i64 0, .int .i64 0, .int .i64 0, .int .i64 0, .slice none 0 0] := row_alloc (row_new rfl) _
  have R : Row ((w.alloc (.cells #[.int .i64 4, .int .i64 agg, .int .i64 wd, .int .i64 k, .int .i64 cap, .int .i64 0, .int .i64 0, .int .i64 0, .int .i64 0, .int .i64 0, .int .i64 0, .slice none 0 0, .int .i64 0, .int .i64 0, .int .i64 0, .int .i64 0, .slice none 0 0, .int .i64 0, .int .i64 0, .int .i64 0, .int .i64 0, .int .i64 0, .slice none 0 0, .int .i64 agg, .int .i64 wd, .int .i64 k, .int .i64 cap, .int .i64 now, .int .i64 seq, .slice A m c, .int .i64 0, .int .i64 0, .int .i64 0, .int .i64 0, .int .i64 0, .slice none 0 0, .int .i64 0, .int .i64 0, .int .i64 0, .slice none 0 0, .int .i64 0, .slice none 0 0, .bool false, .int .i64 0, .int .i64 0, .int .i64 0, .slice none 0 0, .slice none 0 0, .int .i64 0, .int .i64 0, .int .i64 0, .slice none 0 0, .int .i64 0, .int .i64 0, .int .i64 0, .int .i64 0, .slice none 0 0] 58)).alloc (.cells #[.int .i64 0, .int .i64 0, .int .i64 0, .int .i64 0, .int .i64 0, .int .i64 0, .int .i64 0, .int .i64 0, .int .i64 0, .int .i64 0, .int .i64 0, .slice none 0 0, .int .i64 0, .int .i64 0, .int .i64 0, .int .i64 0, .slice none 0 0, .int .i64 0, .int .i64 0, .int .i64 0, .int .i64 0, .int .i64 0, .slice none 0 0, .int .i64 0, .int .i64 0, .int .i64 0, .int .i64 0, .int .i64 0, .int .i64 0, .slice none 0 0, .int .i64 0, .int .i64 0, .int .i64 0, .int .i64 0, .int .i64 0, .slice none 0 0, .int .i64 0, .int .i64 0, .int .i64 0, .slice none 0 0, .int .i64 0, .slice none 0 0, .bool false, .int .i64 0, .int .i64 0, .int .i64 0, .slice none 0 0, .slice none 0 0, .int .i64 0, .int .i64 0, .int .i64 0, .slice none 0 0, .int .i64 0, .int .i64 0, .int .i64 0, .int .i64 0, .slice none 0 0] 58)) (w.heap.size + 1) 58 #[.int .i64 0, .int .i64 0, .int .i64 0, .int .i64 0, .int .i64 0, .int .i64 0, .int .i64 0, .int .i64 0, .int .i64 0, .int .i64 0, .int .i64 0, .slice none 0 0, .int .i64 0, .int .i64 0, .int .i64 0, .int .i64 0, .slice none 0 0, .int .i64 0, .int .i64 0, .int .i64 0, .int .i64 0, .int .i64 0, .slice none 0 0, .int .i64 0, .int .i64 0, .int .i64 0, .int .i64 0, .int .i64 0, .int .i64 0, .slice none 0 0, .int .i64 0, .int .i64 0, .int .i64 0, .int .i64 0, .int .i64 0, .slice none 0 0, .int .i64 0, .int .i64 0, .int .i64 0, .slice none 0 0, .int .i64 0, .slice none 0 0, .bool false, .int .i64 0, .int .i64 0, .int .i64 0, .slice none 0 0, .slice none 0 0, .int .i64 0, .int .i64 0, .int .i64 0, .slice none 0 0, .int .i64 0, .int .i64 0, .int .i64 0, .int .i64 0, .slice none 0 0] := row_new (by simp)
  have o : Below w.heap.size w ((w.alloc (.cells #[.int .i64 4, .int .i64 agg, .int .i64 wd, .int .i64 k, .int .i64 cap, .int .i64 0, .int .i64 0, .int .i64 0, .int .i64 0, .int .i64 0, .int .i64 0, .slice none 0 0, .int .i64 0, .int .i64 0, .int .i64 0, .int .i64 0, .slice none 0 0, .int .i64 0, .int .i64 0, .int .i64 0, .int .i64 0, .int .i64 0, .slice none 0 0, .int .i64 agg, .int .i64 wd, .int .i64 k, .int .i64 cap, .int .i64 now, .int .i64 seq, .slice A m c, .int .i64 0, .int .i64 0, .int .i64 0, .int .i64 0, .int .i64 0, .slice none 0 0, .int .i64 0, .int .i64 0, .int .i64 0, .slice none 0 0, .int .i64 0, .slice none 0 0, .bool false, .int .i64 0, .int .i64 0, .int .i64 0, .slice none 0 0, .slice none 0 0, .int .i64 0, .int .i64 0, .int .i64 0, .slice none 0 0, .int .i64 0, .int .i64 0, .int .i64 0, .int .i64 0, .slice none 0 0] 58)).alloc (.cells #[.int .i64 0, .int .i64 0, .int .i64 0, .int .i64 0, .int .i64 0, .int .i64 0, .int .i64 0, .int .i64 0, .int .i64 0, .int .i64 0, .int .i64 0, .slice none 0 0, .int .i64 0, .int .i64 0, .int .i64 0, .int .i64 0, .slice none 0 0, .int .i64 0, .int .i64 0, .int .i64 0, .int .i64 0, .int .i64 0, .slice none 0 0, .int .i64 0, .int .i64 0, .int .i64 0, .int .i64 0, .int .i64 0, .int .i64 0, .slice none 0 0, .int .i64 0, .int .i64 0, .int .i64 0, .int .i64 0, .int .i64 0, .slice none 0 0, .int .i64 0, .int .i64 0, .int .i64 0, .slice none 0 0, .int .i64 0, .slice none 0 0, .bool false, .int .i64 0, .int .i64 0, .int .i64 0, .slice none 0 0, .slice none 0 0, .int .i64 0, .int .i64 0, .int .i64 0, .slice none 0 0, .int .i64 0, .int .i64 0, .int .i64 0, .int .i64 0, .slice none 0 0] 58)) := by (repeat (first | exact Below.refl _ _ | refine Below.setCell ?_ (by first | (simp; done) | (simp; omega) | omega) _ | refine Below.alloc ?_ (by first | (simp; done) | (simp; omega) | omega) _ | refine Below.drew ?_ | refine Below.trans ?_ (Below.mono (by assumption) (by first | (simp; done) | (simp; omega) | omega))))
  generalize ((w.alloc (.cells #[.int .i64 4, .int .i64 agg, .int .i64 wd, .int .i64 k, .int .i64 cap, .int .i64 0, .int .i64 0, .int .i64 0, .int .i64 0, .int .i64 0, .int .i64 0, .slice none 0 0, .int .i64 0, .int .i64 0, .int .i64 0, .int .i64 0, .slice none 0 0, .int .i64 0, .int .i64 0, .int .i64 0, .int .i64 0, .int .i64 0, .slice none 0 0, .int .i64 agg, .int .i64 wd, .int .i64 k, .int .i64 cap, .int .i64 now, .int .i64 seq, .slice A m c, .int .i64 0, .int .i64 0, .int .i64 0, .int .i64 0, .int .i64 0, .slice none 0 0, .int .i64 0, .int .i64 0, .int .i64 0, .slice none 0 0, .int .i64 0, .slice none 0 0, .bool false, .int .i64 0, .int .i64 0, .int .i64 0, .slice none 0 0, .slice none 0 0, .int .i64 0, .int .i64 0, .int .i64 0, .slice none 0 0, .int .i64 0, .int .i64 0, .int .i64 0, .int .i64 0, .slice none 0 0] 58)).alloc (.cells #[.int .i64 0, .int .i64 0, .int .i64 0, .int .i64 0, .int .i64 0, .int .i64 0, .int .i64 0, .int .i64 0, .int .i64 0, .int .i64 0, .int .i64 0, .slice none 0 0, .int .i64 0, .int .i64 0, .int .i64 0, .int .i64 0, .slice none 0 0, .int .i64 0, .int .i64 0, .int .i64 0, .int .i64 0, .int .i64 0, .slice none 0 0, .int .i64 0, .int .i64 0, .int .i64 0, .int .i64 0, .int .i64 0, .int .i64 0, .slice none 0 0, .int .i64 0, .int .i64 0, .int .i64 0, .int .i64 0, .int .i64 0, .slice none 0 0, .int .i64 0, .int .i64 0, .int .i64 0, .slice none 0 0, .int .i64 0, .slice none 0 0, .bool false, .int .i64 0, .int .i64 0, .int .i64 0, .slice none 0 0, .slice none 0 0, .int .i64 0, .int .i64 0, .int .i64 0, .slice none 0 0, .int .i64 0, .int .i64 0, .int .i64 0, .int .i64 0, .slice none 0 0] 58)) = w1 at X R o ⊢
  go_wp2_with (with_reducible refine wpList_lsyn X rfl rfl _ rfl rfl ?_)
  refine (PVd.out _ o).mono ?_
  rintro e w2 ⟨rfl, hb⟩
  replace X := row_call X hb
  replace R := row_call R hb
  replace o := o.trans (hb.mono o.size)
  clear hb PVd
  have k0 : w2.cell? ⟨w.heap.size, 0, none⟩ = some (.int .i64 4) := row_cell X 0
  have q0 : w2.cell? ⟨w.heap.size, 23, none⟩ = some (.int .i64 agg) := row_cell X 23
  have q1 : w2.cell? ⟨w.heap.size, 24, none⟩ = some (.int .i64 wd) := row_cell X 24
  have q2 : w2.cell? ⟨w.heap.size, 25, none⟩ = some (.int .i64 k) := row_cell X 25
  have q3 : w2.cell? ⟨w.heap.size, 26, none⟩ = some (.int .i64 cap) := row_cell X 26
  have q4 : w2.cell? ⟨w.heap.size, 27, none⟩ = some (.int .i64 now) := row_cell X 27
  have q5 : w2.cell? ⟨w.heap.size, 28, none⟩ = some (.int .i64 seq) := row_cell X 28
  have q6 : w2.cell? ⟨w.heap.size, 29, none⟩ = some (.slice A m c) := row_cell X 29
  go_wp2_with fail
  refine (HA.out _ o).mono ?_
  rintro e w3 ⟨A5, m5, c5, rfl, in5, hb, fr5⟩
  have z6 := row_lt R
  have zo := o.size
  have fr6 : 0 < m5 → ∀ a, A5 = some a → (w.heap.size ≠ a.block ∧ w.heap.size + 1 ≠ a.block) ∧ (w.heap.size ≤ a.block ∨ Fr a.block) := fun h0 a e => by
    rcases fr5 h0 a e with h | h
    · exact ⟨by omega, .inl (by omega)⟩
    · have := hFr _ h
      exact ⟨by omega, .inr h⟩
  replace X := row_call X hb
  replace R := row_call R hb
  replace o := o.trans (hb.mono o.size)
  clear hb fr5 HA q0 q1 q2 q3 q4 q5 q6 k0
  have q0 : w3.cell? ⟨w.heap.size, 23, none⟩ = some (.int .i64 agg) := row_cell X 23
  have q1 : w3.cell? ⟨w.heap.size, 24, none⟩ = some (.int .i64 wd) := row_cell X 24
  have q2 : w3.cell? ⟨w.heap.size, 25, none⟩ = some (.int .i64 k) := row_cell X 25
  have q3 : w3.cell? ⟨w.heap.size, 26, none⟩ = some (.int .i64 cap) := row_cell X 26
  have q4 : w3.cell? ⟨w.heap.size, 27, none⟩ = some (.int .i64 now) := row_cell X 27
  have q5 : w3.cell? ⟨w.heap.size, 28, none⟩ = some (.int .i64 seq) := row_cell X 28
  have q6 : w3.cell? ⟨w.heap.size, 29, none⟩ = some (.slice A m c) := row_cell X 29
  have f0 := row_free X 23
  have f1 := row_free X 24
  have f2 := row_free X 25
  have f3 := row_free X 26
  have f4 := row_free X 27
  have f5 := row_free X 28
  have f6 := row_free X 29
  go_upto_region 25 with (fail)
  clear q0 f0 q1 f1 q2 f2 q3 f3 q4 f4 q5 f5 q6 f6
  replace X := row_set X 23 (.int .i64 agg)
  replace R := row_other (p := ⟨w.heap.size, 23, none⟩) R (by show w.heap.size + 1 ≠ w.heap.size; omega) (.int .i64 agg)
  replace o := o.setCell (p := ⟨w.heap.size, 23, none⟩) (Nat.le_refl _) (.int .i64 agg)
  replace in5 := hIN.setc (p := ⟨w.heap.size, 23, none⟩) (.int .i64 agg) in5 (fun h0 a e => (fr6 h0 a e).1.1)
  replace X := row_set X 24 (.int .i64 wd)
  replace R := row_other (p := ⟨w.heap.size, 24, none⟩) R (by show w.heap.size + 1 ≠ w.heap.size; omega) (.int .i64 wd)
  replace o := o.setCell (p := ⟨w.heap.size, 24, none⟩) (Nat.le_refl _) (.int .i64 wd)
  replace in5 := hIN.setc (p := ⟨w.heap.size, 24, none⟩) (.int .i64 wd) in5 (fun h0 a e => (fr6 h0 a e).1.1)
  replace X := row_set X 25 (.int .i64 k)
  replace R := row_other (p := ⟨w.heap.size, 25, none⟩) R (by show w.heap.size + 1 ≠ w.heap.size; omega) (.int .i64 k)
  replace o := o.setCell (p := ⟨w.heap.size, 25, none⟩) (Nat.le_refl _) (.int .i64 k)
  replace in5 := hIN.setc (p := ⟨w.heap.size, 25, none⟩) (.int .i64 k) in5 (fun h0 a e => (fr6 h0 a e).1.1)
  replace X := row_set X 26 (.int .i64 cap)
  replace R := row_other (p := ⟨w.heap.size, 26, none⟩) R (by show w.heap.size + 1 ≠ w.heap.size; omega) (.int .i64 cap)
  replace o := o.setCell (p := ⟨w.heap.size, 26, none⟩) (Nat.le_refl _) (.int .i64 cap)
  replace in5 := hIN.setc (p := ⟨w.heap.size, 26, none⟩) (.int .i64 cap) in5 (fun h0 a e => (fr6 h0 a e).1.1)
  replace X := row_set X 27 (.int .i64 tt)
  replace R := row_other (p := ⟨w.heap.size, 27, none⟩) R (by show w.heap.size + 1 ≠ w.heap.size; omega) (.int .i64 tt)
  replace o := o.setCell (p := ⟨w.heap.size, 27, none⟩) (Nat.le_refl _) (.int .i64 tt)
  replace in5 := hIN.setc (p := ⟨w.heap.size, 27, none⟩) (.int .i64 tt) in5 (fun h0 a e => (fr6 h0 a e).1.1)
  replace X := row_set X 28 (.int .i64 seq)
  replace R := row_other (p := ⟨w.heap.size, 28, none⟩) R (by show w.heap.size + 1 ≠ w.heap.size; omega) (.int .i64 seq)
  replace o := o.setCell (p := ⟨w.heap.size, 28, none⟩) (Nat.le_refl _) (.int .i64 seq)
  replace in5 := hIN.setc (p := ⟨w.heap.size, 28, none⟩) (.int .i64 seq) in5 (fun h0 a e => (fr6 h0 a e).1.1)
  replace X := row_set X 29 (.slice A5 m5 c5)
  replace R := row_other (p := ⟨w.heap.size, 29, none⟩) R (by show w.heap.size + 1 ≠ w.heap.size; omega) (.slice A5 m5 c5)
  replace o := o.setCell (p := ⟨w.heap.size, 29, none⟩) (Nat.le_refl _) (.slice A5 m5 c5)
  replace in5 := hIN.setc (p := ⟨w.heap.size, 29, none⟩) (.slice A5 m5 c5) in5 (fun h0 a e => (fr6 h0 a e).1.1)
  replace X : Row (((((((w3.setCell ⟨w.heap.size, 23, none⟩ (.int .i64 agg)).setCell ⟨w.heap.size, 24, none⟩ (.int .i64 wd)).setCell ⟨w.heap.size, 25, none⟩ (.int .i64 k)).setCell ⟨w.heap.size, 26, none⟩ (.int .i64 cap)).setCell ⟨w.heap.size, 27, none⟩ (.int .i64 tt)).setCell ⟨w.heap.size, 28, none⟩ (.int .i64 seq)).setCell ⟨w.heap.size, 29, none⟩ (.slice A5 m5 c5)) (w.heap.size) 58 #[.int .i64 4, .int .i64 agg, .int .i64 wd, .int .i64 k, .int .i64 cap, .int .i64 0, .int .i64 0, .int .i64 0, .int .i64 0, .int .i64 0, .int .i64 0, .slice none 0 0, .int .i64 0, .int .i64 0, .int .i64 0, .int .i64 0, .slice none 0 0, .int .i64 0, .int .i64 0, .int .i64 0, .int .i64 0, .int .i64 0, .slice none 0 0, .int .i64 agg, .int .i64 wd, .int .i64 k, .int .i64 cap, .int .i64 tt, .int .i64 seq, .slice A5 m5 c5, .int .i64 0, .int .i64 0, .int .i64 0, .int .i64 0, .int .i64 0, .slice none 0 0, .int .i64 0, .int .i64 0, .int .i64 0, .slice none 0 0, .int .i64 0, .slice none 0 0, .bool false, .int .i64 0, .int .i64 0, .int .i64 0, .slice none 0 0, .slice none 0 0, .int .i64 0, .int .i64 0, .int .i64 0, .slice none 0 0, .int .i64 0, .int .i64 0, .int .i64 0, .int .i64 0, .slice none 0 0] := X
  generalize (((((((w3.setCell ⟨w.heap.size, 23, none⟩ (.int .i64 agg)).setCell ⟨w.heap.size, 24, none⟩ (.int .i64 wd)).setCell ⟨w.heap.size, 25, none⟩ (.int .i64 k)).setCell ⟨w.heap.size, 26, none⟩ (.int .i64 cap)).setCell ⟨w.heap.size, 27, none⟩ (.int .i64 tt)).setCell ⟨w.heap.size, 28, none⟩ (.int .i64 seq)).setCell ⟨w.heap.size, 29, none⟩ (.slice A5 m5 c5)) = w4 at X R o in5 ⊢
  have k0 : w4.cell? ⟨w.heap.size, 0, none⟩ = some (.int .i64 4) := row_cell X 0
  have hone : (#[.int .i64 4, .int .i64 agg, .int .i64 wd, .int .i64 k, .int .i64 cap, .int .i64 0, .int .i64 0, .int .i64 0, .int .i64 0, .int .i64 0, .int .i64 0, .slice none 0 0, .int .i64 0, .int .i64 0, .int .i64 0, .int .i64 0, .slice none 0 0, .int .i64 0, .int .i64 0, .int .i64 0, .int .i64 0, .int .i64 0, .slice none 0 0, .int .i64 agg, .int .i64 wd, .int .i64 k, .int .i64 cap, .int .i64 tt, .int .i64 seq, .slice A5 m5 c5, .int .i64 0, .int .i64 0, .int .i64 0, .int .i64 0, .int .i64 0, .slice none 0 0, .int .i64 0, .int .i64 0, .int .i64 0, .slice none 0 0, .int .i64 0, .slice none 0 0, .bool false, .int .i64 0, .int .i64 0, .int .i64 0, .slice none 0 0, .slice none 0 0, .int .i64 0, .int .i64 0, .int .i64 0, .slice none 0 0, .int .i64 0, .int .i64 0, .int .i64 0, .int .i64 0, .slice none 0 0] : Array Value).all (·.oneCell') = true := all_one rfl
  go_wp2_with (first | (with_reducible refine wpList_lsyn X rfl rfl _ rfl rfl ?_) | (with_reducible refine wpList_ssyn R rfl rfl hone rfl _ _ rfl rfl rfl ?_))
  have R9 := row_setRow (cs := #[.int .i64 4, .int .i64 agg, .int .i64 wd, .int .i64 k, .int .i64 cap, .int .i64 0, .int .i64 0, .int .i64 0, .int .i64 0, .int .i64 0, .int .i64 0, .slice none 0 0, .int .i64 0, .int .i64 0, .int .i64 0, .int .i64 0, .slice none 0 0, .int .i64 0, .int .i64 0, .int .i64 0, .int .i64 0, .int .i64 0, .slice none 0 0, .int .i64 agg, .int .i64 wd, .int .i64 k, .int .i64 cap, .int .i64 tt, .int .i64 seq, .slice A5 m5 c5, .int .i64 0, .int .i64 0, .int .i64 0, .int .i64 0, .int .i64 0, .slice none 0 0, .int .i64 0, .int .i64 0, .int .i64 0, .slice none 0 0, .int .i64 0, .slice none 0 0, .bool false, .int .i64 0, .int .i64 0, .int .i64 0, .slice none 0 0, .slice none 0 0, .int .i64 0, .int .i64 0, .int .i64 0, .slice none 0 0, .int .i64 0, .int .i64 0, .int .i64 0, .int .i64 0, .slice none 0 0]) R
  refine bodyPost_ret (v := .tuple #[.agg #[.int .i64 4, .int .i64 agg, .int .i64 wd, .int .i64 k, .int .i64 cap, .int .i64 0, .int .i64 0, .int .i64 0, .int .i64 0, .int .i64 0, .int .i64 0, .slice none 0 0, .int .i64 0, .int .i64 0, .int .i64 0, .int .i64 0, .slice none 0 0, .int .i64 0, .int .i64 0, .int .i64 0, .int .i64 0, .int .i64 0, .slice none 0 0, .int .i64 agg, .int .i64 wd, .int .i64 k, .int .i64 cap, .int .i64 tt, .int .i64 seq, .slice A5 m5 c5, .int .i64 0, .int .i64 0, .int .i64 0, .int .i64 0, .int .i64 0, .slice none 0 0, .int .i64 0, .int .i64 0, .int .i64 0, .slice none 0 0, .int .i64 0, .slice none 0 0, .bool false, .int .i64 0, .int .i64 0, .int .i64 0, .slice none 0 0, .slice none 0 0, .int .i64 0, .int .i64 0, .int .i64 0, .slice none 0 0, .int .i64 0, .int .i64 0, .int .i64 0, .int .i64 0, .slice none 0 0], .int .i64 0]) ?_ rfl ?_
  · exact results_syn (p := 4) (q := 5) rfl _ R9 rfl rfl
  · exact ⟨A5, m5, c5, rfl, hIN.setr _ in5 (fun h0 a e => (fr6 h0 a e).1.2), below_setRow o (by omega) _, fun h0 a e => (fr6 h0 a e).2⟩
set_option maxRecDepth 100000 in
set_option maxHeartbeats 4000000 in
theorem pyAddSmooth (A : Option Addr) (m c : Nat) (agg wd k cap now seq : Int) (v : Int) (w : World) (IN : Option Addr → Nat → Nat → World → Prop) (hIN : InOK IN) (Fr : Nat → Prop) (hFr : ∀ b, Fr b → b < w.heap.size) (HV : RowKit.Hid (∀ w', Below w.heap.size w w' → Calls Tryz.prog 136 #[.agg #[.int .i64 agg, .int .i64 wd, .int .i64 k, .int .i64 cap, .int .i64 now, .int .i64 seq, .slice A m c]] w' fun e w'' => e = .returned (.int .i64 0) ∧ Below w'.heap.size w' w'')) (HC : RowKit.Hid (∀ w', Calls Tryz.prog 108 #[.agg #[.int .i64 4, .int .i64 agg, .int .i64 wd, .int .i64 k, .int .i64 cap, .int .i64 0, .int .i64 0, .int .i64 0]] w' fun e w'' => e = .returned (.int .i64 0) ∧ Below w'.heap.size w' w'')) (HA : RowKit.Hid (∀ w', Below w.heap.size w w' → Calls Tryz.prog 123 #[.agg #[.int .i64 agg, .int .i64 wd, .int .i64 k, .int .i64 cap, .int .i64 now, .int .i64 seq, .slice A m c], .int .i64 v] w' (GRet IN (fun A m c => #[.int .i64 agg, .int .i64 wd, .int .i64 k, .int .i64 cap, .int .i64 now, .int .i64 (seq + 1), .slice A m c]) 0 Fr w'))) : Calls Tryz.prog 38 #[.agg #[.int .i64 4, .int .i64 agg, .int .i64 wd, .int .i64 k, .int .i64 cap, .int .i64 0, .int .i64 0, .int .i64 0, .int .i64 0, .int .i64 0, .int .i64 0, .slice none 0 0, .int .i64 0, .int .i64 0, .int .i64 0, .int .i64 0, .slice none 0 0, .int .i64 0, .int .i64 0, .int .i64 0, .int .i64 0, .int .i64 0, .slice none 0 0, .int .i64 agg, .int .i64 wd, .int .i64 k, .int .i64 cap, .int .i64 now, .int .i64 seq, .slice A m c, .int .i64 0, .int .i64 0, .int .i64 0, .int .i64 0, .int .i64 0, .slice none 0 0, .int .i64 0, .int .i64 0, .int .i64 0, .slice none 0 0, .int .i64 0, .slice none 0 0, .bool false, .int .i64 0, .int .i64 0, .int .i64 0, .slice none 0 0, .slice none 0 0, .int .i64 0, .int .i64 0, .int .i64 0, .slice none 0 0, .int .i64 0, .int .i64 0, .int .i64 0, .int .i64 0, .slice none 0 0], .int .i64 v, .slice none 0 0] w (GRet IN (fun A m c => #[.int .i64 4, .int .i64 agg, .int .i64 wd, .int .i64 k, .int .i64 cap, .int .i64 0, .int .i64 0, .int .i64 0, .int .i64 0, .int .i64 0, .int .i64 0, .slice none 0 0, .int .i64 0, .int .i64 0, .int .i64 0, .int .i64 0, .slice none 0 0, .int .i64 0, .int .i64 0, .int .i64 0, .int .i64 0, .int .i64 0, .slice none 0 0, .int .i64 agg, .int .i64 wd, .int .i64 k, .int .i64 cap, .int .i64 now, .int .i64 (seq + 1), .slice A m c, .int .i64 0, .int .i64 0, .int .i64 0, .int .i64 0, .int .i64 0, .slice none 0 0, .int .i64 0, .int .i64 0, .int .i64 0, .slice none 0 0, .int .i64 0, .slice none 0 0, .bool false, .int .i64 0, .int .i64 0, .int .i64 0, .slice none 0 0, .slice none 0 0, .int .i64 0, .int .i64 0, .int .i64 0, .slice none 0 0, .int .i64 0, .int .i64 0, .int .i64 0, .int .i64 0, .slice none 0 0]) 0 Fr w) := by
  have PVd := Lib.hid (fun w' (hb : Below w.heap.size w w') => pvSmooth A m c agg wd k cap now seq w' (Lib.hid (fun w'' hb2 => HV.out w'' (hb.trans (hb2.mono hb.size)))) HC)
  go_enter Tryz.func38, Tryz.ntmps38
  go_upto_region 1 with (fail)
  have X : Row ((w.alloc (.cells #[.int .i64 4, .int .i64 agg, .int .i64 wd, .int .i64 k, .int .i64 cap, .int .i64 0, .int .i64 0, .int .i64 0, .int .i64 0, .int .i64 0, .int .i64 0, .slice none 0 0, .int .i64 0, .int .i64 0, .int .i64 0, .int .i64 0, .slice none 0 0, .int .i64 0, .int .i64 0, .int .i64 0, .int .i64 0, .int .i64 0, .slice none 0 0, .int .i64 agg, .int .i64 wd, .int .i64 k, .int .i64 cap, .int .i64 now, .int .i64 seq, .slice A m c, .int .i64 0, .int .i64 0, .int .i64 0, .int .i64 0, .int .i64 0, .slice none 0 0, .int .i64 0, .int .i64 0, .int .i64 0, .slice none 0 0, .int .i64 0, .slice none 0 0, .bool false, .int .i64 0, .int .i64 0, .int .i64 0, .slice none 0 0, .slice none 0 0, .int .i64 0, .int .i64 0, .int .i64 0, .slice none 0 0, .int .i64 0, .int .i64 0, .int .i64 0, .int .i64 0, .slice none 0 0] 58)).alloc (.cells #[.int .i64 0, .int .i64 0, .int .i64 0, .int .i64 0, .int .i64 0, .int .i64 0, .int .i64 0, .int .i64 0, .int .i64 0, .int .i64 0, .int .i64 0, .slice none 0 0, .int .i64 0, .int .i64 0, .int .i64 0, .int .i64 0, .slice none 0 0, .int .i64 0, .int .i64 0, .int .i64 0, .int .i64 0, .int .i64 0, .slice none 0 0, .int .i64 0, .int .i64 0, .int .i64 0, .int .i64 0, .int .i64 0, .int .i64 0, .slice none 0 0, .int .i64 0, .int .i64 0, .int .i64 0, .int .i64 0, .int .i64 0, .slice none 0 0, .int .i64 0, .int .i64 0, .int .i64 0, .slice none 0 0, .int .i64 0, .slice none 0 0, .bool false, .int .i64 0, .int .i64 0, .int .i64 0, .slice none 0 0, .slice none 0 0, .int .i64 0, .int .i64 0, .int .i64 0, .slice none 0 0, .int .i64 0, .int .i64 0, .int .i64 0, .int .i64 0, .slice none 0 0] 58)) (w.heap.size) 58 #[.int .i64 4, .int .i64 agg, .int .i64 wd, .int .i64 k, .int .i64 cap, .int .i64 0, .int .i64 0, .int .i64 0, .int .i64 0, .int .i64 0, .int .i64 0, .slice none 0 0, .int .i64 0, .int .i64 0, .int .i64 0, .int .i64 0, .slice none 0 0, .int .i64 0, .int .i64 0, .int .i64 0, .int .i64 0, .int .i64 0, .slice none 0 0, .int .i64 agg, .int .i64 wd, .int .i64 k, .int .i64 cap, .int .i64 now, .int .i64 seq, .slice A m c, .int .i64 0, .int .i64 0, .int .i64 0, .int .i64 0, .int .i64 0, .slice none 0 0, .int .i64 0, .int .i64 0, .int .i64 0, .slice none 0 0, .int .i64 0, .slice none 0 0, .bool false, .int .i64 0, .int .i64 0, .int .i64 0, .slice none 0 0, .slice none 0 0, .int .i64 0, .int .i64 0, .int .i64 0, .slice none 0 0, .int .i64 0, .int .i64 0, .int .i64 0, .int .i64 0, .slice none 0 0] := row_alloc (row_new rfl) _
  have R : Row ((w.alloc (.cells #[.int .i64 4, .int .i64 agg, .int .i64 wd, .int .i64 k, .int .i64 cap, .int .i64 0, .int .i64 0, .int .i64 0, .int .i64 0, .int .i64 0, .int .i64 0, .slice none 0 0, .int .i64 0, .int .i64 0, .int .i64 0, .int .i64 0, .slice none 0 0, .int .i64 0, .int .i64 0, .int .i64 0, .int .i64 0, .int .i64 0, .slice none 0 0, .int .i64 agg, .int .i64 wd, .int .i64 k, .int .i64 cap, .int .i64 now, .int .i64 seq, .slice A m c, .int .i64 0, .int .i64 0, .int .i64 0, .int .i64 0, .int .i64 0, .slice none 0 0, .int .i64 0, .int .i64 0, .int .i64 0, .slice none 0 0, .int .i64 0, .slice none 0 0, .bool false, .int .i64 0, .int .i64 0, .int .i64 0, .slice none 0 0, .slice none 0 0, .int .i64 0, .int .i64 0, .int .i64 0, .slice none 0 0, .int .i64 0, .int .i64 0, .int .i64 0, .int .i64 0, .slice none 0 0] 58)).alloc (.cells #[.int .i64 0, .int .i64 0, .int .i64 0, .int .i64 0, .int .i64 0, .int .i64 0, .int .i64 0, .int .i64 0, .int .i64 0, .int .i64 0, .int .i64 0, .slice none 0 0, .int .i64 0, .int .i64 0, .int .i64 0, .int .i64 0, .slice none 0 0, .int .i64 0, .int .i64 0, .int .i64 0, .int .i64 0, .int .i64 0, .slice none 0 0, .int .i64 0, .int .i64 0, .int .i64 0, .int .i64 0, .int .i64 0, .int .i64 0, .slice none 0 0, .int .i64 0, .int .i64 0, .int .i64 0, .int .i64 0, .int .i64 0, .slice none 0 0, .int .i64 0, .int .i64 0, .int .i64 0, .slice none 0 0, .int .i64 0, .slice none 0 0, .bool false, .int .i64 0, .int .i64 0, .int .i64 0, .slice none 0 0, .slice none 0 0, .int .i64 0, .int .i64 0, .int .i64 0, .slice none 0 0, .int .i64 0, .int .i64 0, .int .i64 0, .int .i64 0, .slice none 0 0] 58)) (w.heap.size + 1) 58 #[.int .i64 0, .int .i64 0, .int .i64 0, .int .i64 0, .int .i64 0, .int .i64 0, .int .i64 0, .int .i64 0, .int .i64 0, .int .i64 0, .int .i64 0, .slice none 0 0, .int .i64 0, .int .i64 0, .int .i64 0, .int .i64 0, .slice none 0 0, .int .i64 0, .int .i64 0, .int .i64 0, .int .i64 0, .int .i64 0, .slice none 0 0, .int .i64 0, .int .i64 0, .int .i64 0, .int .i64 0, .int .i64 0, .int .i64 0, .slice none 0 0, .int .i64 0, .int .i64 0, .int .i64 0, .int .i64 0, .int .i64 0, .slice none 0 0, .int .i64 0, .int .i64 0, .int .i64 0, .slice none 0 0, .int .i64 0, .slice none 0 0, .bool false, .int .i64 0, .int .i64 0, .int .i64 0, .slice none 0 0, .slice none 0 0, .int .i64 0, .int .i64 0, .int .i64 0, .slice none 0 0, .int .i64 0, .int .i64 0, .int .i64 0, .int .i64 0, .slice none 0 0] := row_new (by simp)
  have o : Below w.heap.size w ((w.alloc (.cells #[.int .i64 4, .int .i64 agg, .int .i64 wd, .int .i64 k, .int .i64 cap, .int .i64 0, .int .i64 0, .int .i64 0, .int .i64 0, .int .i64 0, .int .i64 0, .slice none 0 0, .int .i64 0, .int .i64 0, .int .i64 0, .int .i64 0, .slice none 0 0, .int .i64 0, .int .i64 0, .int .i64 0, .int .i64 0, .int .i64 0, .slice none 0 0, .int .i64 agg, .int .i64 wd, .int .i64 k, .int .i64 cap, .int .i64 now, .int .i64 seq, .slice A m c, .int .i64 0, .int .i64 0, .int .i64 0, .int .i64 0, .int .i64 0, .slice none 0 0, .int .i64 0, .int .i64 0, .int .i64 0, .slice none 0 0, .int .i64 0, .slice none 0 0, .bool false, .int .i64 0, .int .i64 0, .int .i64 0, .slice none 0 0, .slice none 0 0, .int .i64 0, .int .i64 0, .int .i64 0, .slice none 0 0, .int .i64 0, .int .i64 0, .int .i64 0, .int .i64 0, .slice none 0 0] 58)).alloc (.cells #[.int .i64 0, .int .i64 0, .int .i64 0, .int .i64 0, .int .i64 0, .int .i64 0, .int .i64 0, .int .i64 0, .int .i64 0, .int .i64 0, .int .i64 0, .slice none 0 0, .int .i64 0, .int .i64 0, .int .i64 0, .int .i64 0, .slice none 0 0, .int .i64 0, .int .i64 0, .int .i64 0, .int .i64 0, .int .i64 0, .slice none 0 0, .int .i64 0, .int .i64 0, .int .i64 0, .int .i64 0, .int .i64 0, .int .i64 0, .slice none 0 0, .int .i64 0, .int .i64 0, .int .i64 0, .int .i64 0, .int .i64 0, .slice none 0 0, .int .i64 0, .int .i64 0, .int .i64 0, .slice none 0 0, .int .i64 0, .slice none 0 0, .bool false, .int .i64 0, .int .i64 0, .int .i64 0, .slice none 0 0, .slice none 0 0, .int .i64 0, .int .i64 0, .int .i64 0, .slice none 0 0, .int .i64 0, .int .i64 0, .int .i64 0, .int .i64 0, .slice none 0 0] 58)) := by (repeat (first | exact Below.refl _ _ | refine Below.setCell ?_ (by first | (simp; done) | (simp; omega) | omega) _ | refine Below.alloc ?_ (by first | (simp; done) | (simp; omega) | omega) _ | refine Below.drew ?_ | refine Below.trans ?_ (Below.mono (by assumption) (by first | (simp; done) | (simp; omega) | omega))))
  generalize ((w.alloc (.cells #[.int .i64 4, .int .i64 agg, .int .i64 wd, .int .i64 k, .int .i64 cap, .int .i64 0, .int .i64 0, .int .i64 0, .int .i64 0, .int .i64 0, .int .i64 0, .slice none 0 0, .int .i64 0, .int .i64 0, .int .i64 0, .int .i64 0, .slice none 0 0, .int .i64 0, .int .i64 0, .int .i64 0, .int .i64 0, .int .i64 0, .slice none 0 0, .int .i64 agg, .int .i64 wd, .int .i64 k, .int .i64 cap, .int .i64 now, .int .i64 seq, .slice A m c, .int .i64 0, .int .i64 0, .int .i64 0, .int .i64 0, .int .i64 0, .slice none 0 0, .int .i64 0, .int .i64 0, .int .i64 0, .slice none 0 0, .int .i64 0, .slice none 0 0, .bool false, .int .i64 0, .int .i64 0, .int .i64 0, .slice none 0 0, .slice none 0 0, .int .i64 0, .int .i64 0, .int .i64 0, .slice none 0 0, .int .i64 0, .int .i64 0, .int .i64 0, .int .i64 0, .slice none 0 0] 58)).alloc (.cells #[.int .i64 0, .int .i64 0, .int .i64 0, .int .i64 0, .int .i64 0, .int .i64 0, .int .i64 0, .int .i64 0, .int .i64 0, .int .i64 0, .int .i64 0, .slice none 0 0, .int .i64 0, .int .i64 0, .int .i64 0, .int .i64 0, .slice none 0 0, .int .i64 0, .int .i64 0, .int .i64 0, .int .i64 0, .int .i64 0, .slice none 0 0, .int .i64 0, .int .i64 0, .int .i64 0, .int .i64 0, .int .i64 0, .int .i64 0, .slice none 0 0, .int .i64 0, .int .i64 0, .int .i64 0, .int .i64 0, .int .i64 0, .slice none 0 0, .int .i64 0, .int .i64 0, .int .i64 0, .slice none 0 0, .int .i64 0, .slice none 0 0, .bool false, .int .i64 0, .int .i64 0, .int .i64 0, .slice none 0 0, .slice none 0 0, .int .i64 0, .int .i64 0, .int .i64 0, .slice none 0 0, .int .i64 0, .int .i64 0, .int .i64 0, .int .i64 0, .slice none 0 0] 58)) = w1 at X R o ⊢
  go_wp2_with (with_reducible refine wpList_lsyn X rfl rfl _ rfl rfl ?_)
  refine (PVd.out _ o).mono ?_
  rintro e w2 ⟨rfl, hb⟩
  replace X := row_call X hb
  replace R := row_call R hb
  replace o := o.trans (hb.mono o.size)
  clear hb PVd
  have k0 : w2.cell? ⟨w.heap.size, 0, none⟩ = some (.int .i64 4) := row_cell X 0
  have q0 : w2.cell? ⟨w.heap.size, 23, none⟩ = some (.int .i64 agg) := row_cell X 23
  have q1 : w2.cell? ⟨w.heap.size, 24, none⟩ = some (.int .i64 wd) := row_cell X 24
  have q2 : w2.cell? ⟨w.heap.size, 25, none⟩ = some (.int .i64 k) := row_cell X 25
  have q3 : w2.cell? ⟨w.heap.size, 26, none⟩ = some (.int .i64 cap) := row_cell X 26
  have q4 : w2.cell? ⟨w.heap.size, 27, none⟩ = some (.int .i64 now) := row_cell X 27
  have q5 : w2.cell? ⟨w.heap.size, 28, none⟩ = some (.int .i64 seq) := row_cell X 28
  have q6 : w2.cell? ⟨w.heap.size, 29, none⟩ = some (.slice A m c) := row_cell X 29
  go_wp2_with fail
  refine (HA.out _ o).mono ?_
  rintro e w3 ⟨A5, m5, c5, rfl, in5, hb, fr5⟩
  have z6 := row_lt R
  have zo := o.size
  have fr6 : 0 < m5 → ∀ a, A5 = some a → (w.heap.size ≠ a.block ∧ w.heap.size + 1 ≠ a.block) ∧ (w.heap.size ≤ a.block ∨ Fr a.block) := fun h0 a e => by
    rcases fr5 h0 a e with h | h
    · exact ⟨by omega, .inl (by omega)⟩
    · have := hFr _ h
      exact ⟨by omega, .inr h⟩
  replace X := row_call X hb
  replace R := row_call R hb
  replace o := o.trans (hb.mono o.size)
  clear hb fr5 HA q0 q1 q2 q3 q4 q5 q6 k0
  have q0 : w3.cell? ⟨w.heap.size, 23, none⟩ = some (.int .i64 agg) := row_cell X 23
  have q1 : w3.cell? ⟨w.heap.size, 24, none⟩ = some (.int .i64 wd) := row_cell X 24
  have q2 : w3.cell? ⟨w.heap.size, 25, none⟩ = some (.int .i64 k) := row_cell X 25
  have q3 : w3.cell? ⟨w.heap.size, 26, none⟩ = some (.int .i64 cap) := row_cell X 26
  have q4 : w3.cell? ⟨w.heap.size, 27, none⟩ = some (.int .i64 now) := row_cell X 27
  have q5 : w3.cell? ⟨w.heap.size, 28, none⟩ = some (.int .i64 seq) := row_cell X 28
  have q6 : w3.cell? ⟨w.heap.size, 29, none⟩ = some (.slice A m c) := row_cell X 29
  have f0 := row_free X 23
  have f1 := row_free X 24
  have f2 := row_free X 25
  have f3 := row_free X 26
  have f4 := row_free X 27
  have f5 := row_free X 28
  have f6 := row_free X 29
  go_upto_region 29 with (fail)
  clear q0 f0 q1 f1 q2 f2 q3 f3 q4 f4 q5 f5 q6 f6
  replace X := row_set X 23 (.int .i64 agg)
  replace R := row_other (p := ⟨w.heap.size, 23, none⟩) R (by show w.heap.size + 1 ≠ w.heap.size; omega) (.int .i64 agg)
  replace o := o.setCell (p := ⟨w.heap.size, 23, none⟩) (Nat.le_refl _) (.int .i64 agg)
  replace in5 := hIN.setc (p := ⟨w.heap.size, 23, none⟩) (.int .i64 agg) in5 (fun h0 a e => (fr6 h0 a e).1.1)
  replace X := row_set X 24 (.int .i64 wd)
  replace R := row_other (p := ⟨w.heap.size, 24, none⟩) R (by show w.heap.size + 1 ≠ w.heap.size; omega) (.int .i64 wd)
  replace o := o.setCell (p := ⟨w.heap.size, 24, none⟩) (Nat.le_refl _) (.int .i64 wd)
  replace in5 := hIN.setc (p := ⟨w.heap.size, 24, none⟩) (.int .i64 wd) in5 (fun h0 a e => (fr6 h0 a e).1.1)
  replace X := row_set X 25 (.int .i64 k)
  replace R := row_other (p := ⟨w.heap.size, 25, none⟩) R (by show w.heap.size + 1 ≠ w.heap.size; omega) (.int .i64 k)
  replace o := o.setCell (p := ⟨w.heap.size, 25, none⟩) (Nat.le_refl _) (.int .i64 k)
  replace in5 := hIN.setc (p := ⟨w.heap.size, 25, none⟩) (.int .i64 k) in5 (fun h0 a e => (fr6 h0 a e).1.1)
  replace X := row_set X 26 (.int .i64 cap)
  replace R := row_other (p := ⟨w.heap.size, 26, none⟩) R (by show w.heap.size + 1 ≠ w.heap.size; omega) (.int .i64 cap)
  replace o := o.setCell (p := ⟨w.heap.size, 26, none⟩) (Nat.le_refl _) (.int .i64 cap)
  replace in5 := hIN.setc (p := ⟨w.heap.size, 26, none⟩) (.int .i64 cap) in5 (fun h0 a e => (fr6 h0 a e).1.1)
  replace X := row_set X 27 (.int .i64 now)
  replace R := row_other (p := ⟨w.heap.size, 27, none⟩) R (by show w.heap.size + 1 ≠ w.heap.size; omega) (.int .i64 now)
  replace o := o.setCell (p := ⟨w.heap.size, 27, none⟩) (Nat.le_refl _) (.int .i64 now)
  replace in5 := hIN.setc (p := ⟨w.heap.size, 27, none⟩) (.int .i64 now) in5 (fun h0 a e => (fr6 h0 a e).1.1)
  replace X := row_set X 28 (.int .i64 (seq + 1))
  replace R := row_other (p := ⟨w.heap.size, 28, none⟩) R (by show w.heap.size + 1 ≠ w.heap.size; omega) (.int .i64 (seq + 1))
  replace o := o.setCell (p := ⟨w.heap.size, 28, none⟩) (Nat.le_refl _) (.int .i64 (seq + 1))
  replace in5 := hIN.setc (p := ⟨w.heap.size, 28, none⟩) (.int .i64 (seq + 1)) in5 (fun h0 a e => (fr6 h0 a e).1.1)
  replace X := row_set X 29 (.slice A5 m5 c5)
  replace R := row_other (p := ⟨w.heap.size, 29, none⟩) R (by show w.heap.size + 1 ≠ w.heap.size; omega) (.slice A5 m5 c5)
  replace o := o.setCell (p := ⟨w.heap.size, 29, none⟩) (Nat.le_refl _) (.slice A5 m5 c5)
  replace in5 := hIN.setc (p := ⟨w.heap.size, 29, none⟩) (.slice A5 m5 c5) in5 (fun h0 a e => (fr6 h0 a e).1.1)
  replace X : Row (((((((w3.setCell ⟨w.heap.size, 23, none⟩ (.int .i64 agg)).setCell ⟨w.heap.size, 24, none⟩ (.int .i64 wd)).setCell ⟨w.heap.size, 25, none⟩ (.int .i64 k)).setCell ⟨w.heap.size, 26, none⟩ (.int .i64 cap)).setCell ⟨w.heap.size, 27, none⟩ (.int .i64 now)).setCell ⟨w.heap.size, 28, none⟩ (.int .i64 (seq + 1))).setCell ⟨w.heap.size, 29, none⟩ (.slice A5 m5 c5)) (w.heap.size) 58 #[.int .i64 4, .int .i64 agg, .int .i64 wd, .int .i64 k, .int .i64 cap, .int .i64 0, .int .i64 0, .int .i64 0, .int .i64 0, .int .i64 0, .int .i64 0, .slice none 0 0, .int .i64 0, .int .i64 0, .int .i64 0, .int .i64 0, .slice none 0 0, .int .i64 0, .int .i64 0, .int .i64 0, .int .i64 0, .int .i64 0, .slice none 0 0, .int .i64 agg, .int .i64 wd, .int .i64 k, .int .i64 cap, .int .i64 now, .int .i64 (seq + 1), .slice A5 m5 c5, .int .i64 0, .int .i64 0, .int .i64 0, .int .i64 0, .int .i64 0, .slice none 0 0, .int .i64 0, .int .i64 0, .int .i64 0, .slice none 0 0, .int .i64 0, .slice none 0 0, .bool false, .int .i64 0, .int .i64 0, .int .i64 0, .slice none 0 0, .slice none 0 0, .int .i64 0, .int .i64 0, .int .i64 0, .slice none 0 0, .int .i64 0, .int .i64 0, .int .i64 0, .int .i64 0, .slice none 0 0] := X
  generalize (((((((w3.setCell ⟨w.heap.size, 23, none⟩ (.int .i64 agg)).setCell ⟨w.heap.size, 24, none⟩ (.int .i64 wd)).setCell ⟨w.heap.size, 25, none⟩ (.int .i64 k)).setCell ⟨w.heap.size, 26, none⟩ (.int .i64 cap)).setCell ⟨w.heap.size, 27, none⟩ (.int .i64 now)).setCell ⟨w.heap.size, 28, none⟩ (.int .i64 (seq + 1))).setCell ⟨w.heap.size, 29, none⟩ (.slice A5 m5 c5)) = w4 at X R o in5 ⊢
  have k0 : w4.cell? ⟨w.heap.size, 0, none⟩ = some (.int .i64 4) := row_cell X 0
  have hone : (#[.int .i64 4, .int .i64 agg, .int .i64 wd, .int .i64 k, .int .i64 cap, .int .i64 0, .int .i64 0, .int .i64 0, .int .i64 0, .int .i64 0, .int .i64 0, .slice none 0 0, .int .i64 0, .int .i64 0, .int .i64 0, .int .i64 0, .slice none 0 0, .int .i64 0, .int .i64 0, .int .i64 0, .int .i64 0, .int .i64 0, .slice none 0 0, .int .i64 agg, .int .i64 wd, .int .i64 k, .int .i64 cap, .int .i64 now, .int .i64 (seq + 1), .slice A5 m5 c5, .int .i64 0, .int .i64 0, .int .i64 0, .int .i64 0, .int .i64 0, .slice none 0 0, .int .i64 0, .int .i64 0, .int .i64 0, .slice none 0 0, .int .i64 0, .slice none 0 0, .bool false, .int .i64 0, .int .i64 0, .int .i64 0, .slice none 0 0, .slice none 0 0, .int .i64 0, .int .i64 0, .int .i64 0, .slice none 0 0, .int .i64 0, .int .i64 0, .int .i64 0, .int .i64 0, .slice none 0 0] : Array Value).all (·.oneCell') = true := all_one rfl
  go_wp2_with (first | (with_reducible refine wpList_lsyn X rfl rfl _ rfl rfl ?_) | (with_reducible refine wpList_ssyn R rfl rfl hone rfl _ _ rfl rfl rfl ?_))
  have R9 := row_setRow (cs := #[.int .i64 4, .int .i64 agg, .int .i64 wd, .int .i64 k, .int .i64 cap, .int .i64 0, .int .i64 0, .int .i64 0, .int .i64 0, .int .i64 0, .int .i64 0, .slice none 0 0, .int .i64 0, .int .i64 0, .int .i64 0, .int .i64 0, .slice none 0 0, .int .i64 0, .int .i64 0, .int .i64 0, .int .i64 0, .int .i64 0, .slice none 0 0, .int .i64 agg, .int .i64 wd, .int .i64 k, .int .i64 cap, .int .i64 now, .int .i64 (seq + 1), .slice A5 m5 c5, .int .i64 0, .int .i64 0, .int .i64 0, .int .i64 0, .int .i64 0, .slice none 0 0, .int .i64 0, .int .i64 0, .int .i64 0, .slice none 0 0, .int .i64 0, .slice none 0 0, .bool false, .int .i64 0, .int .i64 0, .int .i64 0, .slice none 0 0, .slice none 0 0, .int .i64 0, .int .i64 0, .int .i64 0, .slice none 0 0, .int .i64 0, .int .i64 0, .int .i64 0, .int .i64 0, .slice none 0 0]) R
  refine bodyPost_ret (v := .tuple #[.agg #[.int .i64 4, .int .i64 agg, .int .i64 wd, .int .i64 k, .int .i64 cap, .int .i64 0, .int .i64 0, .int .i64 0, .int .i64 0, .int .i64 0, .int .i64 0, .slice none 0 0, .int .i64 0, .int .i64 0, .int .i64 0, .int .i64 0, .slice none 0 0, .int .i64 0, .int .i64 0, .int .i64 0, .int .i64 0, .int .i64 0, .slice none 0 0, .int .i64 agg, .int .i64 wd, .int .i64 k, .int .i64 cap, .int .i64 now, .int .i64 (seq + 1), .slice A5 m5 c5, .int .i64 0, .int .i64 0, .int .i64 0, .int .i64 0, .int .i64 0, .slice none 0 0, .int .i64 0, .int .i64 0, .int .i64 0, .slice none 0 0, .int .i64 0, .slice none 0 0, .bool false, .int .i64 0, .int .i64 0, .int .i64 0, .slice none 0 0, .slice none 0 0, .int .i64 0, .int .i64 0, .int .i64 0, .slice none 0 0, .int .i64 0, .int .i64 0, .int .i64 0, .int .i64 0, .slice none 0 0], .int .i64 0]) ?_ rfl ?_
  · exact results_syn (p := 6) (q := 7) rfl _ R9 rfl rfl
  · exact ⟨A5, m5, c5, rfl, hIN.setr _ in5 (fun h0 a e => (fr6 h0 a e).1.2), below_setRow o (by omega) _, fun h0 a e => (fr6 h0 a e).2⟩
end Go.Proofs.YtdipoojjlddohaaGreat
end
section
/- Synopses of kind Smooth: the empty ones, and the answer, walked. -/
set_option linter.unusedVariables false
set_option linter.unusedSimpArgs false
set_option linter.unusedSectionVars false
set_option linter.unnecessarySimpa false
namespace Go.Proofs.YtdipoojjlddohaaGreat
open Go.RowKit
set_option maxRecDepth 100000 in
set_option maxHeartbeats 4000000 in
theorem pyNewSmooth (agg wd k cap now : Int) (w : World) (n0 : 0 ≤ now) (n1 : now ≤ 16777216) (HC : RowKit.Hid (∀ w', Calls Tryz.prog 108 #[.agg #[.int .i64 4, .int .i64 agg, .int .i64 wd, .int .i64 k, .int .i64 cap, .int .i64 0, .int .i64 0, .int .i64 0]] w' fun e w'' => e = .returned (.int .i64 0) ∧ Below w'.heap.size w' w'')) (HA : RowKit.Hid (∀ w', Calls Tryz.prog 112 #[.int .i64 agg, .int .i64 wd, .int .i64 k, .int .i64 cap, .int .i64 now] w' fun e w'' => e = .returned (.tuple #[.agg #[.int .i64 agg, .int .i64 wd, .int .i64 k, .int .i64 cap, .int .i64 now, .int .i64 0, .slice none 0 0], .int .i64 0]) ∧ Below w'.heap.size w' w'')) : Calls Tryz.prog 37 #[.agg #[.int .i64 4, .int .i64 agg, .int .i64 wd, .int .i64 k, .int .i64 cap, .int .i64 0, .int .i64 0, .int .i64 0], .int .i64 now] w fun e w' => e = .returned (.tuple #[.agg #[.int .i64 4, .int .i64 agg, .int .i64 wd, .int .i64 k, .int .i64 cap, .int .i64 0, .int .i64 0, .int .i64 0, .int .i64 0, .int .i64 0, .int .i64 0, .slice none 0 0, .int .i64 0, .int .i64 0, .int .i64 0, .int .i64 0, .slice none 0 0, .int .i64 0, .int .i64 0, .int .i64 0, .int .i64 0, .int .i64 0, .slice none 0 0, .int .i64 agg, .int .i64 wd, .int .i64 k, .int .i64 cap, .int .i64 now, .int .i64 0, .slice none 0 0, .int .i64 0, .int .i64 0, .int .i64 0, .int .i64 0, .int .i64 0, .slice none 0 0, .int .i64 0, .int .i64 0, .int .i64 0, .slice none 0 0, .int .i64 0, .slice none 0 0, .bool false, .int .i64 0, .int .i64 0, .int .i64 0, .slice none 0 0, .slice none 0 0, .int .i64 0, .int .i64 0, .int .i64 0, .slice none 0 0, .int .i64 0, .int .i64 0, .int .i64 0, .int .i64 0, .slice none 0 0], .int .i64 0]) ∧ Below w.heap.size w w' := by
  have PT := Lib.hid (fun w => pstick now w n0 n1)
  go_enter Tryz.func37, Tryz.ntmps37
  go_upto_region 1 with (fail)
  have X : Row ((w.alloc (.cells #[.int .i64 4, .int .i64 agg, .int .i64 wd, .int .i64 k, .int .i64 cap, .int .i64 0, .int .i64 0, .int .i64 0] 27)).alloc (.cells #[.int .i64 0, .int .i64 0, .int .i64 0, .int .i64 0, .int .i64 0, .int .i64 0, .int .i64 0, .int .i64 0, .int .i64 0, .int .i64 0, .int .i64 0, .slice none 0 0, .int .i64 0, .int .i64 0, .int .i64 0, .int .i64 0, .slice none 0 0, .int .i64 0, .int .i64 0, .int .i64 0, .int .i64 0, .int .i64 0, .slice none 0 0, .int .i64 0, .int .i64 0, .int .i64 0, .int .i64 0, .int .i64 0, .int .i64 0, .slice none 0 0, .int .i64 0, .int .i64 0, .int .i64 0, .int .i64 0, .int .i64 0, .slice none 0 0, .int .i64 0, .int .i64 0, .int .i64 0, .slice none 0 0, .int .i64 0, .slice none 0 0, .bool false, .int .i64 0, .int .i64 0, .int .i64 0, .slice none 0 0, .slice none 0 0, .int .i64 0, .int .i64 0, .int .i64 0, .slice none 0 0, .int .i64 0, .int .i64 0, .int .i64 0, .int .i64 0, .slice none 0 0] 58)) (w.heap.size) 27 #[.int .i64 4, .int .i64 agg, .int .i64 wd, .int .i64 k, .int .i64 cap, .int .i64 0, .int .i64 0, .int .i64 0] := row_alloc (row_new rfl) _
  have R : Row ((w.alloc (.cells #[.int .i64 4, .int .i64 agg, .int .i64 wd, .int .i64 k, .int .i64 cap, .int .i64 0, .int .i64 0, .int .i64 0] 27)).alloc (.cells #[.int .i64 0, .int .i64 0, .int .i64 0, .int .i64 0, .int .i64 0, .int .i64 0, .int .i64 0, .int .i64 0, .int .i64 0, .int .i64 0, .int .i64 0, .slice none 0 0, .int .i64 0, .int .i64 0, .int .i64 0, .int .i64 0, .slice none 0 0, .int .i64 0, .int .i64 0, .int .i64 0, .int .i64 0, .int .i64 0, .slice none 0 0, .int .i64 0, .int .i64 0, .int .i64 0, .int .i64 0, .int .i64 0, .int .i64 0, .slice none 0 0, .int .i64 0, .int .i64 0, .int .i64 0, .int .i64 0, .int .i64 0, .slice none 0 0, .int .i64 0, .int .i64 0, .int .i64 0, .slice none 0 0, .int .i64 0, .slice none 0 0, .bool false, .int .i64 0, .int .i64 0, .int .i64 0, .slice none 0 0, .slice none 0 0, .int .i64 0, .int .i64 0, .int .i64 0, .slice none 0 0, .int .i64 0, .int .i64 0, .int .i64 0, .int .i64 0, .slice none 0 0] 58)) (w.heap.size + 1) 58 #[.int .i64 0, .int .i64 0, .int .i64 0, .int .i64 0, .int .i64 0, .int .i64 0, .int .i64 0, .int .i64 0, .int .i64 0, .int .i64 0, .int .i64 0, .slice none 0 0, .int .i64 0, .int .i64 0, .int .i64 0, .int .i64 0, .slice none 0 0, .int .i64 0, .int .i64 0, .int .i64 0, .int .i64 0, .int .i64 0, .slice none 0 0, .int .i64 0, .int .i64 0, .int .i64 0, .int .i64 0, .int .i64 0, .int .i64 0, .slice none 0 0, .int .i64 0, .int .i64 0, .int .i64 0, .int .i64 0, .int .i64 0, .slice none 0 0, .int .i64 0, .int .i64 0, .int .i64 0, .slice none 0 0, .int .i64 0, .slice none 0 0, .bool false, .int .i64 0, .int .i64 0, .int .i64 0, .slice none 0 0, .slice none 0 0, .int .i64 0, .int .i64 0, .int .i64 0, .slice none 0 0, .int .i64 0, .int .i64 0, .int .i64 0, .int .i64 0, .slice none 0 0] := row_new (by simp)
  have o : Below w.heap.size w ((w.alloc (.cells #[.int .i64 4, .int .i64 agg, .int .i64 wd, .int .i64 k, .int .i64 cap, .int .i64 0, .int .i64 0, .int .i64 0] 27)).alloc (.cells #[.int .i64 0, .int .i64 0, .int .i64 0, .int .i64 0, .int .i64 0, .int .i64 0, .int .i64 0, .int .i64 0, .int .i64 0, .int .i64 0, .int .i64 0, .slice none 0 0, .int .i64 0, .int .i64 0, .int .i64 0, .int .i64 0, .slice none 0 0, .int .i64 0, .int .i64 0, .int .i64 0, .int .i64 0, .int .i64 0, .slice none 0 0, .int .i64 0, .int .i64 0, .int .i64 0, .int .i64 0, .int .i64 0, .int .i64 0, .slice none 0 0, .int .i64 0, .int .i64 0, .int .i64 0, .int .i64 0, .int .i64 0, .slice none 0 0, .int .i64 0, .int .i64 0, .int .i64 0, .slice none 0 0, .int .i64 0, .slice none 0 0, .bool false, .int .i64 0, .int .i64 0, .int .i64 0, .slice none 0 0, .slice none 0 0, .int .i64 0, .int .i64 0, .int .i64 0, .slice none 0 0, .int .i64 0, .int .i64 0, .int .i64 0, .int .i64 0, .slice none 0 0] 58)) := by (repeat (first | exact Below.refl _ _ | refine Below.setCell ?_ (by first | (simp; done) | (simp; omega) | omega) _ | refine Below.alloc ?_ (by first | (simp; done) | (simp; omega) | omega) _ | refine Below.drew ?_ | refine Below.trans ?_ (Below.mono (by assumption) (by first | (simp; done) | (simp; omega) | omega))))
  generalize ((w.alloc (.cells #[.int .i64 4, .int .i64 agg, .int .i64 wd, .int .i64 k, .int .i64 cap, .int .i64 0, .int .i64 0, .int .i64 0] 27)).alloc (.cells #[.int .i64 0, .int .i64 0, .int .i64 0, .int .i64 0, .int .i64 0, .int .i64 0, .int .i64 0, .int .i64 0, .int .i64 0, .int .i64 0, .int .i64 0, .slice none 0 0, .int .i64 0, .int .i64 0, .int .i64 0, .int .i64 0, .slice none 0 0, .int .i64 0, .int .i64 0, .int .i64 0, .int .i64 0, .int .i64 0, .slice none 0 0, .int .i64 0, .int .i64 0, .int .i64 0, .int .i64 0, .int .i64 0, .int .i64 0, .slice none 0 0, .int .i64 0, .int .i64 0, .int .i64 0, .int .i64 0, .int .i64 0, .slice none 0 0, .int .i64 0, .int .i64 0, .int .i64 0, .slice none 0 0, .int .i64 0, .slice none 0 0, .bool false, .int .i64 0, .int .i64 0, .int .i64 0, .slice none 0 0, .slice none 0 0, .int .i64 0, .int .i64 0, .int .i64 0, .slice none 0 0, .int .i64 0, .int .i64 0, .int .i64 0, .int .i64 0, .slice none 0 0] 58)) = w1 at X R o ⊢
  obtain ⟨X0, X1, X2, X3, X4, X5, X6, X7, Xf0, Xf1, Xf2, Xf3, Xf4, Xf5, Xf6, Xf7⟩ := row_eight X
  go_wp2_with fail
  refine (HC.out _).mono ?_
  rintro e w2 ⟨rfl, hb⟩
  replace X := row_call X hb
  replace R := row_call R hb
  replace o := o.trans (hb.mono o.size)
  clear hb X0 Xf0 X1 Xf1 X2 Xf2 X3 Xf3 X4 Xf4 X5 Xf5 X6 Xf6 X7 Xf7
  obtain ⟨X0, X1, X2, X3, X4, X5, X6, X7, Xf0, Xf1, Xf2, Xf3, Xf4, Xf5, Xf6, Xf7⟩ := row_eight X
  go_upto_region 6 with (go_at_call 73; with_reducible refine (PT.out _).mono ?_; rintro e w9 ⟨rfl, h9⟩; obtain rfl := h9.symm)
  have honeZ : (#[.int .i64 4, .int .i64 agg, .int .i64 wd, .int .i64 k, .int .i64 cap, .int .i64 0, .int .i64 0, .int .i64 0, .int .i64 0, .int .i64 0, .int .i64 0, .slice none 0 0, .int .i64 0, .int .i64 0, .int .i64 0, .int .i64 0, .slice none 0 0, .int .i64 0, .int .i64 0, .int .i64 0, .int .i64 0, .int .i64 0, .slice none 0 0, .int .i64 0, .int .i64 0, .int .i64 0, .int .i64 0, .int .i64 0, .int .i64 0, .slice none 0 0, .int .i64 0, .int .i64 0, .int .i64 0, .int .i64 0, .int .i64 0, .slice none 0 0, .int .i64 0, .int .i64 0, .int .i64 0, .slice none 0 0, .int .i64 0, .slice none 0 0, .bool false, .int .i64 0, .int .i64 0, .int .i64 0, .slice none 0 0, .slice none 0 0, .int .i64 0, .int .i64 0, .int .i64 0, .slice none 0 0, .int .i64 0, .int .i64 0, .int .i64 0, .int .i64 0, .slice none 0 0] : Array Value).all (·.oneCell') = true := all_one rfl
  have SZ : Row (w2.alloc (.cells #[.int .i64 0, .int .i64 0, .int .i64 0, .int .i64 0, .int .i64 0, .int .i64 0, .int .i64 0, .int .i64 0, .int .i64 0, .int .i64 0, .int .i64 0, .slice none 0 0, .int .i64 0, .int .i64 0, .int .i64 0, .int .i64 0, .slice none 0 0, .int .i64 0, .int .i64 0, .int .i64 0, .int .i64 0, .int .i64 0, .slice none 0 0, .int .i64 0, .int .i64 0, .int .i64 0, .int .i64 0, .int .i64 0, .int .i64 0, .slice none 0 0, .int .i64 0, .int .i64 0, .int .i64 0, .int .i64 0, .int .i64 0, .slice none 0 0, .int .i64 0, .int .i64 0, .int .i64 0, .slice none 0 0, .int .i64 0, .slice none 0 0, .bool false, .int .i64 0, .int .i64 0, .int .i64 0, .slice none 0 0, .slice none 0 0, .int .i64 0, .int .i64 0, .int .i64 0, .slice none 0 0, .int .i64 0, .int .i64 0, .int .i64 0, .int .i64 0, .slice none 0 0] 58)) w2.heap.size 58 #[.int .i64 0, .int .i64 0, .int .i64 0, .int .i64 0, .int .i64 0, .int .i64 0, .int .i64 0, .int .i64 0, .int .i64 0, .int .i64 0, .int .i64 0, .slice none 0 0, .int .i64 0, .int .i64 0, .int .i64 0, .int .i64 0, .slice none 0 0, .int .i64 0, .int .i64 0, .int .i64 0, .int .i64 0, .int .i64 0, .slice none 0 0, .int .i64 0, .int .i64 0, .int .i64 0, .int .i64 0, .int .i64 0, .int .i64 0, .slice none 0 0, .int .i64 0, .int .i64 0, .int .i64 0, .int .i64 0, .int .i64 0, .slice none 0 0, .int .i64 0, .int .i64 0, .int .i64 0, .slice none 0 0, .int .i64 0, .slice none 0 0, .bool false, .int .i64 0, .int .i64 0, .int .i64 0, .slice none 0 0, .slice none 0 0, .int .i64 0, .int .i64 0, .int .i64 0, .slice none 0 0, .int .i64 0, .int .i64 0, .int .i64 0, .int .i64 0, .slice none 0 0] := row_new rfl
  go_upto_region 7 with (first | (with_reducible refine wpList_bsyn (.int .i64 4) (.int .i64 agg) (.int .i64 wd) (.int .i64 k) (.int .i64 cap) (.int .i64 0) (.int .i64 0) (.int .i64 0) rfl _ rfl rfl ?_) | (with_reducible refine wpList_ssyn SZ rfl rfl honeZ rfl _ _ rfl rfl rfl ?_))
  have S := row_setRow (cs := #[.int .i64 4, .int .i64 agg, .int .i64 wd, .int .i64 k, .int .i64 cap, .int .i64 0, .int .i64 0, .int .i64 0, .int .i64 0, .int .i64 0, .int .i64 0, .slice none 0 0, .int .i64 0, .int .i64 0, .int .i64 0, .int .i64 0, .slice none 0 0, .int .i64 0, .int .i64 0, .int .i64 0, .int .i64 0, .int .i64 0, .slice none 0 0, .int .i64 0, .int .i64 0, .int .i64 0, .int .i64 0, .int .i64 0, .int .i64 0, .slice none 0 0, .int .i64 0, .int .i64 0, .int .i64 0, .int .i64 0, .int .i64 0, .slice none 0 0, .int .i64 0, .int .i64 0, .int .i64 0, .slice none 0 0, .int .i64 0, .slice none 0 0, .bool false, .int .i64 0, .int .i64 0, .int .i64 0, .slice none 0 0, .slice none 0 0, .int .i64 0, .int .i64 0, .int .i64 0, .slice none 0 0, .int .i64 0, .int .i64 0, .int .i64 0, .int .i64 0, .slice none 0 0]) SZ
  have z2 := row_lt R
  replace X := row_setRow_other (g := w2.heap.size) (cs' := #[.int .i64 4, .int .i64 agg, .int .i64 wd, .int .i64 k, .int .i64 cap, .int .i64 0, .int .i64 0, .int .i64 0, .int .i64 0, .int .i64 0, .int .i64 0, .slice none 0 0, .int .i64 0, .int .i64 0, .int .i64 0, .int .i64 0, .slice none 0 0, .int .i64 0, .int .i64 0, .int .i64 0, .int .i64 0, .int .i64 0, .slice none 0 0, .int .i64 0, .int .i64 0, .int .i64 0, .int .i64 0, .int .i64 0, .int .i64 0, .slice none 0 0, .int .i64 0, .int .i64 0, .int .i64 0, .int .i64 0, .int .i64 0, .slice none 0 0, .int .i64 0, .int .i64 0, .int .i64 0, .slice none 0 0, .int .i64 0, .slice none 0 0, .bool false, .int .i64 0, .int .i64 0, .int .i64 0, .slice none 0 0, .slice none 0 0, .int .i64 0, .int .i64 0, .int .i64 0, .slice none 0 0, .int .i64 0, .int .i64 0, .int .i64 0, .int .i64 0, .slice none 0 0]) (row_alloc X (.cells #[.int .i64 0, .int .i64 0, .int .i64 0, .int .i64 0, .int .i64 0, .int .i64 0, .int .i64 0, .int .i64 0, .int .i64 0, .int .i64 0, .int .i64 0, .slice none 0 0, .int .i64 0, .int .i64 0, .int .i64 0, .int .i64 0, .slice none 0 0, .int .i64 0, .int .i64 0, .int .i64 0, .int .i64 0, .int .i64 0, .slice none 0 0, .int .i64 0, .int .i64 0, .int .i64 0, .int .i64 0, .int .i64 0, .int .i64 0, .slice none 0 0, .int .i64 0, .int .i64 0, .int .i64 0, .int .i64 0, .int .i64 0, .slice none 0 0, .int .i64 0, .int .i64 0, .int .i64 0, .slice none 0 0, .int .i64 0, .slice none 0 0, .bool false, .int .i64 0, .int .i64 0, .int .i64 0, .slice none 0 0, .slice none 0 0, .int .i64 0, .int .i64 0, .int .i64 0, .slice none 0 0, .int .i64 0, .int .i64 0, .int .i64 0, .int .i64 0, .slice none 0 0] 58)) (by have := row_lt X; omega)
  replace R := row_setRow_other (g := w2.heap.size) (cs' := #[.int .i64 4, .int .i64 agg, .int .i64 wd, .int .i64 k, .int .i64 cap, .int .i64 0, .int .i64 0, .int .i64 0, .int .i64 0, .int .i64 0, .int .i64 0, .slice none 0 0, .int .i64 0, .int .i64 0, .int .i64 0, .int .i64 0, .slice none 0 0, .int .i64 0, .int .i64 0, .int .i64 0, .int .i64 0, .int .i64 0, .slice none 0 0, .int .i64 0, .int .i64 0, .int .i64 0, .int .i64 0, .int .i64 0, .int .i64 0, .slice none 0 0, .int .i64 0, .int .i64 0, .int .i64 0, .int .i64 0, .int .i64 0, .slice none 0 0, .int .i64 0, .int .i64 0, .int .i64 0, .slice none 0 0, .int .i64 0, .slice none 0 0, .bool false, .int .i64 0, .int .i64 0, .int .i64 0, .slice none 0 0, .slice none 0 0, .int .i64 0, .int .i64 0, .int .i64 0, .slice none 0 0, .int .i64 0, .int .i64 0, .int .i64 0, .int .i64 0, .slice none 0 0]) (row_alloc R (.cells #[.int .i64 0, .int .i64 0, .int .i64 0, .int .i64 0, .int .i64 0, .int .i64 0, .int .i64 0, .int .i64 0, .int .i64 0, .int .i64 0, .int .i64 0, .slice none 0 0, .int .i64 0, .int .i64 0, .int .i64 0, .int .i64 0, .slice none 0 0, .int .i64 0, .int .i64 0, .int .i64 0, .int .i64 0, .int .i64 0, .slice none 0 0, .int .i64 0, .int .i64 0, .int .i64 0, .int .i64 0, .int .i64 0, .int .i64 0, .slice none 0 0, .int .i64 0, .int .i64 0, .int .i64 0, .int .i64 0, .int .i64 0, .slice none 0 0, .int .i64 0, .int .i64 0, .int .i64 0, .slice none 0 0, .int .i64 0, .slice none 0 0, .bool false, .int .i64 0, .int .i64 0, .int .i64 0, .slice none 0 0, .slice none 0 0, .int .i64 0, .int .i64 0, .int .i64 0, .slice none 0 0, .int .i64 0, .int .i64 0, .int .i64 0, .int .i64 0, .slice none 0 0] 58)) (by omega)
  replace o := below_setRow (g := w2.heap.size) (o.alloc o.size (.cells #[.int .i64 0, .int .i64 0, .int .i64 0, .int .i64 0, .int .i64 0, .int .i64 0, .int .i64 0, .int .i64 0, .int .i64 0, .int .i64 0, .int .i64 0, .slice none 0 0, .int .i64 0, .int .i64 0, .int .i64 0, .int .i64 0, .slice none 0 0, .int .i64 0, .int .i64 0, .int .i64 0, .int .i64 0, .int .i64 0, .slice none 0 0, .int .i64 0, .int .i64 0, .int .i64 0, .int .i64 0, .int .i64 0, .int .i64 0, .slice none 0 0, .int .i64 0, .int .i64 0, .int .i64 0, .int .i64 0, .int .i64 0, .slice none 0 0, .int .i64 0, .int .i64 0, .int .i64 0, .slice none 0 0, .int .i64 0, .slice none 0 0, .bool false, .int .i64 0, .int .i64 0, .int .i64 0, .slice none 0 0, .slice none 0 0, .int .i64 0, .int .i64 0, .int .i64 0, .slice none 0 0, .int .i64 0, .int .i64 0, .int .i64 0, .int .i64 0, .slice none 0 0] 58)) o.size #[.int .i64 4, .int .i64 agg, .int .i64 wd, .int .i64 k, .int .i64 cap, .int .i64 0, .int .i64 0, .int .i64 0, .int .i64 0, .int .i64 0, .int .i64 0, .slice none 0 0, .int .i64 0, .int .i64 0, .int .i64 0, .int .i64 0, .slice none 0 0, .int .i64 0, .int .i64 0, .int .i64 0, .int .i64 0, .int .i64 0, .slice none 0 0, .int .i64 0, .int .i64 0, .int .i64 0, .int .i64 0, .int .i64 0, .int .i64 0, .slice none 0 0, .int .i64 0, .int .i64 0, .int .i64 0, .int .i64 0, .int .i64 0, .slice none 0 0, .int .i64 0, .int .i64 0, .int .i64 0, .slice none 0 0, .int .i64 0, .slice none 0 0, .bool false, .int .i64 0, .int .i64 0, .int .i64 0, .slice none 0 0, .slice none 0 0, .int .i64 0, .int .i64 0, .int .i64 0, .slice none 0 0, .int .i64 0, .int .i64 0, .int .i64 0, .int .i64 0, .slice none 0 0]
  obtain ⟨w3, hw3⟩ : ∃ x, x = (w2.alloc (.cells #[.int .i64 0, .int .i64 0, .int .i64 0, .int .i64 0, .int .i64 0, .int .i64 0, .int .i64 0, .int .i64 0, .int .i64 0, .int .i64 0, .int .i64 0, .slice none 0 0, .int .i64 0, .int .i64 0, .int .i64 0, .int .i64 0, .slice none 0 0, .int .i64 0, .int .i64 0, .int .i64 0, .int .i64 0, .int .i64 0, .slice none 0 0, .int .i64 0, .int .i64 0, .int .i64 0, .int .i64 0, .int .i64 0, .int .i64 0, .slice none 0 0, .int .i64 0, .int .i64 0, .int .i64 0, .int .i64 0, .int .i64 0, .slice none 0 0, .int .i64 0, .int .i64 0, .int .i64 0, .slice none 0 0, .int .i64 0, .slice none 0 0, .bool false, .int .i64 0, .int .i64 0, .int .i64 0, .slice none 0 0, .slice none 0 0, .int .i64 0, .int .i64 0, .int .i64 0, .slice none 0 0, .int .i64 0, .int .i64 0, .int .i64 0, .int .i64 0, .slice none 0 0] 58)).setRow w2.heap.size #[.int .i64 4, .int .i64 agg, .int .i64 wd, .int .i64 k, .int .i64 cap, .int .i64 0, .int .i64 0, .int .i64 0, .int .i64 0, .int .i64 0, .int .i64 0, .slice none 0 0, .int .i64 0, .int .i64 0, .int .i64 0, .int .i64 0, .slice none 0 0, .int .i64 0, .int .i64 0, .int .i64 0, .int .i64 0, .int .i64 0, .slice none 0 0, .int .i64 0, .int .i64 0, .int .i64 0, .int .i64 0, .int .i64 0, .int .i64 0, .slice none 0 0, .int .i64 0, .int .i64 0, .int .i64 0, .int .i64 0, .int .i64 0, .slice none 0 0, .int .i64 0, .int .i64 0, .int .i64 0, .slice none 0 0, .int .i64 0, .slice none 0 0, .bool false, .int .i64 0, .int .i64 0, .int .i64 0, .slice none 0 0, .slice none 0 0, .int .i64 0, .int .i64 0, .int .i64 0, .slice none 0 0, .int .i64 0, .int .i64 0, .int .i64 0, .int .i64 0, .slice none 0 0] := ⟨_, rfl⟩
  rw [← hw3] at X R S o ⊢
  clear hw3
  generalize w2.heap.size = sb at S z2 ⊢
  clear SZ
  clear X0 Xf0 X1 Xf1 X2 Xf2 X3 Xf3 X4 Xf4 X5 Xf5 X6 Xf6 X7 Xf7
  obtain ⟨X0, X1, X2, X3, X4, X5, X6, X7, Xf0, Xf1, Xf2, Xf3, Xf4, Xf5, Xf6, Xf7⟩ := row_eight X
  go_wp2_with fail
  refine (HA.out _).mono ?_
  rintro e w4 ⟨rfl, hb⟩
  replace S := row_call S hb
  replace R := row_call R hb
  replace o := o.trans (hb.mono o.size)
  clear hb X X0 Xf0 X1 Xf1 X2 Xf2 X3 Xf3 X4 Xf4 X5 Xf5 X6 Xf6 X7 Xf7
  have q0 : w4.cell? ⟨sb, 23, none⟩ = some (.int .i64 0) := row_cell S 23
  have f0 := row_free S 23
  have q1 : w4.cell? ⟨sb, 24, none⟩ = some (.int .i64 0) := row_cell S 24
  have f1 := row_free S 24
  have q2 : w4.cell? ⟨sb, 25, none⟩ = some (.int .i64 0) := row_cell S 25
  have f2 := row_free S 25
  have q3 : w4.cell? ⟨sb, 26, none⟩ = some (.int .i64 0) := row_cell S 26
  have f3 := row_free S 26
  have q4 : w4.cell? ⟨sb, 27, none⟩ = some (.int .i64 0) := row_cell S 27
  have f4 := row_free S 27
  have q5 : w4.cell? ⟨sb, 28, none⟩ = some (.int .i64 0) := row_cell S 28
  have f5 := row_free S 28
  have q6 : w4.cell? ⟨sb, 29, none⟩ = some (.slice none 0 0) := row_cell S 29
  have f6 := row_free S 29
  go_upto_region 31 with (fail)
  clear q0 f0 q1 f1 q2 f2 q3 f3 q4 f4 q5 f5 q6 f6
  replace S := row_set S 23 (.int .i64 agg)
  replace R := row_other (p := ⟨sb, 23, none⟩) R (by show w.heap.size + 1 ≠ sb; omega) (.int .i64 agg)
  replace o := o.setCell (p := ⟨sb, 23, none⟩) (by show w.heap.size ≤ sb; omega) (.int .i64 agg)
  replace S := row_set S 24 (.int .i64 wd)
  replace R := row_other (p := ⟨sb, 24, none⟩) R (by show w.heap.size + 1 ≠ sb; omega) (.int .i64 wd)
  replace o := o.setCell (p := ⟨sb, 24, none⟩) (by show w.heap.size ≤ sb; omega) (.int .i64 wd)
  replace S := row_set S 25 (.int .i64 k)
  replace R := row_other (p := ⟨sb, 25, none⟩) R (by show w.heap.size + 1 ≠ sb; omega) (.int .i64 k)
  replace o := o.setCell (p := ⟨sb, 25, none⟩) (by show w.heap.size ≤ sb; omega) (.int .i64 k)
  replace S := row_set S 26 (.int .i64 cap)
  replace R := row_other (p := ⟨sb, 26, none⟩) R (by show w.heap.size + 1 ≠ sb; omega) (.int .i64 cap)
  replace o := o.setCell (p := ⟨sb, 26, none⟩) (by show w.heap.size ≤ sb; omega) (.int .i64 cap)
  replace S := row_set S 27 (.int .i64 now)
  replace R := row_other (p := ⟨sb, 27, none⟩) R (by show w.heap.size + 1 ≠ sb; omega) (.int .i64 now)
  replace o := o.setCell (p := ⟨sb, 27, none⟩) (by show w.heap.size ≤ sb; omega) (.int .i64 now)
  replace S := row_set S 28 (.int .i64 0)
  replace R := row_other (p := ⟨sb, 28, none⟩) R (by show w.heap.size + 1 ≠ sb; omega) (.int .i64 0)
  replace o := o.setCell (p := ⟨sb, 28, none⟩) (by show w.heap.size ≤ sb; omega) (.int .i64 0)
  replace S := row_set S 29 (.slice none 0 0)
  replace R := row_other (p := ⟨sb, 29, none⟩) R (by show w.heap.size + 1 ≠ sb; omega) (.slice none 0 0)
  replace o := o.setCell (p := ⟨sb, 29, none⟩) (by show w.heap.size ≤ sb; omega) (.slice none 0 0)
  replace S : Row (((((((w4.setCell ⟨sb, 23, none⟩ (.int .i64 agg)).setCell ⟨sb, 24, none⟩ (.int .i64 wd)).setCell ⟨sb, 25, none⟩ (.int .i64 k)).setCell ⟨sb, 26, none⟩ (.int .i64 cap)).setCell ⟨sb, 27, none⟩ (.int .i64 now)).setCell ⟨sb, 28, none⟩ (.int .i64 0)).setCell ⟨sb, 29, none⟩ (.slice none 0 0)) sb 58 #[.int .i64 4, .int .i64 agg, .int .i64 wd, .int .i64 k, .int .i64 cap, .int .i64 0, .int .i64 0, .int .i64 0, .int .i64 0, .int .i64 0, .int .i64 0, .slice none 0 0, .int .i64 0, .int .i64 0, .int .i64 0, .int .i64 0, .slice none 0 0, .int .i64 0, .int .i64 0, .int .i64 0, .int .i64 0, .int .i64 0, .slice none 0 0, .int .i64 agg, .int .i64 wd, .int .i64 k, .int .i64 cap, .int .i64 now, .int .i64 0, .slice none 0 0, .int .i64 0, .int .i64 0, .int .i64 0, .int .i64 0, .int .i64 0, .slice none 0 0, .int .i64 0, .int .i64 0, .int .i64 0, .slice none 0 0, .int .i64 0, .slice none 0 0, .bool false, .int .i64 0, .int .i64 0, .int .i64 0, .slice none 0 0, .slice none 0 0, .int .i64 0, .int .i64 0, .int .i64 0, .slice none 0 0, .int .i64 0, .int .i64 0, .int .i64 0, .int .i64 0, .slice none 0 0] := S
  generalize (((((((w4.setCell ⟨sb, 23, none⟩ (.int .i64 agg)).setCell ⟨sb, 24, none⟩ (.int .i64 wd)).setCell ⟨sb, 25, none⟩ (.int .i64 k)).setCell ⟨sb, 26, none⟩ (.int .i64 cap)).setCell ⟨sb, 27, none⟩ (.int .i64 now)).setCell ⟨sb, 28, none⟩ (.int .i64 0)).setCell ⟨sb, 29, none⟩ (.slice none 0 0)) = w5 at S R o ⊢
  have hone : (#[.int .i64 4, .int .i64 agg, .int .i64 wd, .int .i64 k, .int .i64 cap, .int .i64 0, .int .i64 0, .int .i64 0, .int .i64 0, .int .i64 0, .int .i64 0, .slice none 0 0, .int .i64 0, .int .i64 0, .int .i64 0, .int .i64 0, .slice none 0 0, .int .i64 0, .int .i64 0, .int .i64 0, .int .i64 0, .int .i64 0, .slice none 0 0, .int .i64 agg, .int .i64 wd, .int .i64 k, .int .i64 cap, .int .i64 now, .int .i64 0, .slice none 0 0, .int .i64 0, .int .i64 0, .int .i64 0, .int .i64 0, .int .i64 0, .slice none 0 0, .int .i64 0, .int .i64 0, .int .i64 0, .slice none 0 0, .int .i64 0, .slice none 0 0, .bool false, .int .i64 0, .int .i64 0, .int .i64 0, .slice none 0 0, .slice none 0 0, .int .i64 0, .int .i64 0, .int .i64 0, .slice none 0 0, .int .i64 0, .int .i64 0, .int .i64 0, .int .i64 0, .slice none 0 0] : Array Value).all (·.oneCell') = true := all_one rfl
  go_wp2_with (first | (with_reducible refine wpList_lsyn S rfl rfl _ rfl rfl ?_) | (with_reducible refine wpList_ssyn R rfl rfl hone rfl _ _ rfl rfl rfl ?_))
  have R9 := row_setRow (cs := #[.int .i64 4, .int .i64 agg, .int .i64 wd, .int .i64 k, .int .i64 cap, .int .i64 0, .int .i64 0, .int .i64 0, .int .i64 0, .int .i64 0, .int .i64 0, .slice none 0 0, .int .i64 0, .int .i64 0, .int .i64 0, .int .i64 0, .slice none 0 0, .int .i64 0, .int .i64 0, .int .i64 0, .int .i64 0, .int .i64 0, .slice none 0 0, .int .i64 agg, .int .i64 wd, .int .i64 k, .int .i64 cap, .int .i64 now, .int .i64 0, .slice none 0 0, .int .i64 0, .int .i64 0, .int .i64 0, .int .i64 0, .int .i64 0, .slice none 0 0, .int .i64 0, .int .i64 0, .int .i64 0, .slice none 0 0, .int .i64 0, .slice none 0 0, .bool false, .int .i64 0, .int .i64 0, .int .i64 0, .slice none 0 0, .slice none 0 0, .int .i64 0, .int .i64 0, .int .i64 0, .slice none 0 0, .int .i64 0, .int .i64 0, .int .i64 0, .int .i64 0, .slice none 0 0]) R
  refine bodyPost_ret (v := .tuple #[.agg #[.int .i64 4, .int .i64 agg, .int .i64 wd, .int .i64 k, .int .i64 cap, .int .i64 0, .int .i64 0, .int .i64 0, .int .i64 0, .int .i64 0, .int .i64 0, .slice none 0 0, .int .i64 0, .int .i64 0, .int .i64 0, .int .i64 0, .slice none 0 0, .int .i64 0, .int .i64 0, .int .i64 0, .int .i64 0, .int .i64 0, .slice none 0 0, .int .i64 agg, .int .i64 wd, .int .i64 k, .int .i64 cap, .int .i64 now, .int .i64 0, .slice none 0 0, .int .i64 0, .int .i64 0, .int .i64 0, .int .i64 0, .int .i64 0, .slice none 0 0, .int .i64 0, .int .i64 0, .int .i64 0, .slice none 0 0, .int .i64 0, .slice none 0 0, .bool false, .int .i64 0, .int .i64 0, .int .i64 0, .slice none 0 0, .slice none 0 0, .int .i64 0, .int .i64 0, .int .i64 0, .slice none 0 0, .int .i64 0, .int .i64 0, .int .i64 0, .int .i64 0, .slice none 0 0], .int .i64 0]) ?_ rfl ?_
  · exact results_syn (p := 4) (q := 5) rfl _ R9 rfl rfl
  · exact ⟨rfl, below_setRow o (by omega) _⟩
set_option maxRecDepth 100000 in
theorem pansSmooth (agg wd k cap : Int) (w : World) (ag1 : 1 ≤ agg) (ag2 : agg ≤ 4) (HC : RowKit.Hid (∀ w', Calls Tryz.prog 108 #[.agg #[.int .i64 4, .int .i64 agg, .int .i64 wd, .int .i64 k, .int .i64 cap, .int .i64 0, .int .i64 0, .int .i64 0]] w' fun e w'' => e = .returned (.int .i64 0) ∧ Below w'.heap.size w' w'')) : Calls Tryz.prog 40 #[.agg #[.int .i64 4, .int .i64 agg, .int .i64 wd, .int .i64 k, .int .i64 cap, .int .i64 0, .int .i64 0, .int .i64 0], .int .i64 agg] w fun e w' => e = .returned (.bool true) ∧ Below w.heap.size w w' := by
  have wa : IntKind.i64.wrap (agg - 1) = agg - 1 := IntWalk.i64_in _ (by omega)
  go_enter Tryz.func40, Tryz.ntmps40
  go_upto_region 1 with (fail)
  have X : Row (w.alloc (.cells #[.int .i64 4, .int .i64 agg, .int .i64 wd, .int .i64 k, .int .i64 cap, .int .i64 0, .int .i64 0, .int .i64 0] 27)) w.heap.size 27 #[.int .i64 4, .int .i64 agg, .int .i64 wd, .int .i64 k, .int .i64 cap, .int .i64 0, .int .i64 0, .int .i64 0] := row_new rfl
  have o : Below w.heap.size w (w.alloc (.cells #[.int .i64 4, .int .i64 agg, .int .i64 wd, .int .i64 k, .int .i64 cap, .int .i64 0, .int .i64 0, .int .i64 0] 27)) := by (repeat (first | exact Below.refl _ _ | refine Below.setCell ?_ (by first | (simp; done) | (simp; omega) | omega) _ | refine Below.alloc ?_ (by first | (simp; done) | (simp; omega) | omega) _ | refine Below.drew ?_ | refine Below.trans ?_ (Below.mono (by assumption) (by first | (simp; done) | (simp; omega) | omega))))
  generalize (w.alloc (.cells #[.int .i64 4, .int .i64 agg, .int .i64 wd, .int .i64 k, .int .i64 cap, .int .i64 0, .int .i64 0, .int .i64 0] 27)) = w1 at X o ⊢
  obtain ⟨X0, X1, X2, X3, X4, X5, X6, X7, Xf0, Xf1, Xf2, Xf3, Xf4, Xf5, Xf6, Xf7⟩ := row_eight X
  go_wp2_with fail
  refine (HC.out _).mono ?_
  rintro e w2 ⟨rfl, hb⟩
  replace X := row_call X hb
  replace o := o.trans (hb.mono o.size)
  clear hb X0 Xf0 X1 Xf1 X2 Xf2 X3 Xf3 X4 Xf4 X5 Xf5 X6 Xf6 X7 Xf7
  obtain ⟨X0, X1, X2, X3, X4, X5, X6, X7, Xf0, Xf1, Xf2, Xf3, Xf4, Xf5, Xf6, Xf7⟩ := row_eight X
  go_wp2
  go_ret
  exact ⟨by first | rfl | exact ret_bool (by simp) | simp, o⟩
set_option maxRecDepth 100000 in
set_option maxHeartbeats 4000000 in
theorem pyAskSmooth (A : Option Addr) (m c : Nat) (agg wd k cap now seq : Int) (qa qb b0 b1 b2 b3 b4 b5 : Int) (w : World) (HV : RowKit.Hid (∀ w', Below w.heap.size w w' → Calls Tryz.prog 136 #[.agg #[.int .i64 agg, .int .i64 wd, .int .i64 k, .int .i64 cap, .int .i64 now, .int .i64 seq, .slice A m c]] w' fun e w'' => e = .returned (.int .i64 0) ∧ Below w'.heap.size w' w'')) (HC : RowKit.Hid (∀ w', Calls Tryz.prog 108 #[.agg #[.int .i64 4, .int .i64 agg, .int .i64 wd, .int .i64 k, .int .i64 cap, .int .i64 0, .int .i64 0, .int .i64 0]] w' fun e w'' => e = .returned (.int .i64 0) ∧ Below w'.heap.size w' w'')) (HN : RowKit.Hid (∀ w', Calls Tryz.prog 40 #[.agg #[.int .i64 4, .int .i64 agg, .int .i64 wd, .int .i64 k, .int .i64 cap, .int .i64 0, .int .i64 0, .int .i64 0], .int .i64 agg] w' fun e w'' => e = .returned (.bool true) ∧ Below w'.heap.size w' w'')) (HQ : RowKit.Hid (∀ w', Below w.heap.size w w' → Calls Tryz.prog 43 #[.agg #[.int .i64 agg, .int .i64 wd, .int .i64 k, .int .i64 cap, .int .i64 now, .int .i64 seq, .slice A m c]] w' fun e w'' => e = .returned (.tuple #[.agg #[.int .i64 b0, .int .i64 b1, .int .i64 b2, .int .i64 b3, .int .i64 b4, .int .i64 b5], .int .i64 0]) ∧ Below w'.heap.size w' w'')) : Calls Tryz.prog 12 #[.agg #[.int .i64 4, .int .i64 agg, .int .i64 wd, .int .i64 k, .int .i64 cap, .int .i64 0, .int .i64 0, .int .i64 0, .int .i64 0, .int .i64 0, .int .i64 0, .slice none 0 0, .int .i64 0, .int .i64 0, .int .i64 0, .int .i64 0, .slice none 0 0, .int .i64 0, .int .i64 0, .int .i64 0, .int .i64 0, .int .i64 0, .slice none 0 0, .int .i64 agg, .int .i64 wd, .int .i64 k, .int .i64 cap, .int .i64 now, .int .i64 seq, .slice A m c, .int .i64 0, .int .i64 0, .int .i64 0, .int .i64 0, .int .i64 0, .slice none 0 0, .int .i64 0, .int .i64 0, .int .i64 0, .slice none 0 0, .int .i64 0, .slice none 0 0, .bool false, .int .i64 0, .int .i64 0, .int .i64 0, .slice none 0 0, .slice none 0 0, .int .i64 0, .int .i64 0, .int .i64 0, .slice none 0 0, .int .i64 0, .int .i64 0, .int .i64 0, .int .i64 0, .slice none 0 0], .agg #[.int .i64 agg, .int .i64 qa, .int .i64 qb]] w fun e w' => e = .returned (.tuple #[.agg #[.int .i64 b0, .int .i64 b1, .int .i64 b2, .int .i64 b3, .int .i64 b4, .int .i64 b5, .slice none 0 0, .int .u64 0, .int .u64 0, .int .u64 0, .int .u64 0], .int .i64 0]) ∧ Below w.heap.size w w' := by
  have PVd := Lib.hid (fun w' (hb : Below w.heap.size w w') => pvSmooth A m c agg wd k cap now seq w' (Lib.hid (fun w'' hb2 => HV.out w'' (hb.trans (hb2.mono hb.size)))) HC)
  go_enter Tryz.func12, Tryz.ntmps12
  go_upto_region 1 with (fail)
  have X : Row (((w.alloc (.cells #[.int .i64 4, .int .i64 agg, .int .i64 wd, .int .i64 k, .int .i64 cap, .int .i64 0, .int .i64 0, .int .i64 0, .int .i64 0, .int .i64 0, .int .i64 0, .slice none 0 0, .int .i64 0, .int .i64 0, .int .i64 0, .int .i64 0, .slice none 0 0, .int .i64 0, .int .i64 0, .int .i64 0, .int .i64 0, .int .i64 0, .slice none 0 0, .int .i64 agg, .int .i64 wd, .int .i64 k, .int .i64 cap, .int .i64 now, .int .i64 seq, .slice A m c, .int .i64 0, .int .i64 0, .int .i64 0, .int .i64 0, .int .i64 0, .slice none 0 0, .int .i64 0, .int .i64 0, .int .i64 0, .slice none 0 0, .int .i64 0, .slice none 0 0, .bool false, .int .i64 0, .int .i64 0, .int .i64 0, .slice none 0 0, .slice none 0 0, .int .i64 0, .int .i64 0, .int .i64 0, .slice none 0 0, .int .i64 0, .int .i64 0, .int .i64 0, .int .i64 0, .slice none 0 0] 58)).alloc (.cells #[.int .i64 agg, .int .i64 qa, .int .i64 qb] 76)).alloc (.cells #[.int .i64 0, .int .i64 0, .int .i64 0, .int .i64 0, .int .i64 0, .int .i64 0, .slice none 0 0, .int .u64 0, .int .u64 0, .int .u64 0, .int .u64 0] 71)) (w.heap.size) 58 #[.int .i64 4, .int .i64 agg, .int .i64 wd, .int .i64 k, .int .i64 cap, .int .i64 0, .int .i64 0, .int .i64 0, .int .i64 0, .int .i64 0, .int .i64 0, .slice none 0 0, .int .i64 0, .int .i64 0, .int .i64 0, .int .i64 0, .slice none 0 0, .int .i64 0, .int .i64 0, .int .i64 0, .int .i64 0, .int .i64 0, .slice none 0 0, .int .i64 agg, .int .i64 wd, .int .i64 k, .int .i64 cap, .int .i64 now, .int .i64 seq, .slice A m c, .int .i64 0, .int .i64 0, .int .i64 0, .int .i64 0, .int .i64 0, .slice none 0 0, .int .i64 0, .int .i64 0, .int .i64 0, .slice none 0 0, .int .i64 0, .slice none 0 0, .bool false, .int .i64 0, .int .i64 0, .int .i64 0, .slice none 0 0, .slice none 0 0, .int .i64 0, .int .i64 0, .int .i64 0, .slice none 0 0, .int .i64 0, .int .i64 0, .int .i64 0, .int .i64 0, .slice none 0 0] := row_alloc (row_alloc (row_new rfl) _) _
  have Q : Row (((w.alloc (.cells #[.int .i64 4, .int .i64 agg, .int .i64 wd, .int .i64 k, .int .i64 cap, .int .i64 0, .int .i64 0, .int .i64 0, .int .i64 0, .int .i64 0, .int .i64 0, .slice none 0 0, .int .i64 0, .int .i64 0, .int .i64 0, .int .i64 0, .slice none 0 0, .int .i64 0, .int .i64 0, .int .i64 0, .int .i64 0, .int .i64 0, .slice none 0 0, .int .i64 agg, .int .i64 wd, .int .i64 k, .int .i64 cap, .int .i64 now, .int .i64 seq, .slice A m c, .int .i64 0, .int .i64 0, .int .i64 0, .int .i64 0, .int .i64 0, .slice none 0 0, .int .i64 0, .int .i64 0, .int .i64 0, .slice none 0 0, .int .i64 0, .slice none 0 0, .bool false, .int .i64 0, .int .i64 0, .int .i64 0, .slice none 0 0, .slice none 0 0, .int .i64 0, .int .i64 0, .int .i64 0, .slice none 0 0, .int .i64 0, .int .i64 0, .int .i64 0, .int .i64 0, .slice none 0 0] 58)).alloc (.cells #[.int .i64 agg, .int .i64 qa, .int .i64 qb] 76)).alloc (.cells #[.int .i64 0, .int .i64 0, .int .i64 0, .int .i64 0, .int .i64 0, .int .i64 0, .slice none 0 0, .int .u64 0, .int .u64 0, .int .u64 0, .int .u64 0] 71)) (w.heap.size + 1) 76 #[.int .i64 agg, .int .i64 qa, .int .i64 qb] := row_alloc (row_new (by simp)) _
  have R : Row (((w.alloc (.cells #[.int .i64 4, .int .i64 agg, .int .i64 wd, .int .i64 k, .int .i64 cap, .int .i64 0, .int .i64 0, .int .i64 0, .int .i64 0, .int .i64 0, .int .i64 0, .slice none 0 0, .int .i64 0, .int .i64 0, .int .i64 0, .int .i64 0, .slice none 0 0, .int .i64 0, .int .i64 0, .int .i64 0, .int .i64 0, .int .i64 0, .slice none 0 0, .int .i64 agg, .int .i64 wd, .int .i64 k, .int .i64 cap, .int .i64 now, .int .i64 seq, .slice A m c, .int .i64 0, .int .i64 0, .int .i64 0, .int .i64 0, .int .i64 0, .slice none 0 0, .int .i64 0, .int .i64 0, .int .i64 0, .slice none 0 0, .int .i64 0, .slice none 0 0, .bool false, .int .i64 0, .int .i64 0, .int .i64 0, .slice none 0 0, .slice none 0 0, .int .i64 0, .int .i64 0, .int .i64 0, .slice none 0 0, .int .i64 0, .int .i64 0, .int .i64 0, .int .i64 0, .slice none 0 0] 58)).alloc (.cells #[.int .i64 agg, .int .i64 qa, .int .i64 qb] 76)).alloc (.cells #[.int .i64 0, .int .i64 0, .int .i64 0, .int .i64 0, .int .i64 0, .int .i64 0, .slice none 0 0, .int .u64 0, .int .u64 0, .int .u64 0, .int .u64 0] 71)) (w.heap.size + 2) 71 #[.int .i64 0, .int .i64 0, .int .i64 0, .int .i64 0, .int .i64 0, .int .i64 0, .slice none 0 0, .int .u64 0, .int .u64 0, .int .u64 0, .int .u64 0] := row_new (by simp)
  have o : Below w.heap.size w (((w.alloc (.cells #[.int .i64 4, .int .i64 agg, .int .i64 wd, .int .i64 k, .int .i64 cap, .int .i64 0, .int .i64 0, .int .i64 0, .int .i64 0, .int .i64 0, .int .i64 0, .slice none 0 0, .int .i64 0, .int .i64 0, .int .i64 0, .int .i64 0, .slice none 0 0, .int .i64 0, .int .i64 0, .int .i64 0, .int .i64 0, .int .i64 0, .slice none 0 0, .int .i64 agg, .int .i64 wd, .int .i64 k, .int .i64 cap, .int .i64 now, .int .i64 seq, .slice A m c, .int .i64 0, .int .i64 0, .int .i64 0, .int .i64 0, .int .i64 0, .slice none 0 0, .int .i64 0, .int .i64 0, .int .i64 0, .slice none 0 0, .int .i64 0, .slice none 0 0, .bool false, .int .i64 0, .int .i64 0, .int .i64 0, .slice none 0 0, .slice none 0 0, .int .i64 0, .int .i64 0, .int .i64 0, .slice none 0 0, .int .i64 0, .int .i64 0, .int .i64 0, .int .i64 0, .slice none 0 0] 58)).alloc (.cells #[.int .i64 agg, .int .i64 qa, .int .i64 qb] 76)).alloc (.cells #[.int .i64 0, .int .i64 0, .int .i64 0, .int .i64 0, .int .i64 0, .int .i64 0, .slice none 0 0, .int .u64 0, .int .u64 0, .int .u64 0, .int .u64 0] 71)) := by (repeat (first | exact Below.refl _ _ | refine Below.setCell ?_ (by first | (simp; done) | (simp; omega) | omega) _ | refine Below.alloc ?_ (by first | (simp; done) | (simp; omega) | omega) _ | refine Below.drew ?_ | refine Below.trans ?_ (Below.mono (by assumption) (by first | (simp; done) | (simp; omega) | omega))))
  obtain ⟨w1, hw1⟩ : ∃ x, x = (((w.alloc (.cells #[.int .i64 4, .int .i64 agg, .int .i64 wd, .int .i64 k, .int .i64 cap, .int .i64 0, .int .i64 0, .int .i64 0, .int .i64 0, .int .i64 0, .int .i64 0, .slice none 0 0, .int .i64 0, .int .i64 0, .int .i64 0, .int .i64 0, .slice none 0 0, .int .i64 0, .int .i64 0, .int .i64 0, .int .i64 0, .int .i64 0, .slice none 0 0, .int .i64 agg, .int .i64 wd, .int .i64 k, .int .i64 cap, .int .i64 now, .int .i64 seq, .slice A m c, .int .i64 0, .int .i64 0, .int .i64 0, .int .i64 0, .int .i64 0, .slice none 0 0, .int .i64 0, .int .i64 0, .int .i64 0, .slice none 0 0, .int .i64 0, .slice none 0 0, .bool false, .int .i64 0, .int .i64 0, .int .i64 0, .slice none 0 0, .slice none 0 0, .int .i64 0, .int .i64 0, .int .i64 0, .slice none 0 0, .int .i64 0, .int .i64 0, .int .i64 0, .int .i64 0, .slice none 0 0] 58)).alloc (.cells #[.int .i64 agg, .int .i64 qa, .int .i64 qb] 76)).alloc (.cells #[.int .i64 0, .int .i64 0, .int .i64 0, .int .i64 0, .int .i64 0, .int .i64 0, .slice none 0 0, .int .u64 0, .int .u64 0, .int .u64 0, .int .u64 0] 71)) := ⟨_, rfl⟩
  rw [← hw1] at X Q R o ⊢
  clear hw1
  go_wp2_with (with_reducible refine wpList_lsyn X rfl rfl _ rfl rfl ?_)
  refine (PVd.out _ o).mono ?_
  rintro e w2 ⟨rfl, hb⟩
  replace X := row_call X hb
  replace Q := row_call Q hb
  replace R := row_call R hb
  replace o := o.trans (hb.mono o.size)
  clear hb PVd
  have k0 : w2.cell? ⟨w.heap.size, 0, none⟩ = some (.int .i64 4) := row_cell X 0
  have k1 : w2.cell? ⟨w.heap.size, 1, none⟩ = some (.int .i64 agg) := row_cell X 1
  have k2 : w2.cell? ⟨w.heap.size, 2, none⟩ = some (.int .i64 wd) := row_cell X 2
  have k3 : w2.cell? ⟨w.heap.size, 3, none⟩ = some (.int .i64 k) := row_cell X 3
  have k4 : w2.cell? ⟨w.heap.size, 4, none⟩ = some (.int .i64 cap) := row_cell X 4
  have k5 : w2.cell? ⟨w.heap.size, 5, none⟩ = some (.int .i64 0) := row_cell X 5
  have k6 : w2.cell? ⟨w.heap.size, 6, none⟩ = some (.int .i64 0) := row_cell X 6
  have k7 : w2.cell? ⟨w.heap.size, 7, none⟩ = some (.int .i64 0) := row_cell X 7
  obtain ⟨Q0, Q1, Q2, Qf0, Qf1, Qf2⟩ := row_three Q
  go_wp2_with fail
  refine (HN.out _).mono ?_
  rintro e w3 ⟨rfl, hb⟩
  replace X := row_call X hb
  replace R := row_call R hb
  replace o := o.trans (hb.mono o.size)
  clear hb HN Q Q0 Q1 Q2 Qf0 Qf1 Qf2 k0 k1 k2 k3 k4 k5 k6 k7
  go_upto_region 7 with (fail)
  have V : Row (w3.alloc (.cells #[.int .i64 0, .int .i64 0, .int .i64 0, .int .i64 0, .int .i64 0, .int .i64 0, .slice none 0 0, .int .u64 0, .int .u64 0, .int .u64 0, .int .u64 0] 71)) w3.heap.size 71 #[.int .i64 0, .int .i64 0, .int .i64 0, .int .i64 0, .int .i64 0, .int .i64 0, .slice none 0 0, .int .u64 0, .int .u64 0, .int .u64 0, .int .u64 0] := row_new rfl
  have z3 := row_lt R
  replace X := row_alloc X (.cells #[.int .i64 0, .int .i64 0, .int .i64 0, .int .i64 0, .int .i64 0, .int .i64 0, .slice none 0 0, .int .u64 0, .int .u64 0, .int .u64 0, .int .u64 0] 71)
  replace R := row_alloc R (.cells #[.int .i64 0, .int .i64 0, .int .i64 0, .int .i64 0, .int .i64 0, .int .i64 0, .slice none 0 0, .int .u64 0, .int .u64 0, .int .u64 0, .int .u64 0] 71)
  replace o := o.alloc o.size (.cells #[.int .i64 0, .int .i64 0, .int .i64 0, .int .i64 0, .int .i64 0, .int .i64 0, .slice none 0 0, .int .u64 0, .int .u64 0, .int .u64 0, .int .u64 0] 71)
  generalize w3.alloc (.cells #[.int .i64 0, .int .i64 0, .int .i64 0, .int .i64 0, .int .i64 0, .int .i64 0, .slice none 0 0, .int .u64 0, .int .u64 0, .int .u64 0, .int .u64 0] 71) = w4 at X R V o ⊢
  generalize w3.heap.size = vb at V z3 ⊢
  have k0 : w4.cell? ⟨w.heap.size, 0, none⟩ = some (.int .i64 4) := row_cell X 0
  have q0 : w4.cell? ⟨w.heap.size, 23, none⟩ = some (.int .i64 agg) := row_cell X 23
  have q1 : w4.cell? ⟨w.heap.size, 24, none⟩ = some (.int .i64 wd) := row_cell X 24
  have q2 : w4.cell? ⟨w.heap.size, 25, none⟩ = some (.int .i64 k) := row_cell X 25
  have q3 : w4.cell? ⟨w.heap.size, 26, none⟩ = some (.int .i64 cap) := row_cell X 26
  have q4 : w4.cell? ⟨w.heap.size, 27, none⟩ = some (.int .i64 now) := row_cell X 27
  have q5 : w4.cell? ⟨w.heap.size, 28, none⟩ = some (.int .i64 seq) := row_cell X 28
  have q6 : w4.cell? ⟨w.heap.size, 29, none⟩ = some (.slice A m c) := row_cell X 29
  go_wp2_with fail
  refine (HQ.out _ o).mono ?_
  rintro e w5 ⟨rfl, hb⟩
  replace V := row_call V hb
  replace R := row_call R hb
  replace o := o.trans (hb.mono o.size)
  clear hb HQ X k0 q0 q1 q2 q3 q4 q5 q6
  have v0 : w5.cell? ⟨vb, 0, none⟩ = some (.int .i64 0) := row_cell V 0
  have v1 : w5.cell? ⟨vb, 1, none⟩ = some (.int .i64 0) := row_cell V 1
  have v2 : w5.cell? ⟨vb, 2, none⟩ = some (.int .i64 0) := row_cell V 2
  have v3 : w5.cell? ⟨vb, 3, none⟩ = some (.int .i64 0) := row_cell V 3
  have v4 : w5.cell? ⟨vb, 4, none⟩ = some (.int .i64 0) := row_cell V 4
  have v5 : w5.cell? ⟨vb, 5, none⟩ = some (.int .i64 0) := row_cell V 5
  have v6 : w5.cell? ⟨vb, 6, none⟩ = some (.slice none 0 0) := row_cell V 6
  have v7 : w5.cell? ⟨vb, 7, none⟩ = some (.int .u64 0) := row_cell V 7
  have v8 : w5.cell? ⟨vb, 8, none⟩ = some (.int .u64 0) := row_cell V 8
  have v9 : w5.cell? ⟨vb, 9, none⟩ = some (.int .u64 0) := row_cell V 9
  have v10 : w5.cell? ⟨vb, 10, none⟩ = some (.int .u64 0) := row_cell V 10
  have g0 := row_free V 0
  have g1 := row_free V 1
  have g2 := row_free V 2
  have g3 := row_free V 3
  have g4 := row_free V 4
  have g5 := row_free V 5
  go_upto_region 39 with (fail)
  clear v0 v1 v2 v3 v4 v5 v6 v7 v8 v9 v10 g0 g1 g2 g3 g4 g5
  replace V := row_set V 0 (.int .i64 b0)
  replace R := row_other (p := ⟨vb, 0, none⟩) R (by show w.heap.size + 2 ≠ vb; omega) (.int .i64 b0)
  replace o := o.setCell (p := ⟨vb, 0, none⟩) (by show w.heap.size ≤ vb; omega) (.int .i64 b0)
  replace V := row_set V 1 (.int .i64 b1)
  replace R := row_other (p := ⟨vb, 1, none⟩) R (by show w.heap.size + 2 ≠ vb; omega) (.int .i64 b1)
  replace o := o.setCell (p := ⟨vb, 1, none⟩) (by show w.heap.size ≤ vb; omega) (.int .i64 b1)
  replace V := row_set V 2 (.int .i64 b2)
  replace R := row_other (p := ⟨vb, 2, none⟩) R (by show w.heap.size + 2 ≠ vb; omega) (.int .i64 b2)
  replace o := o.setCell (p := ⟨vb, 2, none⟩) (by show w.heap.size ≤ vb; omega) (.int .i64 b2)
  replace V := row_set V 3 (.int .i64 b3)
  replace R := row_other (p := ⟨vb, 3, none⟩) R (by show w.heap.size + 2 ≠ vb; omega) (.int .i64 b3)
  replace o := o.setCell (p := ⟨vb, 3, none⟩) (by show w.heap.size ≤ vb; omega) (.int .i64 b3)
  replace V := row_set V 4 (.int .i64 b4)
  replace R := row_other (p := ⟨vb, 4, none⟩) R (by show w.heap.size + 2 ≠ vb; omega) (.int .i64 b4)
  replace o := o.setCell (p := ⟨vb, 4, none⟩) (by show w.heap.size ≤ vb; omega) (.int .i64 b4)
  replace V := row_set V 5 (.int .i64 b5)
  replace R := row_other (p := ⟨vb, 5, none⟩) R (by show w.heap.size + 2 ≠ vb; omega) (.int .i64 b5)
  replace o := o.setCell (p := ⟨vb, 5, none⟩) (by show w.heap.size ≤ vb; omega) (.int .i64 b5)
  replace V : Row ((((((w5.setCell ⟨vb, 0, none⟩ (.int .i64 b0)).setCell ⟨vb, 1, none⟩ (.int .i64 b1)).setCell ⟨vb, 2, none⟩ (.int .i64 b2)).setCell ⟨vb, 3, none⟩ (.int .i64 b3)).setCell ⟨vb, 4, none⟩ (.int .i64 b4)).setCell ⟨vb, 5, none⟩ (.int .i64 b5)) vb 71 #[.int .i64 b0, .int .i64 b1, .int .i64 b2, .int .i64 b3, .int .i64 b4, .int .i64 b5, .slice none 0 0, .int .u64 0, .int .u64 0, .int .u64 0, .int .u64 0] := V
  generalize ((((((w5.setCell ⟨vb, 0, none⟩ (.int .i64 b0)).setCell ⟨vb, 1, none⟩ (.int .i64 b1)).setCell ⟨vb, 2, none⟩ (.int .i64 b2)).setCell ⟨vb, 3, none⟩ (.int .i64 b3)).setCell ⟨vb, 4, none⟩ (.int .i64 b4)).setCell ⟨vb, 5, none⟩ (.int .i64 b5)) = w6 at V R o ⊢
  have hone : (#[.int .i64 b0, .int .i64 b1, .int .i64 b2, .int .i64 b3, .int .i64 b4, .int .i64 b5, .slice none 0 0, .int .u64 0, .int .u64 0, .int .u64 0, .int .u64 0] : Array Value).all (·.oneCell') = true := all_one rfl
  go_wp2_with (first | (with_reducible refine wpList_lans V rfl rfl _ rfl rfl ?_) | (with_reducible refine wpList_sans R rfl rfl hone rfl _ _ rfl rfl rfl ?_))
  have R9 := row_setRow (cs := #[.int .i64 b0, .int .i64 b1, .int .i64 b2, .int .i64 b3, .int .i64 b4, .int .i64 b5, .slice none 0 0, .int .u64 0, .int .u64 0, .int .u64 0, .int .u64 0]) R
  refine bodyPost_ret (v := .tuple #[.agg #[.int .i64 b0, .int .i64 b1, .int .i64 b2, .int .i64 b3, .int .i64 b4, .int .i64 b5, .slice none 0 0, .int .u64 0, .int .u64 0, .int .u64 0, .int .u64 0], .int .i64 0]) ?_ rfl ?_
  · exact results_ans (p := 4) (q := 5) rfl _ R9 rfl rfl
  · exact ⟨rfl, below_setRow o (by omega) _⟩
end Go.Proofs.YtdipoojjlddohaaGreat
end
section
/- Marks of smooth histograms: equal lists, walked. -/
set_option linter.unusedVariables false
set_option linter.unusedSimpArgs false
set_option linter.unusedSectionVars false
set_option linter.unnecessarySimpa false
namespace Go.Proofs.YtdipoojjlddohaaGreat
open Go.RowKit
end Go.Proofs.YtdipoojjlddohaaGreat
end
section
/- Smooth histograms: equal states; the law of a tick, walked. -/
set_option linter.unusedVariables false
set_option linter.unusedSimpArgs false
set_option linter.unusedSectionVars false
set_option linter.unnecessarySimpa false
namespace Go.Proofs.YtdipoojjlddohaaGreat
open Go.RowKit
end Go.Proofs.YtdipoojjlddohaaGreat
end
section
/- Smooth histograms: the answer, walked. -/
set_option linter.unusedVariables false
set_option linter.unusedSimpArgs false
set_option linter.unusedSectionVars false
set_option linter.unnecessarySimpa false
namespace Go.Proofs.YtdipoojjlddohaaGreat
open Go.RowKit
/-- The answer: an interval, and an error. -/
def askV (ve lo hi : Int) : Value := if ve = 0 then .tuple #[.agg #[.int .i64 lo, .int .i64 1, .int .i64 ((lo + hi) / 2), .int .i64 1, .int .i64 hi, .int .i64 1], .int .i64 0] else .tuple #[.agg #[.int .i64 0, .int .i64 0, .int .i64 0, .int .i64 0, .int .i64 0, .int .i64 0], .int .i64 ve]
theorem rwholeN (n : Nat) (hn : n < 9223372036854775808) (w : World) : Calls Tryz.prog 17 #[.int .i64 (n : Nat)] w fun e w' => e = .returned (.agg #[.int .i64 (n : Nat), .int .i64 1, .int .i64 (n : Nat), .int .i64 1, .int .i64 (n : Nat), .int .i64 1]) ∧ Below w.heap.size w w' := by
  have P1 := Lib.hid (fun w => rratio (n : Int) w)
  have P2 := Lib.hid (fun w => rexactR n 1 w hn (by omega) (by omega) (Nat.gcd_one_right n))
  clear hn
  go_enter Tryz.func17, Tryz.ntmps17
  go_wp2_with fail
  have R : Row (w.alloc (.cells #[.int .i64 0, .int .i64 0, .int .i64 0, .int .i64 0, .int .i64 0, .int .i64 0] 64)) w.heap.size 64 #[.int .i64 0, .int .i64 0, .int .i64 0, .int .i64 0, .int .i64 0, .int .i64 0] := row_new rfl
  have o : Below w.heap.size w (w.alloc (.cells #[.int .i64 0, .int .i64 0, .int .i64 0, .int .i64 0, .int .i64 0, .int .i64 0] 64)) := by (repeat (first | exact Below.refl _ _ | refine Below.setCell ?_ (by first | (simp; done) | (simp; omega) | omega) _ | refine Below.alloc ?_ (by first | (simp; done) | (simp; omega) | omega) _ | refine Below.drew ?_ | refine Below.trans ?_ (Below.mono (by assumption) (by first | (simp; done) | (simp; omega) | omega))))
  generalize (w.alloc (.cells #[.int .i64 0, .int .i64 0, .int .i64 0, .int .i64 0, .int .i64 0, .int .i64 0] 64)) = w1 at R o ⊢
  refine (P1.out _).mono ?_
  rintro e w2 ⟨rfl, hb2⟩
  replace R := row_call R hb2
  replace o := o.trans (hb2.mono o.size)
  clear hb2
  go_wp2_with fail
  refine (P2.out _).mono ?_
  rintro e w3 ⟨rfl, hb3⟩
  replace R := row_call R hb3
  replace o := o.trans (hb3.mono o.size)
  clear hb3
  obtain ⟨R0, R1, R2, R3, R4, R5, Rf0, Rf1, Rf2, Rf3, Rf4, Rf5⟩ := row_six R
  go_wp2
  exact bodyPost_ret (v := .agg #[.int .i64 (n : Nat), .int .i64 1, .int .i64 (n : Nat), .int .i64 1, .int .i64 (n : Nat), .int .i64 1]) (by simp [results, Tryz.results17, go_sem, R0, R1, R2, R3, R4, R5]) rfl ⟨rfl, below_six o (by omega) _ _ _ _ _ _⟩
theorem pexI (x : Int) (w : World) (h0 : 0 ≤ x) (h1 : x ≤ 1099511627776) : Calls Tryz.prog 85 #[.agg #[.int .i64 x, .int .i64 1]] w fun e w' => e = .returned (.agg #[.int .i64 x, .int .i64 1, .int .i64 x, .int .i64 1, .int .i64 x, .int .i64 1]) ∧ Below w.heap.size w w' := by
  obtain ⟨n, rfl⟩ : ∃ n : Nat, x = (n : Int) := ⟨x.toNat, by omega⟩
  exact pexactR n 1 w (by omega) (by omega) (by omega) (Nat.gcd_one_right n)
theorem pwhI (x y : Int) (w : World) (h0 : 0 ≤ x) (hxy : x ≤ y) (h1 : y ≤ 1099511627776) : Calls Tryz.prog 139 #[.int .i64 x, .int .i64 y] w fun e w' => e = .returned (.tuple #[.agg #[.int .i64 x, .int .i64 1, .int .i64 ((x + y) / 2), .int .i64 1, .int .i64 y, .int .i64 1], .bool true]) ∧ Below w.heap.size w w' := by
  obtain ⟨n, rfl⟩ : ∃ n : Nat, x = (n : Int) := ⟨x.toNat, by omega⟩
  obtain ⟨k, rfl⟩ : ∃ k : Nat, y = (k : Int) := ⟨y.toNat, by omega⟩
  rw [show ((n : Int) + (k : Int)) / 2 = (((n + k) / 2 : Nat) : Int) by omega]
  exact pwhole n k (by omega) (by omega) w
set_option maxRecDepth 100000 in
theorem psmask_a (A : Option Addr) (m c : Nat) (l : List Mk) (agg wd k cap now seq : Int) (w : World) (hin : MIn A m c l w) (sB : I64 seq) (hv : smvalE agg wd k cap now seq l = 2) : Calls Tryz.prog 43 #[.agg #[.int .i64 agg, .int .i64 wd, .int .i64 k, .int .i64 cap, .int .i64 now, .int .i64 seq, .slice A m c]] w fun e w' => e = .returned (askV (smvalE agg wd k cap now seq l) (askLo agg now wd l) (askHi agg now wd l)) ∧ Below w.heap.size w w' := by
  rw [show askV (smvalE agg wd k cap now seq l) (askLo agg now wd l) (askHi agg now wd l) = .tuple #[.agg #[.int .i64 0, .int .i64 0, .int .i64 0, .int .i64 0, .int .i64 0, .int .i64 0], .int .i64 2] by unfold askV; rw [hv]; rfl]
  have P := fun w' (hb : Below w.heap.size w w') => pvalS A m c l agg wd k cap now seq w' (hin.below hb) sB
  rw [hv] at P
  replace P := Lib.hid P
  clear hv hin sB
  go_enter Tryz.func43, Tryz.ntmps43
  go_wp2_with (first | (go_at_call 136; with_reducible refine (P.out _ (by (repeat (first | exact Below.refl _ _ | refine Below.setCell ?_ (by first | (simp; done) | (simp; omega) | omega) _ | refine Below.alloc ?_ (by first | (simp; done) | (simp; omega) | omega) _ | refine Below.drew ?_ | refine Below.trans ?_ (Below.mono (by assumption) (by first | (simp; done) | (simp; omega) | omega)))))).mono ?_; rintro e w1 ⟨rfl, hb1⟩; have hz1 := hb1.size; (try simp at hz1); have o1 : Below w.heap.size w w1 := (by (repeat (first | exact Below.refl _ _ | refine Below.setCell ?_ (by first | (simp; done) | (simp; omega) | omega) _ | refine Below.alloc ?_ (by first | (simp; done) | (simp; omega) | omega) _ | refine Below.drew ?_ | refine Below.trans ?_ (Below.mono (by assumption) (by first | (simp; done) | (simp; omega) | omega))))); have q1_0 : w.heap.size < w1.heap.size := (by omega); have r1_0 : Row w1 (w.heap.size) 37 #[.int .i64 agg, .int .i64 wd, .int .i64 k, .int .i64 cap, .int .i64 now, .int .i64 seq, .slice A m c] := row_call (by (repeat (first | assumption | (refine row_new ?_; (first | (simp; done) | omega)) | refine row_alloc ?_ _ | refine row_drew ?_ | refine row_call ?_ (by assumption)))) hb1; obtain ⟨c1_0a, c1_0b, c1_0c, c1_0d, c1_0e, c1_0f, c1_0g, f1_0a, f1_0b, f1_0c, f1_0d, f1_0e, f1_0f, f1_0g⟩ := row_seven r1_0; have q1_1 : w.heap.size + 1 < w1.heap.size := (by omega); have r1_1 : Row w1 (w.heap.size + 1) 64 #[.int .i64 0, .int .i64 0, .int .i64 0, .int .i64 0, .int .i64 0, .int .i64 0] := row_call (by (repeat (first | assumption | (refine row_new ?_; (first | (simp; done) | omega)) | refine row_alloc ?_ _ | refine row_drew ?_ | refine row_call ?_ (by assumption)))) hb1; obtain ⟨c1_1a, c1_1b, c1_1c, c1_1d, c1_1e, c1_1f, f1_1a, f1_1b, f1_1c, f1_1d, f1_1e, f1_1f⟩ := row_six r1_1))
  exact bodyPost_ret (v := .tuple #[.agg #[.int .i64 0, .int .i64 0, .int .i64 0, .int .i64 0, .int .i64 0, .int .i64 0], .int .i64 2]) (by simp [results, Tryz.results43, go_sem, List.getElem?_toArray, c1_1a, c1_1b, c1_1c, c1_1d, c1_1e, c1_1f]) rfl ⟨rfl, below_six o1 (by omega) _ _ _ _ _ _⟩
set_option maxRecDepth 100000 in
theorem psmask_z (A : Option Addr) (c : Nat) (l : List Mk) (agg wd k cap now seq : Int) (w : World) (hin : MIn A 0 c l w) (sB : I64 seq) (hv : smvalE agg wd k cap now seq l = 0) : Calls Tryz.prog 43 #[.agg #[.int .i64 agg, .int .i64 wd, .int .i64 k, .int .i64 cap, .int .i64 now, .int .i64 seq, .slice A 0 c]] w fun e w' => e = .returned (askV (smvalE agg wd k cap now seq l) (askLo agg now wd l) (askHi agg now wd l)) ∧ Below w.heap.size w w' := by
  have hl : l = [] := List.eq_nil_of_length_eq_zero hin.len
  rw [show askV (smvalE agg wd k cap now seq l) (askLo agg now wd l) (askHi agg now wd l) = .tuple #[.agg #[.int .i64 0, .int .i64 1, .int .i64 0, .int .i64 1, .int .i64 0, .int .i64 1], .int .i64 0] by rw [hv, hl, askLo_nil, askHi_nil]; rfl]
  have P := fun w' (hb : Below w.heap.size w w') => pvalS A 0 c l agg wd k cap now seq w' (hin.below hb) sB
  rw [hv] at P
  replace P := Lib.hid P
  have PE := Lib.hid (fun w => pexI 0 w (by omega) (by omega))
  clear hv hin sB hl
  go_enter Tryz.func43, Tryz.ntmps43
  go_upto_region 5 with (first | (go_at_call 136; with_reducible refine (P.out _ (by (repeat (first | exact Below.refl _ _ | refine Below.setCell ?_ (by first | (simp; done) | (simp; omega) | omega) _ | refine Below.alloc ?_ (by first | (simp; done) | (simp; omega) | omega) _ | refine Below.drew ?_ | refine Below.trans ?_ (Below.mono (by assumption) (by first | (simp; done) | (simp; omega) | omega)))))).mono ?_; rintro e w1 ⟨rfl, hb1⟩; have hz1 := hb1.size; (try simp at hz1); have o1 : Below w.heap.size w w1 := (by (repeat (first | exact Below.refl _ _ | refine Below.setCell ?_ (by first | (simp; done) | (simp; omega) | omega) _ | refine Below.alloc ?_ (by first | (simp; done) | (simp; omega) | omega) _ | refine Below.drew ?_ | refine Below.trans ?_ (Below.mono (by assumption) (by first | (simp; done) | (simp; omega) | omega))))); have q1_0 : w.heap.size < w1.heap.size := (by omega); have r1_0 : Row w1 (w.heap.size) 37 #[.int .i64 agg, .int .i64 wd, .int .i64 k, .int .i64 cap, .int .i64 now, .int .i64 seq, .slice A 0 c] := row_call (by (repeat (first | assumption | (refine row_new ?_; (first | (simp; done) | omega)) | refine row_alloc ?_ _ | refine row_drew ?_ | refine row_call ?_ (by assumption)))) hb1; obtain ⟨c1_0a, c1_0b, c1_0c, c1_0d, c1_0e, c1_0f, c1_0g, f1_0a, f1_0b, f1_0c, f1_0d, f1_0e, f1_0f, f1_0g⟩ := row_seven r1_0; have q1_1 : w.heap.size + 1 < w1.heap.size := (by omega); have r1_1 : Row w1 (w.heap.size + 1) 64 #[.int .i64 0, .int .i64 0, .int .i64 0, .int .i64 0, .int .i64 0, .int .i64 0] := row_call (by (repeat (first | assumption | (refine row_new ?_; (first | (simp; done) | omega)) | refine row_alloc ?_ _ | refine row_drew ?_ | refine row_call ?_ (by assumption)))) hb1; obtain ⟨c1_1a, c1_1b, c1_1c, c1_1d, c1_1e, c1_1f, f1_1a, f1_1b, f1_1c, f1_1d, f1_1e, f1_1f⟩ := row_six r1_1))
  have R := r1_1
  have o := o1
  clear r1_1 r1_0 o1 c1_1a c1_1b c1_1c c1_1d c1_1e c1_1f
  go_wp2_with fail
  refine (pratio 0 _).mono ?_
  rintro e w5 ⟨rfl, hb5⟩
  replace R := row_call R hb5
  replace o := o.trans (hb5.mono o.size)
  clear hb5
  go_wp2_with fail
  refine (PE.out _).mono ?_
  rintro e w6 ⟨rfl, hb6⟩
  replace R := row_call R hb6
  replace o := o.trans (hb6.mono o.size)
  clear hb6
  obtain ⟨R0, R1, R2, R3, R4, R5, Rf0, Rf1, Rf2, Rf3, Rf4, Rf5⟩ := row_six R
  go_wp2
  exact bodyPost_ret (v := .tuple #[.agg #[.int .i64 0, .int .i64 1, .int .i64 0, .int .i64 1, .int .i64 0, .int .i64 1], .int .i64 0]) (by simp [results, Tryz.results43, go_sem, List.getElem?_toArray, R0, R1, R2, R3, R4, R5]) rfl ⟨rfl, below_six o (by omega) _ _ _ _ _ _⟩
set_option maxRecDepth 100000 in
set_option maxHeartbeats 2000000 in
theorem psmask_f (A : Option Addr) (m c : Nat) (l : List Mk) (agg wd k cap now seq : Int) (w : World) (hin : MIn A m c l w) (sB : I64 seq) (hv : smvalE agg wd k cap now seq l = 0) (hm0 : 0 < m) (hlv : now - wd < (mkAt l 0).t) : Calls Tryz.prog 43 #[.agg #[.int .i64 agg, .int .i64 wd, .int .i64 k, .int .i64 cap, .int .i64 now, .int .i64 seq, .slice A m c]] w fun e w' => e = .returned (askV (smvalE agg wd k cap now seq l) (askLo agg now wd l) (askHi agg now wd l)) ∧ Below w.heap.size w w' := by
  obtain ⟨hG, hMV, _⟩ := of_smvalE hv
  obtain ⟨⟨a0, a1⟩, d0, d1, k0, k1, c0, c1, n0, n1⟩ := hG
  have hVL := (mvalid_iff.1 hMV).2
  have hl := hin.len
  have hne : l ≠ [] := fun e => by rw [e] at hl; simp at hl; omega
  have e1 : askLo agg now wd l = ofV agg (mkAt l 0) := by unfold askLo; rw [if_neg hne, if_pos hlv]
  have e2 : askHi agg now wd l = ofV agg (mkAt l 0) := by unfold askHi; rw [if_neg hne, if_pos hlv]
  rw [e1, e2, hv]
  have o1a := hVL.one _ (mkAt_mem (l := l) (i := 0) (by omega))
  have PX := fun w => pofm agg (mkAt l 0) w (hin.mB 0)
  have bx := ofV_bound o1a c1
  have PL := fun w => plive now wd (mkAt l 0).t w n0 n1 d0 d1 o1a.2.2.2.2.1 o1a.2.2.2.2.2.1
  clear e1 e2
  obtain ⟨x, hx⟩ : ∃ x, ofV agg (mkAt l 0) = x := ⟨_, rfl⟩
  rw [hx] at PX bx
  try rw [hx]
  obtain ⟨ad, rfl, hadb, ht0⟩ := hin.reads.mk (i := 0) hm0
  have ht0 : MkCells w ad (mkAt l 0) := ht0
  generalize mkAt l 0 = ma at ht0 PX PL hlv o1a
  obtain ⟨sq, tk, n, s, q, lo, hi⟩ := ma
  dsimp only at PX PL hlv
  rw [decide_eq_true hlv] at PL
  replace PX := Lib.hid PX
  replace PL := Lib.hid PL
  rw [show askV 0 x x = .tuple #[.agg #[.int .i64 x, .int .i64 1, .int .i64 x, .int .i64 1, .int .i64 x, .int .i64 1], .int .i64 0] by unfold askV; rw [if_pos rfl, show (x + x) / 2 = x by omega]]
  have PE := Lib.hid (fun w => pexI x w bx.1 bx.2)
  have P := fun w' (hb : Below w.heap.size w w') => pvalS (some ad) m c l agg wd k cap now seq w' (hin.below hb) sB
  rw [hv] at P
  replace P := Lib.hid P
  clear hv hin sB hx hlv o1a hMV hVL hne bx hl
  go_enter Tryz.func43, Tryz.ntmps43
  go_upto_region 6 with (first | (go_at_call 136; with_reducible refine (P.out _ (by (repeat (first | exact Below.refl _ _ | refine Below.setCell ?_ (by first | (simp; done) | (simp; omega) | omega) _ | refine Below.alloc ?_ (by first | (simp; done) | (simp; omega) | omega) _ | refine Below.drew ?_ | refine Below.trans ?_ (Below.mono (by assumption) (by first | (simp; done) | (simp; omega) | omega)))))).mono ?_; rintro e w1 ⟨rfl, hb1⟩; have hz1 := hb1.size; (try simp at hz1); have o1 : Below w.heap.size w w1 := (by (repeat (first | exact Below.refl _ _ | refine Below.setCell ?_ (by first | (simp; done) | (simp; omega) | omega) _ | refine Below.alloc ?_ (by first | (simp; done) | (simp; omega) | omega) _ | refine Below.drew ?_ | refine Below.trans ?_ (Below.mono (by assumption) (by first | (simp; done) | (simp; omega) | omega))))); have q1_0 : w.heap.size < w1.heap.size := (by omega); have r1_0 : Row w1 (w.heap.size) 37 #[.int .i64 agg, .int .i64 wd, .int .i64 k, .int .i64 cap, .int .i64 now, .int .i64 seq, .slice (some ad) m c] := row_call (by (repeat (first | assumption | (refine row_new ?_; (first | (simp; done) | omega)) | refine row_alloc ?_ _ | refine row_drew ?_ | refine row_call ?_ (by assumption)))) hb1; obtain ⟨c1_0a, c1_0b, c1_0c, c1_0d, c1_0e, c1_0f, c1_0g, f1_0a, f1_0b, f1_0c, f1_0d, f1_0e, f1_0f, f1_0g⟩ := row_seven r1_0; have q1_1 : w.heap.size + 1 < w1.heap.size := (by omega); have r1_1 : Row w1 (w.heap.size + 1) 64 #[.int .i64 0, .int .i64 0, .int .i64 0, .int .i64 0, .int .i64 0, .int .i64 0] := row_call (by (repeat (first | assumption | (refine row_new ?_; (first | (simp; done) | omega)) | refine row_alloc ?_ _ | refine row_drew ?_ | refine row_call ?_ (by assumption)))) hb1; obtain ⟨c1_1a, c1_1b, c1_1c, c1_1d, c1_1e, c1_1f, f1_1a, f1_1b, f1_1c, f1_1d, f1_1e, f1_1f⟩ := row_six r1_1))
  have R := r1_1
  have o := o1
  obtain ⟨q0, q1, q2, q3, q4, q5, q6⟩ := ht0.below o1 hadb
  dsimp only at q0 q1 q2 q3 q4 q5 q6
  have g0 : (0 : Int) < (m : Int) := by omega
  have mz : ((m : Int) == 0) = false := by simp; omega
  go_upto_region 7 with (fail)
  have Fr : Row (w1.alloc (.cells #[.int .i64 sq, .int .i64 tk, .int .i64 n, .int .i64 s, .int .i64 q, .int .i64 lo, .int .i64 hi] 228)) w1.heap.size 228 #[.int .i64 sq, .int .i64 tk, .int .i64 n, .int .i64 s, .int .i64 q, .int .i64 lo, .int .i64 hi] := row_new rfl
  replace R := row_alloc R (.cells #[.int .i64 sq, .int .i64 tk, .int .i64 n, .int .i64 s, .int .i64 q, .int .i64 lo, .int .i64 hi] 228)
  have X := row_alloc r1_0 (.cells #[.int .i64 sq, .int .i64 tk, .int .i64 n, .int .i64 s, .int .i64 q, .int .i64 lo, .int .i64 hi] 228)
  replace o := o.alloc o.size (.cells #[.int .i64 sq, .int .i64 tk, .int .i64 n, .int .i64 s, .int .i64 q, .int .i64 lo, .int .i64 hi] 228)
  generalize (w1.alloc (.cells #[.int .i64 sq, .int .i64 tk, .int .i64 n, .int .i64 s, .int .i64 q, .int .i64 lo, .int .i64 hi] 228)) = w2 at Fr R X o ⊢
  generalize w1.heap.size = fb at Fr ⊢
  clear q0 q1 q2 q3 q4 q5 q6 r1_0 r1_1 o1 ht0 c1_0a c1_0b c1_0c c1_0d c1_0e c1_0f c1_0g f1_0a f1_0b f1_0c f1_0d f1_0e f1_0f f1_0g c1_1a c1_1b c1_1c c1_1d c1_1e c1_1f f1_1a f1_1b f1_1c f1_1d f1_1e f1_1f
  obtain ⟨X0, X1, X2, X3, X4, X5, X6, Xf0, Xf1, Xf2, Xf3, Xf4, Xf5, Xf6⟩ := row_seven X
  obtain ⟨F0, F1, F2, F3, F4, F5, F6, Ff0, Ff1, Ff2, Ff3, Ff4, Ff5, Ff6⟩ := row_seven Fr
  go_upto_region 8 with (go_at_call 137; with_reducible refine (PL.out _).mono ?_; rintro e w9 ⟨rfl, h9⟩; obtain rfl := h9.symm)
  go_wp2_with fail
  refine (PX.out _).mono ?_
  rintro e w4 ⟨rfl, hb4⟩
  replace R := row_call R hb4
  replace o := o.trans (hb4.mono o.size)
  clear hb4 X X0 X1 X2 X3 X4 X5 X6 Xf0 Xf1 Xf2 Xf3 Xf4 Xf5 Xf6 Fr F0 F1 F2 F3 F4 F5 F6 Ff0 Ff1 Ff2 Ff3 Ff4 Ff5 Ff6
  go_wp2_with fail
  refine (pratio x _).mono ?_
  rintro e w5 ⟨rfl, hb5⟩
  replace R := row_call R hb5
  replace o := o.trans (hb5.mono o.size)
  clear hb5
  go_wp2_with fail
  refine (PE.out _).mono ?_
  rintro e w6 ⟨rfl, hb6⟩
  replace R := row_call R hb6
  replace o := o.trans (hb6.mono o.size)
  clear hb6
  obtain ⟨R0, R1, R2, R3, R4, R5, Rf0, Rf1, Rf2, Rf3, Rf4, Rf5⟩ := row_six R
  go_wp2
  exact bodyPost_ret (v := .tuple #[.agg #[.int .i64 x, .int .i64 1, .int .i64 x, .int .i64 1, .int .i64 x, .int .i64 1], .int .i64 0]) (by simp [results, Tryz.results43, go_sem, List.getElem?_toArray, R0, R1, R2, R3, R4, R5]) rfl ⟨rfl, below_six o (by omega) _ _ _ _ _ _⟩
set_option maxRecDepth 100000 in
set_option maxHeartbeats 2000000 in
theorem psmask_g (A : Option Addr) (m c : Nat) (l : List Mk) (agg wd k cap now seq : Int) (w : World) (hin : MIn A m c l w) (sB : I64 seq) (hv : smvalE agg wd k cap now seq l = 0) (hm0 : 0 < m) (hlv : ¬ now - wd < (mkAt l 0).t) (hnx : (mkAt l 1).seq = (mkAt l 0).seq + 1) : Calls Tryz.prog 43 #[.agg #[.int .i64 agg, .int .i64 wd, .int .i64 k, .int .i64 cap, .int .i64 now, .int .i64 seq, .slice A m c]] w fun e w' => e = .returned (askV (smvalE agg wd k cap now seq l) (askLo agg now wd l) (askHi agg now wd l)) ∧ Below w.heap.size w w' := by
  have hle := ask_le (of_smvalE hv)
  obtain ⟨hG, hMV, _⟩ := of_smvalE hv
  obtain ⟨⟨a0, a1⟩, d0, d1, k0, k1, c0, c1, n0, n1⟩ := hG
  have hVL := (mvalid_iff.1 hMV).2
  have hl := hin.len
  have hne : l ≠ [] := fun e => by rw [e] at hl; simp at hl; omega
  have hm1 : 1 < m := by
    apply Nat.lt_of_not_le; intro hc
    obtain ⟨a, rfl⟩ : ∃ a, l = [a] := List.length_eq_one_iff.1 (by omega)
    exact hlv (hVL.alone a rfl)
  have e1 : askLo agg now wd l = ofV agg (mkAt l 1) := by unfold askLo; rw [if_neg hne, if_neg hlv]
  have e2 : askHi agg now wd l = ofV agg (mkAt l 1) := by unfold askHi; rw [if_neg hne, if_neg hlv, if_pos hnx]
  rw [e1, e2] at hle
  rw [e1, e2, hv]
  have o1a := hVL.one _ (mkAt_mem (l := l) (i := 0) (by omega))
  have PX := fun w => pofm agg (mkAt l 0) w (hin.mB 0)
  have bx := ofV_bound o1a c1
  have PL := fun w => plive now wd (mkAt l 0).t w n0 n1 d0 d1 o1a.2.2.2.2.1 o1a.2.2.2.2.2.1
  have o1b := hVL.one _ (mkAt_mem (l := l) (i := 1) (by omega))
  have PY := fun w => pofm agg (mkAt l 1) w (hin.mB 1)
  have bY := ofV_bound o1b c1
  clear e1 e2
  obtain ⟨y, hy⟩ : ∃ y, ofV agg (mkAt l 1) = y := ⟨_, rfl⟩
  rw [hy] at PY bY hle
  rw [hy]
  obtain ⟨ad', e', hadb', ht1⟩ := hin.reads.mk (i := 1) hm1
  obtain ⟨x, hx⟩ : ∃ x, ofV agg (mkAt l 0) = x := ⟨_, rfl⟩
  rw [hx] at PX bx
  try rw [hx]
  obtain ⟨ad, rfl, hadb, ht0⟩ := hin.reads.mk (i := 0) hm0
  have ht0 : MkCells w ad (mkAt l 0) := ht0
  generalize mkAt l 0 = ma at ht0 PX PL hlv o1a hnx
  obtain ⟨sq, tk, n, s, q, lo, hi⟩ := ma
  dsimp only at PX PL hlv hnx
  rw [decide_eq_false hlv] at PL
  replace PX := Lib.hid PX
  replace PL := Lib.hid PL
  obtain rfl := Option.some.inj e'
  have ht1 : MkCells w (ad.add (1 * 7)) (mkAt l 1) := ht1
  generalize mkAt l 1 = mb at ht1 PY hnx o1b
  obtain ⟨osq, otk, on, os, oq, olo, ohi⟩ := mb
  dsimp only at PY hnx
  have hsq1 := o1a.1
  have hsq2 := o1a.2.1
  dsimp only at hsq1 hsq2
  have wsq : IntKind.i64.wrap (sq + 1) = sq + 1 := IntWalk.i64_in _ (by have := (mvalid_iff.1 hMV).1.2; omega)
  have tsq : (osq == sq + 1) = true := by simp; omega
  replace PY := Lib.hid PY
  rw [show askV 0 y y = .tuple #[.agg #[.int .i64 y, .int .i64 1, .int .i64 y, .int .i64 1, .int .i64 y, .int .i64 1], .int .i64 0] by unfold askV; rw [if_pos rfl, show (y + y) / 2 = y by omega]]
  have PE := Lib.hid (fun w => pexI y w bY.1 bY.2)
  have P := fun w' (hb : Below w.heap.size w w') => pvalS (some ad) m c l agg wd k cap now seq w' (hin.below hb) sB
  rw [hv] at P
  replace P := Lib.hid P
  clear hv hin sB hx hy hlv o1a o1b hMV hVL hne bx bY hl hle hnx e' hsq1 hsq2
  go_enter Tryz.func43, Tryz.ntmps43
  go_upto_region 6 with (first | (go_at_call 136; with_reducible refine (P.out _ (by (repeat (first | exact Below.refl _ _ | refine Below.setCell ?_ (by first | (simp; done) | (simp; omega) | omega) _ | refine Below.alloc ?_ (by first | (simp; done) | (simp; omega) | omega) _ | refine Below.drew ?_ | refine Below.trans ?_ (Below.mono (by assumption) (by first | (simp; done) | (simp; omega) | omega)))))).mono ?_; rintro e w1 ⟨rfl, hb1⟩; have hz1 := hb1.size; (try simp at hz1); have o1 : Below w.heap.size w w1 := (by (repeat (first | exact Below.refl _ _ | refine Below.setCell ?_ (by first | (simp; done) | (simp; omega) | omega) _ | refine Below.alloc ?_ (by first | (simp; done) | (simp; omega) | omega) _ | refine Below.drew ?_ | refine Below.trans ?_ (Below.mono (by assumption) (by first | (simp; done) | (simp; omega) | omega))))); have q1_0 : w.heap.size < w1.heap.size := (by omega); have r1_0 : Row w1 (w.heap.size) 37 #[.int .i64 agg, .int .i64 wd, .int .i64 k, .int .i64 cap, .int .i64 now, .int .i64 seq, .slice (some ad) m c] := row_call (by (repeat (first | assumption | (refine row_new ?_; (first | (simp; done) | omega)) | refine row_alloc ?_ _ | refine row_drew ?_ | refine row_call ?_ (by assumption)))) hb1; obtain ⟨c1_0a, c1_0b, c1_0c, c1_0d, c1_0e, c1_0f, c1_0g, f1_0a, f1_0b, f1_0c, f1_0d, f1_0e, f1_0f, f1_0g⟩ := row_seven r1_0; have q1_1 : w.heap.size + 1 < w1.heap.size := (by omega); have r1_1 : Row w1 (w.heap.size + 1) 64 #[.int .i64 0, .int .i64 0, .int .i64 0, .int .i64 0, .int .i64 0, .int .i64 0] := row_call (by (repeat (first | assumption | (refine row_new ?_; (first | (simp; done) | omega)) | refine row_alloc ?_ _ | refine row_drew ?_ | refine row_call ?_ (by assumption)))) hb1; obtain ⟨c1_1a, c1_1b, c1_1c, c1_1d, c1_1e, c1_1f, f1_1a, f1_1b, f1_1c, f1_1d, f1_1e, f1_1f⟩ := row_six r1_1))
  have R := r1_1
  have o := o1
  obtain ⟨q0, q1, q2, q3, q4, q5, q6⟩ := ht0.below o1 hadb
  dsimp only at q0 q1 q2 q3 q4 q5 q6
  have g0 : (0 : Int) < (m : Int) := by omega
  have mz : ((m : Int) == 0) = false := by simp; omega
  go_upto_region 7 with (fail)
  have Fr : Row (w1.alloc (.cells #[.int .i64 sq, .int .i64 tk, .int .i64 n, .int .i64 s, .int .i64 q, .int .i64 lo, .int .i64 hi] 228)) w1.heap.size 228 #[.int .i64 sq, .int .i64 tk, .int .i64 n, .int .i64 s, .int .i64 q, .int .i64 lo, .int .i64 hi] := row_new rfl
  replace R := row_alloc R (.cells #[.int .i64 sq, .int .i64 tk, .int .i64 n, .int .i64 s, .int .i64 q, .int .i64 lo, .int .i64 hi] 228)
  have X := row_alloc r1_0 (.cells #[.int .i64 sq, .int .i64 tk, .int .i64 n, .int .i64 s, .int .i64 q, .int .i64 lo, .int .i64 hi] 228)
  replace o := o.alloc o.size (.cells #[.int .i64 sq, .int .i64 tk, .int .i64 n, .int .i64 s, .int .i64 q, .int .i64 lo, .int .i64 hi] 228)
  generalize (w1.alloc (.cells #[.int .i64 sq, .int .i64 tk, .int .i64 n, .int .i64 s, .int .i64 q, .int .i64 lo, .int .i64 hi] 228)) = w2 at Fr R X o ⊢
  generalize w1.heap.size = fb at Fr ⊢
  clear q0 q1 q2 q3 q4 q5 q6 r1_0 r1_1 o1 ht0 c1_0a c1_0b c1_0c c1_0d c1_0e c1_0f c1_0g f1_0a f1_0b f1_0c f1_0d f1_0e f1_0f f1_0g c1_1a c1_1b c1_1c c1_1d c1_1e c1_1f f1_1a f1_1b f1_1c f1_1d f1_1e f1_1f
  obtain ⟨X0, X1, X2, X3, X4, X5, X6, Xf0, Xf1, Xf2, Xf3, Xf4, Xf5, Xf6⟩ := row_seven X
  obtain ⟨F0, F1, F2, F3, F4, F5, F6, Ff0, Ff1, Ff2, Ff3, Ff4, Ff5, Ff6⟩ := row_seven Fr
  go_upto_region 9 with (go_at_call 137; with_reducible refine (PL.out _).mono ?_; rintro e w9 ⟨rfl, h9⟩; obtain rfl := h9.symm)
  clear PL
  obtain ⟨s0, s1, s2, s3, s4, s5, s6⟩ := ht1.below o hadb'
  dsimp only at s0 s1 s2 s3 s4 s5 s6
  replace s0 : w2.cell? ⟨ad.block, ad.off + 7, none⟩ = some (.int .i64 osq) := s0
  replace s1 : w2.cell? ⟨ad.block, ad.off + 7 + 1, none⟩ = some (.int .i64 otk) := s1
  replace s2 : w2.cell? ⟨ad.block, ad.off + 7 + 2, none⟩ = some (.int .i64 on) := s2
  replace s3 : w2.cell? ⟨ad.block, ad.off + 7 + 3, none⟩ = some (.int .i64 os) := s3
  replace s4 : w2.cell? ⟨ad.block, ad.off + 7 + 4, none⟩ = some (.int .i64 oq) := s4
  replace s5 : w2.cell? ⟨ad.block, ad.off + 7 + 5, none⟩ = some (.int .i64 olo) := s5
  replace s6 : w2.cell? ⟨ad.block, ad.off + 7 + 6, none⟩ = some (.int .i64 ohi) := s6
  have g1 : (1 : Int) < (m : Int) := by omega
  go_upto_region 10 with (fail)
  have Sr : Row (w2.alloc (.cells #[.int .i64 osq, .int .i64 otk, .int .i64 on, .int .i64 os, .int .i64 oq, .int .i64 olo, .int .i64 ohi] 228)) w2.heap.size 228 #[.int .i64 osq, .int .i64 otk, .int .i64 on, .int .i64 os, .int .i64 oq, .int .i64 olo, .int .i64 ohi] := row_new rfl
  replace R := row_alloc R (.cells #[.int .i64 osq, .int .i64 otk, .int .i64 on, .int .i64 os, .int .i64 oq, .int .i64 olo, .int .i64 ohi] 228)
  replace X := row_alloc X (.cells #[.int .i64 osq, .int .i64 otk, .int .i64 on, .int .i64 os, .int .i64 oq, .int .i64 olo, .int .i64 ohi] 228)
  replace Fr := row_alloc Fr (.cells #[.int .i64 osq, .int .i64 otk, .int .i64 on, .int .i64 os, .int .i64 oq, .int .i64 olo, .int .i64 ohi] 228)
  replace o := o.alloc o.size (.cells #[.int .i64 osq, .int .i64 otk, .int .i64 on, .int .i64 os, .int .i64 oq, .int .i64 olo, .int .i64 ohi] 228)
  generalize (w2.alloc (.cells #[.int .i64 osq, .int .i64 otk, .int .i64 on, .int .i64 os, .int .i64 oq, .int .i64 olo, .int .i64 ohi] 228)) = w3 at Fr R X Sr o ⊢
  generalize w2.heap.size = gb at Sr ⊢
  clear s0 s1 s2 s3 s4 s5 s6 ht1 X0 X1 X2 X3 X4 X5 X6 Xf0 Xf1 Xf2 Xf3 Xf4 Xf5 Xf6 F0 F1 F2 F3 F4 F5 F6 Ff0 Ff1 Ff2 Ff3 Ff4 Ff5 Ff6
  obtain ⟨X0, X1, X2, X3, X4, X5, X6, Xf0, Xf1, Xf2, Xf3, Xf4, Xf5, Xf6⟩ := row_seven X
  obtain ⟨F0, F1, F2, F3, F4, F5, F6, Ff0, Ff1, Ff2, Ff3, Ff4, Ff5, Ff6⟩ := row_seven Fr
  obtain ⟨S0, S1, S2, S3, S4, S5, S6, Sf0, Sf1, Sf2, Sf3, Sf4, Sf5, Sf6⟩ := row_seven Sr
  go_wp2_with fail
  refine (PY.out _).mono ?_
  rintro e w4 ⟨rfl, hb4⟩
  replace R := row_call R hb4
  replace o := o.trans (hb4.mono o.size)
  clear hb4
  go_wp2_with fail
  refine (pratio y _).mono ?_
  rintro e w5 ⟨rfl, hb5⟩
  replace R := row_call R hb5
  replace o := o.trans (hb5.mono o.size)
  clear hb5
  go_wp2_with fail
  refine (PE.out _).mono ?_
  rintro e w6 ⟨rfl, hb6⟩
  replace R := row_call R hb6
  replace o := o.trans (hb6.mono o.size)
  clear hb6
  obtain ⟨R0, R1, R2, R3, R4, R5, Rf0, Rf1, Rf2, Rf3, Rf4, Rf5⟩ := row_six R
  go_wp2
  exact bodyPost_ret (v := .tuple #[.agg #[.int .i64 y, .int .i64 1, .int .i64 y, .int .i64 1, .int .i64 y, .int .i64 1], .int .i64 0]) (by simp [results, Tryz.results43, go_sem, List.getElem?_toArray, R0, R1, R2, R3, R4, R5]) rfl ⟨rfl, below_six o (by omega) _ _ _ _ _ _⟩
set_option maxRecDepth 100000 in
set_option maxHeartbeats 2000000 in
theorem psmask_h (A : Option Addr) (m c : Nat) (l : List Mk) (agg wd k cap now seq : Int) (w : World) (hin : MIn A m c l w) (sB : I64 seq) (hv : smvalE agg wd k cap now seq l = 0) (hm0 : 0 < m) (hlv : ¬ now - wd < (mkAt l 0).t) (hnx : ¬ (mkAt l 1).seq = (mkAt l 0).seq + 1) : Calls Tryz.prog 43 #[.agg #[.int .i64 agg, .int .i64 wd, .int .i64 k, .int .i64 cap, .int .i64 now, .int .i64 seq, .slice A m c]] w fun e w' => e = .returned (askV (smvalE agg wd k cap now seq l) (askLo agg now wd l) (askHi agg now wd l)) ∧ Below w.heap.size w w' := by
  have hle := ask_le (of_smvalE hv)
  obtain ⟨hG, hMV, _⟩ := of_smvalE hv
  obtain ⟨⟨a0, a1⟩, d0, d1, k0, k1, c0, c1, n0, n1⟩ := hG
  have hVL := (mvalid_iff.1 hMV).2
  have hl := hin.len
  have hne : l ≠ [] := fun e => by rw [e] at hl; simp at hl; omega
  have hm1 : 1 < m := by
    apply Nat.lt_of_not_le; intro hc
    obtain ⟨a, rfl⟩ : ∃ a, l = [a] := List.length_eq_one_iff.1 (by omega)
    exact hlv (hVL.alone a rfl)
  have e1 : askLo agg now wd l = ofV agg (mkAt l 1) := by unfold askLo; rw [if_neg hne, if_neg hlv]
  have e2 : askHi agg now wd l = ofV agg (mkAt l 0) := by unfold askHi; rw [if_neg hne, if_neg hlv, if_neg hnx]
  rw [e1, e2] at hle
  rw [e1, e2, hv]
  have o1a := hVL.one _ (mkAt_mem (l := l) (i := 0) (by omega))
  have PX := fun w => pofm agg (mkAt l 0) w (hin.mB 0)
  have bx := ofV_bound o1a c1
  have PL := fun w => plive now wd (mkAt l 0).t w n0 n1 d0 d1 o1a.2.2.2.2.1 o1a.2.2.2.2.2.1
  have o1b := hVL.one _ (mkAt_mem (l := l) (i := 1) (by omega))
  have PY := fun w => pofm agg (mkAt l 1) w (hin.mB 1)
  have bY := ofV_bound o1b c1
  clear e1 e2
  obtain ⟨y, hy⟩ : ∃ y, ofV agg (mkAt l 1) = y := ⟨_, rfl⟩
  rw [hy] at PY bY hle
  rw [hy]
  obtain ⟨ad', e', hadb', ht1⟩ := hin.reads.mk (i := 1) hm1
  obtain ⟨x, hx⟩ : ∃ x, ofV agg (mkAt l 0) = x := ⟨_, rfl⟩
  rw [hx] at PX bx
  try rw [hx]
  obtain ⟨ad, rfl, hadb, ht0⟩ := hin.reads.mk (i := 0) hm0
  have ht0 : MkCells w ad (mkAt l 0) := ht0
  generalize mkAt l 0 = ma at ht0 PX PL hlv o1a hnx
  obtain ⟨sq, tk, n, s, q, lo, hi⟩ := ma
  dsimp only at PX PL hlv hnx
  rw [decide_eq_false hlv] at PL
  replace PX := Lib.hid PX
  replace PL := Lib.hid PL
  obtain rfl := Option.some.inj e'
  have ht1 : MkCells w (ad.add (1 * 7)) (mkAt l 1) := ht1
  generalize mkAt l 1 = mb at ht1 PY hnx o1b
  obtain ⟨osq, otk, on, os, oq, olo, ohi⟩ := mb
  dsimp only at PY hnx
  have hsq1 := o1a.1
  have hsq2 := o1a.2.1
  dsimp only at hsq1 hsq2
  have wsq : IntKind.i64.wrap (sq + 1) = sq + 1 := IntWalk.i64_in _ (by have := (mvalid_iff.1 hMV).1.2; omega)
  have tsq : (osq == sq + 1) = false := by simp; omega
  replace PY := Lib.hid PY
  rw [show askV 0 y x = .tuple #[.agg #[.int .i64 y, .int .i64 1, .int .i64 ((y + x) / 2), .int .i64 1, .int .i64 x, .int .i64 1], .int .i64 0] by unfold askV; rw [if_pos rfl]]
  have PE := Lib.hid (fun w => pwhI y x w hle.1 (by rw [hx] at hle; exact hle.2.1) bx.2)
  generalize (y + x) / 2 = md at PE ⊢
  have P := fun w' (hb : Below w.heap.size w w') => pvalS (some ad) m c l agg wd k cap now seq w' (hin.below hb) sB
  rw [hv] at P
  replace P := Lib.hid P
  clear hv hin sB hx hy hlv o1a o1b hMV hVL hne bx bY hl hle hnx e' hsq1 hsq2
  go_enter Tryz.func43, Tryz.ntmps43
  go_upto_region 6 with (first | (go_at_call 136; with_reducible refine (P.out _ (by (repeat (first | exact Below.refl _ _ | refine Below.setCell ?_ (by first | (simp; done) | (simp; omega) | omega) _ | refine Below.alloc ?_ (by first | (simp; done) | (simp; omega) | omega) _ | refine Below.drew ?_ | refine Below.trans ?_ (Below.mono (by assumption) (by first | (simp; done) | (simp; omega) | omega)))))).mono ?_; rintro e w1 ⟨rfl, hb1⟩; have hz1 := hb1.size; (try simp at hz1); have o1 : Below w.heap.size w w1 := (by (repeat (first | exact Below.refl _ _ | refine Below.setCell ?_ (by first | (simp; done) | (simp; omega) | omega) _ | refine Below.alloc ?_ (by first | (simp; done) | (simp; omega) | omega) _ | refine Below.drew ?_ | refine Below.trans ?_ (Below.mono (by assumption) (by first | (simp; done) | (simp; omega) | omega))))); have q1_0 : w.heap.size < w1.heap.size := (by omega); have r1_0 : Row w1 (w.heap.size) 37 #[.int .i64 agg, .int .i64 wd, .int .i64 k, .int .i64 cap, .int .i64 now, .int .i64 seq, .slice (some ad) m c] := row_call (by (repeat (first | assumption | (refine row_new ?_; (first | (simp; done) | omega)) | refine row_alloc ?_ _ | refine row_drew ?_ | refine row_call ?_ (by assumption)))) hb1; obtain ⟨c1_0a, c1_0b, c1_0c, c1_0d, c1_0e, c1_0f, c1_0g, f1_0a, f1_0b, f1_0c, f1_0d, f1_0e, f1_0f, f1_0g⟩ := row_seven r1_0; have q1_1 : w.heap.size + 1 < w1.heap.size := (by omega); have r1_1 : Row w1 (w.heap.size + 1) 64 #[.int .i64 0, .int .i64 0, .int .i64 0, .int .i64 0, .int .i64 0, .int .i64 0] := row_call (by (repeat (first | assumption | (refine row_new ?_; (first | (simp; done) | omega)) | refine row_alloc ?_ _ | refine row_drew ?_ | refine row_call ?_ (by assumption)))) hb1; obtain ⟨c1_1a, c1_1b, c1_1c, c1_1d, c1_1e, c1_1f, f1_1a, f1_1b, f1_1c, f1_1d, f1_1e, f1_1f⟩ := row_six r1_1))
  have R := r1_1
  have o := o1
  obtain ⟨q0, q1, q2, q3, q4, q5, q6⟩ := ht0.below o1 hadb
  dsimp only at q0 q1 q2 q3 q4 q5 q6
  have g0 : (0 : Int) < (m : Int) := by omega
  have mz : ((m : Int) == 0) = false := by simp; omega
  go_upto_region 7 with (fail)
  have Fr : Row (w1.alloc (.cells #[.int .i64 sq, .int .i64 tk, .int .i64 n, .int .i64 s, .int .i64 q, .int .i64 lo, .int .i64 hi] 228)) w1.heap.size 228 #[.int .i64 sq, .int .i64 tk, .int .i64 n, .int .i64 s, .int .i64 q, .int .i64 lo, .int .i64 hi] := row_new rfl
  replace R := row_alloc R (.cells #[.int .i64 sq, .int .i64 tk, .int .i64 n, .int .i64 s, .int .i64 q, .int .i64 lo, .int .i64 hi] 228)
  have X := row_alloc r1_0 (.cells #[.int .i64 sq, .int .i64 tk, .int .i64 n, .int .i64 s, .int .i64 q, .int .i64 lo, .int .i64 hi] 228)
  replace o := o.alloc o.size (.cells #[.int .i64 sq, .int .i64 tk, .int .i64 n, .int .i64 s, .int .i64 q, .int .i64 lo, .int .i64 hi] 228)
  generalize (w1.alloc (.cells #[.int .i64 sq, .int .i64 tk, .int .i64 n, .int .i64 s, .int .i64 q, .int .i64 lo, .int .i64 hi] 228)) = w2 at Fr R X o ⊢
  generalize w1.heap.size = fb at Fr ⊢
  clear q0 q1 q2 q3 q4 q5 q6 r1_0 r1_1 o1 ht0 c1_0a c1_0b c1_0c c1_0d c1_0e c1_0f c1_0g f1_0a f1_0b f1_0c f1_0d f1_0e f1_0f f1_0g c1_1a c1_1b c1_1c c1_1d c1_1e c1_1f f1_1a f1_1b f1_1c f1_1d f1_1e f1_1f
  obtain ⟨X0, X1, X2, X3, X4, X5, X6, Xf0, Xf1, Xf2, Xf3, Xf4, Xf5, Xf6⟩ := row_seven X
  obtain ⟨F0, F1, F2, F3, F4, F5, F6, Ff0, Ff1, Ff2, Ff3, Ff4, Ff5, Ff6⟩ := row_seven Fr
  go_upto_region 9 with (go_at_call 137; with_reducible refine (PL.out _).mono ?_; rintro e w9 ⟨rfl, h9⟩; obtain rfl := h9.symm)
  clear PL
  obtain ⟨s0, s1, s2, s3, s4, s5, s6⟩ := ht1.below o hadb'
  dsimp only at s0 s1 s2 s3 s4 s5 s6
  replace s0 : w2.cell? ⟨ad.block, ad.off + 7, none⟩ = some (.int .i64 osq) := s0
  replace s1 : w2.cell? ⟨ad.block, ad.off + 7 + 1, none⟩ = some (.int .i64 otk) := s1
  replace s2 : w2.cell? ⟨ad.block, ad.off + 7 + 2, none⟩ = some (.int .i64 on) := s2
  replace s3 : w2.cell? ⟨ad.block, ad.off + 7 + 3, none⟩ = some (.int .i64 os) := s3
  replace s4 : w2.cell? ⟨ad.block, ad.off + 7 + 4, none⟩ = some (.int .i64 oq) := s4
  replace s5 : w2.cell? ⟨ad.block, ad.off + 7 + 5, none⟩ = some (.int .i64 olo) := s5
  replace s6 : w2.cell? ⟨ad.block, ad.off + 7 + 6, none⟩ = some (.int .i64 ohi) := s6
  have g1 : (1 : Int) < (m : Int) := by omega
  go_upto_region 10 with (fail)
  have Sr : Row (w2.alloc (.cells #[.int .i64 osq, .int .i64 otk, .int .i64 on, .int .i64 os, .int .i64 oq, .int .i64 olo, .int .i64 ohi] 228)) w2.heap.size 228 #[.int .i64 osq, .int .i64 otk, .int .i64 on, .int .i64 os, .int .i64 oq, .int .i64 olo, .int .i64 ohi] := row_new rfl
  replace R := row_alloc R (.cells #[.int .i64 osq, .int .i64 otk, .int .i64 on, .int .i64 os, .int .i64 oq, .int .i64 olo, .int .i64 ohi] 228)
  replace X := row_alloc X (.cells #[.int .i64 osq, .int .i64 otk, .int .i64 on, .int .i64 os, .int .i64 oq, .int .i64 olo, .int .i64 ohi] 228)
  replace Fr := row_alloc Fr (.cells #[.int .i64 osq, .int .i64 otk, .int .i64 on, .int .i64 os, .int .i64 oq, .int .i64 olo, .int .i64 ohi] 228)
  replace o := o.alloc o.size (.cells #[.int .i64 osq, .int .i64 otk, .int .i64 on, .int .i64 os, .int .i64 oq, .int .i64 olo, .int .i64 ohi] 228)
  generalize (w2.alloc (.cells #[.int .i64 osq, .int .i64 otk, .int .i64 on, .int .i64 os, .int .i64 oq, .int .i64 olo, .int .i64 ohi] 228)) = w3 at Fr R X Sr o ⊢
  generalize w2.heap.size = gb at Sr ⊢
  clear s0 s1 s2 s3 s4 s5 s6 ht1 X0 X1 X2 X3 X4 X5 X6 Xf0 Xf1 Xf2 Xf3 Xf4 Xf5 Xf6 F0 F1 F2 F3 F4 F5 F6 Ff0 Ff1 Ff2 Ff3 Ff4 Ff5 Ff6
  obtain ⟨X0, X1, X2, X3, X4, X5, X6, Xf0, Xf1, Xf2, Xf3, Xf4, Xf5, Xf6⟩ := row_seven X
  obtain ⟨F0, F1, F2, F3, F4, F5, F6, Ff0, Ff1, Ff2, Ff3, Ff4, Ff5, Ff6⟩ := row_seven Fr
  obtain ⟨S0, S1, S2, S3, S4, S5, S6, Sf0, Sf1, Sf2, Sf3, Sf4, Sf5, Sf6⟩ := row_seven Sr
  go_upto_region 12 with (fail)
  refine wp_region_free1 [0, 1, 2, 3, 4, 5, 6, 7, 8, 9, 11, 10] [11] [0, 1, 2, 3, 4, 5, 6, 7, 8, 9, 10, 12] (12, 64, #[.int .i64 0, .int .i64 0, .int .i64 0, .int .i64 0, .int .i64 0, .int .i64 0]) 7 13 (fun w' => Row w' (fb) 228 #[.int .i64 sq, .int .i64 tk, .int .i64 n, .int .i64 s, .int .i64 q, .int .i64 lo, .int .i64 hi] ∧ Row w' (gb) 228 #[.int .i64 osq, .int .i64 otk, .int .i64 on, .int .i64 os, .int .i64 oq, .int .i64 olo, .int .i64 ohi] ∧ Row w' (w.heap.size) 37 #[.int .i64 agg, .int .i64 wd, .int .i64 k, .int .i64 cap, .int .i64 now, .int .i64 seq, .slice (some ad) m c] ∧ Row w' (w.heap.size + 1) 64 #[.int .i64 0, .int .i64 0, .int .i64 0, .int .i64 0, .int .i64 0, .int .i64 0] ∧ Below w.heap.size w w') (by kernel_rfl) (by kernel_rfl) ⟨_, _, rfl, rfl, rfl, fun ρ w' => by go_simp⟩ rfl (by simp) (fun _ h => ⟨row_alloc h.1 _, row_alloc h.2.1 _, row_alloc h.2.2.1 _, row_alloc h.2.2.2.1 _, h.2.2.2.2.alloc h.2.2.2.2.size _⟩) (fun _ _ d _ _ h => by cases d <;> exact h) ?_ ?_
  · exact ⟨Fr, Sr, X, R, o.drew⟩
  (refine plan_val ?_ rfl rfl rfl (fun w' hS => ?_) ?_; rotate_left; (obtain ⟨F0, F1, F2, F3, F4, F5, F6, Ff0, Ff1, Ff2, Ff3, Ff4, Ff5, Ff6⟩ := row_seven hS.1; obtain ⟨S0, S1, S2, S3, S4, S5, S6, Sf0, Sf1, Sf2, Sf3, Sf4, Sf5, Sf6⟩ := row_seven hS.2.1; obtain ⟨X0, X1, X2, X3, X4, X5, X6, Xf0, Xf1, Xf2, Xf3, Xf4, Xf5, Xf6⟩ := row_seven hS.2.2.1; go_simp; try with_reducible rfl); simp only [Act.put, List.setIfInBounds_toArray, List.set_cons_zero, List.set_cons_succ])
  (refine plan_pure ?_ rfl rfl (fun w' => ?_) ?_; rotate_left; (go_simp; try with_reducible rfl); simp only [Act.put, List.setIfInBounds_toArray, List.set_cons_zero, List.set_cons_succ])
  (refine plan_val ?_ rfl rfl rfl (fun w' hS => ?_) ?_; rotate_left; (obtain ⟨F0, F1, F2, F3, F4, F5, F6, Ff0, Ff1, Ff2, Ff3, Ff4, Ff5, Ff6⟩ := row_seven hS.1; obtain ⟨S0, S1, S2, S3, S4, S5, S6, Sf0, Sf1, Sf2, Sf3, Sf4, Sf5, Sf6⟩ := row_seven hS.2.1; obtain ⟨X0, X1, X2, X3, X4, X5, X6, Xf0, Xf1, Xf2, Xf3, Xf4, Xf5, Xf6⟩ := row_seven hS.2.2.1; go_simp; try with_reducible rfl); simp only [Act.put, List.setIfInBounds_toArray, List.set_cons_zero, List.set_cons_succ])
  refine plan_call (.int .i64 y) 138 #[.agg #[.int .i64 osq, .int .i64 otk, .int .i64 on, .int .i64 os, .int .i64 oq, .int .i64 olo, .int .i64 ohi], .int .i64 agg] rfl rfl rfl (fun _ _ h hb => ⟨row_call h.1 hb, row_call h.2.1 hb, row_call h.2.2.1 hb, row_call h.2.2.2.1 hb, h.2.2.2.2.trans (hb.mono h.2.2.2.2.size)⟩) (fun w' hS => by obtain ⟨F0, F1, F2, F3, F4, F5, F6, Ff0, Ff1, Ff2, Ff3, Ff4, Ff5, Ff6⟩ := row_seven hS.1; obtain ⟨S0, S1, S2, S3, S4, S5, S6, Sf0, Sf1, Sf2, Sf3, Sf4, Sf5, Sf6⟩ := row_seven hS.2.1; obtain ⟨X0, X1, X2, X3, X4, X5, X6, Xf0, Xf1, Xf2, Xf3, Xf4, Xf5, Xf6⟩ := row_seven hS.2.2.1; go_simp) (fun w' hS => PY.out w') ?_
  simp only [Act.put, List.setIfInBounds_toArray, List.set_cons_zero, List.set_cons_succ]
  (refine plan_val ?_ rfl rfl rfl (fun w' hS => ?_) ?_; rotate_left; (obtain ⟨F0, F1, F2, F3, F4, F5, F6, Ff0, Ff1, Ff2, Ff3, Ff4, Ff5, Ff6⟩ := row_seven hS.1; obtain ⟨S0, S1, S2, S3, S4, S5, S6, Sf0, Sf1, Sf2, Sf3, Sf4, Sf5, Sf6⟩ := row_seven hS.2.1; obtain ⟨X0, X1, X2, X3, X4, X5, X6, Xf0, Xf1, Xf2, Xf3, Xf4, Xf5, Xf6⟩ := row_seven hS.2.2.1; go_simp; try with_reducible rfl); simp only [Act.put, List.setIfInBounds_toArray, List.set_cons_zero, List.set_cons_succ])
  (refine plan_pure ?_ rfl rfl (fun w' => ?_) ?_; rotate_left; (go_simp; try with_reducible rfl); simp only [Act.put, List.setIfInBounds_toArray, List.set_cons_zero, List.set_cons_succ])
  (refine plan_val ?_ rfl rfl rfl (fun w' hS => ?_) ?_; rotate_left; (obtain ⟨F0, F1, F2, F3, F4, F5, F6, Ff0, Ff1, Ff2, Ff3, Ff4, Ff5, Ff6⟩ := row_seven hS.1; obtain ⟨S0, S1, S2, S3, S4, S5, S6, Sf0, Sf1, Sf2, Sf3, Sf4, Sf5, Sf6⟩ := row_seven hS.2.1; obtain ⟨X0, X1, X2, X3, X4, X5, X6, Xf0, Xf1, Xf2, Xf3, Xf4, Xf5, Xf6⟩ := row_seven hS.2.2.1; go_simp; try with_reducible rfl); simp only [Act.put, List.setIfInBounds_toArray, List.set_cons_zero, List.set_cons_succ])
  refine plan_call (.int .i64 x) 138 #[.agg #[.int .i64 sq, .int .i64 tk, .int .i64 n, .int .i64 s, .int .i64 q, .int .i64 lo, .int .i64 hi], .int .i64 agg] rfl rfl rfl (fun _ _ h hb => ⟨row_call h.1 hb, row_call h.2.1 hb, row_call h.2.2.1 hb, row_call h.2.2.2.1 hb, h.2.2.2.2.trans (hb.mono h.2.2.2.2.size)⟩) (fun w' hS => by obtain ⟨F0, F1, F2, F3, F4, F5, F6, Ff0, Ff1, Ff2, Ff3, Ff4, Ff5, Ff6⟩ := row_seven hS.1; obtain ⟨S0, S1, S2, S3, S4, S5, S6, Sf0, Sf1, Sf2, Sf3, Sf4, Sf5, Sf6⟩ := row_seven hS.2.1; obtain ⟨X0, X1, X2, X3, X4, X5, X6, Xf0, Xf1, Xf2, Xf3, Xf4, Xf5, Xf6⟩ := row_seven hS.2.2.1; go_simp) (fun w' hS => PX.out w') ?_
  simp only [Act.put, List.setIfInBounds_toArray, List.set_cons_zero, List.set_cons_succ]
  refine plan_call (.tuple #[.agg #[.int .i64 y, .int .i64 1, .int .i64 md, .int .i64 1, .int .i64 x, .int .i64 1], .bool true]) 139 #[.int .i64 y, .int .i64 x] rfl rfl rfl (fun _ _ h hb => ⟨row_call h.1 hb, row_call h.2.1 hb, row_call h.2.2.1 hb, row_call h.2.2.2.1 hb, h.2.2.2.2.trans (hb.mono h.2.2.2.2.size)⟩) (fun w' hS => by obtain ⟨F0, F1, F2, F3, F4, F5, F6, Ff0, Ff1, Ff2, Ff3, Ff4, Ff5, Ff6⟩ := row_seven hS.1; obtain ⟨S0, S1, S2, S3, S4, S5, S6, Sf0, Sf1, Sf2, Sf3, Sf4, Sf5, Sf6⟩ := row_seven hS.2.1; obtain ⟨X0, X1, X2, X3, X4, X5, X6, Xf0, Xf1, Xf2, Xf3, Xf4, Xf5, Xf6⟩ := row_seven hS.2.2.1; go_simp) (fun w' hS => PE.out w') ?_
  simp only [Act.put, List.setIfInBounds_toArray, List.set_cons_zero, List.set_cons_succ]
  (refine plan_pure ?_ rfl rfl (fun w' => ?_) ?_; rotate_left; (go_simp; try with_reducible rfl); simp only [Act.put, List.setIfInBounds_toArray, List.set_cons_zero, List.set_cons_succ])
  (refine plan_pure ?_ rfl rfl (fun w' => ?_) ?_; rotate_left; (go_simp; try with_reducible rfl); simp only [Act.put, List.setIfInBounds_toArray, List.set_cons_zero, List.set_cons_succ])
  (refine plan_pure ?_ rfl rfl (fun w' => ?_) ?_; rotate_left; (go_simp; try with_reducible rfl); simp only [Act.put, List.setIfInBounds_toArray, List.set_cons_zero, List.set_cons_succ])
  refine plan_nil ?_
  intro ob w5 L hor hog
  simp only [List.drop_succ_cons, List.drop_zero]
  try simp only [Act.put, List.setIfInBounds_toArray, List.set_cons_zero, List.set_cons_succ]
  obtain ⟨Fr', Sr', X', R', o'⟩ := L
  clear Fr Sr X o F0 F1 F2 F3 F4 F5 F6 Ff0 Ff1 Ff2 Ff3 Ff4 Ff5 Ff6 S0 S1 S2 S3 S4 S5 S6 Sf0 Sf1 Sf2 Sf3 Sf4 Sf5 Sf6 X0 X1 X2 X3 X4 X5 X6 Xf0 Xf1 Xf2 Xf3 Xf4 Xf5 Xf6
  have hne : w.heap.size + 1 ≠ ob := by have := row_lt R; omega
  have hbo : w.heap.size ≤ ob := by have := row_lt R; omega
  obtain ⟨B0, B1, B2, B3, B4, B5, Bf0, Bf1, Bf2, Bf3, Bf4, Bf5⟩ := row_six hor
  go_upto_region 13 with (fail)
  have B' : Row ((((((w5.setCell ⟨ob, 0, none⟩ (.int .i64 y)).setCell ⟨ob, 1, none⟩ (.int .i64 1)).setCell ⟨ob, 2, none⟩ (.int .i64 md)).setCell ⟨ob, 3, none⟩ (.int .i64 1)).setCell ⟨ob, 4, none⟩ (.int .i64 x)).setCell ⟨ob, 5, none⟩ (.int .i64 1)) ob 64 #[.int .i64 y, .int .i64 1, .int .i64 md, .int .i64 1, .int .i64 x, .int .i64 1] := (row_set (row_set (row_set (row_set (row_set (row_set hor 0 (.int .i64 y)) 1 (.int .i64 1)) 2 (.int .i64 md)) 3 (.int .i64 1)) 4 (.int .i64 x)) 5 (.int .i64 1))
  replace R : Row ((((((w5.setCell ⟨ob, 0, none⟩ (.int .i64 y)).setCell ⟨ob, 1, none⟩ (.int .i64 1)).setCell ⟨ob, 2, none⟩ (.int .i64 md)).setCell ⟨ob, 3, none⟩ (.int .i64 1)).setCell ⟨ob, 4, none⟩ (.int .i64 x)).setCell ⟨ob, 5, none⟩ (.int .i64 1)) (w.heap.size + 1) 64 #[.int .i64 0, .int .i64 0, .int .i64 0, .int .i64 0, .int .i64 0, .int .i64 0] := (row_other (row_other (row_other (row_other (row_other (row_other R' hne (.int .i64 y)) hne (.int .i64 1)) hne (.int .i64 md)) hne (.int .i64 1)) hne (.int .i64 x)) hne (.int .i64 1))
  have o : Below w.heap.size w ((((((w5.setCell ⟨ob, 0, none⟩ (.int .i64 y)).setCell ⟨ob, 1, none⟩ (.int .i64 1)).setCell ⟨ob, 2, none⟩ (.int .i64 md)).setCell ⟨ob, 3, none⟩ (.int .i64 1)).setCell ⟨ob, 4, none⟩ (.int .i64 x)).setCell ⟨ob, 5, none⟩ (.int .i64 1)) := below_six o' hbo _ _ _ _ _ _
  generalize ((((((w5.setCell ⟨ob, 0, none⟩ (.int .i64 y)).setCell ⟨ob, 1, none⟩ (.int .i64 1)).setCell ⟨ob, 2, none⟩ (.int .i64 md)).setCell ⟨ob, 3, none⟩ (.int .i64 1)).setCell ⟨ob, 4, none⟩ (.int .i64 x)).setCell ⟨ob, 5, none⟩ (.int .i64 1)) = w6 at B' R o ⊢
  clear Fr' Sr' X' R' o' hor B0 B1 B2 B3 B4 B5 Bf0 Bf1 Bf2 Bf3 Bf4 Bf5
  obtain ⟨B0, B1, B2, B3, B4, B5, Bf0, Bf1, Bf2, Bf3, Bf4, Bf5⟩ := row_six B'
  obtain ⟨R0, R1, R2, R3, R4, R5, Rf0, Rf1, Rf2, Rf3, Rf4, Rf5⟩ := row_six R
  go_wp2
  exact bodyPost_ret (v := .tuple #[.agg #[.int .i64 y, .int .i64 1, .int .i64 md, .int .i64 1, .int .i64 x, .int .i64 1], .int .i64 0]) (by simp [results, Tryz.results43, go_sem, List.getElem?_toArray, R0, R1, R2, R3, R4, R5]) rfl ⟨rfl, below_six o (by omega) _ _ _ _ _ _⟩
theorem psmask (A : Option Addr) (m c : Nat) (l : List Mk) (agg wd k cap now seq : Int) (w : World) (hin : MIn A m c l w) (sB : I64 seq) : Calls Tryz.prog 43 #[.agg #[.int .i64 agg, .int .i64 wd, .int .i64 k, .int .i64 cap, .int .i64 now, .int .i64 seq, .slice A m c]] w fun e w' => e = .returned (askV (smvalE agg wd k cap now seq l) (askLo agg now wd l) (askHi agg now wd l)) ∧ Below w.heap.size w w' := by
  rcases smvalE_two (agg := agg) (wd := wd) (k := k) (cap := cap) (now := now) (seq := seq) (l := l) with hv | hv
  · by_cases m0 : m = 0
    · subst m0; exact psmask_z A c l agg wd k cap now seq w hin sB hv
    · by_cases hlv : now - wd < (mkAt l 0).t
      · exact psmask_f A m c l agg wd k cap now seq w hin sB hv (by omega) hlv
      · by_cases hnx : (mkAt l 1).seq = (mkAt l 0).seq + 1
        · exact psmask_g A m c l agg wd k cap now seq w hin sB hv (by omega) hlv hnx
        · exact psmask_h A m c l agg wd k cap now seq w hin sB hv (by omega) hlv hnx
  · exact psmask_a A m c l agg wd k cap now seq w hin sB hv
end Go.Proofs.YtdipoojjlddohaaGreat
end
section
/- What the histogram of a played stream is: plain (out of the law SmoothTruth). -/
set_option linter.unusedVariables false
set_option linter.unusedSimpArgs false
set_option linter.unusedSectionVars false
set_option linter.unnecessarySimpa false
namespace Go.Proofs.YtdipoojjlddohaaGreat
theorem dropM_lenS (now w : Int) (l : List Mk) : (dropM now w l).length ≤ l.length := by
  obtain ⟨k, _, e⟩ := dropM_suffix now w l
  rw [e, List.length_drop]
  omega
/-- What the histogram of a played stream is. -/
structure PlayedSm (agg wd k cap now seq : Int) (ms : List Mk) (ad : List Itm) (q : Nat) : Prop where
  val : smValid agg wd k cap now seq ms
  hist : HistOf ms seq now wd ad
  vals : ValsOK agg ad
  ml : ms.length ≤ q
  al : ad.length ≤ q
theorem PlayedSm.tick {agg wd k cap now seq tt : Int} {ms : List Mk} {ad : List Itm} {q : Nat} (h : PlayedSm agg wd k cap now seq ms ad q) (h0 : ¬ (tt < now ∨ 16777216 < tt)) : PlayedSm agg wd k cap tt seq (dropM tt wd ms) ad q :=
  ⟨smTick_valid h.val h0, h.hist.tick (mvalid_iff.1 h.val.2.1).2 (by omega), h.vals, Nat.le_trans (dropM_lenS _ _ _) h.ml, h.al⟩
theorem PlayedSm.add {agg wd k cap now seq v : Int} {ms : List Mk} {ad : List Itm} {q : Nat} (h : PlayedSm agg wd k cap now seq ms ad q) (hv : leastV agg ≤ v ∧ v ≤ 4096) (hf : ¬ smFull cap seq ms) : PlayedSm agg wd k cap now (seq + 1) (prune (nearB agg k) (incl ms (seq + 1) now v)) (ad ++ [⟨now, v⟩]) (q + 1) := by
  refine ⟨smAdd_valid h.val (by omega) hf, (h.hist.incl h.val.1.2.2.2.2.2.2.2.1).prune _, fun x hx => ?_, ?_, ?_⟩
  · rcases List.mem_append.1 hx with hx | hx
    · exact h.vals x hx
    · obtain rfl : x = ⟨now, v⟩ := by simpa using hx
      exact hv
  · have := prune_len (nearB agg k) _ (incl ms (seq + 1) now v) (Nat.le_refl _)
    rw [incl_len] at this
    have := h.ml
    omega
  · have := h.al
    simp
    omega
end Go.Proofs.YtdipoojjlddohaaGreat
end
section
/- Synopses of smooth histograms, with what they know of the stream. -/
set_option linter.unusedVariables false
set_option linter.unusedSimpArgs false
set_option linter.unusedSectionVars false
set_option linter.unnecessarySimpa false
namespace Go.Proofs.YtdipoojjlddohaaGreat
open Go.RowKit
/-- A smooth histogram of a played stream: its list in memory. -/
def SmI (agg wd k cap : Int) (ad : List Itm) (now : Int) (A : Option Addr) (m c : Nat) (w : World) : Prop := ∃ l, MIn A m c l w ∧ PlayedSm agg wd k cap now (ad.length : Nat) l ad ad.length ∧ ad.length ≤ 65536
theorem smI_ok (agg wd k cap : Int) (ad : List Itm) (now : Int) : InOK (SmI agg wd k cap ad now) := inOK_mk _
def smArg (agg wd k cap : Int) : Prop := (1 ≤ agg ∧ agg ≤ 4) ∧ 1 ≤ wd ∧ wd ≤ 1048576 ∧ 1 ≤ k ∧ k ≤ 64 ∧ 1 ≤ cap ∧ cap ≤ 65536
theorem smArg.good {agg wd k cap now : Int} (h : smArg agg wd k cap) (n0 : 0 ≤ now) (n1 : now ≤ 16777216) : smGood agg wd k cap now := by
  obtain ⟨a, b, c, d, e, f, g⟩ := h
  exact ⟨a, b, c, d, e, f, g, n0, n1⟩
theorem PlayedSm.arg {agg wd k cap now seq : Int} {ms : List Mk} {ad : List Itm} {q : Nat} (h : PlayedSm agg wd k cap now seq ms ad q) : smArg agg wd k cap ∧ 0 ≤ now ∧ now ≤ 16777216 := by
  obtain ⟨⟨a, b, c, d, e, f, g, n0, n1⟩, _⟩ := h.val
  exact ⟨⟨a, b, c, d, e, f, g⟩, n0, n1⟩
theorem playedS_nil {agg wd k cap now : Int} (h : smArg agg wd k cap) (n0 : 0 ≤ now) (n1 : now ≤ 16777216) : PlayedSm agg wd k cap now 0 [] [] 0 :=
  ⟨⟨h.good n0 n1, ⟨by omega, by omega, fun i hi => absurd hi (by simp), fun h => absurd rfl h⟩, fun i hi => absurd hi (by simp)⟩, hist_nil _ _, fun x hx => absurd hx (by simp), by simp, by simp⟩
theorem psmnew0 {agg wd k cap now : Int} (h : smGood agg wd k cap now) (w : World) : Calls Tryz.prog 112 #[.int .i64 agg, .int .i64 wd, .int .i64 k, .int .i64 cap, .int .i64 now] w fun e w' => e = .returned (.tuple #[.agg #[.int .i64 agg, .int .i64 wd, .int .i64 k, .int .i64 cap, .int .i64 now, .int .i64 0, .slice none 0 0], .int .i64 0]) ∧ Below w.heap.size w w' := by
  have PG := fun w => pgoodS agg wd k cap now w
  rw [decide_eq_true h] at PG
  replace PG := Lib.hid PG
  clear h
  go_enter Tryz.func112, Tryz.ntmps112
  go_wp2_with (go_at_call 204; with_reducible refine (PG.out _).mono ?_; rintro e w9 ⟨rfl, h9⟩; obtain rfl := h9.symm)
  exact bodyPost_ret (v := .tuple #[.agg #[.int .i64 agg, .int .i64 wd, .int .i64 k, .int .i64 cap, .int .i64 now, .int .i64 0, .slice none 0 0], .int .i64 0]) (by simp [results, Tryz.results112, go_sem, List.getElem?_toArray]) rfl ⟨rfl, by (repeat (first | exact Below.refl _ _ | refine Below.setCell ?_ (by first | (simp; done) | (simp; omega) | omega) _ | refine Below.alloc ?_ (by first | (simp; done) | (simp; omega) | omega) _ | refine Below.drew ?_ | refine Below.trans ?_ (Below.mono (by assumption) (by first | (simp; done) | (simp; omega) | omega))))⟩
theorem sm_cfg {agg wd k cap : Int} (h : smArg agg wd k cap) (w : World) : Calls Tryz.prog 108 #[.agg #[.int .i64 4, .int .i64 agg, .int .i64 wd, .int .i64 k, .int .i64 cap, .int .i64 0, .int .i64 0, .int .i64 0]] w fun e w' => e = .returned (.int .i64 0) ∧ Below w.heap.size w w' := by
  obtain ⟨a, b, c, d, e, f, g⟩ := h
  exact pcfgSmooth agg k cap wd w a.1 a.2 d e f g b c
theorem tsNew {agg wd k cap now : Int} (h : smArg agg wd k cap) (n0 : 0 ≤ now) (n1 : now ≤ 16777216) (w : World) : Calls Tryz.prog 37 #[.agg #[.int .i64 4, .int .i64 agg, .int .i64 wd, .int .i64 k, .int .i64 cap, .int .i64 0, .int .i64 0, .int .i64 0], .int .i64 now] w (GRet (SmI agg wd k cap [] now) (fun A m c => #[.int .i64 4, .int .i64 agg, .int .i64 wd, .int .i64 k, .int .i64 cap, .int .i64 0, .int .i64 0, .int .i64 0, .int .i64 0, .int .i64 0, .int .i64 0, .slice none 0 0, .int .i64 0, .int .i64 0, .int .i64 0, .int .i64 0, .slice none 0 0, .int .i64 0, .int .i64 0, .int .i64 0, .int .i64 0, .int .i64 0, .slice none 0 0, .int .i64 agg, .int .i64 wd, .int .i64 k, .int .i64 cap, .int .i64 now, .int .i64 0, .slice A m c, .int .i64 0, .int .i64 0, .int .i64 0, .int .i64 0, .int .i64 0, .slice none 0 0, .int .i64 0, .int .i64 0, .int .i64 0, .slice none 0 0, .int .i64 0, .slice none 0 0, .bool false, .int .i64 0, .int .i64 0, .int .i64 0, .slice none 0 0, .slice none 0 0, .int .i64 0, .int .i64 0, .int .i64 0, .slice none 0 0, .int .i64 0, .int .i64 0, .int .i64 0, .int .i64 0, .slice none 0 0]) 0 (fun _ => False) w) := by
  refine (pyNewSmooth agg wd k cap now w n0 n1 (Lib.hid (sm_cfg h)) (Lib.hid (fun w' => psmnew0 (h.good n0 n1) w'))).mono fun e w' ⟨he, hb⟩ => ?_
  exact ⟨none, 0, 0, he, ⟨[], min_nil, playedS_nil h n0 n1, by simp⟩, hb, fun _ a e => by cases e⟩
theorem tsHV {A : Option Addr} {m c : Nat} {agg wd k cap now : Int} {ad : List Itm} {w : World} (h : SmI agg wd k cap ad now A m c w) : RowKit.Hid (∀ w', Below w.heap.size w w' → Calls Tryz.prog 136 #[.agg #[.int .i64 agg, .int .i64 wd, .int .i64 k, .int .i64 cap, .int .i64 now, .int .i64 (ad.length : Nat), .slice A m c]] w' fun e w'' => e = .returned (.int .i64 0) ∧ Below w'.heap.size w' w'') := by
  obtain ⟨l, hin, hp, ha⟩ := h
  have := hp.val
  have hs : I64 (ad.length : Nat) := by unfold I64; omega
  exact Lib.hid (fun w' hb => by
    have P := pvalS A m c l agg wd k cap now (ad.length : Nat) w' (hin.below hb) hs
    rw [smvalE_yes hp.val] at P
    exact P)
theorem tsAdvance {A : Option Addr} {m c : Nat} {agg wd k cap now tt : Int} {ad : List Itm} {w : World} (h : SmI agg wd k cap ad now A m c w) (h1 : now ≤ tt) (h2 : tt ≤ 16777216) : Calls Tryz.prog 21 #[.agg #[.int .i64 4, .int .i64 agg, .int .i64 wd, .int .i64 k, .int .i64 cap, .int .i64 0, .int .i64 0, .int .i64 0, .int .i64 0, .int .i64 0, .int .i64 0, .slice none 0 0, .int .i64 0, .int .i64 0, .int .i64 0, .int .i64 0, .slice none 0 0, .int .i64 0, .int .i64 0, .int .i64 0, .int .i64 0, .int .i64 0, .slice none 0 0, .int .i64 agg, .int .i64 wd, .int .i64 k, .int .i64 cap, .int .i64 now, .int .i64 (ad.length : Nat), .slice A m c, .int .i64 0, .int .i64 0, .int .i64 0, .int .i64 0, .int .i64 0, .slice none 0 0, .int .i64 0, .int .i64 0, .int .i64 0, .slice none 0 0, .int .i64 0, .slice none 0 0, .bool false, .int .i64 0, .int .i64 0, .int .i64 0, .slice none 0 0, .slice none 0 0, .int .i64 0, .int .i64 0, .int .i64 0, .slice none 0 0, .int .i64 0, .int .i64 0, .int .i64 0, .int .i64 0, .slice none 0 0], .int .i64 tt] w (GRet (SmI agg wd k cap ad tt) (fun A m c => #[.int .i64 4, .int .i64 agg, .int .i64 wd, .int .i64 k, .int .i64 cap, .int .i64 0, .int .i64 0, .int .i64 0, .int .i64 0, .int .i64 0, .int .i64 0, .slice none 0 0, .int .i64 0, .int .i64 0, .int .i64 0, .int .i64 0, .slice none 0 0, .int .i64 0, .int .i64 0, .int .i64 0, .int .i64 0, .int .i64 0, .slice none 0 0, .int .i64 agg, .int .i64 wd, .int .i64 k, .int .i64 cap, .int .i64 tt, .int .i64 (ad.length : Nat), .slice A m c, .int .i64 0, .int .i64 0, .int .i64 0, .int .i64 0, .int .i64 0, .slice none 0 0, .int .i64 0, .int .i64 0, .int .i64 0, .slice none 0 0, .int .i64 0, .slice none 0 0, .bool false, .int .i64 0, .int .i64 0, .int .i64 0, .slice none 0 0, .slice none 0 0, .int .i64 0, .int .i64 0, .int .i64 0, .slice none 0 0, .int .i64 0, .int .i64 0, .int .i64 0, .int .i64 0, .slice none 0 0]) 0 (fun b => 0 < m ∧ ∃ a, A = some a ∧ a.block = b) w) := by
  have HV := tsHV h
  have IO' := smI_ok agg wd k cap ad now
  have hblk := IO'.blk h
  obtain ⟨l, hin, hp, ha⟩ := h
  have hs : I64 (ad.length : Nat) := by unfold I64; omega
  have hml := hp.ml
  have hln := hin.len
  refine pyAdvanceSmooth A m c agg wd k cap now (ad.length : Nat) tt w _ (smI_ok agg wd k cap ad tt) _ (fun b hb => ?_) HV (Lib.hid (sm_cfg hp.arg.1)) (Lib.hid (fun w' hb => (psmtick A m c l agg wd k cap now (ad.length : Nat) tt w' (hin.below hb) hs (by omega)).mono fun e w'' hq => ?_))
  · obtain ⟨hm, a, e, rfl⟩ := hb
    exact hblk hm a e
  · unfold smTick at hq
    rw [if_pos (smvalE_yes hp.val), if_neg (by omega)] at hq
    obtain ⟨A', m', c', he, hin', hb', hf⟩ := hq
    refine ⟨A', m', c', he, ⟨_, hin', hp.tick (by omega), ha⟩, hb', fun hm a e => ?_⟩
    rcases hf a e with g | ⟨b, eb, g⟩
    · exact .inl g.1
    · refine .inr ⟨?_, b, eb, g.symm⟩
      have := hin'.len
      have := dropM_lenS tt wd l
      simp only at *
      omega
theorem tsAdd {A : Option Addr} {m c : Nat} {agg wd k cap now v : Int} {ad : List Itm} {w : World} (h : SmI agg wd k cap ad now A m c w) (hr : (ad.length : Int) < cap) (hr2 : ad.length < 65536) (v0 : leastV agg ≤ v) (v1 : v ≤ 4096) : Calls Tryz.prog 38 #[.agg #[.int .i64 4, .int .i64 agg, .int .i64 wd, .int .i64 k, .int .i64 cap, .int .i64 0, .int .i64 0, .int .i64 0, .int .i64 0, .int .i64 0, .int .i64 0, .slice none 0 0, .int .i64 0, .int .i64 0, .int .i64 0, .int .i64 0, .slice none 0 0, .int .i64 0, .int .i64 0, .int .i64 0, .int .i64 0, .int .i64 0, .slice none 0 0, .int .i64 agg, .int .i64 wd, .int .i64 k, .int .i64 cap, .int .i64 now, .int .i64 (ad.length : Nat), .slice A m c, .int .i64 0, .int .i64 0, .int .i64 0, .int .i64 0, .int .i64 0, .slice none 0 0, .int .i64 0, .int .i64 0, .int .i64 0, .slice none 0 0, .int .i64 0, .slice none 0 0, .bool false, .int .i64 0, .int .i64 0, .int .i64 0, .slice none 0 0, .slice none 0 0, .int .i64 0, .int .i64 0, .int .i64 0, .slice none 0 0, .int .i64 0, .int .i64 0, .int .i64 0, .int .i64 0, .slice none 0 0], .int .i64 v, .slice none 0 0] w (GRet (SmI agg wd k cap (ad ++ [(⟨now, v⟩ : Itm)]) now) (fun A m c => #[.int .i64 4, .int .i64 agg, .int .i64 wd, .int .i64 k, .int .i64 cap, .int .i64 0, .int .i64 0, .int .i64 0, .int .i64 0, .int .i64 0, .int .i64 0, .slice none 0 0, .int .i64 0, .int .i64 0, .int .i64 0, .int .i64 0, .slice none 0 0, .int .i64 0, .int .i64 0, .int .i64 0, .int .i64 0, .int .i64 0, .slice none 0 0, .int .i64 agg, .int .i64 wd, .int .i64 k, .int .i64 cap, .int .i64 now, .int .i64 ((ad ++ [(⟨now, v⟩ : Itm)]).length : Nat), .slice A m c, .int .i64 0, .int .i64 0, .int .i64 0, .int .i64 0, .int .i64 0, .slice none 0 0, .int .i64 0, .int .i64 0, .int .i64 0, .slice none 0 0, .int .i64 0, .slice none 0 0, .bool false, .int .i64 0, .int .i64 0, .int .i64 0, .slice none 0 0, .slice none 0 0, .int .i64 0, .int .i64 0, .int .i64 0, .slice none 0 0, .int .i64 0, .int .i64 0, .int .i64 0, .int .i64 0, .slice none 0 0]) 0 (fun _ => False) w) := by
  have HV := tsHV h
  obtain ⟨l, hin, hp, ha⟩ := h
  have hs : I64 (ad.length : Nat) := by unfold I64; omega
  have hml := hp.ml
  have hln := hin.len
  have hnf : ¬ smFull cap (ad.length : Nat) l := by
    rintro (⟨hne, hc⟩ | hc)
    · have hk := hp.hist.mks (mkAt l 0) (mkAt_mem (by have := List.length_pos_iff.2 hne; omega))
      have := hk.2.2.2.n
      rw [List.length_drop] at this
      omega
    · omega
  have eL : ((ad ++ [(⟨now, v⟩ : Itm)]).length : Int) = (ad.length : Nat) + 1 := by simp
  have eN : (ad ++ [(⟨now, v⟩ : Itm)]).length = ad.length + 1 := by simp
  rw [eL]
  refine pyAddSmooth A m c agg wd k cap now (ad.length : Nat) v w _ (smI_ok agg wd k cap (ad ++ [(⟨now, v⟩ : Itm)]) now) _ (fun b hb => hb.elim) HV (Lib.hid (sm_cfg hp.arg.1)) (Lib.hid (fun w' hb => (psmaddN A m c l agg wd k cap now (ad.length : Nat) v w' (hin.below hb) hs (by omega)).mono fun e w'' hq => ?_))
  unfold smAdd at hq
  rw [if_pos (smvalE_yes hp.val), if_neg (by omega), if_neg hnf] at hq
  obtain ⟨A', m', c', he, hin', hb', hf⟩ := hq
  refine ⟨A', m', c', he, ⟨_, hin', ?_, by rw [eN]; omega⟩, hb', fun hm a e => ?_⟩
  · have := hp.add ⟨v0, v1⟩ hnf
    rw [eN]
    exact this
  · rcases hf a e with g | ⟨b, eb, g⟩
    · exact .inl g.1
    · cases eb
/-- The answer of a smooth histogram: bounds of its aggregate of the live items. -/
def SmA (agg wd k now : Int) (ad : List Itm) (w : World) (e : Ending) (w' : World) : Prop := ∃ lo hi : Int, e = .returned (.tuple #[.agg #[.int .i64 lo, .int .i64 1, .int .i64 ((lo + hi) / 2), .int .i64 1, .int .i64 hi, .int .i64 1, .slice none 0 0, .int .u64 0, .int .u64 0, .int .u64 0, .int .u64 0], .int .i64 0]) ∧ (∀ n, AggIs agg (liveI now wd ad) n → lo ≤ n ∧ n ≤ hi ∧ k * (hi - lo) ≤ n) ∧ (0 ≤ lo ∧ lo ≤ hi ∧ hi ≤ 1099511627776) ∧ Below w.heap.size w w'
theorem tsAsk {A : Option Addr} {m c : Nat} {agg wd k cap now : Int} {ad : List Itm} {w : World} (h : SmI agg wd k cap ad now A m c w) (qa qb : Int) : Calls Tryz.prog 12 #[.agg #[.int .i64 4, .int .i64 agg, .int .i64 wd, .int .i64 k, .int .i64 cap, .int .i64 0, .int .i64 0, .int .i64 0, .int .i64 0, .int .i64 0, .int .i64 0, .slice none 0 0, .int .i64 0, .int .i64 0, .int .i64 0, .int .i64 0, .slice none 0 0, .int .i64 0, .int .i64 0, .int .i64 0, .int .i64 0, .int .i64 0, .slice none 0 0, .int .i64 agg, .int .i64 wd, .int .i64 k, .int .i64 cap, .int .i64 now, .int .i64 (ad.length : Nat), .slice A m c, .int .i64 0, .int .i64 0, .int .i64 0, .int .i64 0, .int .i64 0, .slice none 0 0, .int .i64 0, .int .i64 0, .int .i64 0, .slice none 0 0, .int .i64 0, .slice none 0 0, .bool false, .int .i64 0, .int .i64 0, .int .i64 0, .slice none 0 0, .slice none 0 0, .int .i64 0, .int .i64 0, .int .i64 0, .slice none 0 0, .int .i64 0, .int .i64 0, .int .i64 0, .int .i64 0, .slice none 0 0], .agg #[.int .i64 agg, .int .i64 qa, .int .i64 qb]] w (SmA agg wd k now ad w) := by
  have HV := tsHV h
  obtain ⟨l, hin, hp, ha⟩ := h
  have hs : I64 (ad.length : Nat) := by unfold I64; omega
  have HC := Lib.hid (sm_cfg hp.arg.1)
  have hag := hp.arg.1.1
  refine (pyAskSmooth A m c agg wd k cap now (ad.length : Nat) qa qb (askLo agg now wd l) 1 ((askLo agg now wd l + askHi agg now wd l) / 2) 1 (askHi agg now wd l) 1 w HV HC (Lib.hid (fun w' => pansSmooth agg wd k cap w' hag.1 hag.2 HC)) (Lib.hid (fun w' hb => ?_))).mono fun e w' ⟨he, hb⟩ => ?_
  · have P := psmask A m c l agg wd k cap now (ad.length : Nat) w' (hin.below hb) hs
    unfold askV at P
    rw [if_pos (smvalE_yes hp.val)] at P
    exact P
  · exact ⟨_, _, he, fun n hn => ask_true hp.val hp.hist hp.vals hn, ask_le hp.val, hb⟩
end Go.Proofs.YtdipoojjlddohaaGreat
end
section
/- Counts and smooth histograms, as the run of the top asks of a kind; the live items counted both ways. -/
set_option linter.unusedVariables false
set_option linter.unusedSimpArgs false
set_option linter.unusedSectionVars false
set_option linter.unnecessarySimpa false
namespace Go.Proofs.YtdipoojjlddohaaGreat
open Go.RowKit
theorem GRet.weak {IN : Option Addr → Nat → Nat → World → Prop} {cs : Option Addr → Nat → Nat → Array Value} {er : Int} {Fr Fr' : Nat → Prop} {w : World} {e : Ending} {w' : World} (h : GRet IN cs er Fr w e w') (hf : ∀ b, Fr b → Fr' b) : GRet IN cs er Fr' w e w' := by
  obtain ⟨A, m, c, he, h1, h2, h3⟩ := h
  exact ⟨A, m, c, he, h1, h2, fun hm a ha => (h3 hm a ha).imp id (hf _)⟩
def CtK (wd : Int) (k cap : Nat) (ad : List Itm) (now : Int) : Option Addr → Nat → Nat → World → Prop := CtI wd k cap now (ad.map (·.t))
theorem kCount {wd : Int} {k cap N : Nat} (h : ctGood wd k cap) (hN : N ≤ cap) : KindOK #[.int .i64 2, .int .i64 0, .int .i64 wd, .int .i64 (k : Nat), .int .i64 (cap : Nat), .int .i64 0, .int .i64 0, .int .i64 0] (CtK wd k cap) (fun ad now A m c => #[.int .i64 2, .int .i64 0, .int .i64 wd, .int .i64 (k : Nat), .int .i64 (cap : Nat), .int .i64 0, .int .i64 0, .int .i64 0, .int .i64 0, .int .i64 0, .int .i64 0, .slice none 0 0, .int .i64 wd, .int .i64 (k : Nat), .int .i64 (cap : Nat), .int .i64 now, .slice A m c, .int .i64 0, .int .i64 0, .int .i64 0, .int .i64 0, .int .i64 0, .slice none 0 0, .int .i64 0, .int .i64 0, .int .i64 0, .int .i64 0, .int .i64 0, .int .i64 0, .slice none 0 0, .int .i64 0, .int .i64 0, .int .i64 0, .int .i64 0, .int .i64 0, .slice none 0 0, .int .i64 0, .int .i64 0, .int .i64 0, .slice none 0 0, .int .i64 0, .slice none 0 0, .bool false, .int .i64 0, .int .i64 0, .int .i64 0, .slice none 0 0, .slice none 0 0, .int .i64 0, .int .i64 0, .int .i64 0, .slice none 0 0, .int .i64 0, .int .i64 0, .int .i64 0, .int .i64 0, .slice none 0 0]) (fun v => -4096 ≤ v ∧ v ≤ 4096) N where
  inok := fun ad now => ctI_ok wd k cap now _
  size := fun _ _ _ _ _ => rfl
  one := fun _ _ _ _ _ => all_one rfl
  new := fun w => tcNew h (by omega) (by omega) w
  adv := fun ad now tt A m c w hi h1 h2 => (tcAdvance hi h1 h2).mono fun _ _ h => h.weak (fun _ f => f.elim)
  add := fun ad now v A m c w hi hn hv => by
    refine (tcAdd hi (by rw [List.length_map]; omega) hv.1 hv.2).mono fun e w' hq => ?_
    have hm : (ad ++ [(⟨now, v⟩ : Itm)]).map (·.t) = ad.map (·.t) ++ [now] := by simp
    unfold CtK
    rw [hm]
    exact hq.weak (fun _ f => f.elim)
theorem kSmooth {agg wd k cap : Int} {N : Nat} (h : smArg agg wd k cap) (hN : (N : Int) ≤ cap) : KindOK #[.int .i64 4, .int .i64 agg, .int .i64 wd, .int .i64 k, .int .i64 cap, .int .i64 0, .int .i64 0, .int .i64 0] (SmI agg wd k cap) (fun ad now A m c => #[.int .i64 4, .int .i64 agg, .int .i64 wd, .int .i64 k, .int .i64 cap, .int .i64 0, .int .i64 0, .int .i64 0, .int .i64 0, .int .i64 0, .int .i64 0, .slice none 0 0, .int .i64 0, .int .i64 0, .int .i64 0, .int .i64 0, .slice none 0 0, .int .i64 0, .int .i64 0, .int .i64 0, .int .i64 0, .int .i64 0, .slice none 0 0, .int .i64 agg, .int .i64 wd, .int .i64 k, .int .i64 cap, .int .i64 now, .int .i64 (ad.length : Nat), .slice A m c, .int .i64 0, .int .i64 0, .int .i64 0, .int .i64 0, .int .i64 0, .slice none 0 0, .int .i64 0, .int .i64 0, .int .i64 0, .slice none 0 0, .int .i64 0, .slice none 0 0, .bool false, .int .i64 0, .int .i64 0, .int .i64 0, .slice none 0 0, .slice none 0 0, .int .i64 0, .int .i64 0, .int .i64 0, .slice none 0 0, .int .i64 0, .int .i64 0, .int .i64 0, .int .i64 0, .slice none 0 0]) (fun v => leastV agg ≤ v ∧ v ≤ 4096) N where
  inok := fun ad now => smI_ok agg wd k cap ad now
  size := fun _ _ _ _ _ => rfl
  one := fun _ _ _ _ _ => all_one rfl
  new := fun w => tsNew h (by omega) (by omega) w
  adv := fun ad now tt A m c w hi h1 h2 => tsAdvance hi h1 h2
  add := fun ad now v A m c w hi hn hv => (tsAdd hi (by omega) (by have := h.2.2.2.2.2.2; omega) hv.1 hv.2).mono fun _ _ h => h.weak (fun _ f => f.elim)
/-- What the run leaves of a count. -/
def RunC (wd : Int) (k cap : Nat) (l : List Itm) (w : World) (e : Ending) (w' : World) : Prop :=
  ∃ (A : Option Addr) (m c : Nat) (v : Value), e = .returned (.tuple #[.agg #[.int .i64 2, .int .i64 0, .int .i64 wd, .int .i64 (k : Nat), .int .i64 (cap : Nat), .int .i64 0, .int .i64 0, .int .i64 0, .int .i64 0, .int .i64 0, .int .i64 0, .slice none 0 0, .int .i64 wd, .int .i64 (k : Nat), .int .i64 (cap : Nat), .int .i64 (nowK l l.length), .slice A m c, .int .i64 0, .int .i64 0, .int .i64 0, .int .i64 0, .int .i64 0, .slice none 0 0, .int .i64 0, .int .i64 0, .int .i64 0, .int .i64 0, .int .i64 0, .int .i64 0, .slice none 0 0, .int .i64 0, .int .i64 0, .int .i64 0, .int .i64 0, .int .i64 0, .slice none 0 0, .int .i64 0, .int .i64 0, .int .i64 0, .slice none 0 0, .int .i64 0, .slice none 0 0, .bool false, .int .i64 0, .int .i64 0, .int .i64 0, .slice none 0 0, .slice none 0 0, .int .i64 0, .int .i64 0, .int .i64 0, .slice none 0 0, .int .i64 0, .int .i64 0, .int .i64 0, .int .i64 0, .slice none 0 0], v, .bool true]) ∧ CtI wd k cap (nowK l l.length) (l.map (·.t)) A m c w' ∧ Below w.heap.size w w'
theorem prunC {wd : Int} {k cap : Nat} (h : ctGood wd k cap) (A0 : Option Addr) (n c0 : Nat) (l : List Itm) (w : World) (hin : Reads w w.heap.size 2 A0 n (icells l)) (hn : n ≤ 100000) (hN : n ≤ cap) (hT : ∀ i, i < n → nowK l i ≤ (itmAt l i).t ∧ (itmAt l i).t ≤ 16777216 ∧ (-4096 ≤ (itmAt l i).v ∧ (itmAt l i).v ≤ 4096)) : Calls Tryz.prog 11 #[.agg #[.int .i64 2, .int .i64 0, .int .i64 wd, .int .i64 (k : Nat), .int .i64 (cap : Nat), .int .i64 0, .int .i64 0, .int .i64 0], .slice A0 n c0] w (RunC wd k cap l w) :=
  (prun _ _ _ _ _ _ _ _ _ _ _ cap (Lib.hid (kCount h (Nat.le_refl _))) A0 n c0 l w hin hn hN hT).mono fun _ _ ⟨A, m, c, v, he, hi, _, hb⟩ => ⟨A, m, c, v, he, hi, hb⟩
/-- What the run leaves of a smooth histogram. -/
def RunS (agg wd k cap : Int) (l : List Itm) (w : World) (e : Ending) (w' : World) : Prop :=
  ∃ (A : Option Addr) (m c : Nat) (v : Value), e = .returned (.tuple #[.agg #[.int .i64 4, .int .i64 agg, .int .i64 wd, .int .i64 k, .int .i64 cap, .int .i64 0, .int .i64 0, .int .i64 0, .int .i64 0, .int .i64 0, .int .i64 0, .slice none 0 0, .int .i64 0, .int .i64 0, .int .i64 0, .int .i64 0, .slice none 0 0, .int .i64 0, .int .i64 0, .int .i64 0, .int .i64 0, .int .i64 0, .slice none 0 0, .int .i64 agg, .int .i64 wd, .int .i64 k, .int .i64 cap, .int .i64 (nowK l l.length), .int .i64 (l.length : Nat), .slice A m c, .int .i64 0, .int .i64 0, .int .i64 0, .int .i64 0, .int .i64 0, .slice none 0 0, .int .i64 0, .int .i64 0, .int .i64 0, .slice none 0 0, .int .i64 0, .slice none 0 0, .bool false, .int .i64 0, .int .i64 0, .int .i64 0, .slice none 0 0, .slice none 0 0, .int .i64 0, .int .i64 0, .int .i64 0, .slice none 0 0, .int .i64 0, .int .i64 0, .int .i64 0, .int .i64 0, .slice none 0 0], v, .bool true]) ∧ SmI agg wd k cap l (nowK l l.length) A m c w' ∧ Below w.heap.size w w'
theorem prunS {agg wd k cap : Int} (h : smArg agg wd k cap) (A0 : Option Addr) (n c0 : Nat) (l : List Itm) (w : World) (hin : Reads w w.heap.size 2 A0 n (icells l)) (hn : n ≤ 100000) (hN : (n : Int) ≤ cap) (hT : ∀ i, i < n → nowK l i ≤ (itmAt l i).t ∧ (itmAt l i).t ≤ 16777216 ∧ (leastV agg ≤ (itmAt l i).v ∧ (itmAt l i).v ≤ 4096)) : Calls Tryz.prog 11 #[.agg #[.int .i64 4, .int .i64 agg, .int .i64 wd, .int .i64 k, .int .i64 cap, .int .i64 0, .int .i64 0, .int .i64 0], .slice A0 n c0] w (RunS agg wd k cap l w) :=
  (prun _ _ _ _ _ _ _ _ _ _ _ n (Lib.hid (kSmooth h hN)) A0 n c0 l w hin hn (Nat.le_refl _) hT).mono fun _ _ ⟨A, m, c, v, he, hi, _, hb⟩ => ⟨A, m, c, v, he, hi, hb⟩
theorem live_both {now wd : Int} {l : List Itm} (h : ∀ x ∈ l, x.t ≤ now) : liveT (now - wd) (l.map (·.t)) = (liveI now wd l).length := by
  unfold liveT liveI
  rw [List.filter_map, List.length_map]
  congr 1
  refine List.filter_congr fun x hx => ?_
  have := h x hx
  simp
  omega
theorem agg_count (l : List Itm) : AggIs 1 l (l.length : Nat) := ⟨fun _ => rfl, fun h => absurd h (by decide), fun h => absurd h (by decide), fun h => absurd h (by decide)⟩
theorem SmI.now {agg wd k cap : Int} {ad : List Itm} {now : Int} {A : Option Addr} {m c : Nat} {w : World} (h : SmI agg wd k cap ad now A m c w) : ∀ x ∈ ad, x.t ≤ now := by
  obtain ⟨l, _, hp, _⟩ := h
  intro x hx
  obtain ⟨i, hi, rfl⟩ := List.mem_iff_getElem.1 hx
  rw [itm_eq hi]
  exact hp.hist.ord.now i hi
theorem made_run {st lo hi last : Int} {l : List Itm} (h : Made st lo hi last l) (hl : st * l.length ≤ 16777216) : ∀ i, i < l.length → nowK l i ≤ (itmAt l i).t ∧ (itmAt l i).t ≤ 16777216 ∧ (lo ≤ (itmAt l i).v ∧ (itmAt l i).v ≤ hi) := by
  intro i hi'
  obtain ⟨h1, h2, h3⟩ := h
  obtain ⟨a, b, c, d, e⟩ := h1 i hi'
  refine ⟨?_, by omega, d, e⟩
  unfold nowK
  split
  · exact a
  · exact c (i - 1) (by omega)
/-- Two intervals that hold one number meet. -/
theorem meetB {l1 h1 l2 h2 n : Nat} (a1 : l1 ≤ n) (a2 : n ≤ h1) (b1 : l2 ≤ n) (b2 : n ≤ h2) (c1 : h1 < 4611686018427387904) (c2 : h2 < 4611686018427387904) : max l1 l2 ≤ min h1 h2 ∧ BndOK (max l1 l2) 1 (min (max ((l1 + h1) / 2) (max l1 l2)) (min h1 h2)) 1 (min h1 h2) 1 :=
  ⟨by omega, ratOK_one (by omega), ratOK_one (by omega), ratOK_one (by omega), by omega, by omega⟩
theorem bndW {l h : Nat} (a : l ≤ h) (c : h < 4611686018427387904) : BndOK l 1 ((l + h) / 2) 1 h 1 := ⟨ratOK_one (by omega), ratOK_one (by omega), ratOK_one (by omega), by omega, by omega⟩
end Go.Proofs.YtdipoojjlddohaaGreat
end
