/- Summaries of a stream: the reference's widening, walked. -/
import Derived.Test.YtdibjlphcmjnoaaSumW
namespace Go.Proofs.Ytdibjlphcmjnoaa
open Go.RowKit
theorem swid_form {first : Bool} {t : Tup} : ∀ {b : List Tup}, ∃ D, swid first t b = ⟨t.v, t.g, D⟩
  | [] => ⟨t.d, rfl⟩
  | u :: b => by
    unfold swid
    split
    · exact ⟨_, rfl⟩
    · exact swid_form
set_option maxHeartbeats 4000000 in
theorem rwiden_true (A : Option Addr) (m c : Nat) (ts : List Tup) (A' : Option Addr) (m' c' : Nat) (ts' : List Tup) (w : World) (hr : Reads w w.heap.size 3 A m (tcells ts)) (hr' : Reads w w.heap.size 3 A' m' (tcells ts')) (hv : ∀ i, i < m → TV (tupAt ts i)) (hv' : ∀ i, i < m' → TV (tupAt ts' i)) (hm : m ≤ 65536) (hm' : m' ≤ 65536) :
    Calls Try.prog 42 #[.slice A m c, .slice A' m' c', .bool true] w fun e w' => ∃ v, e = .returned v ∧ w'.ownsRow w.heap.size 66 3 v m (tcells (swids ts' true ts)) ∧ Below w.heap.size w w' := by
  have HL := Lib.hid hr.tup_len
  have HL' := Lib.hid hr'.tup_len
  have HR := Lib.hid hr
  have HR' := Lib.hid hr'
  have HV := Lib.hid hv
  have HV' := Lib.hid hv'
  obtain ⟨ii, hii, iz0, iz1, iz2⟩ := info_parts info_tup
  clear hr hr' hv hv'
  go_enter Try.func42, Try.ntmps42
  go_wp2
  go_loopw [7, 14] (fun l ix wr => ∃ i : Nat, i ≤ m ∧ ix = .int .i64 (i : Nat) ∧ wr.ownsRow w.heap.size 66 3 l i (tcells (swids ts' true (ts.take i))) ∧ Below w.heap.size w wr) (fun _ ix _ => m - (intOf ix).toNat)
  case atStart => exact ⟨0, by omega, rfl, World.ownsRow_nil _ _ _ _, Below.refl _ _⟩
  case round =>
    obtain ⟨i, hi, rfl, own, o0⟩ := hrel
    by_cases hlt : i < m
    · obtain ⟨ad, rfl, hadb, ht0⟩ := HR.out.tup hlt
      obtain ⟨p0, p1, p2⟩ := ht0.below o0 (by rw [block_of_add]; exact hadb)
      have tv0 := HV.out i hlt
      have i1 : (i : Int) < (m : Int) := by omega
      have i2 : (0 : Int) ≤ (i : Int) := by omega
      have NX := swids_take (b := ts') (first := true) (a := ts) (i := i) (by rw [HL.out]; exact hlt)
      have zb := o0.size
      obtain ⟨D, hD⟩ : ∃ D, swid true (tupAt ts i) ts' = ⟨(tupAt ts i).v, (tupAt ts i).g, D⟩ := swid_form
      have HIT := fun j (hj : j < m') (h1 : ∀ e, e < j → shits true (tupAt ts i) (tupAt ts' e) = false) (h2 : shits true (tupAt ts i) (tupAt ts' j) = true) => (congrArg Tup.d (hD.symm.trans (swid_at (b := ts') (by rw [HL'.out]; exact hj) h1 h2)) : D = (tupAt ts i).d + (tupAt ts' j).g + (tupAt ts' j).d - 1)
      have NON := fun (h1 : ∀ e, e < m' → shits true (tupAt ts i) (tupAt ts' e) = false) => (congrArg Tup.d (hD.symm.trans (swid_none (by rw [HL'.out]; exact h1))) : D = (tupAt ts i).d)
      rw [hD] at NX
      clear hD
      generalize tupAt ts i = tt at p0 p1 p2 tv0 NX HIT NON
      obtain ⟨tv, tg, td⟩ := tt
      unfold TV at tv0
      dsimp only at p0 p1 p2 tv0 NX HIT NON
      have NX := Lib.hid NX
      have HIT := Lib.hid HIT
      have NON := Lib.hid NON
      go_upto_region 5 with (fail)
      have k1 : Row (wr.alloc (.cells #[.int .i64 tv, .int .i64 tg, .int .i64 td] 66)) wr.heap.size 66 #[.int .i64 tv, .int .i64 tg, .int .i64 td] := row_new rfl
      have own1 := own.alloc (.cells #[.int .i64 tv, .int .i64 tg, .int .i64 td] 66)
      have o1 := o0.alloc zb (.cells #[.int .i64 tv, .int .i64 tg, .int .i64 td] 66)
      have nt : u7.ownBlock ≠ some wr.heap.size := orow_new own (Nat.le_refl _)
      have hbl := own.lt
      generalize wr.alloc (.cells #[.int .i64 tv, .int .i64 tg, .int .i64 td] 66) = w1 at k1 own1 o1 ⊢
      generalize wr.heap.size = tb at k1 nt zb hbl ⊢
      clear p0 p1 p2 own o0
      go_upto_block 2 with (fail)
      go_cut [] (fun wx => Row wx tb 66 #[.int .i64 tv, .int .i64 tg, .int .i64 D] ∧ World.ownsRow wx w.heap.size 66 3 u7 i (tcells (swids ts' true (ts.take i))) ∧ Below w.heap.size w wx)
      case first =>
        go_wp2_with fail
        go_loopw [20] (fun jx wr => ∃ j : Nat, j ≤ m' ∧ jx = .int .i64 (j : Nat) ∧ RowKit.Hid (∀ e, e < j → shits true ⟨tv, tg, td⟩ (tupAt ts' e) = false) ∧ Row wr tb 66 #[.int .i64 tv, .int .i64 tg, .int .i64 td] ∧ World.ownsRow wr w.heap.size 66 3 u7 i (tcells (swids ts' true (ts.take i))) ∧ Below w.heap.size w wr) (fun jx _ => m' - (intOf jx).toNat)
        case atStart => exact ⟨0, by omega, rfl, Lib.hid (fun e h => absurd h (by omega)), k1, own1, o1⟩
        case round =>
          clear k1 own1 o1
          obtain ⟨j, hj, rfl, HA, k1, own1, o1⟩ := hrel
          by_cases hjm : j < m'
          · obtain ⟨ad', rfl, hadb', ht1⟩ := HR'.out.tup hjm
            obtain ⟨q0, q1, q2⟩ := ht1.below o1 (by rw [block_of_add]; exact hadb')
            have uv0 := HV'.out j hjm
            have j1 : (j : Int) < (m' : Int) := by omega
            have j2 : (0 : Int) ≤ (j : Int) := by omega
            generalize hu : tupAt ts' j = uu at q0 q1 q2 uv0
            obtain ⟨uv, ug, ud⟩ := uu
            unfold TV at uv0
            dsimp only at q0 q1 q2 uv0
            have HU := Lib.hid hu
            clear hu ht1
            have wa : IntKind.i64.wrap (td + ug) = td + ug := IntWalk.i64_in _ (by omega)
            have wb : IntKind.i64.wrap (td + ug + ud) = td + ug + ud := IntWalk.i64_in _ (by omega)
            have wc : IntKind.i64.wrap (td + ug + ud - 1) = td + ug + ud - 1 := IntWalk.i64_in _ (by omega)
            clear tv0 uv0
            go_upto_region 8 with (fail)
            have u1 : Row (wr.alloc (.cells #[.int .i64 uv, .int .i64 ug, .int .i64 ud] 66)) wr.heap.size 66 #[.int .i64 uv, .int .i64 ug, .int .i64 ud] := row_new rfl
            have k3 := row_alloc k1 (.cells #[.int .i64 uv, .int .i64 ug, .int .i64 ud] 66)
            have own3 := own1.alloc (.cells #[.int .i64 uv, .int .i64 ug, .int .i64 ud] 66)
            have o3 := o1.alloc o1.size (.cells #[.int .i64 uv, .int .i64 ug, .int .i64 ud] 66)
            have zt := row_lt k1
            generalize wr.alloc (.cells #[.int .i64 uv, .int .i64 ug, .int .i64 ud] 66) = w3 at u1 k3 own3 o3 ⊢
            generalize wr.heap.size = ub at u1 zt ⊢
            clear k1 own1 o1 q0 q1 q2
            obtain ⟨T0, T1, T2, T3, T4, T5⟩ := row_three k3
            obtain ⟨U0, U1, U2, _, _, _⟩ := row_three u1
            by_cases h1 : tv < uv
            · skip
              have hd := HIT.out j hjm HA.out (by rw [HU.out]; simp [shits]; omega)
              rw [HU.out] at hd
              dsimp only at hd
              have HD := Lib.hid hd
              clear hd
              go_wp2
              go_meet
              rw [HD.out]
              exact ⟨row_set k3 2 _, orow_other own3 nt _, o3.setCell (by simp; omega) _⟩
            · by_cases h2 : uv = tv
              · have h2b : (uv == tv) = true := by simp [h2]
                have H2 := Lib.hid h2
                clear h2
                have hd := HIT.out j hjm HA.out (by rw [HU.out]; have := H2.out; simp [shits]; omega)
                rw [HU.out] at hd
                dsimp only at hd
                have HD := Lib.hid hd
                clear hd
                go_wp2
                go_meet
                rw [HD.out]
                exact ⟨row_set k3 2 _, orow_other own3 nt _, o3.setCell (by simp; omega) _⟩
              · have h2b : (uv == tv) = false := by simp [h2]
                have H2 := Lib.hid h2
                clear h2
                have HA2 := Lib.hid (fun e (he : e < j + 1) => by
                  rcases Nat.lt_or_ge e j with g1 | g1
                  · exact HA.out e g1
                  · rw [show e = j by omega, HU.out]; have := H2.out; simp [shits]; omega)
                go_wp2
                go_roundw
                case rel => exact ⟨j + 1, by omega, by go_num, HA2, k3, own3, o3⟩
                case measure => simp [intOf]; omega
          · have j1 : ¬ (j : Int) < (m' : Int) := by omega
            have hd := NON.out (fun e he => HA.out e (by omega))
            rw [← hd] at k1
            go_wp2
            go_meet
            exact ⟨k1, own1, o1⟩
      case rest =>
        obtain ⟨k1, own1, o1⟩ := hcut
        obtain ⟨T0, T1, T2, T3, T4, T5⟩ := row_three k1
        have OWN := Lib.hid own1
        have z1 := o1.size
        have hbl2 := own1.lt
        clear own1
        go_wp2_with (first | (at_builtin; refine wpList_push rfl _ _ 22 rfl 66 ii (.agg #[.int .i64 0, .int .i64 0, .int .i64 0]) 3 24 Try.underlying22 hii iz0 iz1 iz2 rfl (by decide) w.heap.size u7 i (tcells (swids ts' true (ts.take i))) rfl OWN.out #[.int .i64 tv, .int .i64 tg, .int .i64 D] rfl rfl (by simp [Value.oneCell']) (by unfold maxLen; omega) (by omega) z1 ?_; intro g' c4 w8 own8 hg8 hat8 hgr8))
        have L8 : w8.ownsRow w.heap.size 66 3 (.slice (some ⟨g', 0, none⟩) (i + 1) c4) (i + 1) (tcells (swids ts' true (ts.take (i + 1)))) := by
          rw [NX.out, tcells_append]
          exact own8.row hg8
        have o8 := below_grown (o1.alloc z1 (.cells #[.int .i64 tv, .int .i64 tg, .int .i64 D] 66)) hgr8 (fun b e => by have := (hbl2 b e).1; omega) (by simp; omega)
        clear own8 hgr8 hat8
        go_roundw
        case rel => exact ⟨i + 1, by omega, by go_num, L8, o8⟩
        case measure => simp [intOf]; omega
    · have i1 : ¬ (i : Int) < (m : Int) := by omega
      have ei : i = m := by omega
      have et : ts.take i = ts := by rw [ei, ← HL.out]; exact List.take_length
      rw [et] at own
      have own9 : wr.ownsRow w.heap.size 66 3 u7 m (tcells (swids ts' true ts)) := by rw [← ei]; exact own
      have OW := Lib.hid own9
      clear own own9 et ei
      go_wp2
      go_ret
      exact ⟨_, rfl, OW.out, o0⟩
set_option maxHeartbeats 4000000 in
theorem rwiden_false (A : Option Addr) (m c : Nat) (ts : List Tup) (A' : Option Addr) (m' c' : Nat) (ts' : List Tup) (w : World) (hr : Reads w w.heap.size 3 A m (tcells ts)) (hr' : Reads w w.heap.size 3 A' m' (tcells ts')) (hv : ∀ i, i < m → TV (tupAt ts i)) (hv' : ∀ i, i < m' → TV (tupAt ts' i)) (hm : m ≤ 65536) (hm' : m' ≤ 65536) :
    Calls Try.prog 42 #[.slice A m c, .slice A' m' c', .bool false] w fun e w' => ∃ v, e = .returned v ∧ w'.ownsRow w.heap.size 66 3 v m (tcells (swids ts' false ts)) ∧ Below w.heap.size w w' := by
  have HL := Lib.hid hr.tup_len
  have HL' := Lib.hid hr'.tup_len
  have HR := Lib.hid hr
  have HR' := Lib.hid hr'
  have HV := Lib.hid hv
  have HV' := Lib.hid hv'
  obtain ⟨ii, hii, iz0, iz1, iz2⟩ := info_parts info_tup
  clear hr hr' hv hv'
  go_enter Try.func42, Try.ntmps42
  go_wp2
  go_loopw [7, 14] (fun l ix wr => ∃ i : Nat, i ≤ m ∧ ix = .int .i64 (i : Nat) ∧ wr.ownsRow w.heap.size 66 3 l i (tcells (swids ts' false (ts.take i))) ∧ Below w.heap.size w wr) (fun _ ix _ => m - (intOf ix).toNat)
  case atStart => exact ⟨0, by omega, rfl, World.ownsRow_nil _ _ _ _, Below.refl _ _⟩
  case round =>
    obtain ⟨i, hi, rfl, own, o0⟩ := hrel
    by_cases hlt : i < m
    · obtain ⟨ad, rfl, hadb, ht0⟩ := HR.out.tup hlt
      obtain ⟨p0, p1, p2⟩ := ht0.below o0 (by rw [block_of_add]; exact hadb)
      have tv0 := HV.out i hlt
      have i1 : (i : Int) < (m : Int) := by omega
      have i2 : (0 : Int) ≤ (i : Int) := by omega
      have NX := swids_take (b := ts') (first := false) (a := ts) (i := i) (by rw [HL.out]; exact hlt)
      have zb := o0.size
      obtain ⟨D, hD⟩ : ∃ D, swid false (tupAt ts i) ts' = ⟨(tupAt ts i).v, (tupAt ts i).g, D⟩ := swid_form
      have HIT := fun j (hj : j < m') (h1 : ∀ e, e < j → shits false (tupAt ts i) (tupAt ts' e) = false) (h2 : shits false (tupAt ts i) (tupAt ts' j) = true) => (congrArg Tup.d (hD.symm.trans (swid_at (b := ts') (by rw [HL'.out]; exact hj) h1 h2)) : D = (tupAt ts i).d + (tupAt ts' j).g + (tupAt ts' j).d - 1)
      have NON := fun (h1 : ∀ e, e < m' → shits false (tupAt ts i) (tupAt ts' e) = false) => (congrArg Tup.d (hD.symm.trans (swid_none (by rw [HL'.out]; exact h1))) : D = (tupAt ts i).d)
      rw [hD] at NX
      clear hD
      generalize tupAt ts i = tt at p0 p1 p2 tv0 NX HIT NON
      obtain ⟨tv, tg, td⟩ := tt
      unfold TV at tv0
      dsimp only at p0 p1 p2 tv0 NX HIT NON
      have NX := Lib.hid NX
      have HIT := Lib.hid HIT
      have NON := Lib.hid NON
      go_upto_region 5 with (fail)
      have k1 : Row (wr.alloc (.cells #[.int .i64 tv, .int .i64 tg, .int .i64 td] 66)) wr.heap.size 66 #[.int .i64 tv, .int .i64 tg, .int .i64 td] := row_new rfl
      have own1 := own.alloc (.cells #[.int .i64 tv, .int .i64 tg, .int .i64 td] 66)
      have o1 := o0.alloc zb (.cells #[.int .i64 tv, .int .i64 tg, .int .i64 td] 66)
      have nt : u7.ownBlock ≠ some wr.heap.size := orow_new own (Nat.le_refl _)
      have hbl := own.lt
      generalize wr.alloc (.cells #[.int .i64 tv, .int .i64 tg, .int .i64 td] 66) = w1 at k1 own1 o1 ⊢
      generalize wr.heap.size = tb at k1 nt zb hbl ⊢
      clear p0 p1 p2 own o0
      go_upto_block 2 with (fail)
      go_cut [] (fun wx => Row wx tb 66 #[.int .i64 tv, .int .i64 tg, .int .i64 D] ∧ World.ownsRow wx w.heap.size 66 3 u7 i (tcells (swids ts' false (ts.take i))) ∧ Below w.heap.size w wx)
      case first =>
        go_wp2_with fail
        go_loopw [20] (fun jx wr => ∃ j : Nat, j ≤ m' ∧ jx = .int .i64 (j : Nat) ∧ RowKit.Hid (∀ e, e < j → shits false ⟨tv, tg, td⟩ (tupAt ts' e) = false) ∧ Row wr tb 66 #[.int .i64 tv, .int .i64 tg, .int .i64 td] ∧ World.ownsRow wr w.heap.size 66 3 u7 i (tcells (swids ts' false (ts.take i))) ∧ Below w.heap.size w wr) (fun jx _ => m' - (intOf jx).toNat)
        case atStart => exact ⟨0, by omega, rfl, Lib.hid (fun e h => absurd h (by omega)), k1, own1, o1⟩
        case round =>
          clear k1 own1 o1
          obtain ⟨j, hj, rfl, HA, k1, own1, o1⟩ := hrel
          by_cases hjm : j < m'
          · obtain ⟨ad', rfl, hadb', ht1⟩ := HR'.out.tup hjm
            obtain ⟨q0, q1, q2⟩ := ht1.below o1 (by rw [block_of_add]; exact hadb')
            have uv0 := HV'.out j hjm
            have j1 : (j : Int) < (m' : Int) := by omega
            have j2 : (0 : Int) ≤ (j : Int) := by omega
            generalize hu : tupAt ts' j = uu at q0 q1 q2 uv0
            obtain ⟨uv, ug, ud⟩ := uu
            unfold TV at uv0
            dsimp only at q0 q1 q2 uv0
            have HU := Lib.hid hu
            clear hu ht1
            have wa : IntKind.i64.wrap (td + ug) = td + ug := IntWalk.i64_in _ (by omega)
            have wb : IntKind.i64.wrap (td + ug + ud) = td + ug + ud := IntWalk.i64_in _ (by omega)
            have wc : IntKind.i64.wrap (td + ug + ud - 1) = td + ug + ud - 1 := IntWalk.i64_in _ (by omega)
            clear tv0 uv0
            go_upto_region 8 with (fail)
            have u1 : Row (wr.alloc (.cells #[.int .i64 uv, .int .i64 ug, .int .i64 ud] 66)) wr.heap.size 66 #[.int .i64 uv, .int .i64 ug, .int .i64 ud] := row_new rfl
            have k3 := row_alloc k1 (.cells #[.int .i64 uv, .int .i64 ug, .int .i64 ud] 66)
            have own3 := own1.alloc (.cells #[.int .i64 uv, .int .i64 ug, .int .i64 ud] 66)
            have o3 := o1.alloc o1.size (.cells #[.int .i64 uv, .int .i64 ug, .int .i64 ud] 66)
            have zt := row_lt k1
            generalize wr.alloc (.cells #[.int .i64 uv, .int .i64 ug, .int .i64 ud] 66) = w3 at u1 k3 own3 o3 ⊢
            generalize wr.heap.size = ub at u1 zt ⊢
            clear k1 own1 o1 q0 q1 q2
            obtain ⟨T0, T1, T2, T3, T4, T5⟩ := row_three k3
            obtain ⟨U0, U1, U2, _, _, _⟩ := row_three u1
            by_cases h1 : tv < uv
            · skip
              have hd := HIT.out j hjm HA.out (by rw [HU.out]; simp [shits]; omega)
              rw [HU.out] at hd
              dsimp only at hd
              have HD := Lib.hid hd
              clear hd
              go_wp2
              go_meet
              rw [HD.out]
              exact ⟨row_set k3 2 _, orow_other own3 nt _, o3.setCell (by simp; omega) _⟩
            · skip
              have HA2 := Lib.hid (fun e (he : e < j + 1) => by
                rcases Nat.lt_or_ge e j with g1 | g1
                · exact HA.out e g1
                · rw [show e = j by omega, HU.out]; simp [shits]; omega)
              go_wp2
              go_roundw
              case rel => exact ⟨j + 1, by omega, by go_num, HA2, k3, own3, o3⟩
              case measure => simp [intOf]; omega
          · have j1 : ¬ (j : Int) < (m' : Int) := by omega
            have hd := NON.out (fun e he => HA.out e (by omega))
            rw [← hd] at k1
            go_wp2
            go_meet
            exact ⟨k1, own1, o1⟩
      case rest =>
        obtain ⟨k1, own1, o1⟩ := hcut
        obtain ⟨T0, T1, T2, T3, T4, T5⟩ := row_three k1
        have OWN := Lib.hid own1
        have z1 := o1.size
        have hbl2 := own1.lt
        clear own1
        go_wp2_with (first | (at_builtin; refine wpList_push rfl _ _ 22 rfl 66 ii (.agg #[.int .i64 0, .int .i64 0, .int .i64 0]) 3 24 Try.underlying22 hii iz0 iz1 iz2 rfl (by decide) w.heap.size u7 i (tcells (swids ts' false (ts.take i))) rfl OWN.out #[.int .i64 tv, .int .i64 tg, .int .i64 D] rfl rfl (by simp [Value.oneCell']) (by unfold maxLen; omega) (by omega) z1 ?_; intro g' c4 w8 own8 hg8 hat8 hgr8))
        have L8 : w8.ownsRow w.heap.size 66 3 (.slice (some ⟨g', 0, none⟩) (i + 1) c4) (i + 1) (tcells (swids ts' false (ts.take (i + 1)))) := by
          rw [NX.out, tcells_append]
          exact own8.row hg8
        have o8 := below_grown (o1.alloc z1 (.cells #[.int .i64 tv, .int .i64 tg, .int .i64 D] 66)) hgr8 (fun b e => by have := (hbl2 b e).1; omega) (by simp; omega)
        clear own8 hgr8 hat8
        go_roundw
        case rel => exact ⟨i + 1, by omega, by go_num, L8, o8⟩
        case measure => simp [intOf]; omega
    · have i1 : ¬ (i : Int) < (m : Int) := by omega
      have ei : i = m := by omega
      have et : ts.take i = ts := by rw [ei, ← HL.out]; exact List.take_length
      rw [et] at own
      have own9 : wr.ownsRow w.heap.size 66 3 u7 m (tcells (swids ts' false ts)) := by rw [← ei]; exact own
      have OW := Lib.hid own9
      clear own own9 et ei
      go_wp2
      go_ret
      exact ⟨_, rfl, OW.out, o0⟩
end Go.Proofs.Ytdibjlphcmjnoaa
