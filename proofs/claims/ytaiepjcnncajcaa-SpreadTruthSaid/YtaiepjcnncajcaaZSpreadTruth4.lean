/- The law SpreadTruth of the given program: for every input the call returns true, and each argument reads behind the call as it read before. No conditions. -/
import Derived.Test.YtaiepjcnncajcaaZSpreadTruth3
section
/- Spread histograms: the exact spread of items, and the answers, walked. -/
set_option linter.unusedVariables false
set_option linter.unusedSimpArgs false
set_option linter.unusedSectionVars false
set_option linter.unnecessarySimpa false
namespace Go.Proofs.Ytaiepjcnncajcaa
open Go.RowKit
/-- The sum of the squared differences of an item and others. -/
def dsum (x : Int) : List Itm → Int
  | [] => 0
  | y :: l => (x - y.v) * (x - y.v) + dsum x l
theorem dsum_append (x : Int) : ∀ a b : List Itm, dsum x (a ++ b) = dsum x a + dsum x b
  | [], b => by simp [dsum]
  | y :: a, b => by rw [List.cons_append, dsum, dsum, dsum_append x a b]; omega
theorem dsum_take {x : Int} {l : List Itm} {k : Nat} (h : k < l.length) : dsum x (l.take (k + 1)) = dsum x (l.take k) + (x - (itmAt l k).v) * (x - (itmAt l k).v) := by
  rw [List.take_succ_eq_append_getElem h, itm_eq h, dsum_append]
  simp [dsum]
theorem dsum_is (x : Int) : ∀ l : List Itm, dsum x l = (l.length : Int) * (x * x) - 2 * x * isum l + isq l
  | [] => by simp [dsum, isum, isq]
  | y :: l => by
    rw [dsum, isum, isq, dsum_is x l, List.length_cons, show ((l.length + 1 : Nat) : Int) = (l.length : Int) + 1 by omega]
    grind
theorem tp_take {l : List Itm} {k : Nat} (h : k < l.length) : tpI ((l.take (k + 1)).length : Int) (isum (l.take (k + 1))) (isq (l.take (k + 1))) = tpI ((l.take k).length : Int) (isum (l.take k)) (isq (l.take k)) + dsum (itmAt l k).v (l.take k) := by
  rw [isum_take h, isq_take h, dsum_is, show ((l.take (k + 1)).length : Int) = ((l.take k).length : Int) + 1 by simp; omega]
  unfold tpI
  grind
theorem dsum_bd {x : Int} (hx : -4096 ≤ x ∧ x ≤ 4096) : ∀ l : List Itm, (∀ y ∈ l, -4096 ≤ y.v ∧ y.v ≤ 4096) → 0 ≤ dsum x l ∧ dsum x l ≤ 67108864 * (l.length : Int)
  | [], _ => by simp [dsum]
  | y :: l, h => by
    have ih := dsum_bd hx l (fun z hz => h z (by simp [hz]))
    have hy := h y (by simp)
    have sq := sq_bound (s := x - y.v) (B := 8192) (by omega) (by omega)
    rw [dsum, List.length_cons]
    omega
theorem tp_bd {l : List Itm} (h : ∀ y ∈ l, -4096 ≤ y.v ∧ y.v ≤ 4096) (hl : l.length ≤ 1000) : tpI (l.length : Int) (isum l) (isq l) ≤ 16777216000000 := by
  have h1 := isq_bd l h
  have h2 : (l.length : Int) * isq l ≤ 1000 * (16777216 * 1000) := Int.mul_le_mul (by omega) (by omega) h1.1 (by omega)
  have h3 := sqn (isum l)
  unfold tpI
  omega
set_option maxHeartbeats 4000000 in
theorem rspread8 (A : Option Addr) (m c : Nat) (l : List Itm) (w : World) (hin : Reads w w.heap.size 2 A m (icells l)) (hm : m ≤ 1000) (hv : ∀ x ∈ l, -4096 ≤ x.v ∧ x.v ≤ 4096) :
    Calls Try.prog 22 #[.slice A m c] w fun e w' => e = .returned (.agg #[.int .i64 (rn (itT l) (itN l) : Nat), .int .i64 (rd (itT l) (itN l) : Nat)]) ∧ Below w.heap.size w w' := by
  have hl := hin.itm_len
  have HL := Lib.hid hl
  have HR := Lib.hid hin
  have HV := Lib.hid hv
  have hIT := itT_eq l
  have hTB := tp_bd hv (by omega)
  have hN : itN l = max m 1 := by unfold itN; rw [hl]
  have PM := fun w => rmake (itT l) (itN l) (by omega) (by omega) (by omega) w
  rw [show itT l / Nat.gcd (itT l) (itN l) = rn (itT l) (itN l) from rfl, show itN l / Nat.gcd (itT l) (itN l) = rd (itT l) (itN l) from rfl, hIT] at PM
  have hmx : ((itN l : Nat) : Int) = max (m : Int) 1 := by rw [hN]; omega
  rw [hmx] at PM
  generalize rn (itT l) (itN l) = an at PM ⊢
  generalize rd (itT l) (itN l) = ad0 at PM ⊢
  replace PM := Lib.hid PM
  clear hin hv hIT hTB hN hmx
  have Z : Row (w.alloc (.cells #[.int .i64 0, .int .i64 0] 35)) w.heap.size 35 #[.int .i64 0, .int .i64 0] := row_new rfl
  have o : Below w.heap.size w (w.alloc (.cells #[.int .i64 0, .int .i64 0] 35)) := by (repeat (first | exact Below.refl _ _ | refine Below.setCell ?_ (by first | (simp; done) | (simp; omega) | omega) _ | refine Below.alloc ?_ (by first | (simp; done) | (simp; omega) | omega) _ | refine Below.drew ?_ | refine Below.trans ?_ (Below.mono (by assumption) (by first | (simp; done) | (simp; omega) | omega))))
  go_enter Try.func22, Try.ntmps22
  go_upto_region 3 with (fail)
  generalize w.alloc (.cells #[.int .i64 0, .int .i64 0] 35) = w1 at Z o ⊢
  go_loopw [3, 11] (fun d i wr => ∃ k : Nat, k ≤ m ∧ i = .int .i64 (k : Nat) ∧ d = .int .i64 (tpI ((l.take k).length : Int) (isum (l.take k)) (isq (l.take k))) ∧ Row wr w.heap.size 35 #[.int .i64 0, .int .i64 0] ∧ Below w.heap.size w wr) (fun _ i _ => m - (intOf i).toNat)
  case atStart => exact ⟨0, by omega, rfl, by simp [tpI, isum, isq], Z, o⟩
  case round =>
    clear Z o
    obtain ⟨k, hk, rfl, rfl, Z, o⟩ := hrel
    by_cases hlt : k < m
    · obtain ⟨ad, rfl, hadb, hi0⟩ := HR.out.itm hlt
      have HI := Lib.hid hi0
      have TK := Lib.hid (tp_take (show k < l.length by rw [HL.out]; exact hlt))
      have vk := HV.out (itmAt l k) (by rw [← itm_eq (by rw [HL.out]; exact hlt)]; exact List.getElem_mem _)
      have tb0 := tp_bd (l := l.take k) (fun x hx => HV.out x (List.mem_of_mem_take hx)) (by rw [List.length_take]; omega)
      have tb1 := isq_isum (l.take k)
      generalize tpI ((l.take k).length : Int) (isum (l.take k)) (isq (l.take k)) = T0 at TK tb0 tb1 ⊢
      have i2 : (k : Int) < (m : Int) := by omega
      have i4 : (0 : Int) ≤ (k : Int) := by omega
      have zb := o.size
      have bdK := Lib.hid (fun j (hj : j ≤ k) => dsum_bd vk (l.take j) (fun x hx => HV.out x (List.mem_of_mem_take hx)))
      clear hi0
      go_wp2
      go_loopw [3, 5] (fun d i wr2 => ∃ j : Nat, j ≤ k ∧ i = .int .i64 (j : Nat) ∧ d = .int .i64 (T0 + dsum (itmAt l k).v (l.take j)) ∧ Row wr2 w.heap.size 35 #[.int .i64 0, .int .i64 0] ∧ Below w.heap.size w wr2) (fun _ i _ => k - (intOf i).toNat)
      case atStart => exact ⟨0, by omega, rfl, by simp [dsum], Z, o⟩
      case round =>
        clear Z o
        obtain ⟨j, hj, rfl, rfl, Z, o⟩ := hrel
        by_cases hjk : j < k
        · obtain ⟨ad', e', hadb', hj0⟩ := HR.out.itm (show j < m by omega)
          obtain rfl := Option.some.inj e'
          obtain ⟨c0, c1⟩ := hj0.below o (by rw [block_of_add]; exact hadb')
          obtain ⟨p0, p1⟩ := HI.out.below o (by rw [block_of_add]; exact hadb)
          have vj := HV.out (itmAt l j) (by rw [← itm_eq (by rw [HL.out]; omega)]; exact List.getElem_mem _)
          have DT := dsum_take (x := (itmAt l k).v) (l := l) (k := j) (by rw [HL.out]; omega)
          have B1 := (bdK.out (j + 1) (by omega)).2
          have B0 := (bdK.out j (by omega)).1
          have B2 := (bdK.out (j + 1) (by omega)).1
          rw [List.length_take, HL.out] at B1
          rw [DT] at B1 B2
          have DTh := Lib.hid DT
          generalize dsum (itmAt l k).v (l.take j) = D at B0 B1 B2 DTh ⊢
          generalize (itmAt l k).v = x at p1 vk B1 B2 DTh
          generalize (itmAt l j).v = y at c1 vj B1 B2 DTh
          have w1 : IntKind.i64.wrap (x - y) = x - y := IntWalk.i64_in _ (by omega)
          have sq := sq_bound (s := x - y) (B := 8192) (by omega) (by omega)
          have w2 : IntKind.i64.wrap ((x - y) * (x - y)) = (x - y) * (x - y) := IntWalk.i64_in _ (by omega)
          have w3 : IntKind.i64.wrap (T0 + D + (x - y) * (x - y)) = T0 + D + (x - y) * (x - y) := IntWalk.i64_in _ (by omega)
          have j2 : (j : Int) < (k : Int) := by omega
          have j3 : (j : Int) < (m : Int) := by omega
          have j4 : (0 : Int) ≤ (j : Int) := by omega
          clear DT hj0 e' B0 B1 B2 sq vj
          go_upto_region 8 with (fail)
          go_quiet (fail)
          go_wp2
          go_roundw
          case rel => exact ⟨j + 1, by omega, by go_num, by rw [DTh.out, ← Int.add_assoc], Z, o.trans ⟨rfl, rfl, rfl, Nat.le_refl _, fun _ _ => rfl⟩⟩
          case measure => simp [intOf]; omega
        · have j2 : ¬ (j : Int) < (k : Int) := by omega
          obtain rfl : j = k := by omega
          go_wp2
          go_roundw
          case rel => exact ⟨j + 1, by omega, by go_num, by rw [TK.out], Z, o⟩
          case measure => simp [intOf]; omega
    · have i2 : ¬ (k : Int) < (m : Int) := by omega
      obtain rfl : k = m := by omega
      rw [List.take_of_length_le (by rw [HL.out]; exact Nat.le_refl _)]
      generalize tpI (l.length : Int) (isum l) (isq l) = TT at PM ⊢
      go_wp2_with fail
      refine (PM.out _).mono ?_
      rintro e w5 ⟨rfl, hb⟩
      replace Z := row_call Z hb
      replace o := o.trans (hb.mono o.size)
      clear hb
      go_upto_region 12 with (fail)
      have V : Row (w5.alloc (.cells #[.int .i64 an, .int .i64 ad0] 35)) w5.heap.size 35 #[.int .i64 an, .int .i64 ad0] := row_new rfl
      replace Z := row_alloc Z (.cells #[.int .i64 an, .int .i64 ad0] 35)
      replace o := o.alloc o.size (.cells #[.int .i64 an, .int .i64 ad0] 35)
      generalize w5.alloc (.cells #[.int .i64 an, .int .i64 ad0] 35) = w6 at V Z o ⊢
      generalize w5.heap.size = vb at V ⊢
      obtain ⟨V0, V1, _, _⟩ := row_two V
      obtain ⟨Z0, Z1, Zf0, Zf1⟩ := row_two Z
      go_wp2
      have r9 := row_two_set (u := .int .i64 an) (v := .int .i64 ad0) Z
      have o9 : Below w.heap.size w ((w6.setCell ⟨w.heap.size, 0, none⟩ (.int .i64 an)).setCell ⟨w.heap.size, 1, none⟩ (.int .i64 ad0)) := (o.setCell (p := ⟨w.heap.size, 0, none⟩) (Nat.le_refl _) (.int .i64 an)).setCell (p := ⟨w.heap.size, 1, none⟩) (Nat.le_refl _) (.int .i64 ad0)
      generalize (w6.setCell ⟨w.heap.size, 0, none⟩ (.int .i64 an)).setCell ⟨w.heap.size, 1, none⟩ (.int .i64 ad0) = w9 at r9 o9 ⊢
      obtain ⟨e1, e2, _, _⟩ := row_two r9
      exact bodyPost_ret (v := .agg #[.int .i64 an, .int .i64 ad0]) (by simp [results, Try.results22, go_sem, e1, e2]) rfl ⟨rfl, o9⟩
theorem rwholeN (n : Nat) (hn : n < 9223372036854775808) (w : World) : Calls Try.prog 78 #[.int .i64 (n : Nat)] w fun e w' => e = .returned (.agg #[.int .i64 (n : Nat), .int .i64 1, .int .i64 (n : Nat), .int .i64 1, .int .i64 (n : Nat), .int .i64 1]) ∧ Below w.heap.size w w' := by
  have P1 := Lib.hid (fun w => rratio (n : Int) w)
  have P2 := Lib.hid (fun w => rexactR n 1 w hn (by omega) (by omega) (Nat.gcd_one_right n))
  clear hn
  go_enter Try.func78, Try.ntmps78
  go_wp2_with fail
  have R : Row (w.alloc (.cells #[.int .i64 0, .int .i64 0, .int .i64 0, .int .i64 0, .int .i64 0, .int .i64 0] 45)) w.heap.size 45 #[.int .i64 0, .int .i64 0, .int .i64 0, .int .i64 0, .int .i64 0, .int .i64 0] := row_new rfl
  have o : Below w.heap.size w (w.alloc (.cells #[.int .i64 0, .int .i64 0, .int .i64 0, .int .i64 0, .int .i64 0, .int .i64 0] 45)) := by (repeat (first | exact Below.refl _ _ | refine Below.setCell ?_ (by first | (simp; done) | (simp; omega) | omega) _ | refine Below.alloc ?_ (by first | (simp; done) | (simp; omega) | omega) _ | refine Below.drew ?_ | refine Below.trans ?_ (Below.mono (by assumption) (by first | (simp; done) | (simp; omega) | omega))))
  generalize (w.alloc (.cells #[.int .i64 0, .int .i64 0, .int .i64 0, .int .i64 0, .int .i64 0, .int .i64 0] 45)) = w1 at R o ⊢
  refine (P1.out _).mono ?_
  rintro e w2 ⟨rfl, hb2⟩
  replace R := row_call R hb2
  replace o := o.trans (hb2.mono o.size)
  clear hb2
  go_wp2_with fail
  refine (P2.out _).mono ?_
  rintro e w3 ⟨rfl, hb3⟩
  replace R := row_call R hb3
  replace o := o.trans (hb3.mono o.size)
  clear hb3
  obtain ⟨R0, R1, R2, R3, R4, R5, Rf0, Rf1, Rf2, Rf3, Rf4, Rf5⟩ := row_six R
  go_wp2
  exact bodyPost_ret (v := .agg #[.int .i64 (n : Nat), .int .i64 1, .int .i64 (n : Nat), .int .i64 1, .int .i64 (n : Nat), .int .i64 1]) (by simp [results, Try.results78, go_sem, R0, R1, R2, R3, R4, R5]) rfl ⟨rfl, below_six o (by omega) _ _ _ _ _ _⟩
/-- The answer: an interval, and an error. -/
def askPV (ve : Int) (lT lN hT hN : Nat) : Value := if ve = 0 then .tuple #[.agg #[.int .i64 (rn lT lN : Nat), .int .i64 (rd lT lN : Nat), .int .i64 (rn lT lN : Nat), .int .i64 (rd lT lN : Nat), .int .i64 (rn hT hN : Nat), .int .i64 (rd hT hN : Nat)], .int .i64 0] else .tuple #[.agg #[.int .i64 0, .int .i64 0, .int .i64 0, .int .i64 0, .int .i64 0, .int .i64 0], .int .i64 ve]
theorem pofM {m : Mk} (h : rightP m.n m.s m.q) (w : World) : Calls Try.prog 15 #[.agg #[.int .i64 m.seq, .int .i64 m.t, .int .i64 m.n, .int .i64 m.s, .int .i64 m.q, .int .i64 m.lo, .int .i64 m.hi]] w fun e w' => e = .returned (.tuple #[.agg #[.int .i64 (rn (mT m) (mN m) : Nat), .int .i64 (rd (mT m) (mN m) : Nat)], .bool true]) ∧ Below w.heap.size w w' := pof_yes _ _ _ _ _ _ _ w h
set_option maxRecDepth 100000 in
theorem pspask_a (A : Option Addr) (m c : Nat) (l : List Mk) (wd k cap now seq : Int) (w : World) (hin : MIn A m c l w) (sB : I64 seq) (hv : spvalE wd k cap now seq l = 2) : Calls Try.prog 33 #[.agg #[.int .i64 wd, .int .i64 k, .int .i64 cap, .int .i64 now, .int .i64 seq, .slice A m c]] w fun e w' => e = .returned (askPV (spvalE wd k cap now seq l) (loT now wd l) (loN now wd l) (hiT now wd l) (hiN now wd l)) ∧ Below w.heap.size w w' := by
  rw [show askPV (spvalE wd k cap now seq l) (loT now wd l) (loN now wd l) (hiT now wd l) (hiN now wd l) = .tuple #[.agg #[.int .i64 0, .int .i64 0, .int .i64 0, .int .i64 0, .int .i64 0, .int .i64 0], .int .i64 2] by unfold askPV; rw [hv]; rfl]
  have P := fun w' (hb : Below w.heap.size w w') => pvalP A m c l wd k cap now seq w' (hin.below hb) sB
  rw [hv] at P
  replace P := Lib.hid P
  clear hv hin sB
  go_enter Try.func33, Try.ntmps33
  go_upto_region 1 with (fail)
  have X : Row ((w.alloc (.cells #[.int .i64 wd, .int .i64 k, .int .i64 cap, .int .i64 now, .int .i64 seq, .slice A m c] 24)).alloc (.cells #[.int .i64 0, .int .i64 0, .int .i64 0, .int .i64 0, .int .i64 0, .int .i64 0] 45)) w.heap.size 24 #[.int .i64 wd, .int .i64 k, .int .i64 cap, .int .i64 now, .int .i64 seq, .slice A m c] := row_alloc (row_new rfl) _
  have R : Row ((w.alloc (.cells #[.int .i64 wd, .int .i64 k, .int .i64 cap, .int .i64 now, .int .i64 seq, .slice A m c] 24)).alloc (.cells #[.int .i64 0, .int .i64 0, .int .i64 0, .int .i64 0, .int .i64 0, .int .i64 0] 45)) (w.heap.size + 1) 45 #[.int .i64 0, .int .i64 0, .int .i64 0, .int .i64 0, .int .i64 0, .int .i64 0] := row_new (by simp)
  have o : Below w.heap.size w ((w.alloc (.cells #[.int .i64 wd, .int .i64 k, .int .i64 cap, .int .i64 now, .int .i64 seq, .slice A m c] 24)).alloc (.cells #[.int .i64 0, .int .i64 0, .int .i64 0, .int .i64 0, .int .i64 0, .int .i64 0] 45)) := by (repeat (first | exact Below.refl _ _ | refine Below.setCell ?_ (by first | (simp; done) | (simp; omega) | omega) _ | refine Below.alloc ?_ (by first | (simp; done) | (simp; omega) | omega) _ | refine Below.drew ?_ | refine Below.trans ?_ (Below.mono (by assumption) (by first | (simp; done) | (simp; omega) | omega))))
  generalize ((w.alloc (.cells #[.int .i64 wd, .int .i64 k, .int .i64 cap, .int .i64 now, .int .i64 seq, .slice A m c] 24)).alloc (.cells #[.int .i64 0, .int .i64 0, .int .i64 0, .int .i64 0, .int .i64 0, .int .i64 0] 45)) = w0 at X R o ⊢
  obtain ⟨X0, X1, X2, X3, X4, X5, Xf0, Xf1, Xf2, Xf3, Xf4, Xf5⟩ := row_six X
  go_wp2_with fail
  refine (P.out _ o).mono ?_
  rintro e w1 ⟨rfl, hb⟩
  replace X := row_call X hb
  replace R := row_call R hb
  replace o := o.trans (hb.mono o.size)
  clear hb X0 X1 X2 X3 X4 X5 Xf0 Xf1 Xf2 Xf3 Xf4 Xf5
  obtain ⟨R0, R1, R2, R3, R4, R5, Rf0, Rf1, Rf2, Rf3, Rf4, Rf5⟩ := row_six R
  go_wp2
  exact bodyPost_ret (v := .tuple #[.agg #[.int .i64 0, .int .i64 0, .int .i64 0, .int .i64 0, .int .i64 0, .int .i64 0], .int .i64 2]) (by simp [results, Try.results33, go_sem, List.getElem?_toArray, R0, R1, R2, R3, R4, R5]) rfl ⟨rfl, below_six o (by omega) _ _ _ _ _ _⟩
set_option maxRecDepth 100000 in
theorem pspask_z (A : Option Addr) (c : Nat) (l : List Mk) (wd k cap now seq : Int) (w : World) (hin : MIn A 0 c l w) (sB : I64 seq) (hv : spvalE wd k cap now seq l = 0) : Calls Try.prog 33 #[.agg #[.int .i64 wd, .int .i64 k, .int .i64 cap, .int .i64 now, .int .i64 seq, .slice A 0 c]] w fun e w' => e = .returned (askPV (spvalE wd k cap now seq l) (loT now wd l) (loN now wd l) (hiT now wd l) (hiN now wd l)) ∧ Below w.heap.size w w' := by
  have hl : l = [] := List.eq_nil_of_length_eq_zero hin.len
  rw [show askPV (spvalE wd k cap now seq l) (loT now wd l) (loN now wd l) (hiT now wd l) (hiN now wd l) = .tuple #[.agg #[.int .i64 0, .int .i64 1, .int .i64 0, .int .i64 1, .int .i64 0, .int .i64 1], .int .i64 0] by
    unfold askPV
    rw [if_pos hv, hl]
    have e1 : loT now wd [] = 0 := by unfold loT; rw [if_pos rfl]
    have e2 : loN now wd [] = 1 := by unfold loN; rw [if_pos rfl]
    have e3 : hiT now wd [] = 0 := by unfold hiT; rw [if_pos rfl]
    have e4 : hiN now wd [] = 1 := by unfold hiN; rw [if_pos rfl]
    rw [e1, e2, e3, e4]
    rfl]
  have P := fun w' (hb : Below w.heap.size w w') => pvalP A 0 c l wd k cap now seq w' (hin.below hb) sB
  rw [hv] at P
  replace P := Lib.hid P
  have PE := Lib.hid (show ∀ w, Calls Try.prog 75 #[.agg #[.int .i64 0, .int .i64 1]] w fun e w' => e = .returned (.agg #[.int .i64 0, .int .i64 1, .int .i64 0, .int .i64 1, .int .i64 0, .int .i64 1]) ∧ Below w.heap.size w w' from fun w => pexactR 0 1 w (by omega) (by omega) (by omega) (Nat.gcd_one_right 0))
  have P0 := Lib.hid (fun w => pratio 0 w)
  clear hv hin sB hl
  go_enter Try.func33, Try.ntmps33
  go_upto_region 1 with (fail)
  have X : Row ((w.alloc (.cells #[.int .i64 wd, .int .i64 k, .int .i64 cap, .int .i64 now, .int .i64 seq, .slice A 0 c] 24)).alloc (.cells #[.int .i64 0, .int .i64 0, .int .i64 0, .int .i64 0, .int .i64 0, .int .i64 0] 45)) w.heap.size 24 #[.int .i64 wd, .int .i64 k, .int .i64 cap, .int .i64 now, .int .i64 seq, .slice A 0 c] := row_alloc (row_new rfl) _
  have R : Row ((w.alloc (.cells #[.int .i64 wd, .int .i64 k, .int .i64 cap, .int .i64 now, .int .i64 seq, .slice A 0 c] 24)).alloc (.cells #[.int .i64 0, .int .i64 0, .int .i64 0, .int .i64 0, .int .i64 0, .int .i64 0] 45)) (w.heap.size + 1) 45 #[.int .i64 0, .int .i64 0, .int .i64 0, .int .i64 0, .int .i64 0, .int .i64 0] := row_new (by simp)
  have o : Below w.heap.size w ((w.alloc (.cells #[.int .i64 wd, .int .i64 k, .int .i64 cap, .int .i64 now, .int .i64 seq, .slice A 0 c] 24)).alloc (.cells #[.int .i64 0, .int .i64 0, .int .i64 0, .int .i64 0, .int .i64 0, .int .i64 0] 45)) := by (repeat (first | exact Below.refl _ _ | refine Below.setCell ?_ (by first | (simp; done) | (simp; omega) | omega) _ | refine Below.alloc ?_ (by first | (simp; done) | (simp; omega) | omega) _ | refine Below.drew ?_ | refine Below.trans ?_ (Below.mono (by assumption) (by first | (simp; done) | (simp; omega) | omega))))
  generalize ((w.alloc (.cells #[.int .i64 wd, .int .i64 k, .int .i64 cap, .int .i64 now, .int .i64 seq, .slice A 0 c] 24)).alloc (.cells #[.int .i64 0, .int .i64 0, .int .i64 0, .int .i64 0, .int .i64 0, .int .i64 0] 45)) = w0 at X R o ⊢
  obtain ⟨X0, X1, X2, X3, X4, X5, Xf0, Xf1, Xf2, Xf3, Xf4, Xf5⟩ := row_six X
  go_wp2_with fail
  refine (P.out _ o).mono ?_
  rintro e w1 ⟨rfl, hb⟩
  replace X := row_call X hb
  replace R := row_call R hb
  replace o := o.trans (hb.mono o.size)
  clear hb X0 X1 X2 X3 X4 X5 Xf0 Xf1 Xf2 Xf3 Xf4 Xf5
  obtain ⟨X0, X1, X2, X3, X4, X5, Xf0, Xf1, Xf2, Xf3, Xf4, Xf5⟩ := row_six X
  go_wp2_with fail
  refine (P0.out _).mono ?_
  rintro e w4 ⟨rfl, hb⟩
  replace X := row_call X hb
  replace R := row_call R hb
  replace o := o.trans (hb.mono o.size)
  clear hb X0 X1 X2 X3 X4 X5 Xf0 Xf1 Xf2 Xf3 Xf4 Xf5
  go_wp2_with fail
  refine (PE.out _).mono ?_
  rintro e w5 ⟨rfl, hb⟩
  replace X := row_call X hb
  replace R := row_call R hb
  replace o := o.trans (hb.mono o.size)
  clear hb
  obtain ⟨R0, R1, R2, R3, R4, R5, Rf0, Rf1, Rf2, Rf3, Rf4, Rf5⟩ := row_six R
  go_wp2
  exact bodyPost_ret (v := .tuple #[.agg #[.int .i64 0, .int .i64 1, .int .i64 0, .int .i64 1, .int .i64 0, .int .i64 1], .int .i64 0]) (by simp [results, Try.results33, go_sem, List.getElem?_toArray, R0, R1, R2, R3, R4, R5]) rfl ⟨rfl, below_six o (by omega) _ _ _ _ _ _⟩
set_option maxRecDepth 100000 in
set_option maxHeartbeats 4000000 in
theorem pspask_l (A : Option Addr) (m c : Nat) (l : List Mk) (wd k cap now seq : Int) (w : World) (hin : MIn A m c l w) (sB : I64 seq) (hv : spvalE wd k cap now seq l = 0) (hm0 : 0 < m) (hlv : now - wd < (mkAt l 0).t) : Calls Try.prog 33 #[.agg #[.int .i64 wd, .int .i64 k, .int .i64 cap, .int .i64 now, .int .i64 seq, .slice A m c]] w fun e w' => e = .returned (askPV (spvalE wd k cap now seq l) (loT now wd l) (loN now wd l) (hiT now wd l) (hiN now wd l)) ∧ Below w.heap.size w w' := by
  obtain ⟨hG, hMV, _⟩ := of_spvalE hv
  obtain ⟨d0, d1, k0, k1, c0, c1, n0, n1⟩ := hG
  have hVL := (mvalid_iff.1 hMV).2
  have hl := hin.len
  have hne : l ≠ [] := fun e => by rw [e] at hl; simp at hl; omega
  have e1 : loT now wd l = mT (mkAt l 0) := by unfold loT; rw [if_neg hne, if_pos hlv]
  have e2 : loN now wd l = mN (mkAt l 0) := by unfold loN; rw [if_neg hne, if_pos hlv]
  have e3 : hiT now wd l = mT (mkAt l 0) := by unfold hiT; rw [if_neg hne, if_pos hlv]
  have e4 : hiN now wd l = mN (mkAt l 0) := by unfold hiN; rw [if_neg hne, if_pos hlv]
  rw [e1, e2, e3, e4, hv]
  clear e1 e2 e3 e4
  have oa := hVL.one _ (mkAt_mem (l := l) (i := 0) (by omega))
  have ra := one_right oa c1
  have rka := rat_mark ra
  have PX := fun w => pofM ra w
  have PL := fun w => plive now wd (mkAt l 0).t w n0 n1 d0 d1 oa.2.2.2.2.1 oa.2.2.2.2.2.1
  rw [decide_eq_true hlv] at PL
  unfold askPV
  rw [if_pos rfl]
  generalize rn (mT (mkAt l 0)) (mN (mkAt l 0)) = xn at PX rka ⊢
  generalize rd (mT (mkAt l 0)) (mN (mkAt l 0)) = xd at PX rka ⊢
  have PE := Lib.hid (fun w => pexactR xn xd w (by have := rka.1; omega) rka.2.1.1 (by have := rka.2.1.2; omega) rka.2.2)
  obtain ⟨ad, rfl, hadb, ht0⟩ := hin.reads.mk (i := 0) hm0
  have ht0 : MkCells w ad (mkAt l 0) := ht0
  generalize hma : mkAt l 0 = ma at ht0 PX PL
  obtain ⟨sq, tk, n, s, q, lo, hi⟩ := ma
  dsimp only at PX PL
  clear hma
  replace PX := Lib.hid PX
  replace PL := Lib.hid PL
  have HT0 := Lib.hid ht0
  have g0 : (0 : Int) < (m : Int) := by omega
  have mz : ((m : Int) == 0) = false := by simp; omega
  have P := fun w' (hb : Below w.heap.size w w') => pvalP (some ad) m c l wd k cap now seq w' (hin.below hb) sB
  rw [hv] at P
  replace P := Lib.hid P
  clear hv hin sB hMV hVL hl hne rka oa ra ht0 hlv
  go_enter Try.func33, Try.ntmps33
  go_upto_region 1 with (fail)
  have X : Row ((w.alloc (.cells #[.int .i64 wd, .int .i64 k, .int .i64 cap, .int .i64 now, .int .i64 seq, .slice (some ad) m c] 24)).alloc (.cells #[.int .i64 0, .int .i64 0, .int .i64 0, .int .i64 0, .int .i64 0, .int .i64 0] 45)) w.heap.size 24 #[.int .i64 wd, .int .i64 k, .int .i64 cap, .int .i64 now, .int .i64 seq, .slice (some ad) m c] := row_alloc (row_new rfl) _
  have R : Row ((w.alloc (.cells #[.int .i64 wd, .int .i64 k, .int .i64 cap, .int .i64 now, .int .i64 seq, .slice (some ad) m c] 24)).alloc (.cells #[.int .i64 0, .int .i64 0, .int .i64 0, .int .i64 0, .int .i64 0, .int .i64 0] 45)) (w.heap.size + 1) 45 #[.int .i64 0, .int .i64 0, .int .i64 0, .int .i64 0, .int .i64 0, .int .i64 0] := row_new (by simp)
  have o : Below w.heap.size w ((w.alloc (.cells #[.int .i64 wd, .int .i64 k, .int .i64 cap, .int .i64 now, .int .i64 seq, .slice (some ad) m c] 24)).alloc (.cells #[.int .i64 0, .int .i64 0, .int .i64 0, .int .i64 0, .int .i64 0, .int .i64 0] 45)) := by (repeat (first | exact Below.refl _ _ | refine Below.setCell ?_ (by first | (simp; done) | (simp; omega) | omega) _ | refine Below.alloc ?_ (by first | (simp; done) | (simp; omega) | omega) _ | refine Below.drew ?_ | refine Below.trans ?_ (Below.mono (by assumption) (by first | (simp; done) | (simp; omega) | omega))))
  generalize ((w.alloc (.cells #[.int .i64 wd, .int .i64 k, .int .i64 cap, .int .i64 now, .int .i64 seq, .slice (some ad) m c] 24)).alloc (.cells #[.int .i64 0, .int .i64 0, .int .i64 0, .int .i64 0, .int .i64 0, .int .i64 0] 45)) = w0 at X R o ⊢
  obtain ⟨X0, X1, X2, X3, X4, X5, Xf0, Xf1, Xf2, Xf3, Xf4, Xf5⟩ := row_six X
  go_wp2_with fail
  refine (P.out _ o).mono ?_
  rintro e w1 ⟨rfl, hb⟩
  replace X := row_call X hb
  replace R := row_call R hb
  replace o := o.trans (hb.mono o.size)
  clear hb X0 X1 X2 X3 X4 X5 Xf0 Xf1 Xf2 Xf3 Xf4 Xf5
  obtain ⟨q0, q1, q2, q3, q4, q5, q6⟩ := HT0.out.below o hadb
  dsimp only at q0 q1 q2 q3 q4 q5 q6
  obtain ⟨X0, X1, X2, X3, X4, X5, Xf0, Xf1, Xf2, Xf3, Xf4, Xf5⟩ := row_six X
  go_upto_region 7 with (fail)
  clear X0 X1 X2 X3 X4 X5 Xf0 Xf1 Xf2 Xf3 Xf4 Xf5
  have Fr : Row (w1.alloc (.cells #[.int .i64 sq, .int .i64 tk, .int .i64 n, .int .i64 s, .int .i64 q, .int .i64 lo, .int .i64 hi] 33)) w1.heap.size 33 #[.int .i64 sq, .int .i64 tk, .int .i64 n, .int .i64 s, .int .i64 q, .int .i64 lo, .int .i64 hi] := row_new rfl
  replace X := row_alloc X (.cells #[.int .i64 sq, .int .i64 tk, .int .i64 n, .int .i64 s, .int .i64 q, .int .i64 lo, .int .i64 hi] 33)
  replace R := row_alloc R (.cells #[.int .i64 sq, .int .i64 tk, .int .i64 n, .int .i64 s, .int .i64 q, .int .i64 lo, .int .i64 hi] 33)
  replace o := o.alloc o.size (.cells #[.int .i64 sq, .int .i64 tk, .int .i64 n, .int .i64 s, .int .i64 q, .int .i64 lo, .int .i64 hi] 33)
  generalize w1.alloc (.cells #[.int .i64 sq, .int .i64 tk, .int .i64 n, .int .i64 s, .int .i64 q, .int .i64 lo, .int .i64 hi] 33) = w2 at X R Fr o ⊢
  generalize w1.heap.size = fb at Fr ⊢
  clear q0 q1 q2 q3 q4 q5 q6
  obtain ⟨F0, F1, F2, F3, F4, F5, F6, Ff0, Ff1, Ff2, Ff3, Ff4, Ff5, Ff6⟩ := row_seven Fr
  go_wp2_with fail
  refine (PX.out _).mono ?_
  rintro e w3 ⟨rfl, hb⟩
  replace X := row_call X hb
  replace R := row_call R hb
  replace Fr := row_call Fr hb
  replace o := o.trans (hb.mono o.size)
  clear hb F0 F1 F2 F3 F4 F5 F6 Ff0 Ff1 Ff2 Ff3 Ff4 Ff5 Ff6
  go_upto_region 8 with (fail)
  have Hi : Row (w3.alloc (.cells #[.int .i64 xn, .int .i64 xd] 35)) w3.heap.size 35 #[.int .i64 xn, .int .i64 xd] := row_new rfl
  replace X := row_alloc X (.cells #[.int .i64 xn, .int .i64 xd] 35)
  replace R := row_alloc R (.cells #[.int .i64 xn, .int .i64 xd] 35)
  replace Fr := row_alloc Fr (.cells #[.int .i64 xn, .int .i64 xd] 35)
  replace o := o.alloc o.size (.cells #[.int .i64 xn, .int .i64 xd] 35)
  generalize w3.alloc (.cells #[.int .i64 xn, .int .i64 xd] 35) = w4 at X R Fr Hi o ⊢
  generalize w3.heap.size = ib at Hi ⊢
  obtain ⟨X0, X1, X2, X3, X4, X5, Xf0, Xf1, Xf2, Xf3, Xf4, Xf5⟩ := row_six X
  obtain ⟨F0, F1, F2, F3, F4, F5, F6, Ff0, Ff1, Ff2, Ff3, Ff4, Ff5, Ff6⟩ := row_seven Fr
  go_upto_region 9 with (go_at_call 77; with_reducible refine (PL.out _).mono ?_; rintro e w9 ⟨rfl, h9⟩; obtain rfl := h9.symm)
  clear X0 X1 X2 X3 X4 X5 Xf0 Xf1 Xf2 Xf3 Xf4 Xf5 F0 F1 F2 F3 F4 F5 F6 Ff0 Ff1 Ff2 Ff3 Ff4 Ff5 Ff6
  obtain ⟨H0, H1, Hf0, Hf1⟩ := row_two Hi
  go_wp2_with fail
  refine (PE.out _).mono ?_
  rintro e w5 ⟨rfl, hb⟩
  replace X := row_call X hb
  replace R := row_call R hb
  replace Fr := row_call Fr hb
  replace Hi := row_call Hi hb
  replace o := o.trans (hb.mono o.size)
  clear hb H0 H1 Hf0 Hf1
  obtain ⟨R0, R1, R2, R3, R4, R5, Rf0, Rf1, Rf2, Rf3, Rf4, Rf5⟩ := row_six R
  go_wp2
  exact bodyPost_ret (v := .tuple #[.agg #[.int .i64 xn, .int .i64 xd, .int .i64 xn, .int .i64 xd, .int .i64 xn, .int .i64 xd], .int .i64 0]) (by simp [results, Try.results33, go_sem, List.getElem?_toArray, R0, R1, R2, R3, R4, R5]) rfl ⟨rfl, below_six o (by omega) _ _ _ _ _ _⟩
set_option maxRecDepth 100000 in
set_option maxHeartbeats 4000000 in
theorem pspask_n (A : Option Addr) (m c : Nat) (l : List Mk) (wd k cap now seq : Int) (w : World) (hin : MIn A m c l w) (sB : I64 seq) (hv : spvalE wd k cap now seq l = 0) (hm0 : 0 < m) (hlv : ¬ now - wd < (mkAt l 0).t) (hnx : (mkAt l 1).seq = (mkAt l 0).seq + 1) : Calls Try.prog 33 #[.agg #[.int .i64 wd, .int .i64 k, .int .i64 cap, .int .i64 now, .int .i64 seq, .slice A m c]] w fun e w' => e = .returned (askPV (spvalE wd k cap now seq l) (loT now wd l) (loN now wd l) (hiT now wd l) (hiN now wd l)) ∧ Below w.heap.size w w' := by
  obtain ⟨hG, hMV, _⟩ := of_spvalE hv
  obtain ⟨d0, d1, k0, k1, c0, c1, n0, n1⟩ := hG
  have hVL := (mvalid_iff.1 hMV).2
  have hl := hin.len
  have hne : l ≠ [] := fun e => by rw [e] at hl; simp at hl; omega
  have hm1 : 1 < m := by
    apply Nat.lt_of_not_le; intro hc
    obtain ⟨a, rfl⟩ : ∃ a, l = [a] := List.length_eq_one_iff.1 (by omega)
    exact hlv (hVL.alone a rfl)
  have e1 : loT now wd l = mT (mkAt l 1) := by unfold loT; rw [if_neg hne, if_neg hlv]
  have e2 : loN now wd l = mN (mkAt l 1) := by unfold loN; rw [if_neg hne, if_neg hlv]
  have e3 : hiT now wd l = mT (mkAt l 1) := by unfold hiT; rw [if_neg hne, if_neg hlv, if_pos hnx]
  have e4 : hiN now wd l = mN (mkAt l 1) := by unfold hiN; rw [if_neg hne, if_neg hlv, if_pos hnx]
  rw [e1, e2, e3, e4, hv]
  clear e1 e2 e3 e4
  have oa := hVL.one _ (mkAt_mem (l := l) (i := 0) (by omega))
  have ra := one_right oa c1
  have rka := rat_mark ra
  have PX := fun w => pofM ra w
  have PL := fun w => plive now wd (mkAt l 0).t w n0 n1 d0 d1 oa.2.2.2.2.1 oa.2.2.2.2.2.1
  rw [decide_eq_false hlv] at PL
  have ob := hVL.one _ (mkAt_mem (l := l) (i := 1) (by omega))
  have rb := one_right ob c1
  have rkb := rat_mark rb
  have PY := fun w => pofM rb w
  unfold askPV
  rw [if_pos rfl]
  generalize rn (mT (mkAt l 0)) (mN (mkAt l 0)) = xn at PX rka ⊢
  generalize rd (mT (mkAt l 0)) (mN (mkAt l 0)) = xd at PX rka ⊢
  generalize rn (mT (mkAt l 1)) (mN (mkAt l 1)) = yn at PY rkb ⊢
  generalize rd (mT (mkAt l 1)) (mN (mkAt l 1)) = yd at PY rkb ⊢
  have PE := Lib.hid (fun w => pexactR yn yd w (by have := rkb.1; omega) rkb.2.1.1 (by have := rkb.2.1.2; omega) rkb.2.2)
  obtain ⟨ad, rfl, hadb, ht0⟩ := hin.reads.mk (i := 0) hm0
  have ht0 : MkCells w ad (mkAt l 0) := ht0
  obtain ⟨ad', e', hadb', ht1⟩ := hin.reads.mk (i := 1) hm1
  obtain rfl := Option.some.inj e'
  have ht1 : MkCells w (ad.add (1 * 7)) (mkAt l 1) := ht1
  have hsb := (mvalid_iff.1 hMV).1.2
  have hs1 := oa.1
  have hs2 := oa.2.1
  generalize hma : mkAt l 0 = ma at ht0 PX PL hnx hs1 hs2
  generalize hmb : mkAt l 1 = mb at ht1 PY hnx
  obtain ⟨osq, otk, on, os, oq, olo, ohi⟩ := mb
  obtain ⟨sq, tk, n, s, q, lo, hi⟩ := ma
  dsimp only at PX PL PY hnx hs1 hs2
  have wsq : IntKind.i64.wrap (sq + 1) = sq + 1 := IntWalk.i64_in _ (by omega)
  have tsq : (osq == sq + 1) = true := by simp; omega
  replace PY := Lib.hid PY
  have HT1 := Lib.hid ht1
  have g1 : (1 : Int) < (m : Int) := by omega
  clear hma hmb hnx hs1 hs2 hsb ht1 e' rkb ob rb
  replace PX := Lib.hid PX
  replace PL := Lib.hid PL
  have HT0 := Lib.hid ht0
  have g0 : (0 : Int) < (m : Int) := by omega
  have mz : ((m : Int) == 0) = false := by simp; omega
  have P := fun w' (hb : Below w.heap.size w w') => pvalP (some ad) m c l wd k cap now seq w' (hin.below hb) sB
  rw [hv] at P
  replace P := Lib.hid P
  clear hv hin sB hMV hVL hl hne rka oa ra ht0 hlv
  go_enter Try.func33, Try.ntmps33
  go_upto_region 1 with (fail)
  have X : Row ((w.alloc (.cells #[.int .i64 wd, .int .i64 k, .int .i64 cap, .int .i64 now, .int .i64 seq, .slice (some ad) m c] 24)).alloc (.cells #[.int .i64 0, .int .i64 0, .int .i64 0, .int .i64 0, .int .i64 0, .int .i64 0] 45)) w.heap.size 24 #[.int .i64 wd, .int .i64 k, .int .i64 cap, .int .i64 now, .int .i64 seq, .slice (some ad) m c] := row_alloc (row_new rfl) _
  have R : Row ((w.alloc (.cells #[.int .i64 wd, .int .i64 k, .int .i64 cap, .int .i64 now, .int .i64 seq, .slice (some ad) m c] 24)).alloc (.cells #[.int .i64 0, .int .i64 0, .int .i64 0, .int .i64 0, .int .i64 0, .int .i64 0] 45)) (w.heap.size + 1) 45 #[.int .i64 0, .int .i64 0, .int .i64 0, .int .i64 0, .int .i64 0, .int .i64 0] := row_new (by simp)
  have o : Below w.heap.size w ((w.alloc (.cells #[.int .i64 wd, .int .i64 k, .int .i64 cap, .int .i64 now, .int .i64 seq, .slice (some ad) m c] 24)).alloc (.cells #[.int .i64 0, .int .i64 0, .int .i64 0, .int .i64 0, .int .i64 0, .int .i64 0] 45)) := by (repeat (first | exact Below.refl _ _ | refine Below.setCell ?_ (by first | (simp; done) | (simp; omega) | omega) _ | refine Below.alloc ?_ (by first | (simp; done) | (simp; omega) | omega) _ | refine Below.drew ?_ | refine Below.trans ?_ (Below.mono (by assumption) (by first | (simp; done) | (simp; omega) | omega))))
  generalize ((w.alloc (.cells #[.int .i64 wd, .int .i64 k, .int .i64 cap, .int .i64 now, .int .i64 seq, .slice (some ad) m c] 24)).alloc (.cells #[.int .i64 0, .int .i64 0, .int .i64 0, .int .i64 0, .int .i64 0, .int .i64 0] 45)) = w0 at X R o ⊢
  obtain ⟨X0, X1, X2, X3, X4, X5, Xf0, Xf1, Xf2, Xf3, Xf4, Xf5⟩ := row_six X
  go_wp2_with fail
  refine (P.out _ o).mono ?_
  rintro e w1 ⟨rfl, hb⟩
  replace X := row_call X hb
  replace R := row_call R hb
  replace o := o.trans (hb.mono o.size)
  clear hb X0 X1 X2 X3 X4 X5 Xf0 Xf1 Xf2 Xf3 Xf4 Xf5
  obtain ⟨q0, q1, q2, q3, q4, q5, q6⟩ := HT0.out.below o hadb
  dsimp only at q0 q1 q2 q3 q4 q5 q6
  obtain ⟨X0, X1, X2, X3, X4, X5, Xf0, Xf1, Xf2, Xf3, Xf4, Xf5⟩ := row_six X
  go_upto_region 7 with (fail)
  clear X0 X1 X2 X3 X4 X5 Xf0 Xf1 Xf2 Xf3 Xf4 Xf5
  have Fr : Row (w1.alloc (.cells #[.int .i64 sq, .int .i64 tk, .int .i64 n, .int .i64 s, .int .i64 q, .int .i64 lo, .int .i64 hi] 33)) w1.heap.size 33 #[.int .i64 sq, .int .i64 tk, .int .i64 n, .int .i64 s, .int .i64 q, .int .i64 lo, .int .i64 hi] := row_new rfl
  replace X := row_alloc X (.cells #[.int .i64 sq, .int .i64 tk, .int .i64 n, .int .i64 s, .int .i64 q, .int .i64 lo, .int .i64 hi] 33)
  replace R := row_alloc R (.cells #[.int .i64 sq, .int .i64 tk, .int .i64 n, .int .i64 s, .int .i64 q, .int .i64 lo, .int .i64 hi] 33)
  replace o := o.alloc o.size (.cells #[.int .i64 sq, .int .i64 tk, .int .i64 n, .int .i64 s, .int .i64 q, .int .i64 lo, .int .i64 hi] 33)
  generalize w1.alloc (.cells #[.int .i64 sq, .int .i64 tk, .int .i64 n, .int .i64 s, .int .i64 q, .int .i64 lo, .int .i64 hi] 33) = w2 at X R Fr o ⊢
  generalize w1.heap.size = fb at Fr ⊢
  clear q0 q1 q2 q3 q4 q5 q6
  obtain ⟨F0, F1, F2, F3, F4, F5, F6, Ff0, Ff1, Ff2, Ff3, Ff4, Ff5, Ff6⟩ := row_seven Fr
  go_wp2_with fail
  refine (PX.out _).mono ?_
  rintro e w3 ⟨rfl, hb⟩
  replace X := row_call X hb
  replace R := row_call R hb
  replace Fr := row_call Fr hb
  replace o := o.trans (hb.mono o.size)
  clear hb F0 F1 F2 F3 F4 F5 F6 Ff0 Ff1 Ff2 Ff3 Ff4 Ff5 Ff6
  go_upto_region 8 with (fail)
  have Hi : Row (w3.alloc (.cells #[.int .i64 xn, .int .i64 xd] 35)) w3.heap.size 35 #[.int .i64 xn, .int .i64 xd] := row_new rfl
  replace X := row_alloc X (.cells #[.int .i64 xn, .int .i64 xd] 35)
  replace R := row_alloc R (.cells #[.int .i64 xn, .int .i64 xd] 35)
  replace Fr := row_alloc Fr (.cells #[.int .i64 xn, .int .i64 xd] 35)
  replace o := o.alloc o.size (.cells #[.int .i64 xn, .int .i64 xd] 35)
  generalize w3.alloc (.cells #[.int .i64 xn, .int .i64 xd] 35) = w4 at X R Fr Hi o ⊢
  generalize w3.heap.size = ib at Hi ⊢
  obtain ⟨X0, X1, X2, X3, X4, X5, Xf0, Xf1, Xf2, Xf3, Xf4, Xf5⟩ := row_six X
  obtain ⟨F0, F1, F2, F3, F4, F5, F6, Ff0, Ff1, Ff2, Ff3, Ff4, Ff5, Ff6⟩ := row_seven Fr
  go_upto_region 10 with (go_at_call 77; with_reducible refine (PL.out _).mono ?_; rintro e w9 ⟨rfl, h9⟩; obtain rfl := h9.symm)
  obtain ⟨s0, s1, s2, s3, s4, s5, s6⟩ := HT1.out.below o hadb'
  dsimp only at s0 s1 s2 s3 s4 s5 s6
  replace s0 : w4.cell? ⟨ad.block, ad.off + 7, none⟩ = some (.int .i64 osq) := s0
  replace s1 : w4.cell? ⟨ad.block, ad.off + 7 + 1, none⟩ = some (.int .i64 otk) := s1
  replace s2 : w4.cell? ⟨ad.block, ad.off + 7 + 2, none⟩ = some (.int .i64 on) := s2
  replace s3 : w4.cell? ⟨ad.block, ad.off + 7 + 3, none⟩ = some (.int .i64 os) := s3
  replace s4 : w4.cell? ⟨ad.block, ad.off + 7 + 4, none⟩ = some (.int .i64 oq) := s4
  replace s5 : w4.cell? ⟨ad.block, ad.off + 7 + 5, none⟩ = some (.int .i64 olo) := s5
  replace s6 : w4.cell? ⟨ad.block, ad.off + 7 + 6, none⟩ = some (.int .i64 ohi) := s6
  clear X0 X1 X2 X3 X4 X5 Xf0 Xf1 Xf2 Xf3 Xf4 Xf5 F0 F1 F2 F3 F4 F5 F6 Ff0 Ff1 Ff2 Ff3 Ff4 Ff5 Ff6
  obtain ⟨X0, X1, X2, X3, X4, X5, Xf0, Xf1, Xf2, Xf3, Xf4, Xf5⟩ := row_six X
  go_upto_region 11 with (fail)
  clear X0 X1 X2 X3 X4 X5 Xf0 Xf1 Xf2 Xf3 Xf4 Xf5
  have Sr : Row (w4.alloc (.cells #[.int .i64 osq, .int .i64 otk, .int .i64 on, .int .i64 os, .int .i64 oq, .int .i64 olo, .int .i64 ohi] 33)) w4.heap.size 33 #[.int .i64 osq, .int .i64 otk, .int .i64 on, .int .i64 os, .int .i64 oq, .int .i64 olo, .int .i64 ohi] := row_new rfl
  replace X := row_alloc X (.cells #[.int .i64 osq, .int .i64 otk, .int .i64 on, .int .i64 os, .int .i64 oq, .int .i64 olo, .int .i64 ohi] 33)
  replace R := row_alloc R (.cells #[.int .i64 osq, .int .i64 otk, .int .i64 on, .int .i64 os, .int .i64 oq, .int .i64 olo, .int .i64 ohi] 33)
  replace Fr := row_alloc Fr (.cells #[.int .i64 osq, .int .i64 otk, .int .i64 on, .int .i64 os, .int .i64 oq, .int .i64 olo, .int .i64 ohi] 33)
  replace Hi := row_alloc Hi (.cells #[.int .i64 osq, .int .i64 otk, .int .i64 on, .int .i64 os, .int .i64 oq, .int .i64 olo, .int .i64 ohi] 33)
  replace o := o.alloc o.size (.cells #[.int .i64 osq, .int .i64 otk, .int .i64 on, .int .i64 os, .int .i64 oq, .int .i64 olo, .int .i64 ohi] 33)
  generalize w4.alloc (.cells #[.int .i64 osq, .int .i64 otk, .int .i64 on, .int .i64 os, .int .i64 oq, .int .i64 olo, .int .i64 ohi] 33) = w5 at X R Fr Hi Sr o ⊢
  generalize w4.heap.size = gb at Sr ⊢
  clear s0 s1 s2 s3 s4 s5 s6
  obtain ⟨S0, S1, S2, S3, S4, S5, S6, Sf0, Sf1, Sf2, Sf3, Sf4, Sf5, Sf6⟩ := row_seven Sr
  go_wp2_with fail
  refine (PY.out _).mono ?_
  rintro e w6 ⟨rfl, hb⟩
  replace X := row_call X hb
  replace R := row_call R hb
  replace Fr := row_call Fr hb
  replace Hi := row_call Hi hb
  replace Sr := row_call Sr hb
  replace o := o.trans (hb.mono o.size)
  clear hb S0 S1 S2 S3 S4 S5 S6 Sf0 Sf1 Sf2 Sf3 Sf4 Sf5 Sf6
  go_upto_region 12 with (fail)
  have Lo : Row (w6.alloc (.cells #[.int .i64 yn, .int .i64 yd] 35)) w6.heap.size 35 #[.int .i64 yn, .int .i64 yd] := row_new rfl
  replace X := row_alloc X (.cells #[.int .i64 yn, .int .i64 yd] 35)
  replace R := row_alloc R (.cells #[.int .i64 yn, .int .i64 yd] 35)
  replace Fr := row_alloc Fr (.cells #[.int .i64 yn, .int .i64 yd] 35)
  replace Hi := row_alloc Hi (.cells #[.int .i64 yn, .int .i64 yd] 35)
  replace Sr := row_alloc Sr (.cells #[.int .i64 yn, .int .i64 yd] 35)
  replace o := o.alloc o.size (.cells #[.int .i64 yn, .int .i64 yd] 35)
  generalize w6.alloc (.cells #[.int .i64 yn, .int .i64 yd] 35) = w7 at X R Fr Hi Sr Lo o ⊢
  generalize w6.heap.size = jb at Lo ⊢
  obtain ⟨F0, F1, F2, F3, F4, F5, F6, Ff0, Ff1, Ff2, Ff3, Ff4, Ff5, Ff6⟩ := row_seven Fr
  obtain ⟨S0, S1, S2, S3, S4, S5, S6, Sf0, Sf1, Sf2, Sf3, Sf4, Sf5, Sf6⟩ := row_seven Sr
  go_upto_region 13 with (fail)
  clear F0 F1 F2 F3 F4 F5 F6 Ff0 Ff1 Ff2 Ff3 Ff4 Ff5 Ff6 S0 S1 S2 S3 S4 S5 S6 Sf0 Sf1 Sf2 Sf3 Sf4 Sf5 Sf6
  obtain ⟨L0, L1, Lf0, Lf1⟩ := row_two Lo
  go_wp2_with fail
  refine (PE.out _).mono ?_
  rintro e w8 ⟨rfl, hb⟩
  replace X := row_call X hb
  replace R := row_call R hb
  replace Fr := row_call Fr hb
  replace Hi := row_call Hi hb
  replace Sr := row_call Sr hb
  replace Lo := row_call Lo hb
  replace o := o.trans (hb.mono o.size)
  clear hb L0 L1 Lf0 Lf1
  obtain ⟨R0, R1, R2, R3, R4, R5, Rf0, Rf1, Rf2, Rf3, Rf4, Rf5⟩ := row_six R
  go_wp2
  exact bodyPost_ret (v := .tuple #[.agg #[.int .i64 yn, .int .i64 yd, .int .i64 yn, .int .i64 yd, .int .i64 yn, .int .i64 yd], .int .i64 0]) (by simp [results, Try.results33, go_sem, List.getElem?_toArray, R0, R1, R2, R3, R4, R5]) rfl ⟨rfl, below_six o (by omega) _ _ _ _ _ _⟩
set_option maxRecDepth 100000 in
set_option maxHeartbeats 4000000 in
theorem pspask_w (A : Option Addr) (m c : Nat) (l : List Mk) (wd k cap now seq : Int) (w : World) (hin : MIn A m c l w) (sB : I64 seq) (hv : spvalE wd k cap now seq l = 0) (hm0 : 0 < m) (hlv : ¬ now - wd < (mkAt l 0).t) (hnx : ¬ (mkAt l 1).seq = (mkAt l 0).seq + 1) : Calls Try.prog 33 #[.agg #[.int .i64 wd, .int .i64 k, .int .i64 cap, .int .i64 now, .int .i64 seq, .slice A m c]] w fun e w' => e = .returned (askPV (spvalE wd k cap now seq l) (loT now wd l) (loN now wd l) (hiT now wd l) (hiN now wd l)) ∧ Below w.heap.size w w' := by
  obtain ⟨hG, hMV, _⟩ := of_spvalE hv
  obtain ⟨d0, d1, k0, k1, c0, c1, n0, n1⟩ := hG
  have hVL := (mvalid_iff.1 hMV).2
  have hl := hin.len
  have hne : l ≠ [] := fun e => by rw [e] at hl; simp at hl; omega
  have hm1 : 1 < m := by
    apply Nat.lt_of_not_le; intro hc
    obtain ⟨a, rfl⟩ : ∃ a, l = [a] := List.length_eq_one_iff.1 (by omega)
    exact hlv (hVL.alone a rfl)
  have e1 : loT now wd l = mT (mkAt l 1) := by unfold loT; rw [if_neg hne, if_neg hlv]
  have e2 : loN now wd l = mN (mkAt l 1) := by unfold loN; rw [if_neg hne, if_neg hlv]
  have e3 : hiT now wd l = mT (mkAt l 0) := by unfold hiT; rw [if_neg hne, if_neg hlv, if_neg hnx]
  have e4 : hiN now wd l = mN (mkAt l 0) := by unfold hiN; rw [if_neg hne, if_neg hlv, if_neg hnx]
  rw [e1, e2, e3, e4, hv]
  clear e1 e2 e3 e4
  have oa := hVL.one _ (mkAt_mem (l := l) (i := 0) (by omega))
  have ra := one_right oa c1
  have rka := rat_mark ra
  have PX := fun w => pofM ra w
  have PL := fun w => plive now wd (mkAt l 0).t w n0 n1 d0 d1 oa.2.2.2.2.1 oa.2.2.2.2.2.1
  rw [decide_eq_false hlv] at PL
  have ob := hVL.one _ (mkAt_mem (l := l) (i := 1) (by omega))
  have rb := one_right ob c1
  have rkb := rat_mark rb
  have PY := fun w => pofM rb w
  unfold askPV
  rw [if_pos rfl]
  generalize rn (mT (mkAt l 0)) (mN (mkAt l 0)) = xn at PX rka ⊢
  generalize rd (mT (mkAt l 0)) (mN (mkAt l 0)) = xd at PX rka ⊢
  generalize rn (mT (mkAt l 1)) (mN (mkAt l 1)) = yn at PY rkb ⊢
  generalize rd (mT (mkAt l 1)) (mN (mkAt l 1)) = yd at PY rkb ⊢
  obtain ⟨ad, rfl, hadb, ht0⟩ := hin.reads.mk (i := 0) hm0
  have ht0 : MkCells w ad (mkAt l 0) := ht0
  obtain ⟨ad', e', hadb', ht1⟩ := hin.reads.mk (i := 1) hm1
  obtain rfl := Option.some.inj e'
  have ht1 : MkCells w (ad.add (1 * 7)) (mkAt l 1) := ht1
  have hsb := (mvalid_iff.1 hMV).1.2
  have hs1 := oa.1
  have hs2 := oa.2.1
  generalize hma : mkAt l 0 = ma at ht0 PX PL hnx hs1 hs2
  generalize hmb : mkAt l 1 = mb at ht1 PY hnx
  obtain ⟨osq, otk, on, os, oq, olo, ohi⟩ := mb
  obtain ⟨sq, tk, n, s, q, lo, hi⟩ := ma
  dsimp only at PX PL PY hnx hs1 hs2
  have wsq : IntKind.i64.wrap (sq + 1) = sq + 1 := IntWalk.i64_in _ (by omega)
  have tsq : (osq == sq + 1) = false := by simp; omega
  replace PY := Lib.hid PY
  have HT1 := Lib.hid ht1
  have g1 : (1 : Int) < (m : Int) := by omega
  clear hma hmb hnx hs1 hs2 hsb ht1 e' rkb ob rb
  replace PX := Lib.hid PX
  replace PL := Lib.hid PL
  have HT0 := Lib.hid ht0
  have g0 : (0 : Int) < (m : Int) := by omega
  have mz : ((m : Int) == 0) = false := by simp; omega
  have P := fun w' (hb : Below w.heap.size w w') => pvalP (some ad) m c l wd k cap now seq w' (hin.below hb) sB
  rw [hv] at P
  replace P := Lib.hid P
  clear hv hin sB hMV hVL hl hne rka oa ra ht0 hlv
  go_enter Try.func33, Try.ntmps33
  go_upto_region 1 with (fail)
  have X : Row ((w.alloc (.cells #[.int .i64 wd, .int .i64 k, .int .i64 cap, .int .i64 now, .int .i64 seq, .slice (some ad) m c] 24)).alloc (.cells #[.int .i64 0, .int .i64 0, .int .i64 0, .int .i64 0, .int .i64 0, .int .i64 0] 45)) w.heap.size 24 #[.int .i64 wd, .int .i64 k, .int .i64 cap, .int .i64 now, .int .i64 seq, .slice (some ad) m c] := row_alloc (row_new rfl) _
  have R : Row ((w.alloc (.cells #[.int .i64 wd, .int .i64 k, .int .i64 cap, .int .i64 now, .int .i64 seq, .slice (some ad) m c] 24)).alloc (.cells #[.int .i64 0, .int .i64 0, .int .i64 0, .int .i64 0, .int .i64 0, .int .i64 0] 45)) (w.heap.size + 1) 45 #[.int .i64 0, .int .i64 0, .int .i64 0, .int .i64 0, .int .i64 0, .int .i64 0] := row_new (by simp)
  have o : Below w.heap.size w ((w.alloc (.cells #[.int .i64 wd, .int .i64 k, .int .i64 cap, .int .i64 now, .int .i64 seq, .slice (some ad) m c] 24)).alloc (.cells #[.int .i64 0, .int .i64 0, .int .i64 0, .int .i64 0, .int .i64 0, .int .i64 0] 45)) := by (repeat (first | exact Below.refl _ _ | refine Below.setCell ?_ (by first | (simp; done) | (simp; omega) | omega) _ | refine Below.alloc ?_ (by first | (simp; done) | (simp; omega) | omega) _ | refine Below.drew ?_ | refine Below.trans ?_ (Below.mono (by assumption) (by first | (simp; done) | (simp; omega) | omega))))
  generalize ((w.alloc (.cells #[.int .i64 wd, .int .i64 k, .int .i64 cap, .int .i64 now, .int .i64 seq, .slice (some ad) m c] 24)).alloc (.cells #[.int .i64 0, .int .i64 0, .int .i64 0, .int .i64 0, .int .i64 0, .int .i64 0] 45)) = w0 at X R o ⊢
  obtain ⟨X0, X1, X2, X3, X4, X5, Xf0, Xf1, Xf2, Xf3, Xf4, Xf5⟩ := row_six X
  go_wp2_with fail
  refine (P.out _ o).mono ?_
  rintro e w1 ⟨rfl, hb⟩
  replace X := row_call X hb
  replace R := row_call R hb
  replace o := o.trans (hb.mono o.size)
  clear hb X0 X1 X2 X3 X4 X5 Xf0 Xf1 Xf2 Xf3 Xf4 Xf5
  obtain ⟨q0, q1, q2, q3, q4, q5, q6⟩ := HT0.out.below o hadb
  dsimp only at q0 q1 q2 q3 q4 q5 q6
  obtain ⟨X0, X1, X2, X3, X4, X5, Xf0, Xf1, Xf2, Xf3, Xf4, Xf5⟩ := row_six X
  go_upto_region 7 with (fail)
  clear X0 X1 X2 X3 X4 X5 Xf0 Xf1 Xf2 Xf3 Xf4 Xf5
  have Fr : Row (w1.alloc (.cells #[.int .i64 sq, .int .i64 tk, .int .i64 n, .int .i64 s, .int .i64 q, .int .i64 lo, .int .i64 hi] 33)) w1.heap.size 33 #[.int .i64 sq, .int .i64 tk, .int .i64 n, .int .i64 s, .int .i64 q, .int .i64 lo, .int .i64 hi] := row_new rfl
  replace X := row_alloc X (.cells #[.int .i64 sq, .int .i64 tk, .int .i64 n, .int .i64 s, .int .i64 q, .int .i64 lo, .int .i64 hi] 33)
  replace R := row_alloc R (.cells #[.int .i64 sq, .int .i64 tk, .int .i64 n, .int .i64 s, .int .i64 q, .int .i64 lo, .int .i64 hi] 33)
  replace o := o.alloc o.size (.cells #[.int .i64 sq, .int .i64 tk, .int .i64 n, .int .i64 s, .int .i64 q, .int .i64 lo, .int .i64 hi] 33)
  generalize w1.alloc (.cells #[.int .i64 sq, .int .i64 tk, .int .i64 n, .int .i64 s, .int .i64 q, .int .i64 lo, .int .i64 hi] 33) = w2 at X R Fr o ⊢
  generalize w1.heap.size = fb at Fr ⊢
  clear q0 q1 q2 q3 q4 q5 q6
  obtain ⟨F0, F1, F2, F3, F4, F5, F6, Ff0, Ff1, Ff2, Ff3, Ff4, Ff5, Ff6⟩ := row_seven Fr
  go_wp2_with fail
  refine (PX.out _).mono ?_
  rintro e w3 ⟨rfl, hb⟩
  replace X := row_call X hb
  replace R := row_call R hb
  replace Fr := row_call Fr hb
  replace o := o.trans (hb.mono o.size)
  clear hb F0 F1 F2 F3 F4 F5 F6 Ff0 Ff1 Ff2 Ff3 Ff4 Ff5 Ff6
  go_upto_region 8 with (fail)
  have Hi : Row (w3.alloc (.cells #[.int .i64 xn, .int .i64 xd] 35)) w3.heap.size 35 #[.int .i64 xn, .int .i64 xd] := row_new rfl
  replace X := row_alloc X (.cells #[.int .i64 xn, .int .i64 xd] 35)
  replace R := row_alloc R (.cells #[.int .i64 xn, .int .i64 xd] 35)
  replace Fr := row_alloc Fr (.cells #[.int .i64 xn, .int .i64 xd] 35)
  replace o := o.alloc o.size (.cells #[.int .i64 xn, .int .i64 xd] 35)
  generalize w3.alloc (.cells #[.int .i64 xn, .int .i64 xd] 35) = w4 at X R Fr Hi o ⊢
  generalize w3.heap.size = ib at Hi ⊢
  obtain ⟨X0, X1, X2, X3, X4, X5, Xf0, Xf1, Xf2, Xf3, Xf4, Xf5⟩ := row_six X
  obtain ⟨F0, F1, F2, F3, F4, F5, F6, Ff0, Ff1, Ff2, Ff3, Ff4, Ff5, Ff6⟩ := row_seven Fr
  go_upto_region 10 with (go_at_call 77; with_reducible refine (PL.out _).mono ?_; rintro e w9 ⟨rfl, h9⟩; obtain rfl := h9.symm)
  obtain ⟨s0, s1, s2, s3, s4, s5, s6⟩ := HT1.out.below o hadb'
  dsimp only at s0 s1 s2 s3 s4 s5 s6
  replace s0 : w4.cell? ⟨ad.block, ad.off + 7, none⟩ = some (.int .i64 osq) := s0
  replace s1 : w4.cell? ⟨ad.block, ad.off + 7 + 1, none⟩ = some (.int .i64 otk) := s1
  replace s2 : w4.cell? ⟨ad.block, ad.off + 7 + 2, none⟩ = some (.int .i64 on) := s2
  replace s3 : w4.cell? ⟨ad.block, ad.off + 7 + 3, none⟩ = some (.int .i64 os) := s3
  replace s4 : w4.cell? ⟨ad.block, ad.off + 7 + 4, none⟩ = some (.int .i64 oq) := s4
  replace s5 : w4.cell? ⟨ad.block, ad.off + 7 + 5, none⟩ = some (.int .i64 olo) := s5
  replace s6 : w4.cell? ⟨ad.block, ad.off + 7 + 6, none⟩ = some (.int .i64 ohi) := s6
  clear X0 X1 X2 X3 X4 X5 Xf0 Xf1 Xf2 Xf3 Xf4 Xf5 F0 F1 F2 F3 F4 F5 F6 Ff0 Ff1 Ff2 Ff3 Ff4 Ff5 Ff6
  obtain ⟨X0, X1, X2, X3, X4, X5, Xf0, Xf1, Xf2, Xf3, Xf4, Xf5⟩ := row_six X
  go_upto_region 11 with (fail)
  clear X0 X1 X2 X3 X4 X5 Xf0 Xf1 Xf2 Xf3 Xf4 Xf5
  have Sr : Row (w4.alloc (.cells #[.int .i64 osq, .int .i64 otk, .int .i64 on, .int .i64 os, .int .i64 oq, .int .i64 olo, .int .i64 ohi] 33)) w4.heap.size 33 #[.int .i64 osq, .int .i64 otk, .int .i64 on, .int .i64 os, .int .i64 oq, .int .i64 olo, .int .i64 ohi] := row_new rfl
  replace X := row_alloc X (.cells #[.int .i64 osq, .int .i64 otk, .int .i64 on, .int .i64 os, .int .i64 oq, .int .i64 olo, .int .i64 ohi] 33)
  replace R := row_alloc R (.cells #[.int .i64 osq, .int .i64 otk, .int .i64 on, .int .i64 os, .int .i64 oq, .int .i64 olo, .int .i64 ohi] 33)
  replace Fr := row_alloc Fr (.cells #[.int .i64 osq, .int .i64 otk, .int .i64 on, .int .i64 os, .int .i64 oq, .int .i64 olo, .int .i64 ohi] 33)
  replace Hi := row_alloc Hi (.cells #[.int .i64 osq, .int .i64 otk, .int .i64 on, .int .i64 os, .int .i64 oq, .int .i64 olo, .int .i64 ohi] 33)
  replace o := o.alloc o.size (.cells #[.int .i64 osq, .int .i64 otk, .int .i64 on, .int .i64 os, .int .i64 oq, .int .i64 olo, .int .i64 ohi] 33)
  generalize w4.alloc (.cells #[.int .i64 osq, .int .i64 otk, .int .i64 on, .int .i64 os, .int .i64 oq, .int .i64 olo, .int .i64 ohi] 33) = w5 at X R Fr Hi Sr o ⊢
  generalize w4.heap.size = gb at Sr ⊢
  clear s0 s1 s2 s3 s4 s5 s6
  obtain ⟨S0, S1, S2, S3, S4, S5, S6, Sf0, Sf1, Sf2, Sf3, Sf4, Sf5, Sf6⟩ := row_seven Sr
  go_wp2_with fail
  refine (PY.out _).mono ?_
  rintro e w6 ⟨rfl, hb⟩
  replace X := row_call X hb
  replace R := row_call R hb
  replace Fr := row_call Fr hb
  replace Hi := row_call Hi hb
  replace Sr := row_call Sr hb
  replace o := o.trans (hb.mono o.size)
  clear hb S0 S1 S2 S3 S4 S5 S6 Sf0 Sf1 Sf2 Sf3 Sf4 Sf5 Sf6
  go_upto_region 12 with (fail)
  have Lo : Row (w6.alloc (.cells #[.int .i64 yn, .int .i64 yd] 35)) w6.heap.size 35 #[.int .i64 yn, .int .i64 yd] := row_new rfl
  replace X := row_alloc X (.cells #[.int .i64 yn, .int .i64 yd] 35)
  replace R := row_alloc R (.cells #[.int .i64 yn, .int .i64 yd] 35)
  replace Fr := row_alloc Fr (.cells #[.int .i64 yn, .int .i64 yd] 35)
  replace Hi := row_alloc Hi (.cells #[.int .i64 yn, .int .i64 yd] 35)
  replace Sr := row_alloc Sr (.cells #[.int .i64 yn, .int .i64 yd] 35)
  replace o := o.alloc o.size (.cells #[.int .i64 yn, .int .i64 yd] 35)
  generalize w6.alloc (.cells #[.int .i64 yn, .int .i64 yd] 35) = w7 at X R Fr Hi Sr Lo o ⊢
  generalize w6.heap.size = jb at Lo ⊢
  obtain ⟨F0, F1, F2, F3, F4, F5, F6, Ff0, Ff1, Ff2, Ff3, Ff4, Ff5, Ff6⟩ := row_seven Fr
  obtain ⟨S0, S1, S2, S3, S4, S5, S6, Sf0, Sf1, Sf2, Sf3, Sf4, Sf5, Sf6⟩ := row_seven Sr
  go_upto_region 14 with (fail)
  clear F0 F1 F2 F3 F4 F5 F6 Ff0 Ff1 Ff2 Ff3 Ff4 Ff5 Ff6 S0 S1 S2 S3 S4 S5 S6 Sf0 Sf1 Sf2 Sf3 Sf4 Sf5 Sf6
  obtain ⟨L0, L1, Lf0, Lf1⟩ := row_two Lo
  obtain ⟨H0, H1, Hf0, Hf1⟩ := row_two Hi
  obtain ⟨R0, R1, R2, R3, R4, R5, Rf0, Rf1, Rf2, Rf3, Rf4, Rf5⟩ := row_six R
  go_wp2
  exact bodyPost_ret (v := .tuple #[.agg #[.int .i64 yn, .int .i64 yd, .int .i64 yn, .int .i64 yd, .int .i64 xn, .int .i64 xd], .int .i64 0]) (by simp [results, Try.results33, go_sem, List.getElem?_toArray, R0, R1, R2, R3, R4, R5]) rfl ⟨rfl, below_six o (by omega) _ _ _ _ _ _⟩
theorem pspask (A : Option Addr) (m c : Nat) (l : List Mk) (wd k cap now seq : Int) (w : World) (hin : MIn A m c l w) (sB : I64 seq) : Calls Try.prog 33 #[.agg #[.int .i64 wd, .int .i64 k, .int .i64 cap, .int .i64 now, .int .i64 seq, .slice A m c]] w fun e w' => e = .returned (askPV (spvalE wd k cap now seq l) (loT now wd l) (loN now wd l) (hiT now wd l) (hiN now wd l)) ∧ Below w.heap.size w w' := by
  rcases spvalE_two (wd := wd) (k := k) (cap := cap) (now := now) (seq := seq) (l := l) with hv | hv
  · by_cases m0 : m = 0
    · subst m0; exact pspask_z A c l wd k cap now seq w hin sB hv
    · by_cases hlv : now - wd < (mkAt l 0).t
      · exact pspask_l A m c l wd k cap now seq w hin sB hv (by omega) hlv
      · by_cases hnx : (mkAt l 1).seq = (mkAt l 0).seq + 1
        · exact pspask_n A m c l wd k cap now seq w hin sB hv (by omega) hlv hnx
        · exact pspask_w A m c l wd k cap now seq w hin sB hv (by omega) hlv hnx
  · exact pspask_a A m c l wd k cap now seq w hin sB hv
end Go.Proofs.Ytaiepjcnncajcaa
end
section
/- A law on statements whose order is open and whose last operations wait for all the others: the operations ahead of them are taken in whatever order, a condition S on the world holding behind each of them; the last ones stand in their own order, and S need not outlive them. -/
set_option linter.unusedVariables false
set_option linter.unusedSimpArgs false
set_option linter.unusedSectionVars false
set_option linter.unnecessarySimpa false
namespace Go.Proofs.Ytaiepjcnncajcaa
open Go.RowKit
section
variable {P : Program} {ops : Array Oper} {md : Region.Mode} {S : World → Prop} {Q : Exit → Act → World → Prop} {n g : Nat} {tail : List Oper}
/-- What is left of the operations ahead, in whatever order; then the last ones. -/
def HeadW (P : Program) (md : Region.Mode) (ops : Array Oper) (S : World → Prop) (Q : Exit → Act → World → Prop) (n g : Nat) (tail : List Oper) : Nat → Array Bool → Act → World → Prop
  | 0, listed, a, w => Region.seqB md ops g n listed = true ∧ wpList P ops Q tail a w
  | f + 1, listed, a, w => Region.ready md ops listed ≠ [] ∧ ∀ i ∈ Region.ready md ops listed, i < n ∧ wpOp P ops Q i (fun a' w' => S w' ∧ HeadW P md ops S Q n g tail f (listed.setIfInBounds i true) a' w') a w
theorem headW_any (hg : tail.length = g) (ht : ∀ j, tail[j]? = ops[n + j]?) : ∀ (f : Nat) (listed : Array Bool) (a : Act) (w : World), HeadW P md ops S Q n g tail f listed a w → wpAny P md ops Q (f + g) listed a w
  | 0, listed, a, w, h => by
    rw [Nat.zero_add]
    subst hg
    exact wpAny_of_seq tail n listed a w ht h.1 h.2
  | f + 1, listed, a, w, h => by
    rw [show f + 1 + g = (f + g) + 1 from by omega]
    exact ⟨fun h0 => absurd h0 h.1, fun i hi => wpOp_mono (fun a' w' h' => headW_any hg ht f _ a' w' h'.2) (h.2 i hi).2⟩
/-- The conditions on the statement. -/
structure PhaseOK (md : Region.Mode) (ops : Array Oper) (n : Nat) : Prop where
  sel : Region.noSelect ops = true
  sink : Region.sinkB md ops n = true
  chain : Region.chainB md ops n = true
  lt : n < ops.size
theorem headW_first (ok : PhaseOK md ops n) {i : Nat} {oi : Oper} {v : Value} (hi : ops[i]? = some oi) (hin : i < n) (hQ : ∀ c a w, Q (.panic c) (a.put oi.dst v) w → Q (.panic c) a w) :
    ∀ (f : Nat) (listed : Array Bool) (a : Act) (w : World), HeadInv md ops n listed →
      (∀ j oj, ops[j]? = some oj → j ≠ i → listed.getD j true = false → (∀ e ∈ oj.after, Region.binds md e = true → e.on ≠ i) → oi.apart ops oj = true) →
      i ∈ Region.ready md ops listed → YieldsIf P ops S oi v a → S w → HeadW P md ops S Q n g tail f (listed.setIfInBounds i true) (a.put oi.dst v) w → HeadW P md ops S Q n g tail (f + 1) listed a w := by
  have hsel := Region.noSelect_spec ok.sel
  intro f
  induction f with
  | zero =>
    intro listed a w inv _ hr hy hS H
    refine ⟨fun h0 => by rw [h0] at hr; exact absurd hr (by simp), fun j hj => ?_⟩
    have hjn : j < n := Nat.lt_of_not_le fun hle => tail_waits ok.sink ok.chain ok.lt inv _ i rfl hin (mem_ready.1 hr).1 j hle hj
    by_cases hji : j = i
    · subst hji
      exact ⟨hjn, hy.wpOp hi hS ⟨hS, H⟩⟩
    · exact absurd (seqB_ready H.1 j (ready_mono hj hji)) (by omega)
  | succ f ih =>
    intro listed a w inv hfree hr hy hS H
    refine ⟨fun h0 => by rw [h0] at hr; exact absurd hr (by simp), fun j hj => ?_⟩
    have hun := (mem_ready.1 hr).1
    have hjn : j < n := Nat.lt_of_not_le fun hle => tail_waits ok.sink ok.chain ok.lt inv _ i rfl hin hun j hle hj
    by_cases hji : j = i
    · subst hji
      exact ⟨hjn, hy.wpOp hi hS ⟨hS, H⟩⟩
    · have h1 := (H.2 j (ready_mono hj hji)).2
      obtain ⟨hjun, oj, hoj, hall⟩ := mem_ready.1 hj
      have hnot : ∀ e ∈ oj.after, Region.binds md e = true → e.on ≠ i := fun e he hb heq => by
        have h1 := hall e he hb
        rw [heq, getD_both hun] at h1
        cases h1
      have h2 := wpOp_putIf hoj (hfree j oj hoj hji hjun hnot) (fun cs b => hsel i oi cs b hi) (fun cs b => hsel j oj cs b hoj) hQ hy h1
      refine ⟨hjn, wpOp_mono (fun a' w' h3 => ⟨h3.2.1, ih (listed.setIfInBounds j true) a' w' (inv.set hj hjn) (fun k ok' hk hki hku hno => ?_) (ready_mono hr (Ne.symm hji)) h3.1 h3.2.1 ?_⟩) h2⟩
      · refine hfree k ok' hk hki ?_ hno
        by_cases hjk : j = k
        · subst hjk
          exact hjun
        · rw [getD_set_ne true hjk] at hku
          exact hku
      · rw [Array.setIfInBounds_comm _ _ hji]
        exact h3.2.2
/-- The same, where what is listed hangs together. -/
def HW (P : Program) (md : Region.Mode) (ops : Array Oper) (S : World → Prop) (Q : Exit → Act → World → Prop) (n g : Nat) (tail : List Oper) (f : Nat) (listed : Array Bool) (a : Act) (w : World) : Prop :=
  HeadInv md ops n listed → HeadW P md ops S Q n g tail f listed a w
variable {f : Nat} {listed : Array Bool} {a : Act} {w : World}
/-- An operation that gives one value in every world that meets S is taken first. -/
theorem hw_take (ok : PhaseOK md ops n) {i : Nat} {oi : Oper} (v : Value) (hi : ops[i]? = some oi) (hin : i < n) (hf : Region.free md ops listed i = true) (hr : (Region.ready md ops listed).contains i = true)
    (hQ : ∀ c a w, Q (.panic c) (a.put oi.dst v) w → Q (.panic c) a w) (hy : YieldsIf P ops S oi v a) (hS : S w) (h : HW P md ops S Q n g tail f (listed.setIfInBounds i true) (a.put oi.dst v) w) : HW P md ops S Q n g tail (f + 1) listed a w := fun inv =>
  have hr' : i ∈ Region.ready md ops listed := by simpa using hr
  headW_first ok hi hin hQ f listed a w inv (Region.free_spec hi hf) hr' hy hS (h (inv.set hr' hin))
/-- One operation alone may come up. -/
theorem hw_one {i : Nat} {oi : Oper} (hi : ops[i]? = some oi) (hin : i < n) (hr : Region.ready md ops listed = [i])
    (h : ∀ K : Act → World → Prop, (∀ a' w', S w' → HW P md ops S Q n g tail f (listed.setIfInBounds i true) a' w' → K a' w') → if Region.wanted oi (yielded ops a.tmps) = true then Oper.wp P oi a w K Q else K (a.put oi.dst undef) w) : HW P md ops S Q n g tail (f + 1) listed a w := fun inv => by
  refine ⟨by rw [hr]; simp, fun j hj => ?_⟩
  have hj' := hj
  rw [hr] at hj
  obtain rfl : j = i := by simpa using hj
  refine ⟨hin, ?_⟩
  have := h (fun a' w' => S w' ∧ HeadW P md ops S Q n g tail f (listed.setIfInBounds j true) a' w') (fun a' w' hS hh => ⟨hS, hh (inv.set hj' hin)⟩)
  unfold wpOp
  simp only [hi]
  split at this
  · rename_i hw
    simp only [hw, if_true]
    exact .inl this
  · rename_i hw
    simp only [hw]
    exact this
theorem hw_done (hB : Region.seqB md ops g n listed = true) (h : wpList P ops Q tail a w) : HW P md ops S Q n g tail 0 listed a w := fun _ => ⟨hB, h⟩
/-- The statement: n operations ahead of those that wait. -/
theorem wp_region_phase {id : Nat} {l : List Oper} (n : Nat) (S : World → Prop) (hm : P.follows .mixedOrders = true) (hsel : Region.noSelect l.toArray = true) (hs : Region.sinkB .any l.toArray n = true) (hc : Region.chainB .any l.toArray n = true) (hn : decide (n < l.toArray.size) = true)
    (h : PhaseOK .any l.toArray n → HW P .any l.toArray S Q n (l.drop n).length (l.drop n) n (Array.replicate l.toArray.size false) a w.drew) : (Code.region id l.toArray true).wp P Q a w := by
  have hn := of_decide_eq_true hn
  refine wp_region_any hm ?_
  have inv0 : HeadInv .any l.toArray n (Array.replicate l.toArray.size false) :=
    ⟨by simp, fun j oj _ hl => (by rw [getD_replicate_false] at hl; cases hl), fun t _ ht => getD_in (by simpa using ht) (getD_replicate_false _ _)⟩
  have H := headW_any (P := P) (S := S) (Q := Q) (md := .any) (ops := l.toArray) (n := n) (tail := l.drop n) rfl (fun j => by simp [List.getElem?_drop]) n _ a _ (h ⟨hsel, hs, hc, hn⟩ inv0)
  have e : n + (l.drop n).length = l.toArray.size := by
    have : n < l.length := by simpa using hn
    simp
    omega
  rw [e] at H
  exact H
end
end Go.Proofs.Ytaiepjcnncajcaa
end
section
/- The law of Phase with one operation (u) behind which the condition S need not hold: what stands behind it hangs on no load. -/
set_option linter.unusedVariables false
set_option linter.unusedSimpArgs false
set_option linter.unusedSectionVars false
set_option linter.unnecessarySimpa false
namespace Go.Proofs.Ytaiepjcnncajcaa
open Go.RowKit
section
variable {P : Program} {ops : Array Oper} {md : Region.Mode} {S : World → Prop} {Q : Exit → Act → World → Prop} {n g u : Nat} {tail : List Oper}
/-- What is left of the operations ahead, in whatever order; then the last ones. -/
def HeadU (P : Program) (md : Region.Mode) (ops : Array Oper) (S : World → Prop) (Q : Exit → Act → World → Prop) (n g u : Nat) (tail : List Oper) : Nat → Array Bool → Act → World → Prop
  | 0, listed, a, w => Region.seqB md ops g n listed = true ∧ wpList P ops Q tail a w
  | f + 1, listed, a, w => Region.ready md ops listed ≠ [] ∧ ∀ i ∈ Region.ready md ops listed, i < n ∧ wpOp P ops Q i (fun a' w' => ((listed.setIfInBounds i true).getD u true = false → S w') ∧ HeadU P md ops S Q n g u tail f (listed.setIfInBounds i true) a' w') a w
theorem headU_any (hg : tail.length = g) (ht : ∀ j, tail[j]? = ops[n + j]?) : ∀ (f : Nat) (listed : Array Bool) (a : Act) (w : World), HeadU P md ops S Q n g u tail f listed a w → wpAny P md ops Q (f + g) listed a w
  | 0, listed, a, w, h => by
    rw [Nat.zero_add]
    subst hg
    exact wpAny_of_seq tail n listed a w ht h.1 h.2
  | f + 1, listed, a, w, h => by
    rw [show f + 1 + g = (f + g) + 1 from by omega]
    exact ⟨fun h0 => absurd h0 h.1, fun i hi => wpOp_mono (fun a' w' h' => headU_any hg ht f _ a' w' h'.2) (h.2 i hi).2⟩
theorem headU_first (ok : PhaseOK md ops n) {i : Nat} {oi : Oper} {v : Value} (hi : ops[i]? = some oi) (hin : i < n) (hui : u ≠ i) (hd : ∃ ou, ops[u]? = some ou ∧ ∃ e ∈ ou.after, Region.binds md e = true ∧ e.on = i) (hQ : ∀ c a w, Q (.panic c) (a.put oi.dst v) w → Q (.panic c) a w) :
    ∀ (f : Nat) (listed : Array Bool) (a : Act) (w : World), HeadInv md ops n listed → listed.getD u true = false →
      (∀ j oj, ops[j]? = some oj → j ≠ i → listed.getD j true = false → (∀ e ∈ oj.after, Region.binds md e = true → e.on ≠ i) → oi.apart ops oj = true) →
      i ∈ Region.ready md ops listed → YieldsIf P ops S oi v a → S w → HeadU P md ops S Q n g u tail f (listed.setIfInBounds i true) (a.put oi.dst v) w → HeadU P md ops S Q n g u tail (f + 1) listed a w := by
  have hsel := Region.noSelect_spec ok.sel
  have gi : ∀ listed : Array Bool, (listed.setIfInBounds i true).getD u true = listed.getD u true := fun listed => getD_set_ne true (Ne.symm hui)
  intro f
  induction f with
  | zero =>
    intro listed a w inv hul _ hr hy hS H
    refine ⟨fun h0 => by rw [h0] at hr; exact absurd hr (by simp), fun j hj => ?_⟩
    have hjn : j < n := Nat.lt_of_not_le fun hle => tail_waits ok.sink ok.chain ok.lt inv _ i rfl hin (mem_ready.1 hr).1 j hle hj
    by_cases hji : j = i
    · subst hji
      exact ⟨hjn, hy.wpOp hi hS ⟨fun _ => hS, H⟩⟩
    · exact absurd (seqB_ready H.1 j (ready_mono hj hji)) (by omega)
  | succ f ih =>
    intro listed a w inv hul hfree hr hy hS H
    refine ⟨fun h0 => by rw [h0] at hr; exact absurd hr (by simp), fun j hj => ?_⟩
    have hun := (mem_ready.1 hr).1
    have hjn : j < n := Nat.lt_of_not_le fun hle => tail_waits ok.sink ok.chain ok.lt inv _ i rfl hin hun j hle hj
    by_cases hji : j = i
    · subst hji
      exact ⟨hjn, hy.wpOp hi hS ⟨fun _ => hS, H⟩⟩
    · have h1 := (H.2 j (ready_mono hj hji)).2
      obtain ⟨hjun, oj, hoj, hall⟩ := mem_ready.1 hj
      have hnot : ∀ e ∈ oj.after, Region.binds md e = true → e.on ≠ i := fun e he hb heq => by
        have h1 := hall e he hb
        rw [heq, getD_both hun] at h1
        cases h1
      have hju : j ≠ u := fun e => by
        obtain ⟨ou, hou, e1, he1, hb1, hon1⟩ := hd
        subst e
        rw [hoj] at hou
        cases hou
        exact hnot e1 he1 hb1 hon1
      have gj : (listed.setIfInBounds j true).getD u true = false := by rw [getD_set_ne true hju]; exact hul
      have h2 := wpOp_putIf hoj (hfree j oj hoj hji hjun hnot) (fun cs b => hsel i oi cs b hi) (fun cs b => hsel j oj cs b hoj) hQ hy h1
      have gij : ((listed.setIfInBounds i true).setIfInBounds j true).getD u true = (listed.setIfInBounds j true).getD u true := by rw [Array.setIfInBounds_comm _ _ (Ne.symm hji), gi]
      have cont : ∀ a' w', (YieldsIf P ops S oi v a' ∧ ((((listed.setIfInBounds i true).setIfInBounds j true).getD u true = false → S w') ∧ HeadU P md ops S Q n g u tail f ((listed.setIfInBounds i true).setIfInBounds j true) (a'.put oi.dst v) w')) → (((listed.setIfInBounds j true).getD u true = false → S w') ∧ HeadU P md ops S Q n g u tail (f + 1) (listed.setIfInBounds j true) a' w') := by
        intro a' w' h3
        have hS' : (listed.setIfInBounds j true).getD u true = false → S w' := fun h => h3.2.1 (by rw [gij]; exact h)
        refine ⟨hS', ih (listed.setIfInBounds j true) a' w' (inv.set hj hjn) gj (fun k ok' hk hki hku hno => ?_) (ready_mono hr (Ne.symm hji)) h3.1 (hS' gj) ?_⟩
        · refine hfree k ok' hk hki ?_ hno
          by_cases hjk : j = k
          · subst hjk
            exact hjun
          · rw [getD_set_ne true hjk] at hku
            exact hku
        · rw [Array.setIfInBounds_comm _ _ hji]
          exact h3.2.2
      exact ⟨hjn, wpOp_mono cont h2⟩
theorem headU_pure (ok : PhaseOK md ops n) {i : Nat} {oi : Oper} {v : Value} (hi : ops[i]? = some oi) (hin : i < n) (hui : u ≠ i) (hQ : ∀ c a w, Q (.panic c) (a.put oi.dst v) w → Q (.panic c) a w) :
    ∀ (f : Nat) (listed : Array Bool) (a : Act) (w : World), HeadInv md ops n listed →
      (∀ j oj, ops[j]? = some oj → j ≠ i → listed.getD j true = false → (∀ e ∈ oj.after, Region.binds md e = true → e.on ≠ i) → oi.apart ops oj = true) →
      i ∈ Region.ready md ops listed → YieldsIf P ops (fun _ => True) oi v a → (listed.getD u true = false → S w) → HeadU P md ops S Q n g u tail f (listed.setIfInBounds i true) (a.put oi.dst v) w → HeadU P md ops S Q n g u tail (f + 1) listed a w := by
  have hsel := Region.noSelect_spec ok.sel
  have gi : ∀ listed : Array Bool, (listed.setIfInBounds i true).getD u true = listed.getD u true := fun listed => getD_set_ne true (Ne.symm hui)
  intro f
  induction f with
  | zero =>
    intro listed a w inv _ hr hy hS H
    refine ⟨fun h0 => by rw [h0] at hr; exact absurd hr (by simp), fun j hj => ?_⟩
    have hjn : j < n := Nat.lt_of_not_le fun hle => tail_waits ok.sink ok.chain ok.lt inv _ i rfl hin (mem_ready.1 hr).1 j hle hj
    by_cases hji : j = i
    · subst hji
      exact ⟨hjn, hy.wpOp hi trivial ⟨fun h => hS (by rw [← gi]; exact h), H⟩⟩
    · exact absurd (seqB_ready H.1 j (ready_mono hj hji)) (by omega)
  | succ f ih =>
    intro listed a w inv hfree hr hy hS H
    refine ⟨fun h0 => by rw [h0] at hr; exact absurd hr (by simp), fun j hj => ?_⟩
    have hun := (mem_ready.1 hr).1
    have hjn : j < n := Nat.lt_of_not_le fun hle => tail_waits ok.sink ok.chain ok.lt inv _ i rfl hin hun j hle hj
    by_cases hji : j = i
    · subst hji
      exact ⟨hjn, hy.wpOp hi trivial ⟨fun h => hS (by rw [← gi]; exact h), H⟩⟩
    · have h1 := (H.2 j (ready_mono hj hji)).2
      obtain ⟨hjun, oj, hoj, hall⟩ := mem_ready.1 hj
      have hnot : ∀ e ∈ oj.after, Region.binds md e = true → e.on ≠ i := fun e he hb heq => by
        have h1 := hall e he hb
        rw [heq, getD_both hun] at h1
        cases h1
      have h2 := wpOp_putIf hoj (hfree j oj hoj hji hjun hnot) (fun cs b => hsel i oi cs b hi) (fun cs b => hsel j oj cs b hoj) hQ hy h1
      have gij : ((listed.setIfInBounds i true).setIfInBounds j true).getD u true = (listed.setIfInBounds j true).getD u true := by rw [Array.setIfInBounds_comm _ _ (Ne.symm hji), gi]
      have cont : ∀ a' w', (YieldsIf P ops (fun _ => True) oi v a' ∧ ((((listed.setIfInBounds i true).setIfInBounds j true).getD u true = false → S w') ∧ HeadU P md ops S Q n g u tail f ((listed.setIfInBounds i true).setIfInBounds j true) (a'.put oi.dst v) w')) → (((listed.setIfInBounds j true).getD u true = false → S w') ∧ HeadU P md ops S Q n g u tail (f + 1) (listed.setIfInBounds j true) a' w') := by
        intro a' w' h3
        have hS' : (listed.setIfInBounds j true).getD u true = false → S w' := fun h => h3.2.1 (by rw [gij]; exact h)
        refine ⟨hS', ih (listed.setIfInBounds j true) a' w' (inv.set hj hjn) (fun k ok' hk hki hku hno => ?_) (ready_mono hr (Ne.symm hji)) h3.1 hS' ?_⟩
        · refine hfree k ok' hk hki ?_ hno
          by_cases hjk : j = k
          · subst hjk
            exact hjun
          · rw [getD_set_ne true hjk] at hku
            exact hku
        · rw [Array.setIfInBounds_comm _ _ hji]
          exact h3.2.2
      exact ⟨hjn, wpOp_mono cont h2⟩
/-- The same, where what is listed hangs together. -/
def HU (P : Program) (md : Region.Mode) (ops : Array Oper) (S : World → Prop) (Q : Exit → Act → World → Prop) (n g u : Nat) (tail : List Oper) (f : Nat) (listed : Array Bool) (a : Act) (w : World) : Prop :=
  HeadInv md ops n listed → HeadU P md ops S Q n g u tail f listed a w
variable {f : Nat} {listed : Array Bool} {a : Act} {w : World}
/-- An operation that u waits for, and that gives one value in every world that meets S, is taken first. -/
theorem hu_take (ok : PhaseOK md ops n) {i : Nat} {oi : Oper} (v : Value) (hi : ops[i]? = some oi) (hin : i < n) (hui : u ≠ i) {ou : Oper} (hou : ops[u]? = some ou) (hd : (ou.after.any fun e => Region.binds md e && e.on == i) = true) (hul : listed.getD u true = false) (hf : Region.free md ops listed i = true) (hr : (Region.ready md ops listed).contains i = true)
    (hQ : ∀ c a w, Q (.panic c) (a.put oi.dst v) w → Q (.panic c) a w) (hy : YieldsIf P ops S oi v a) (hS : S w) (h : HU P md ops S Q n g u tail f (listed.setIfInBounds i true) (a.put oi.dst v) w) : HU P md ops S Q n g u tail (f + 1) listed a w := fun inv =>
  have hr' : i ∈ Region.ready md ops listed := by simpa using hr
  have hd' : ∃ ou, ops[u]? = some ou ∧ ∃ e ∈ ou.after, Region.binds md e = true ∧ e.on = i := by
    obtain ⟨e, he, hb⟩ := Array.any_eq_true'.1 hd
    simp only [Bool.and_eq_true, beq_iff_eq] at hb
    exact ⟨ou, hou, e, he, hb.1, hb.2⟩
  headU_first ok hi hin hui hd' hQ f listed a w inv hul (Region.free_spec hi hf) hr' hy hS (h (inv.set hr' hin))
/-- A pure operation is taken first. -/
theorem hu_pure (ok : PhaseOK md ops n) {i : Nat} {oi : Oper} (v : Value) (hi : ops[i]? = some oi) (hin : i < n) (hui : u ≠ i) (hf : Region.free md ops listed i = true) (hr : (Region.ready md ops listed).contains i = true)
    (hQ : ∀ c a w, Q (.panic c) (a.put oi.dst v) w → Q (.panic c) a w) (hy : YieldsIf P ops (fun _ => True) oi v a) (hS : S w) (h : HU P md ops S Q n g u tail f (listed.setIfInBounds i true) (a.put oi.dst v) w) : HU P md ops S Q n g u tail (f + 1) listed a w := fun inv =>
  have hr' : i ∈ Region.ready md ops listed := by simpa using hr
  headU_pure ok hi hin hui hQ f listed a w inv (Region.free_spec hi hf) hr' hy (fun _ => hS) (h (inv.set hr' hin))
/-- One operation alone may come up. -/
theorem hu_one {i : Nat} {oi : Oper} (hi : ops[i]? = some oi) (hin : i < n) (hr : Region.ready md ops listed = [i])
    (h : ∀ K : Act → World → Prop, (∀ a' w', S w' → HU P md ops S Q n g u tail f (listed.setIfInBounds i true) a' w' → K a' w') → if Region.wanted oi (yielded ops a.tmps) = true then Oper.wp P oi a w K Q else K (a.put oi.dst undef) w) : HU P md ops S Q n g u tail (f + 1) listed a w := fun inv => by
  refine ⟨by rw [hr]; simp, fun j hj => ?_⟩
  have hj' := hj
  rw [hr] at hj
  obtain rfl : j = i := by simpa using hj
  refine ⟨hin, ?_⟩
  have := h (fun a' w' => ((listed.setIfInBounds j true).getD u true = false → S w') ∧ HeadU P md ops S Q n g u tail f (listed.setIfInBounds j true) a' w') (fun a' w' hS hh => ⟨fun _ => hS, hh (inv.set hj' hin)⟩)
  unfold wpOp
  simp only [hi]
  split at this
  · rename_i hw
    simp only [hw, if_true]
    exact .inl this
  · rename_i hw
    simp only [hw]
    exact this
/-- The operation u comes up alone: behind it nothing is asked. -/
theorem hu_last {oi : Oper} (hi : ops[u]? = some oi) (hin : u < n) (hr : Region.ready md ops listed = [u]) (hl : u < listed.size)
    (h : ∀ K : Act → World → Prop, (∀ a' w', HU P md ops S Q n g u tail f (listed.setIfInBounds u true) a' w' → K a' w') → if Region.wanted oi (yielded ops a.tmps) = true then Oper.wp P oi a w K Q else K (a.put oi.dst undef) w) : HU P md ops S Q n g u tail (f + 1) listed a w := fun inv => by
  refine ⟨by rw [hr]; simp, fun j hj => ?_⟩
  have hj' := hj
  rw [hr] at hj
  obtain rfl : j = u := by simpa using hj
  refine ⟨hin, ?_⟩
  have gu : (listed.setIfInBounds j true).getD j true = true := by simp [Array.getD]
  have := h (fun a' w' => ((listed.setIfInBounds j true).getD j true = false → S w') ∧ HeadU P md ops S Q n g j tail f (listed.setIfInBounds j true) a' w') (fun a' w' hh => ⟨fun e => (by rw [gu] at e; cases e), hh (inv.set hj' hin)⟩)
  unfold wpOp
  simp only [hi]
  split at this
  · rename_i hw
    simp only [hw, if_true]
    exact .inl this
  · rename_i hw
    simp only [hw]
    exact this
theorem hu_done (hB : Region.seqB md ops g n listed = true) (h : wpList P ops Q tail a w) : HU P md ops S Q n g u tail 0 listed a w := fun _ => ⟨hB, h⟩
/-- The statement: n operations ahead of those that wait. -/
theorem wp_region_phase_u {id : Nat} {l : List Oper} (n u : Nat) (S : World → Prop) (hm : P.follows .mixedOrders = true) (hsel : Region.noSelect l.toArray = true) (hs : Region.sinkB .any l.toArray n = true) (hc : Region.chainB .any l.toArray n = true) (hn : decide (n < l.toArray.size) = true)
    (h : PhaseOK .any l.toArray n → HU P .any l.toArray S Q n (l.drop n).length u (l.drop n) n (Array.replicate l.toArray.size false) a w.drew) : (Code.region id l.toArray true).wp P Q a w := by
  have hn := of_decide_eq_true hn
  refine wp_region_any hm ?_
  have inv0 : HeadInv .any l.toArray n (Array.replicate l.toArray.size false) :=
    ⟨by simp, fun j oj _ hl => (by rw [getD_replicate_false] at hl; cases hl), fun t _ ht => getD_in (by simpa using ht) (getD_replicate_false _ _)⟩
  have H := headU_any (P := P) (S := S) (Q := Q) (md := .any) (ops := l.toArray) (n := n) (u := u) (tail := l.drop n) rfl (fun j => by simp [List.getElem?_drop]) n _ a _ (h ⟨hsel, hs, hc, hn⟩ inv0)
  have e : n + (l.drop n).length = l.toArray.size := by
    have : n < l.length := by simpa using hn
    simp
    omega
  rw [e] at H
  exact H
end
end Go.Proofs.Ytaiepjcnncajcaa
end
section
/- Spread histograms: the law SmoothTruth, walked. -/
set_option linter.unusedVariables false
set_option linter.unusedSimpArgs false
set_option linter.unusedSectionVars false
set_option linter.unnecessarySimpa false
namespace Go.Proofs.Ytaiepjcnncajcaa
open Go.RowKit
theorem orow_sx {w : World} {base : Nat} {e : TypeId} {size b : Nat} {v : Value} {n : Nat} {xs : List Value} (h : w.ownsRow base e size v n xs) (hne : v.ownBlock ≠ some b) (u0 u1 u2 u3 u4 u5 : Value) : ((((((w.setCell ⟨b, 0, none⟩ u0).setCell ⟨b, 1, none⟩ u1).setCell ⟨b, 2, none⟩ u2).setCell ⟨b, 3, none⟩ u3).setCell ⟨b, 4, none⟩ u4).setCell ⟨b, 5, none⟩ u5).ownsRow base e size v n xs := (orow_other (p := ⟨b, 5, none⟩) (orow_other (p := ⟨b, 4, none⟩) (orow_other (p := ⟨b, 3, none⟩) (orow_other (p := ⟨b, 2, none⟩) (orow_other (p := ⟨b, 1, none⟩) (orow_other (p := ⟨b, 0, none⟩) h hne u0) hne u1) hne u2) hne u3) hne u4) hne u5)
theorem MIn.grown {A : Option Addr} {m c : Nat} {l : List Mk} {w w' : World} {r : Option Nat} (h : MIn A m c l w) (hg : w.grownBy w' r) (hne : ∀ a, A = some a → r ≠ some a.block) : MIn A m c l w' :=
  h.keep0 hg.size fun hm a e => hg.block a.block (h.blk hm a e) (fun e' => hne a e e'.symm)
theorem LIn.grown {A : Option Addr} {n : Nat} {l : List Itm} {w w' : World} {r : Option Nat} (h : LIn A n l w) (hg : w.grownBy w' r) (hne : ∀ a, A = some a → r ≠ some a.block) : LIn A n l w' := by
  have h2 : Reads w' w.heap.size 2 A n (icells l) := reads_keep h fun a e hb => hg.block a.block hb (fun e' => hne a e e'.symm)
  exact h2.more hg.size
theorem orow_call {w w' : World} {base : Nat} {e : TypeId} {size : Nat} {v : Value} {n : Nat} {xs : List Value} (h : w.ownsRow base e size v n xs) (hb : Below w.heap.size w w') : w'.ownsRow base e size v n xs := orow_keep h (fun g e => hb.block g (h.lt g e).2)
/-- What the histogram of a played stream is. -/
structure Played (wd k cap now seq : Int) (ms : List Mk) (ad : List Itm) (q : Nat) : Prop where
  val : spValid wd k cap now seq ms
  hist : HistOf ms seq now wd ad
  gap : GapL (LaterM k) ms
  vals : ∀ x ∈ ad, -4096 ≤ x.v ∧ x.v ≤ 4096
  ml : ms.length ≤ q
  al : ad.length ≤ q
theorem gap_incl14 {k seq cap now w v : Int} {l : List Mk} (hV : VL l seq cap now w (-4096)) (hg : GapL (LaterM k) l) : GapL (LaterM k) (incl l (seq + 1) now v) := by
  intro i hi hgap
  rw [incl_len] at hi
  unfold incl at hgap ⊢
  have hl : (l.map (inc v)).length = l.length := by simp
  by_cases c : i + 1 < l.length
  · rw [mkAt_append_left (by omega), mkAt_append_left (by omega), mkAt_map (l := l) (i := i) (by omega), mkAt_map (l := l) (i := i + 1) c] at hgap ⊢
    exact (hg i c hgap).inc
  · exfalso
    have e : i + 1 = l.length := by omega
    rw [mkAt_append_right (by omega), mkAt_append_left (by omega), mkAt_map (by omega), hl, show i + 1 - l.length = 0 by omega] at hgap
    have hne : l ≠ [] := fun e2 => by rw [e2] at e; simp at e
    have hlast := (hV.last hne).1
    rw [show l.length - 1 = i by omega] at hlast
    have : 1 < (newMk (seq + 1) now v).seq - (inc v (mkAt l i)).seq := hgap
    have h1 : (newMk (seq + 1) now v).seq = seq + 1 := rfl
    have h2 : (inc v (mkAt l i)).seq = (mkAt l i).seq := rfl
    omega
theorem Played.tick {wd k cap now seq tt : Int} {ms : List Mk} {ad : List Itm} {q : Nat} (h : Played wd k cap now seq ms ad q) (h0 : ¬ (tt < now ∨ 16777216 < tt)) : Played wd k cap tt seq (dropM tt wd ms) ad q :=
  ⟨spTick_valid h.val h0, h.hist.tick (mvalid_iff.1 h.val.2.1).2 (by omega), by
    obtain ⟨j, _, e⟩ := dropM_suffix tt wd ms
    rw [e]
    exact h.gap.drop j, h.vals, Nat.le_trans (dropM_len _ _ _) h.ml, h.al⟩
theorem Played.add {wd k cap now seq v : Int} {ms : List Mk} {ad : List Itm} {q : Nat} (h : Played wd k cap now seq ms ad q) (hv : -4096 ≤ v ∧ v ≤ 4096) (hf : ¬ smFull cap seq ms) : Played wd k cap now (seq + 1) (prune (closeB k) (incl ms (seq + 1) now v)) (ad ++ [⟨now, v⟩]) (q + 1) := by
  refine ⟨spAdd_valid h.val (by omega) hf, (h.hist.incl h.val.1.2.2.2.2.2.2.1).prune _, prune_gap (fun a b hc => LaterM.of_close (of_decide_eq_true hc)) _ _ (Nat.le_refl _) (gap_incl14 (mvalid_iff.1 h.val.2.1).2 h.gap), fun x hx => ?_, ?_, ?_⟩
  · rcases List.mem_append.1 hx with hx | hx
    · exact h.vals x hx
    · obtain rfl : x = ⟨now, v⟩ := by simpa using hx
      exact hv
  · have := prune_len (closeB k) _ (incl ms (seq + 1) now v) (Nat.le_refl _)
    rw [incl_len] at this
    have := h.ml
    omega
  · have := h.al
    simp
    omega
theorem Played.more {wd k cap now seq : Int} {ms : List Mk} {ad : List Itm} {q : Nat} (h : Played wd k cap now seq ms ad q) : Played wd k cap now seq ms ad (q + 1) := ⟨h.val, h.hist, h.gap, h.vals, Nat.le_succ_of_le h.ml, Nat.le_succ_of_le h.al⟩
theorem Played.seqB {wd k cap now seq : Int} {ms : List Mk} {ad : List Itm} {q : Nat} (h : Played wd k cap now seq ms ad q) : 0 ≤ seq ∧ seq ≤ q := by have := h.hist.seq; have := h.al; omega
set_option maxRecDepth 100000 in
set_option maxHeartbeats 8000000 in
theorem spreadTruth (A : Option Addr) (m c : Nat) (l : List Itm) (wd0 k0 cap0 later : Int) (w : World) (hin : RIn A m c l w) : Calls Try.prog 8 #[.slice A m c, .int .i64 wd0, .int .i64 k0, .int .i64 cap0, .int .i64 later] w fun e w' => e = .returned (.bool true) ∧ Below w.heap.size w w' := by
  have PW := fun w => pwindow wd0 k0 cap0 w
  obtain ⟨wn, hwn⟩ : ∃ wn : Nat, 1 + wd0 % 25 = (wn : Int) := ⟨(1 + wd0 % 25).toNat, by omega⟩
  obtain ⟨k, hk⟩ : ∃ k, 1 + k0 % 4 = k := ⟨_, rfl⟩
  obtain ⟨cap, hcap⟩ : ∃ cap, mcap cap0 = cap := ⟨_, rfl⟩
  have hcb := mcap_bd cap0
  rw [hwn, hk, hcap] at PW
  rw [hcap] at hcb
  have hw1 : 1 ≤ wn ∧ wn ≤ 25 := by omega
  have hkk : 1 ≤ k ∧ k ≤ 4 := by omega
  have hG : spGood wn k cap 0 := ⟨by omega, by omega, by omega, by omega, by omega, by omega, by omega, by omega⟩
  have PN := fun w => pspnew wn k cap 0 w
  rw [show spNew wn k cap 0 = ⟨wn, k, cap, 0, 0, [], 0⟩ by unfold spNew; rw [if_pos hG]] at PN
  have PT := Lib.hid (fun w' (hb : Below w.heap.size w w') => pitems A m c l wn 60 w' (hin.below hb) (by omega) (by omega) (by omega))
  have HG := Lib.hid hG
  replace PN := Lib.hid PN
  replace PW := Lib.hid PW
  have HB := Lib.hid (And.intro hw1 (And.intro hkk hcb))
  clear hwn hk hcap hcb hw1 hkk hG hin
  go_enter Try.func8, Try.ntmps8
  go_upto_region 2 with ((go_at_call 24; with_reducible refine (PW.out _).mono ?_; rintro e w9 ⟨rfl, h9⟩; obtain rfl := h9.symm))
  go_wp2_with fail
  refine (PN.out _).mono ?_
  intro e w1 hq
  obtain ⟨A1, m1, c1, rfl, in1, hb1, fr1⟩ := spret_at rfl hq
  clear hq PN PW
  have o := hb1
  go_upto_region 3 with (fail)
  have X : Row (w1.alloc (.cells #[.int .i64 wn, .int .i64 k, .int .i64 cap, .int .i64 0, .int .i64 0, .slice A1 m1 c1] 24)) w1.heap.size 24 #[.int .i64 wn, .int .i64 k, .int .i64 cap, .int .i64 0, .int .i64 0, .slice A1 m1 c1] := row_new rfl
  have IN := in1.below ((Below.refl _ _).alloc (Nat.le_refl _) (.cells #[.int .i64 wn, .int .i64 k, .int .i64 cap, .int .i64 0, .int .i64 0, .slice A1 m1 c1] 24))
  have xb0 := hb1.size
  have fr : ∀ a, A1 = some a → a.block ≠ w1.heap.size := fun a e => by
    rcases fr1 a e with h | ⟨b, h, _⟩
    · omega
    · cases h
  have frL : ∀ a, A1 = some a → a.block < w1.heap.size := fun a e => by
    rcases fr1 a e with h | ⟨b, h, _⟩
    · omega
    · cases h
  replace o := o.alloc o.size (.cells #[.int .i64 wn, .int .i64 k, .int .i64 cap, .int .i64 0, .int .i64 0, .slice A1 m1 c1] 24)
  generalize w1.alloc (.cells #[.int .i64 wn, .int .i64 k, .int .i64 cap, .int .i64 0, .int .i64 0, .slice A1 m1 c1] 24) = w2 at X IN o ⊢
  generalize w1.heap.size = xb at X fr frL xb0 ⊢
  clear in1 hb1 fr1
  have ILN := IN.len
  obtain rfl : m1 = 0 := by simpa using ILN.symm
  clear ILN
  have xlt := row_lt X
  replace frL : ∀ a, A1 = some a → a.block < w2.heap.size := fun a e => by have := frL a e; omega
  go_wp2_with fail
  refine (PT.out _ o).mono ?_
  intro e w3 hq
  obtain ⟨vi, its, last, rfl, own3, hlm, HM, hb3⟩ := hq
  clear PT
  replace frL : ∀ a, A1 = some a → a.block < w3.heap.size := fun a e => by have := frL a e; have := hb3.size; omega
  replace X := row_call X hb3
  replace IN := IN.below hb3
  replace o := o.trans (hb3.mono o.size)
  obtain ⟨AI, ci, rfl, rdi, hci, _, fri⟩ := orow_forms own3
  have LI : LIn AI its.length its w3 := rdi
  have fIb : ∀ a, AI = some a → a.block < w3.heap.size := fun a e => (fri a e).2
  have fL : ∀ a, AI = some a → a.block ≠ xb := fun a e => by have := (fri a e).1; omega
  obtain ⟨n, hn⟩ : ∃ n, its.length = n := ⟨_, rfl⟩
  rw [hn] at LI hlm ⊢
  have HN := Lib.hid hn
  have HMH := Lib.hid HM
  clear own3 rdi fri hci hb3 HM hn
  go_upto_region 7 with (fail)
  have VAL0 : Played wn k cap 0 0 [] [] 0 := ⟨⟨HG.out, mvalid_iff.2 ⟨⟨Int.le_refl _, by omega⟩, ⟨fun _ h => absurd h (by simp), List.Pairwise.nil, fun _ h => absurd h (by simp), fun _ h => by simp at h, fun h => absurd rfl h⟩⟩, fun _ h => absurd h (by simp)⟩, hist_nil _ _, fun i h => absurd h (by simp), fun _ h => absurd h (by simp), by simp, by simp⟩
  have xbb := row_lt X
  have fLb : ∀ a, AI = some a → a.block < w3.heap.size := fun a e => fIb a e
  obtain ⟨bb, hbb⟩ : ∃ bb, bb = w3.heap.size := ⟨_, rfl⟩
  rw [← hbb] at xbb fLb
  have bb0 : w.heap.size ≤ bb := by omega
  have bb1 : bb ≤ w3.heap.size := by omega
  have AD0 : w3.ownsRow bb 51 2 (.slice none 0 0) ([] : List Itm).length (icells []) := World.ownsRow_nil _ _ _ _
  clear fIb hbb
  go_loopw [12, 13, 41] (fun f av i wr => ∃ (q : Nat) (A2 : Option Addr) (m2 c2 : Nat) (now seq : Int) (ms : List Mk) (ad : List Itm), q ≤ n ∧ i = .int .i64 (q : Nat) ∧ f = .int .i64 0 ∧ Row wr xb 24 #[.int .i64 wn, .int .i64 k, .int .i64 cap, .int .i64 now, .int .i64 seq, .slice A2 m2 c2] ∧ MIn A2 m2 c2 ms wr ∧ RowKit.Hid (Played wn k cap now seq ms ad q ∧ (0 ≤ now ∧ now ≤ 3060) ∧ ∀ j, q ≤ j → j < n → now ≤ (itmAt its j).t) ∧ (∀ a, A2 = some a → a.block ≠ xb ∧ a.block < wr.heap.size ∧ ∀ g, av.ownBlock = some g → a.block ≠ g) ∧ LIn AI n its wr ∧ bb ≤ wr.heap.size ∧ wr.ownsRow bb 51 2 av ad.length (icells ad) ∧ Below w.heap.size w wr) (fun _ _ i _ => n - (intOf i).toNat)
  case atStart => exact ⟨0, A1, 0, c1, 0, 0, [], [], by omega, rfl, rfl, X, IN, Lib.hid ⟨VAL0, by omega, fun j _ hj => (HMH.out.1 j (by rw [HN.out]; exact hj)).1⟩, fun a e => ⟨fr a e, frL a e, fun g e' => by cases e'⟩, LI, bb1, AD0, o⟩
  case round =>
    clear VAL0 X IN fr frL LI o AD0 bb1
    obtain ⟨q, A2, m2, c2, now, seq, ms, ad, hq, rfl, rfl, X, IN, HV, fr, LI, bbw, AD, o⟩ := hrel
    generalize u13 = av at fr AD ⊢
    by_cases hlt : q < n
    · obtain ⟨adI, rfl, hadb, ht0⟩ := LI.item hlt
      obtain ⟨p0, p1⟩ := ht0
      have hl := IN.len
      have hkm := HMH.out.1 q (by rw [HN.out]; exact hlt)
      have hlast := HMH.out.2.2
      have hP := HV.out.1
      have hms := hP.ml
      have hsq := hP.seqB
      have hnow := HV.out.2.2 q (Nat.le_refl _) hlt
      have hw25 := HB.out.1
      rw [HN.out] at hlast
      have hmono : ∀ j, q + 1 ≤ j → j < n → (itmAt its q).t ≤ (itmAt its j).t := fun j h1 h2 => (HMH.out.1 j (by rw [HN.out]; exact h2)).2.2.1 q (by omega)
      have htb : (itmAt its q).t ≤ 3060 := by
        have := hkm.2.1
        have h51 : (2 * (wn : Int) + 1) * n ≤ 51 * 60 := Int.mul_le_mul (by omega) (by omega) (by omega) (by omega)
        omega
      have ht0 := hkm.1
      have hvb := hkm.2.2.2
      generalize (itmAt its q).t = tk at p0 hnow htb hmono ht0
      generalize (itmAt its q).v = vk at p1 hvb
      have hto : ¬ (tk < now ∨ 16777216 < tk) := by omega
      have PT := hP.tick hto
      have TE := spTick_c (spvalE_yes hP.val) hto
      obtain ⟨mt, hmt⟩ : ∃ mt, dropM tk wn ms = mt := ⟨_, rfl⟩
      rw [hmt] at PT TE
      have sB : I64 seq := by unfold I64; omega
      have i2 : (q : Int) < (n : Int) := by omega
      have i4 : (0 : Int) ≤ (q : Int) := by omega
      have hms60 : ms.length ≤ 100 := by omega
      have zb := o.size
      have HPT := Lib.hid PT
      have HFIN := Lib.hid (And.intro hmono (And.intro hlt (And.intro ht0 htb)))
      have MB := sp_few PT.val
      clear hkm hlast hP hsq hnow hto hmt htb hmono hlt hms ht0 PT
      go_upto_region 9 with (fail)
      have T : Row (wr.alloc (.cells #[.int .i64 tk, .int .i64 vk] 51)) wr.heap.size 51 #[.int .i64 tk, .int .i64 vk] := row_new rfl
      have htx := row_lt X
      have frT : ∀ a, A2 = some a → a.block ≠ xb ∧ a.block < wr.heap.size ∧ ∀ g, av.ownBlock = some g → a.block ≠ g := fr
      have adT : ∀ g, av.ownBlock = some g → g < wr.heap.size := fun g e => (AD.lt g e).2
      replace X := row_alloc X (.cells #[.int .i64 tk, .int .i64 vk] 51)
      replace IN := IN.below ((Below.refl _ _).alloc (Nat.le_refl _) (.cells #[.int .i64 tk, .int .i64 vk] 51))
      replace LI := LI.below ((Below.refl _ _).alloc (Nat.le_refl _) (.cells #[.int .i64 tk, .int .i64 vk] 51))
      replace AD := AD.alloc (.cells #[.int .i64 tk, .int .i64 vk] 51)
      replace o := o.alloc o.size (.cells #[.int .i64 tk, .int .i64 vk] 51)
      have sz4 : wr.heap.size < (wr.alloc (.cells #[.int .i64 tk, .int .i64 vk] 51)).heap.size := by simp
      generalize wr.alloc (.cells #[.int .i64 tk, .int .i64 vk] 51) = w4 at T X IN LI AD o sz4 ⊢
      generalize wr.heap.size = tb at T zb htx frT adT fr sz4 bbw ⊢
      replace htx : tb ≠ xb := by omega
      have adTb : ∀ g, av.ownBlock = some g → g < tb := adT
      have PT := psptick (A2) m2 c2 ms wn k cap now seq tk w4 IN sB (by omega)
      rw [TE] at PT
      replace PT := Lib.hid PT
      obtain ⟨T0, T1, Tf0, Tf1⟩ := row_two T
      obtain ⟨X0, X1, X2, X3, X4, X5, Xf0, Xf1, Xf2, Xf3, Xf4, Xf5⟩ := row_six X
      have xlt4 := row_lt X
      clear p0 p1 hl TE IN
      go_wp2_with fail
      refine PT.out.mono ?_
      intro e w5 hq5
      obtain ⟨A5, m5, c5, rfl, IN, hb5, fr5⟩ := spret_at rfl hq5
      clear hq5 PT T0 T1 Tf0 Tf1 X0 Xf0 X1 Xf1 X2 Xf2 X3 Xf3 X4 Xf4 X5 Xf5
      have sz5 := hb5.size
      have fr6 : ∀ a, A5 = some a → a.block ≠ xb ∧ a.block ≠ tb ∧ a.block < w5.heap.size ∧ ∀ g, av.ownBlock = some g → a.block ≠ g := fun a e => by
        rcases fr5 a e with h | ⟨b, h, h'⟩
        · exact ⟨by omega, by omega, h.2, fun g e' => by have := adT g e'; omega⟩
        · rw [h']; have hf := frT b h; exact ⟨hf.1, by omega, by omega, hf.2.2⟩
      have f6x : ∀ a, A5 = some a → a.block ≠ xb := fun a e => (fr6 a e).1
      have adx : av.ownBlock ≠ some xb := orow_old AD xbb
      replace T := row_call T hb5
      replace X := row_call X hb5
      replace LI := LI.below hb5
      replace AD := orow_call AD hb5
      replace o := o.trans (hb5.mono o.size)
      clear hb5 fr5 fr xlt4 frT
      obtain ⟨X0, X1, X2, X3, X4, X5, Xf0, Xf1, Xf2, Xf3, Xf4, Xf5⟩ := row_six X
      go_upto_region 10 with (fail)
      clear X0 Xf0 X1 Xf1 X2 Xf2 X3 Xf3 X4 Xf4 X5 Xf5
      have sz6 : (((((((w5.setCell ⟨xb, 0, none⟩ (.int .i64 wn)).setCell ⟨xb, 1, none⟩ (.int .i64 k)).setCell ⟨xb, 2, none⟩ (.int .i64 cap)).setCell ⟨xb, 3, none⟩ (.int .i64 tk)).setCell ⟨xb, 4, none⟩ (.int .i64 seq)).setCell ⟨xb, 5, none⟩ (.slice A5 m5 c5))).heap.size = w5.heap.size := size_sx _ _ _ _ _ _
      have X' := row_sx_set X (.int .i64 wn) (.int .i64 k) (.int .i64 cap) (.int .i64 tk) (.int .i64 seq) (.slice A5 m5 c5)
      replace T := row_sx_other (b := xb) T (htx) (.int .i64 wn) (.int .i64 k) (.int .i64 cap) (.int .i64 tk) (.int .i64 seq) (.slice A5 m5 c5)
      replace IN := IN.sx (b := xb) f6x (.int .i64 wn) (.int .i64 k) (.int .i64 cap) (.int .i64 tk) (.int .i64 seq) (.slice A5 m5 c5)
      replace LI := LI.sx (b := xb) fL (.int .i64 wn) (.int .i64 k) (.int .i64 cap) (.int .i64 tk) (.int .i64 seq) (.slice A5 m5 c5)
      replace AD := orow_sx (b := xb) AD (adx) (.int .i64 wn) (.int .i64 k) (.int .i64 cap) (.int .i64 tk) (.int .i64 seq) (.slice A5 m5 c5)
      replace o := below_sx o (b := xb) xb0 (.int .i64 wn) (.int .i64 k) (.int .i64 cap) (.int .i64 tk) (.int .i64 seq) (.slice A5 m5 c5)
      generalize ((((((w5.setCell ⟨xb, 0, none⟩ (.int .i64 wn)).setCell ⟨xb, 1, none⟩ (.int .i64 k)).setCell ⟨xb, 2, none⟩ (.int .i64 cap)).setCell ⟨xb, 3, none⟩ (.int .i64 tk)).setCell ⟨xb, 4, none⟩ (.int .i64 seq)).setCell ⟨xb, 5, none⟩ (.slice A5 m5 c5)) = w6 at X' T IN LI AD sz6 o ⊢
      replace X := X'
      clear X'
      have PA := pspadd A5 m5 c5 mt wn k cap tk seq vk _ IN sB (by have := IN.len; have := HPT.out.ml; omega)
      have PM := Lib.hid (fun w => rmost k cap w)
      rcases spAdd_cases HPT.out.val hvb with ⟨hnf, AE, VA, lenA⟩ | AE
      · rw [AE] at PA
        have PP := HPT.out.add hvb hnf
        obtain ⟨ma, hma⟩ : ∃ ma, prune (closeB k) (incl mt (seq + 1) tk vk) = ma := ⟨_, rfl⟩
        rw [hma] at PA PP
        have MBA := sp_few PP.val
        have HPP := Lib.hid PP
        clear AE hma VA lenA hnf PP MB
        replace PA := Lib.hid PA
        obtain ⟨T0, T1, Tf0, Tf1⟩ := row_two T
        obtain ⟨X0, X1, X2, X3, X4, X5, Xf0, Xf1, Xf2, Xf3, Xf4, Xf5⟩ := row_six X
        have xlt4 := row_lt X
        have tlt4 := row_lt T
        have adT6 : ∀ g, av.ownBlock = some g → g < w6.heap.size := fun g e => (AD.lt g e).2
        go_wp2_with fail
        refine PA.out.mono ?_
        intro e w9 hq9
        obtain ⟨A9, m9, c9, rfl, IN9, hb9, fr9⟩ := spret_at rfl hq9
        clear hq9 PA T0 T1 Tf0 Tf1 X0 Xf0 X1 Xf1 X2 Xf2 X3 Xf3 X4 Xf4 X5 Xf5
        have sz9 := hb9.size
        have fr10 : ∀ a, A9 = some a → a.block ≠ xb ∧ a.block ≠ tb ∧ a.block < w9.heap.size ∧ ∀ g, av.ownBlock = some g → a.block ≠ g := fun a e => by
          rcases fr9 a e with h | ⟨b, h, h'⟩
          · exact ⟨by omega, by omega, h.2, fun g e' => by have := adT6 g e'; omega⟩
          · rw [h']; have hf := fr6 b h; exact ⟨hf.1, hf.2.1, by omega, hf.2.2.2⟩
        clear IN
        have IN := IN9
        clear IN9
        replace T := row_call T hb9
        replace X := row_call X hb9
        replace LI := LI.below hb9
        replace AD := orow_call AD hb9
        replace o := o.trans (hb9.mono o.size)
        clear hb9 fr9 xlt4 tlt4 adT6
        go_upto_region 13 with (fail)
        have Y : Row (w9.alloc (.cells #[.int .i64 wn, .int .i64 k, .int .i64 cap, .int .i64 tk, .int .i64 (seq + 1), .slice A9 m9 c9] 24)) w9.heap.size 24 #[.int .i64 wn, .int .i64 k, .int .i64 cap, .int .i64 tk, .int .i64 (seq + 1), .slice A9 m9 c9] := row_new rfl
        have hyx : xb ≠ w9.heap.size := by have := row_lt X; omega
        have hyt : tb < w9.heap.size := row_lt T
        have adY : ∀ g, av.ownBlock = some g → g < w9.heap.size := fun g e => (AD.lt g e).2
        replace X := row_alloc X (.cells #[.int .i64 wn, .int .i64 k, .int .i64 cap, .int .i64 tk, .int .i64 (seq + 1), .slice A9 m9 c9] 24)
        replace T := row_alloc T (.cells #[.int .i64 wn, .int .i64 k, .int .i64 cap, .int .i64 tk, .int .i64 (seq + 1), .slice A9 m9 c9] 24)
        replace AD := AD.alloc (.cells #[.int .i64 wn, .int .i64 k, .int .i64 cap, .int .i64 tk, .int .i64 (seq + 1), .slice A9 m9 c9] 24)
        replace IN := IN.below ((Below.refl _ _).alloc (Nat.le_refl _) (.cells #[.int .i64 wn, .int .i64 k, .int .i64 cap, .int .i64 tk, .int .i64 (seq + 1), .slice A9 m9 c9] 24))
        replace LI := LI.below ((Below.refl _ _).alloc (Nat.le_refl _) (.cells #[.int .i64 wn, .int .i64 k, .int .i64 cap, .int .i64 tk, .int .i64 (seq + 1), .slice A9 m9 c9] 24))
        replace o := o.alloc o.size (.cells #[.int .i64 wn, .int .i64 k, .int .i64 cap, .int .i64 tk, .int .i64 (seq + 1), .slice A9 m9 c9] 24)
        have sz10 : w9.heap.size < (w9.alloc (.cells #[.int .i64 wn, .int .i64 k, .int .i64 cap, .int .i64 tk, .int .i64 (seq + 1), .slice A9 m9 c9] 24)).heap.size := by simp
        generalize w9.alloc (.cells #[.int .i64 wn, .int .i64 k, .int .i64 cap, .int .i64 tk, .int .i64 (seq + 1), .slice A9 m9 c9] 24) = w10 at T X Y IN LI AD o sz10 ⊢
        generalize w9.heap.size = yb at Y hyx hyt adY sz10 sz9 fr10 ⊢
        go_upto_region 16 with (fail)
        obtain ⟨i0, hi0, iz0, iz1, iz2⟩ := info_parts info_itm
        refine wp_region_phase 5 (fun w' => Row w' yb 24 #[.int .i64 wn, .int .i64 k, .int .i64 cap, .int .i64 tk, .int .i64 (seq + 1), .slice A9 m9 c9] ∧ Row w' tb 51 #[.int .i64 tk, .int .i64 vk]) (by kernel_rfl) (by kernel_rfl) (by kernel_rfl) (by kernel_rfl) (by kernel_rfl) (fun HOK => ?_)
        have HS := (⟨Y, T⟩ : Row w10.drew yb 24 #[.int .i64 wn, .int .i64 k, .int .i64 cap, .int .i64 tk, .int .i64 (seq + 1), .slice A9 m9 c9] ∧ Row w10.drew tb 51 #[.int .i64 tk, .int .i64 vk])
        (refine hw_take HOK (i := 0) ?_ rfl (by decide) (by kernel_rfl) (by kernel_rfl) (by exact fun _ _ _ h => h) (Or.inl ⟨by rfl, fun w' hS => ?_⟩) HS ?_; rotate_left; (obtain ⟨Y0, Y1, Y2, Y3, Y4, Y5, Yf0, Yf1, Yf2, Yf3, Yf4, Yf5⟩ := row_six hS.1; obtain ⟨T0, T1, Tf0, Tf1⟩ := row_two hS.2; go_simp; try with_reducible rfl); simp only [Act.put, List.setIfInBounds_toArray, List.set_cons_zero, List.set_cons_succ])
        (refine hw_take HOK (i := 1) ?_ rfl (by decide) (by kernel_rfl) (by kernel_rfl) (by exact fun _ _ _ h => h) (Or.inl ⟨by rfl, fun w' hS => ?_⟩) HS ?_; rotate_left; (go_simp; try with_reducible rfl); simp only [Act.put, List.setIfInBounds_toArray, List.set_cons_zero, List.set_cons_succ])
        (refine hw_take HOK (i := 2) ?_ rfl (by decide) (by kernel_rfl) (by kernel_rfl) (by exact fun _ _ _ h => h) (Or.inl ⟨by rfl, fun w' hS => ?_⟩) HS ?_; rotate_left; (obtain ⟨Y0, Y1, Y2, Y3, Y4, Y5, Yf0, Yf1, Yf2, Yf3, Yf4, Yf5⟩ := row_six hS.1; obtain ⟨T0, T1, Tf0, Tf1⟩ := row_two hS.2; go_simp; try with_reducible rfl); simp only [Act.put, List.setIfInBounds_toArray, List.set_cons_zero, List.set_cons_succ])
        refine hw_one (i := 3) rfl (by decide) (by kernel_rfl) (fun K hK => ?_)
        go_simp
        refine hK _ _ ⟨row_drew (row_alloc Y _), row_drew (row_alloc T _)⟩ ?_
        clear hK K HS
        try simp only [Act.put, List.setIfInBounds_toArray, List.set_cons_zero, List.set_cons_succ]
        have RD : Reads (w10.alloc (.cells #[.int .i64 tk, .int .i64 vk] 51)).drew (w10.alloc (.cells #[.int .i64 tk, .int .i64 vk] 51)).heap.size 2 (some ⟨w10.heap.size, 0, none⟩) 1 [.int .i64 tk, .int .i64 vk] := by
          have hq := (own_new (w := w10) (e := 51) (size := 2) (n := 1) (cs := #[.int .i64 tk, .int .i64 vk]) rfl (by unfold maxLen; omega) (by show _ = 1 * 2; rfl)).reads
          have hs : (w10.alloc (.cells #[.int .i64 tk, .int .i64 vk] 51)).heap.size = w10.heap.size + 1 := by simp
          rw [hs]
          show Reads (w10.alloc (.cells #[.int .i64 tk, .int .i64 vk] 51)) _ _ _ _ _
          simpa using hq
        have Y1 : Row (w10.alloc (.cells #[.int .i64 tk, .int .i64 vk] 51)).drew yb 24 #[.int .i64 wn, .int .i64 k, .int .i64 cap, .int .i64 tk, .int .i64 (seq + 1), .slice A9 m9 c9] := row_drew (row_alloc Y _)
        have T1 : Row (w10.alloc (.cells #[.int .i64 tk, .int .i64 vk] 51)).drew tb 51 #[.int .i64 tk, .int .i64 vk] := row_drew (row_alloc T _)
        have X1 : Row (w10.alloc (.cells #[.int .i64 tk, .int .i64 vk] 51)).drew xb 24 #[.int .i64 wn, .int .i64 k, .int .i64 cap, .int .i64 tk, .int .i64 seq, .slice A5 m5 c5] := row_drew (row_alloc X _)
        have bd : Below w10.heap.size w10 (w10.alloc (.cells #[.int .i64 tk, .int .i64 vk] 51)).drew := ((Below.refl _ _).alloc (Nat.le_refl _) (.cells #[.int .i64 tk, .int .i64 vk] 51)).drew
        replace IN := IN.below bd
        replace LI := LI.below bd
        replace AD := orow_call AD bd
        replace o := o.trans (bd.mono o.size)
        have szd : (w10.alloc (.cells #[.int .i64 tk, .int .i64 vk] 51)).drew.heap.size = w10.heap.size + 1 := by simp [World.drew]
        generalize (w10.alloc (.cells #[.int .i64 tk, .int .i64 vk] 51)).drew = w11 at RD Y1 T1 X1 IN LI AD o szd ⊢
        clear X T Y bd
        have adl := HPT.out.al
        refine hw_one (i := 4) rfl (by decide) (by kernel_rfl) (fun K hK => ?_)
        refine step_append_any w11 rfl _ _ 39 rfl bb 51 i0 (.agg #[.int .i64 0, .int .i64 0]) 2 16 Try.underlying39 hi0 iz0 iz1 iz2 rfl (by decide) av ad.length (icells ad) rfl AD _ (some ⟨w10.heap.size, 0, none⟩) 1 1 [.int .i64 tk, .int .i64 vk] rfl RD (by intro u hu; simp at hu; rcases hu with rfl | rfl <;> rfl) (by unfold maxLen; omega) (by omega) (by omega) ?_
        intro v12 w12 own12 hg12 hat12
        have adx11 : av.ownBlock ≠ some xb := orow_old AD xbb
        have adl11 : ∀ g, av.ownBlock = some g → g < w11.heap.size := fun g e => (AD.lt g e).2
        have Y2 := row_grown Y1 hg12 (fun e => by have := adY _ e; omega)
        have T2 := row_grown T1 hg12 (fun e => by have h1 := (AD.lt _ e).1; have := adTb _ e; omega)
        have X2 := row_grown X1 hg12 adx11
        replace IN := IN.grown hg12 (fun a e e' => (fr10 a e).2.2.2 _ e' rfl)
        replace LI := LI.grown hg12 (fun a e e' => by have h1 := fLb a e; have h2 := (AD.lt _ e').1; omega)
        replace o := below_grown o hg12 (fun g e => by have := (AD.lt g e).1; omega) o.size
        have sz12 := hg12.size
        refine hK _ _ ⟨Y2, T2⟩ ?_
        clear hK K
        try simp only [Act.put, List.setIfInBounds_toArray, List.set_cons_zero, List.set_cons_succ]
        refine hw_done (by kernel_rfl) ?_
        try simp only [List.drop_succ_cons, List.drop_zero]
        clear HOK RD Y1 T1 X1 Y2 T2
        have X := X2
        clear X2
        have ADn : w12.ownsRow bb 51 2 v12 (ad ++ [(⟨tk, vk⟩ : Itm)]).length (icells (ad ++ [(⟨tk, vk⟩ : Itm)])) := by
          rw [icells_append, List.length_append]
          exact own12
        have frn : ∀ a, A9 = some a → a.block ≠ xb ∧ a.block < w12.heap.size ∧ ∀ g, v12.ownBlock = some g → a.block ≠ g := fun a e => by
          have hf := fr10 a e
          refine ⟨hf.1, by omega, fun g e' => ?_⟩
          rcases hat12 with h | h
          · exact hf.2.2.2 g (by rw [← h]; exact e')
          · rw [h] at e'; injection e' with e'; omega
        have adxn : v12.ownBlock ≠ some xb := orow_old ADn xbb
        clear AD own12 hg12 hat12 adx11 adl11
        have AD := ADn
        clear ADn
        have f9x : ∀ a, A9 = some a → a.block ≠ xb := fun a e => (frn a e).1
        obtain ⟨X0, X1, X2, X3, X4, X5, Xf0, Xf1, Xf2, Xf3, Xf4, Xf5⟩ := row_six X
        go_upto_region 17 with (fail)
        clear X0 Xf0 X1 Xf1 X2 Xf2 X3 Xf3 X4 Xf4 X5 Xf5
        have sz13 : (((((((w12.setCell ⟨xb, 0, none⟩ (.int .i64 wn)).setCell ⟨xb, 1, none⟩ (.int .i64 k)).setCell ⟨xb, 2, none⟩ (.int .i64 cap)).setCell ⟨xb, 3, none⟩ (.int .i64 tk)).setCell ⟨xb, 4, none⟩ (.int .i64 (seq + 1))).setCell ⟨xb, 5, none⟩ (.slice A9 m9 c9))).heap.size = w12.heap.size := size_sx _ _ _ _ _ _
        have X' := row_sx_set X (.int .i64 wn) (.int .i64 k) (.int .i64 cap) (.int .i64 tk) (.int .i64 (seq + 1)) (.slice A9 m9 c9)
        replace IN := IN.sx (b := xb) f9x (.int .i64 wn) (.int .i64 k) (.int .i64 cap) (.int .i64 tk) (.int .i64 (seq + 1)) (.slice A9 m9 c9)
        replace LI := LI.sx (b := xb) fL (.int .i64 wn) (.int .i64 k) (.int .i64 cap) (.int .i64 tk) (.int .i64 (seq + 1)) (.slice A9 m9 c9)
        replace AD := orow_sx (b := xb) AD (adxn) (.int .i64 wn) (.int .i64 k) (.int .i64 cap) (.int .i64 tk) (.int .i64 (seq + 1)) (.slice A9 m9 c9)
        replace o := below_sx o (b := xb) xb0 (.int .i64 wn) (.int .i64 k) (.int .i64 cap) (.int .i64 tk) (.int .i64 (seq + 1)) (.slice A9 m9 c9)
        generalize ((((((w12.setCell ⟨xb, 0, none⟩ (.int .i64 wn)).setCell ⟨xb, 1, none⟩ (.int .i64 k)).setCell ⟨xb, 2, none⟩ (.int .i64 cap)).setCell ⟨xb, 3, none⟩ (.int .i64 tk)).setCell ⟨xb, 4, none⟩ (.int .i64 (seq + 1))).setCell ⟨xb, 5, none⟩ (.slice A9 m9 c9)) = w13 at X' IN LI AD sz13 o ⊢
        replace X := X'
        clear X'
        obtain ⟨X0, X1, X2, X3, X4, X5, Xf0, Xf1, Xf2, Xf3, Xf4, Xf5⟩ := row_six X
        go_upto_region 17 with (fail)
        have hmost : ¬ mostV k cap < (m9 : Nat) := by have := IN.len; have := MBA; omega
        go_quiet ((go_at_call 13; exact Calls.quiet_of_same (PM.out _)))
        clear X0 Xf0 X1 Xf1 X2 Xf2 X3 Xf3 X4 Xf4 X5 Xf5
        go_wp2
        go_roundw
        case rel => exact ⟨q + 1, A9, m9, c9, tk, seq + 1, ma, ad ++ [⟨tk, vk⟩], by have := HFIN.out.2.1; omega, by go_num, rfl, X, IN.below ⟨rfl, rfl, rfl, Nat.le_refl _, fun _ _ => rfl⟩, Lib.hid ⟨HPP.out, by have := HFIN.out.2.2; omega, HFIN.out.1⟩, fun a e => ⟨(frn a e).1, by have := (frn a e).2.1; show _ < w13.heap.size; omega, (frn a e).2.2⟩, LI.below ⟨rfl, rfl, rfl, Nat.le_refl _, fun _ _ => rfl⟩, (by show bb ≤ w13.heap.size; omega), orow_keep AD (fun _ _ => rfl), o.trans ⟨rfl, rfl, rfl, Nat.le_refl _, fun _ _ => rfl⟩⟩
        case measure => have := HFIN.out.2.1; simp [intOf]; omega
      · rw [AE] at PA
        unfold spZero at PA
        clear AE
        replace PA := Lib.hid PA
        obtain ⟨T0, T1, Tf0, Tf1⟩ := row_two T
        obtain ⟨X0, X1, X2, X3, X4, X5, Xf0, Xf1, Xf2, Xf3, Xf4, Xf5⟩ := row_six X
        have xlt4 := row_lt X
        have tlt4 := row_lt T
        have adT6 : ∀ g, av.ownBlock = some g → g < w6.heap.size := fun g e => (AD.lt g e).2
        go_wp2_with fail
        refine PA.out.mono ?_
        intro e w9 hq9
        obtain ⟨A9, m9, c9, rfl, IN9, hb9, fr9⟩ := spret_at rfl hq9
        clear hq9 PA T0 T1 Tf0 Tf1 X0 Xf0 X1 Xf1 X2 Xf2 X3 Xf3 X4 Xf4 X5 Xf5
        have sz9 := hb9.size
        replace IN := IN.below hb9
        clear IN9
        replace T := row_call T hb9
        replace X := row_call X hb9
        replace LI := LI.below hb9
        replace AD := orow_call AD hb9
        replace o := o.trans (hb9.mono o.size)
        clear hb9 fr9 xlt4 tlt4 adT6
        go_upto_region 13 with (fail)
        have Y : Row (w9.alloc (.cells #[.int .i64 0, .int .i64 0, .int .i64 0, .int .i64 0, .int .i64 0, .slice A9 m9 c9] 24)) w9.heap.size 24 #[.int .i64 0, .int .i64 0, .int .i64 0, .int .i64 0, .int .i64 0, .slice A9 m9 c9] := row_new rfl
        have hyx : xb ≠ w9.heap.size := by have := row_lt X; omega
        have hyt : tb < w9.heap.size := row_lt T
        have adY : ∀ g, av.ownBlock = some g → g < w9.heap.size := fun g e => (AD.lt g e).2
        replace X := row_alloc X (.cells #[.int .i64 0, .int .i64 0, .int .i64 0, .int .i64 0, .int .i64 0, .slice A9 m9 c9] 24)
        replace T := row_alloc T (.cells #[.int .i64 0, .int .i64 0, .int .i64 0, .int .i64 0, .int .i64 0, .slice A9 m9 c9] 24)
        replace AD := AD.alloc (.cells #[.int .i64 0, .int .i64 0, .int .i64 0, .int .i64 0, .int .i64 0, .slice A9 m9 c9] 24)
        replace IN := IN.below ((Below.refl _ _).alloc (Nat.le_refl _) (.cells #[.int .i64 0, .int .i64 0, .int .i64 0, .int .i64 0, .int .i64 0, .slice A9 m9 c9] 24))
        replace LI := LI.below ((Below.refl _ _).alloc (Nat.le_refl _) (.cells #[.int .i64 0, .int .i64 0, .int .i64 0, .int .i64 0, .int .i64 0, .slice A9 m9 c9] 24))
        replace o := o.alloc o.size (.cells #[.int .i64 0, .int .i64 0, .int .i64 0, .int .i64 0, .int .i64 0, .slice A9 m9 c9] 24)
        have sz10 : w9.heap.size < (w9.alloc (.cells #[.int .i64 0, .int .i64 0, .int .i64 0, .int .i64 0, .int .i64 0, .slice A9 m9 c9] 24)).heap.size := by simp
        generalize w9.alloc (.cells #[.int .i64 0, .int .i64 0, .int .i64 0, .int .i64 0, .int .i64 0, .slice A9 m9 c9] 24) = w10 at T X Y IN LI AD o sz10 ⊢
        generalize w9.heap.size = yb at Y hyx hyt adY sz10 sz9 ⊢
        clear Y
        obtain ⟨X0, X1, X2, X3, X4, X5, Xf0, Xf1, Xf2, Xf3, Xf4, Xf5⟩ := row_six X
        go_upto_region 17 with (fail)
        have hmost : ¬ mostV k cap < (m5 : Nat) := by have := IN.len; have := MB; omega
        go_quiet ((go_at_call 13; exact Calls.quiet_of_same (PM.out _)))
        clear X0 Xf0 X1 Xf1 X2 Xf2 X3 Xf3 X4 Xf4 X5 Xf5
        go_wp2
        go_roundw
        case rel => exact ⟨q + 1, A5, m5, c5, tk, seq, mt, ad, by have := HFIN.out.2.1; omega, by go_num, rfl, X, IN.below ⟨rfl, rfl, rfl, Nat.le_refl _, fun _ _ => rfl⟩, Lib.hid ⟨HPT.out.more, by have := HFIN.out.2.2; omega, HFIN.out.1⟩, fun a e => ⟨(fr6 a e).1, by have := (fr6 a e).2.2.1; show _ < w10.heap.size; omega, (fr6 a e).2.2.2⟩, LI.below ⟨rfl, rfl, rfl, Nat.le_refl _, fun _ _ => rfl⟩, (by show bb ≤ w10.heap.size; omega), orow_keep AD (fun _ _ => rfl), o.trans ⟨rfl, rfl, rfl, Nat.le_refl _, fun _ _ => rfl⟩⟩
        case measure => have := HFIN.out.2.1; simp [intOf]; omega
    · have i2 : ¬ (q : Int) < (n : Int) := by omega
      have hP := HV.out.1
      have hnb := HV.out.2.1
      have hw25 := HB.out.1
      have hsq := hP.seqB
      have h0 := Int.emod_nonneg later (show 2 * (wn : Int) + 2 ≠ 0 by omega)
      have h1 := Int.emod_lt_of_pos later (show 0 < 2 * (wn : Int) + 2 by omega)
      have PMd := fun w => pmod later (2 * (wn : Int) + 2) (by omega) (by omega) w
      generalize later % (2 * (wn : Int) + 2) = md at h0 h1 PMd
      replace PMd := Lib.hid PMd
      have ww1 : IntKind.i64.wrap (2 * (wn : Int)) = 2 * (wn : Int) := IntWalk.i64_in _ (by omega)
      have ww2 : IntKind.i64.wrap (2 * (wn : Int) + 2) = 2 * (wn : Int) + 2 := IntWalk.i64_in _ (by omega)
      obtain ⟨tt, htt⟩ : ∃ tt, now + md = tt := ⟨_, rfl⟩
      have ww3 : IntKind.i64.wrap (now + md) = tt := by rw [htt]; rw [← htt]; exact IntWalk.i64_in _ (by omega)
      have hto : ¬ (tt < now ∨ 16777216 < tt) := by omega
      have PP := hP.tick hto
      have TE := spTick_c (spvalE_yes hP.val) hto
      obtain ⟨mt, hmt⟩ : ∃ mt, dropM tt wn ms = mt := ⟨_, rfl⟩
      rw [hmt] at PP TE
      have sB : I64 seq := by unfold I64; omega
      have m100 : ms.length ≤ 100 := by have := hP.ml; omega
      have a100 : ad.length ≤ 100 := by have := hP.al; omega
      have HPP := Lib.hid PP
      have t0 : 0 ≤ tt ∧ tt ≤ 16777216 := by omega
      have PT := fun w' (hb : Below wr.heap.size wr w') => psptick A2 m2 c2 ms wn k cap now seq tt w' (IN.below hb) sB (by have := IN.len; omega)
      rw [TE] at PT
      replace PT := Lib.hid PT
      clear TE hmt hP hnb hsq PP htt hto m100 h0 h1
      go_upto_region 20 with (fail)
      refine wp_region_phase_u 14 13 (fun w' => Row w' xb 24 #[.int .i64 wn, .int .i64 k, .int .i64 cap, .int .i64 now, .int .i64 seq, .slice A2 m2 c2]) (by kernel_rfl) (by kernel_rfl) (by kernel_rfl) (by kernel_rfl) (by kernel_rfl) (fun HOK => ?_)
      have HS := (X : Row wr.drew xb 24 #[.int .i64 wn, .int .i64 k, .int .i64 cap, .int .i64 now, .int .i64 seq, .slice A2 m2 c2])
      (refine hu_take HOK (i := 0) ?_ rfl (by decide) (by decide) rfl (by kernel_rfl) (by kernel_rfl) (by kernel_rfl) (by kernel_rfl) (by exact fun _ _ _ h => h) (Or.inl ⟨by rfl, fun w' hS => ?_⟩) HS ?_; rotate_left; (obtain ⟨X0, X1, X2, X3, X4, X5, Xf0, Xf1, Xf2, Xf3, Xf4, Xf5⟩ := row_six hS; go_simp; try with_reducible rfl); simp only [Act.put, List.setIfInBounds_toArray, List.set_cons_zero, List.set_cons_succ])
      (refine hu_take HOK (i := 1) ?_ rfl (by decide) (by decide) rfl (by kernel_rfl) (by kernel_rfl) (by kernel_rfl) (by kernel_rfl) (by exact fun _ _ _ h => h) (Or.inl ⟨by rfl, fun w' hS => ?_⟩) HS ?_; rotate_left; (go_simp; try with_reducible rfl); simp only [Act.put, List.setIfInBounds_toArray, List.set_cons_zero, List.set_cons_succ])
      (refine hu_take HOK (i := 2) ?_ rfl (by decide) (by decide) rfl (by kernel_rfl) (by kernel_rfl) (by kernel_rfl) (by kernel_rfl) (by exact fun _ _ _ h => h) (Or.inl ⟨by rfl, fun w' hS => ?_⟩) HS ?_; rotate_left; (obtain ⟨X0, X1, X2, X3, X4, X5, Xf0, Xf1, Xf2, Xf3, Xf4, Xf5⟩ := row_six hS; go_simp; try with_reducible rfl); simp only [Act.put, List.setIfInBounds_toArray, List.set_cons_zero, List.set_cons_succ])
      (refine hu_take HOK (i := 3) ?_ rfl (by decide) (by decide) rfl (by kernel_rfl) (by kernel_rfl) (by kernel_rfl) (by kernel_rfl) (by exact fun _ _ _ h => h) (Or.inl ⟨by rfl, fun w' hS => ?_⟩) HS ?_; rotate_left; (go_simp; try with_reducible rfl); simp only [Act.put, List.setIfInBounds_toArray, List.set_cons_zero, List.set_cons_succ])
      (refine hu_take HOK (i := 4) ?_ rfl (by decide) (by decide) rfl (by kernel_rfl) (by kernel_rfl) (by kernel_rfl) (by kernel_rfl) (by exact fun _ _ _ h => h) (Or.inl ⟨by rfl, fun w' hS => ?_⟩) HS ?_; rotate_left; (go_simp; try with_reducible rfl); simp only [Act.put, List.setIfInBounds_toArray, List.set_cons_zero, List.set_cons_succ])
      (refine hu_take HOK (i := 5) ?_ rfl (by decide) (by decide) rfl (by kernel_rfl) (by kernel_rfl) (by kernel_rfl) (by kernel_rfl) (by exact fun _ _ _ h => h) (Or.inl ⟨by rfl, fun w' hS => ?_⟩) HS ?_; rotate_left; (go_simp; try with_reducible rfl); simp only [Act.put, List.setIfInBounds_toArray, List.set_cons_zero, List.set_cons_succ])
      (refine hu_take HOK (i := 6) ?_ rfl (by decide) (by decide) rfl (by kernel_rfl) (by kernel_rfl) (by kernel_rfl) (by kernel_rfl) (by exact fun _ _ _ h => h) (Or.inl ⟨by rfl, fun w' hS => ?_⟩) HS ?_; rotate_left; (go_simp; try with_reducible rfl); simp only [Act.put, List.setIfInBounds_toArray, List.set_cons_zero, List.set_cons_succ])
      refine hu_one (i := 7) rfl (by decide) (by kernel_rfl) (fun K hK => ?_)
      go_simp
      refine (PMd.out _).mono ?_
      rintro e w20 ⟨rfl, h20⟩
      obtain rfl := h20.symm
      refine hK _ _ (show Row wr.drew xb 24 #[.int .i64 wn, .int .i64 k, .int .i64 cap, .int .i64 now, .int .i64 seq, .slice A2 m2 c2] from X) ?_
      clear hK K
      try simp only [Act.put, List.setIfInBounds_toArray, List.set_cons_zero, List.set_cons_succ]
      have HS2 : Row wr.drew xb 24 #[.int .i64 wn, .int .i64 k, .int .i64 cap, .int .i64 now, .int .i64 seq, .slice A2 m2 c2] := X
      (refine hu_take HOK (i := 8) ?_ rfl (by decide) (by decide) rfl (by kernel_rfl) (by kernel_rfl) (by kernel_rfl) (by kernel_rfl) (by exact fun _ _ _ h => h) (Or.inl ⟨by rfl, fun w' hS => ?_⟩) HS2 ?_; rotate_left; (go_simp; try with_reducible rfl); simp only [Act.put, List.setIfInBounds_toArray, List.set_cons_zero, List.set_cons_succ])
      refine hu_one (i := 9) rfl (by decide) (by kernel_rfl) (fun K hK => ?_)
      go_simp
      refine (PT.out _ ((Below.refl _ _).drew)).mono ?_
      intro e w21 hq21
      obtain ⟨A5, m5, c5, rfl, IN5, hb5, fr5⟩ := spret_at rfl hq21
      have hb5' : Below wr.heap.size wr w21 := ((Below.refl _ _).drew).trans (hb5.mono (Nat.le_refl _))
      have xlt5 := row_lt X
      have adt : ∀ g, av.ownBlock = some g → g < wr.heap.size := fun g e => (AD.lt g e).2
      have f5x : ∀ a, A5 = some a → a.block ≠ xb := fun a e => by
        rcases fr5 a e with h | ⟨b, h, h'⟩
        · have : wr.drew.heap.size = wr.heap.size := rfl
          omega
        · rw [h']; exact (fr b h).1
      replace X := row_call X hb5'
      replace AD := orow_call AD hb5'
      replace o := o.trans (hb5'.mono o.size)
      clear hq21 hb5 hb5' fr5 PT PMd IN LI fr adt xlt5
      have IN := IN5
      clear IN5
      refine hK _ _ X ?_
      clear hK K HS HS2
      try simp only [Act.put, List.setIfInBounds_toArray, List.set_cons_zero, List.set_cons_succ]
      have HS3 : Row w21 xb 24 #[.int .i64 wn, .int .i64 k, .int .i64 cap, .int .i64 now, .int .i64 seq, .slice A2 m2 c2] := X
      (refine hu_take HOK (i := 10) ?_ rfl (by decide) (by decide) rfl (by kernel_rfl) (by kernel_rfl) (by kernel_rfl) (by kernel_rfl) (by exact fun _ _ _ h => h) (Or.inl ⟨by rfl, fun w' hS => ?_⟩) HS3 ?_; rotate_left; (go_simp; try with_reducible rfl); simp only [Act.put, List.setIfInBounds_toArray, List.set_cons_zero, List.set_cons_succ])
      (refine hu_take HOK (i := 11) ?_ rfl (by decide) (by decide) rfl (by kernel_rfl) (by kernel_rfl) (by kernel_rfl) (by kernel_rfl) (by exact fun _ _ _ h => h) (Or.inl ⟨by rfl, fun w' hS => ?_⟩) HS3 ?_; rotate_left; (go_simp; try with_reducible rfl); simp only [Act.put, List.setIfInBounds_toArray, List.set_cons_zero, List.set_cons_succ])
      (refine hu_pure HOK (i := 12) ?_ rfl (by decide) (by decide) (by kernel_rfl) (by kernel_rfl) (by exact fun _ _ _ h => h) (Or.inl ⟨by rfl, fun w' hS => ?_⟩) HS3 ?_; rotate_left; (go_simp; try with_reducible rfl); simp only [Act.put, List.setIfInBounds_toArray, List.set_cons_zero, List.set_cons_succ])
      have adx : av.ownBlock ≠ some xb := orow_old AD xbb
      obtain ⟨X0, X1, X2, X3, X4, X5, Xf0, Xf1, Xf2, Xf3, Xf4, Xf5⟩ := row_six X
      refine hu_last rfl (by decide) (by kernel_rfl) (by decide) (fun K hK => ?_)
      go_simp
      refine hK _ _ ?_
      clear hK K
      refine hu_done (by kernel_rfl) ?_
      try simp only [List.drop_succ_cons, List.drop_zero]
      clear HOK HS3
      clear X0 Xf0 X1 Xf1 X2 Xf2 X3 Xf3 X4 Xf4 X5 Xf5
      have X' := row_sx_set X (.int .i64 wn) (.int .i64 k) (.int .i64 cap) (.int .i64 tt) (.int .i64 seq) (.slice A5 m5 c5)
      replace IN := IN.sx (b := xb) f5x (.int .i64 wn) (.int .i64 k) (.int .i64 cap) (.int .i64 tt) (.int .i64 seq) (.slice A5 m5 c5)
      replace AD := orow_sx (b := xb) AD (adx) (.int .i64 wn) (.int .i64 k) (.int .i64 cap) (.int .i64 tt) (.int .i64 seq) (.slice A5 m5 c5)
      replace o := below_sx o (b := xb) xb0 (.int .i64 wn) (.int .i64 k) (.int .i64 cap) (.int .i64 tt) (.int .i64 seq) (.slice A5 m5 c5)
      generalize ((((((w21.setCell ⟨xb, 0, none⟩ (.int .i64 wn)).setCell ⟨xb, 1, none⟩ (.int .i64 k)).setCell ⟨xb, 2, none⟩ (.int .i64 cap)).setCell ⟨xb, 3, none⟩ (.int .i64 tt)).setCell ⟨xb, 4, none⟩ (.int .i64 seq)).setCell ⟨xb, 5, none⟩ (.slice A5 m5 c5)) = w22 at X' IN AD o ⊢
      replace X := X'
      clear X'
      obtain ⟨AA, cA, rfl, rdA, _, _, _⟩ := orow_forms AD
      have hok := HPP.out.vals
      have PLv := pliveI AA ad.length cA ad tt wn _ rdA (by omega) t0.1 (by omega) (by omega) (by omega)
      replace PLv := Lib.hid PLv
      obtain ⟨X0, X1, X2, X3, X4, X5, Xf0, Xf1, Xf2, Xf3, Xf4, Xf5⟩ := row_six X
      go_wp2_with fail
      refine PLv.out.mono ?_
      rintro e w23 ⟨vl, rfl, ownL, hb23⟩
      replace X := row_call X hb23
      replace IN := IN.below hb23
      replace o := o.trans (hb23.mono o.size)
      clear hb23 PLv rdA AD X0 Xf0 X1 Xf1 X2 Xf2 X3 Xf3 X4 Xf4 X5 Xf5
      obtain ⟨AL, cL, rfl, rdL, _, _, _⟩ := orow_forms ownL
      clear ownL
      have lvl := liveI_le (now := tt) (wd := (wn : Int)) ad
      have lvv : ∀ x ∈ liveI tt wn ad, -4096 ≤ x.v ∧ x.v ≤ 4096 := fun x hx => hok x (List.mem_filter.1 hx).1
      have PTr := rspread8 AL _ cL (liveI tt wn ad) _ rdL (by omega) lvv
      clear rdL lvv lvl
      obtain ⟨kn, hkn⟩ : ∃ kn : Nat, k = (kn : Int) := ⟨k.toNat, by have := HB.out.2.1; omega⟩
      have hk14 := HB.out.2.1
      have ST := sp_true hkn HPP.out.val HPP.out.hist HPP.out.gap
      have PAs := fun w' (hb : Below w23.heap.size w23 w') => pspask A5 m5 c5 mt wn k cap tt seq w' (IN.below hb) sB
      rw [spvalE_yes HPP.out.val] at PAs
      unfold askPV at PAs
      simp only [if_true] at PAs
      have hlo := rat_le ST.l1 ST.v1 ST.lv
      have hhi := rat_le ST.v1 ST.h1 ST.vh
      have hlh := rat_le ST.l1 ST.h1 ST.lh
      have hna := rat_within ST.h1 ST.l1 ST.v1 ST.lh ST.nar
      have ro1 := ST.lo
      have ro2 := ST.hi
      have ro3 := ST.v
      generalize rn (loT tt wn mt) (loN tt wn mt) = ln at PAs hlo hlh hna ro1
      generalize rd (loT tt wn mt) (loN tt wn mt) = ld at PAs hlo hlh hna ro1
      generalize rn (hiT tt wn mt) (hiN tt wn mt) = hn at PAs hhi hlh hna ro2
      generalize rd (hiT tt wn mt) (hiN tt wn mt) = hd at PAs hhi hlh hna ro2
      generalize rn (itT (liveI tt wn ad)) (itN (liveI tt wn ad)) = vn at PTr hlo hhi hna ro3
      generalize rd (itT (liveI tt wn ad)) (itN (liveI tt wn ad)) = vd at PTr hlo hhi hna ro3
      have BO : BndOK ln ld ln ld hn hd := ⟨ro1, ro1, ro2, Nat.le_refl _, hlh⟩
      have PHo := Lib.hid (fun w => pholds BO ro3 hlo hhi w)
      have PWi := Lib.hid (fun w => pwithin (k := kn) BO ro3 (by omega) hlh hna w)
      replace PAs := Lib.hid PAs
      replace PTr := Lib.hid PTr
      clear ST hok BO ro1 ro2 ro3 hlo hhi hlh hna IN
      subst hkn
      go_wp2_with fail
      refine PTr.out.mono ?_
      rintro e w25 ⟨rfl, hb25⟩
      have bA := hb25
      replace X := row_call X hb25
      replace o := o.trans (hb25.mono o.size)
      clear hb25 PTr
      go_upto_region 24 with (fail)
      have Nr : Row (w25.alloc (.cells #[.int .i64 (vn : Nat), .int .i64 (vd : Nat)] 35)) w25.heap.size 35 #[.int .i64 (vn : Nat), .int .i64 (vd : Nat)] := row_new rfl
      replace X := row_alloc X (.cells #[.int .i64 (vn : Nat), .int .i64 (vd : Nat)] 35)
      replace o := o.alloc o.size (.cells #[.int .i64 (vn : Nat), .int .i64 (vd : Nat)] 35)
      replace bA := bA.alloc bA.size (.cells #[.int .i64 (vn : Nat), .int .i64 (vd : Nat)] 35)
      generalize w25.alloc (.cells #[.int .i64 (vn : Nat), .int .i64 (vd : Nat)] 35) = w26 at X Nr o bA ⊢
      generalize w25.heap.size = nb at Nr ⊢
      obtain ⟨X0, X1, X2, X3, X4, X5, Xf0, Xf1, Xf2, Xf3, Xf4, Xf5⟩ := row_six X
      go_wp2_with fail
      refine (PAs.out _ bA).mono ?_
      rintro e w27 ⟨rfl, hb27⟩
      replace Nr := row_call Nr hb27
      replace o := o.trans (hb27.mono o.size)
      clear hb27 PAs bA X X0 Xf0 X1 Xf1 X2 Xf2 X3 Xf3 X4 Xf4 X5 Xf5
      go_upto_region 25 with (fail)
      have Br : Row (w27.alloc (.cells #[.int .i64 (ln : Nat), .int .i64 (ld : Nat), .int .i64 (ln : Nat), .int .i64 (ld : Nat), .int .i64 (hn : Nat), .int .i64 (hd : Nat)] 45)) w27.heap.size 45 #[.int .i64 (ln : Nat), .int .i64 (ld : Nat), .int .i64 (ln : Nat), .int .i64 (ld : Nat), .int .i64 (hn : Nat), .int .i64 (hd : Nat)] := row_new rfl
      replace Nr := row_alloc Nr (.cells #[.int .i64 (ln : Nat), .int .i64 (ld : Nat), .int .i64 (ln : Nat), .int .i64 (ld : Nat), .int .i64 (hn : Nat), .int .i64 (hd : Nat)] 45)
      replace o := o.alloc o.size (.cells #[.int .i64 (ln : Nat), .int .i64 (ld : Nat), .int .i64 (ln : Nat), .int .i64 (ld : Nat), .int .i64 (hn : Nat), .int .i64 (hd : Nat)] 45)
      generalize w27.alloc (.cells #[.int .i64 (ln : Nat), .int .i64 (ld : Nat), .int .i64 (ln : Nat), .int .i64 (ld : Nat), .int .i64 (hn : Nat), .int .i64 (hd : Nat)] 45) = w28 at Nr Br o ⊢
      generalize w27.heap.size = bq at Br ⊢
      obtain ⟨N0, N1, Nf0, Nf1⟩ := row_two Nr
      obtain ⟨B0, B1, B2, B3, B4, B5, Bf0, Bf1, Bf2, Bf3, Bf4, Bf5⟩ := row_six Br
      go_wp2_with fail
      refine (PHo.out _).mono ?_
      rintro e w29 ⟨rfl, hb⟩
      replace Nr := row_call Nr hb
      replace Br := row_call Br hb
      replace o := o.trans (hb.mono o.size)
      clear hb N0 N1 Nf0 Nf1 B0 B1 B2 B3 B4 B5 Bf0 Bf1 Bf2 Bf3 Bf4 Bf5
      obtain ⟨N0, N1, Nf0, Nf1⟩ := row_two Nr
      obtain ⟨B0, B1, B2, B3, B4, B5, Bf0, Bf1, Bf2, Bf3, Bf4, Bf5⟩ := row_six Br
      go_wp2_with fail
      refine (PWi.out _).mono ?_
      rintro e w30 ⟨rfl, hb⟩
      replace Nr := row_call Nr hb
      replace Br := row_call Br hb
      replace o := o.trans (hb.mono o.size)
      clear hb N0 N1 Nf0 Nf1 B0 B1 B2 B3 B4 B5 Bf0 Bf1 Bf2 Bf3 Bf4 Bf5
      obtain ⟨N0, N1, Nf0, Nf1⟩ := row_two Nr
      obtain ⟨B0, B1, B2, B3, B4, B5, Bf0, Bf1, Bf2, Bf3, Bf4, Bf5⟩ := row_six Br
      go_wp2_with fail
      refine (awake14 _).mono ?_
      rintro e w31 ⟨rfl, hb⟩
      replace Nr := row_call Nr hb
      replace Br := row_call Br hb
      replace o := o.trans (hb.mono o.size)
      clear hb N0 N1 Nf0 Nf1 B0 B1 B2 B3 B4 B5 Bf0 Bf1 Bf2 Bf3 Bf4 Bf5
      go_wp2
      go_ret
      exact ⟨rfl, o⟩
end Go.Proofs.Ytaiepjcnncajcaa
end
section
/- A parameter that is a slice of items opened to what it reads (open_slice_fields is the guide's, extra-structs.md, copied as that page bids). -/
set_option linter.unusedVariables false
set_option linter.unusedSimpArgs false
set_option linter.unusedSectionVars false
set_option linter.unnecessarySimpa false
namespace Go.Proofs.Ytaiepjcnncajcaa
open Go.ChangeShapes Go.WideShapes Go.Deep Go.RowKit
section
variable {H : Type} {enc : TypeId × Value → H} {P : Program} {w : World} {base : Nat} {spare : Nat → Bool} {held : Bool}
theorem open_slice_fields {t e : TypeId} {fs : Array Field} {fuel : Nat} {cs : List Value} {x : DataW H × List MemPlace} (ht : P.underlying t = some (.slice e)) (he : P.underlying e = some (.struct fs))
    (hone : oneCellFields P fs = true) (hC : P.cellsOf e = fs.size) (h : DataW.trod enc P w base spare held fuel t cs = some x) :
    (cs = [.slice none 0 0] ∧ x = (.nil, [])) ∨
    ∃ (a : Addr) (len cap m : Nat) (D : Nat → DataW H) (Pl : Nat → List MemPlace), cs = [.slice (some a) len cap] ∧ base ≤ a.block ∧ len ≤ cap ∧ cap ≤ maxLen ∧ m = (if spare a.block then cap else len) ∧
      x = (.slice ((List.range len).map D) ((List.range (m - len)).map fun j => D (len + j)), MemPlace.row a (m * fs.size) ++ (List.range m).flatMap Pl) ∧
      ∀ i, i < m → ∃ (ys : List (DataW H × List MemPlace)) (n : Nat), D i = .agg (ys.map (·.1)) ∧ Pl i = ys.flatMap (·.2) ∧ ys.length = fs.size ∧
        ∀ (j : Nat) (f : Field), fs[j]? = some f → ∃ (v : Value) (y : DataW H × List MemPlace), w.cell? (a.add (i * fs.size + j)) = some v ∧ ys[j]? = some y ∧ DataW.trod enc P w base spare held n f.type [v] = some y := by
  rcases open_slice ht h with h0 | ⟨a, len, cap, m, n, D, Pl, hcs, hb, hl, hm, hmm, hx, hi⟩
  · exact .inl h0
  · refine .inr ⟨a, len, cap, m, D, Pl, hcs, hb, hl, hm, hmm, by rw [hC] at hx; exact hx, fun i him => ?_⟩
    obtain ⟨cs', hc, ht'⟩ := hi i him
    rw [hC] at hc
    obtain ⟨ys, n', hn', hy, hlen, hyl, hf⟩ := DataW.trod_struct he ht'
    obtain ⟨_, hcl, hat⟩ := World.cells?_some hc
    simp only [Prod.mk.injEq] at hy
    refine ⟨ys, n', hy.1, hy.2, hyl, fun j f hj => ?_⟩
    obtain ⟨ho, hk⟩ := hone_of hone j f hj
    have hjl : j < fs.size := (Array.getElem?_eq_some_iff.1 hj).1
    have hcell := hat j hjl
    have hv : cs'[j]? = some (cs'[j]'(by omega)) := List.getElem?_eq_getElem (by omega)
    have h1 := hf j f hj
    rw [ho, hk] at h1
    have hone' : (cs'.drop j).take 1 = [cs'[j]'(by omega)] := by
      rw [List.drop_eq_getElem_cons (by omega)]
      rfl
    rw [hone'] at h1
    have hys : ys[j]? = some (ys[j]'(by omega)) := List.getElem?_eq_getElem (by omega)
    refine ⟨_, _, ?_, hys, h1.trans hys⟩
    rw [← Go.Deep.add_add, hcell, hv]
end

theorem cellsItm : Try.prog.cellsOf 51 = 2 := by kernel_rfl
theorem i64_wf {x : Int} (h : (Lit.int .i64 x).wf = true) : -9223372036854775808 ≤ x ∧ x ≤ 9223372036854775807 := by
  simp [Lit.wf, IntKind.min, IntKind.max, IntKind.signed, IntKind.bits] at h
  exact ⟨by omega, by omega⟩
section
variable {H : Type} {enc : TypeId × Value → H} {W : World}
theorem list_of {P : Nat → Itm → Prop} : ∀ n, (∀ i, i < n → ∃ x, P i x) → ∃ l : List Itm, l.length = n ∧ ∀ i, i < n → P i (itmAt l i)
  | 0, _ => ⟨[], rfl, fun i h => absurd h (by omega)⟩
  | n + 1, h => by
    obtain ⟨l, h1, h2⟩ := list_of n (fun i hi => h i (by omega))
    obtain ⟨x, hx⟩ := h n (by omega)
    refine ⟨l ++ [x], by simp [h1], fun i hi => ?_⟩
    by_cases c : i < n
    · rw [itm_left (by omega)]
      exact h2 i c
    · obtain rfl : i = l.length := by omega
      rw [itm_last, h1]
      exact hx
set_option maxRecDepth 100000 in
theorem rin_open {r : Reach} {b0 : Nat} {v : Value} {d : DataW H} {p : List MemPlace} (hv : Value.okWide Try.prog W r b0 39 v) (h : DataW.Trod enc Try.prog W 0 (fun _ => true) true 39 v d p) :
    ∃ A m c l, v = .slice A m c ∧ RIn A m c l W := by
  obtain ⟨a, len, cap, rfl⟩ := okWide_slice Try.underlying39 hv
  obtain ⟨fuel, hf⟩ := h
  rcases open_slice_fields Try.underlying39 Try.underlying51 (by kernel_rfl) cellsItm hf with ⟨h1, _⟩ | ⟨a', len', cap', m, D, Pl, h1, _, hl, hc, hm0, _, hi⟩
  · simp [Value.cells] at h1
    obtain ⟨rfl, rfl, rfl⟩ := h1
    exact ⟨none, 0, 0, [], rfl, by simpa [icells] using Reads.none_, by simp [itmAt], by simp [itmAt], Nat.le_refl _, Nat.zero_le _⟩
  · simp [Value.cells] at h1
    obtain ⟨rfl, rfl, rfl⟩ := h1
    have hm : len ≤ m := by
      rw [hm0, if_pos rfl]
      exact hl
    have hh : ∀ i, i < len → ∃ x : Itm, (W.cell? (a'.add (i * 2)) = some (.int .i64 x.t) ∧ W.cell? (a'.add (i * 2 + 1)) = some (.int .i64 x.v)) ∧ (-9223372036854775808 ≤ x.t ∧ x.t ≤ 9223372036854775807) ∧ (-9223372036854775808 ≤ x.v ∧ x.v ≤ 9223372036854775807) := by
      intro i hi'
      obtain ⟨ys, n, _, _, _, hf⟩ := hi i (by omega)
      obtain ⟨v0, y0, c0, _, t0⟩ := hf 0 _ rfl
      obtain ⟨v1, y1, c1, _, t1⟩ := hf 1 _ rfl
      obtain ⟨x0, e0, _, w0⟩ := DataW.trod_int Try.underlying2 t0
      obtain ⟨x1, e1, _, w1⟩ := DataW.trod_int Try.underlying2 t1
      simp at e0 e1
      subst e0 e1
      exact ⟨⟨x0, x1⟩, ⟨c0, c1⟩, i64_wf w0, i64_wf w1⟩
    obtain ⟨l, hl1, hl2⟩ := list_of len hh
    have hb : ∀ i, (-9223372036854775808 ≤ (itmAt l i).t ∧ (itmAt l i).t ≤ 9223372036854775807) ∧ (-9223372036854775808 ≤ (itmAt l i).v ∧ (itmAt l i).v ≤ 9223372036854775807) := by
      intro i
      by_cases c : i < len
      · exact (hl2 i c).2
      · have : itmAt l i = ⟨0, 0⟩ := by unfold itmAt; rw [List.getD_eq_getElem?_getD, List.getElem?_eq_none (by omega)]; rfl
        rw [this]
        exact ⟨⟨by decide, by decide⟩, by decide, by decide⟩
    refine ⟨some a', len, cap, l, rfl, ⟨by rw [icells_len, hl1], fun h0 => ⟨a', rfl, ?_, fun j u hu => ?_⟩⟩, fun i => (hb i).1, fun i => (hb i).2, hl, hc⟩
    · have := World.block_lt_of_cell? W _ (hl2 0 h0).1.1
      rw [block_of_add] at this
      exact this
    · have hj : j < len * 2 := by
        have := (List.getElem?_eq_some_iff.1 hu).1
        rw [icells_len, hl1] at this
        exact this
      have hat := icells_at l (j / 2) (by omega)
      have hcl := (hl2 (j / 2) (by omega)).1
      rcases Nat.mod_two_eq_zero_or_one j with hp | hp
      · have e : j / 2 * 2 = j := by omega
        rw [e] at hat hcl
        rw [hu] at hat
        rw [hcl.1, hat.1]
      · have e : j / 2 * 2 + 1 = j := by omega
        rw [e] at hat hcl
        rw [hu] at hat
        rw [hcl.2, hat.2]
end
end Go.Proofs.Ytaiepjcnncajcaa
end
section
/- The law SpreadTruth of the given program: for every input the call returns true, and each argument reads behind the call as it read before. No conditions. -/
set_option linter.unusedVariables false
set_option linter.unusedSimpArgs false
set_option linter.unusedSectionVars false
set_option linter.unnecessarySimpa false
namespace Go.Proofs.Ytaiepjcnncajcaa.lSpreadTruth
open Go.ChangeShapes Go.WideShapes Go.ChangeAt Go.RowKit Go.Joins Go.WideMaps Go.WideElems Go.Deep

theorem own : ownKnob Try.prog.godebug = none := by kernel_rfl
theorem laid_out : laidOutB Try.prog = true := by kernel_rfl
theorem readable : (Try.f8.params.toList.all fun t => Try.prog.readableRec t && decide (t < Try.prog.types.size)) = true := by kernel_rfl
set_option maxRecDepth 100000 in
theorem lifted (os : Os) (started : os.Started) (H : Type) (enc : TypeId × Value → H) :
    ReturnsInHanded {} Try.checked os 8 .any (Rows.spreadTruthSpec.pre6 enc Try.prog Try.f8 Rows.spreadTruthRow.domain false) (Rows.spreadTruthSpec.post enc Try.prog Try.f8 false true false false) := by
  refine returnsInHanded_of_change (C := Try.checked) own started (by kernel_rfl) Try.func8
    (ChangeSpec.witness6 (enc := enc) (C := Try.checked) false ⟨#[], #[.slice none 0 0, .int .i64 0, .int .i64 0, .int .i64 0, .int .i64 0], []⟩ 8 (by kernel_rfl) (by kernel_rfl) (by kernel_rfl) (by kernel_rfl)) ?_
  intro W base args ds gs before hval0 hW hcnd _
  have hval : ∀ (j : Nat) t v, Try.f8.params[j]? = some t → args[j]? = some v → Value.okWide Try.prog W .any base t v := hval0
  have hW' := hW
  obtain ⟨p, q, hA0, hV, rfl, hfz, hnd⟩ := hW
  have hA : DataW.TrodAll enc Try.prog W 0 (fun _ => true) true Try.f8.params.toList args.toList ds p := hA0
  have hAA := hA
  rw [Try.params8] at hA hval
  obtain ⟨v0, vs0, d0, ds0, p0, q0, hargs, rfl, rfl, h0, k0_⟩ := trodAll_cons hA
  obtain ⟨v1, vs1, d1, ds1, p1, q1, rfl, rfl, rfl, h1, k1_⟩ := trodAll_cons k0_
  obtain ⟨v2, vs2, d2, ds2, p2, q2, rfl, rfl, rfl, h2, k2_⟩ := trodAll_cons k1_
  obtain ⟨v3, vs3, d3, ds3, p3, q3, rfl, rfl, rfl, h3, k3_⟩ := trodAll_cons k2_
  obtain ⟨v4, vs4, d4, ds4, p4, q4, rfl, rfl, rfl, h4, k4_⟩ := trodAll_cons k3_
  obtain ⟨rfl, rfl, rfl⟩ := trodAll_nil k4_
  obtain rfl : args = #[v0, v1, v2, v3, v4] := Array.ext' hargs
  obtain ⟨rfl, rfl⟩ := trodVars_none hV
  obtain ⟨A0, m0, c0, l0, rfl, rin0⟩ := rin_open (hval 0 39 v0 rfl rfl) h0
  obtain ⟨x1, rfl, rfl, rfl, wx1⟩ := open_int Try.underlying2 (hval 1 2 v1 rfl rfl) h1
  obtain ⟨x2, rfl, rfl, rfl, wx2⟩ := open_int Try.underlying3 (hval 2 3 v2 rfl rfl) h2
  obtain ⟨x3, rfl, rfl, rfl, wx3⟩ := open_int Try.underlying3 (hval 3 3 v3 rfl rfl) h3
  obtain ⟨x4, rfl, rfl, rfl, wx4⟩ := open_int Try.underlying2 (hval 4 2 v4 rfl rfl) h4
  clear hA0 hval0
  refine (spreadTruth A0 m0 c0 l0 x1 x2 x3 x4 W rin0).mono fun e W' ⟨he, hb⟩ => ?_
  subst he
  refine ⟨_, rfl, post_of_below (pa := _) (pv := []) hW' (fun _ _ _ => trodAll_mk1 (shut_bool Try.underlying4 _)) (fun sp hsp => ?_) (fun _ _ => rfl) rfl hb (ok_one (by kernel_rfl) rfl (okWide_bool_mk Try.underlying4 _))⟩
  exact trodAll_stays laid_out hb (fun t ht => by have := List.all_eq_true.1 readable t ht; simpa using this) hAA (fun x hx => hW'.lt x (List.mem_append_left _ hx)) (fun x hx => hsp x (List.mem_append_left _ hx))

theorem holds : Rows.SpreadTruthSaid :=
  OpenClaim.holds_of_wide 8 Try.f8 rfl rfl rfl rfl rfl rfl rfl ⟨rfl, rfl, rfl, rfl, rfl⟩ rfl rfl rfl rfl rfl (by kernel_rfl) Try.func8 (by kernel_rfl)
    (of_decide_eq_true (by kernel_rfl)) (by unfold Func.isWrapper; first | (rw [if_pos (by decide +kernel)]; kernel_rfl) | (rw [if_neg (by decide +kernel)]; exact ⟨rfl, rfl⟩))
    (fun os started H enc _ => lifted os started H enc)
#print axioms holds
end Go.Proofs.Ytaiepjcnncajcaa.lSpreadTruth
end
