/- Summaries of a stream: the ranks of the reference, walked. -/
import Derived.Test.YtdibjlphcmjnoaaAskC
set_option linter.unusedVariables false
set_option linter.unusedSimpArgs false
set_option linter.unusedSectionVars false
set_option linter.unnecessarySimpa false
namespace Go.Proofs.Ytdibjlphcmjnoaa
open Go.RowKit
set_option maxHeartbeats 4000000 in
theorem rbetween (n : Int) (A : Option Addr) (m c : Nat) (es : List Tup) (v : Int) (w : World) (hr : Reads w w.heap.size 3 A m (tcells es)) (hl : es.length = m) (hK : EOK n es) (hm : m ≤ 65536) (hn : 0 ≤ n) (hn2 : n ≤ 1099511627776) : Calls Try.prog 45 #[.slice A m c, .int .i64 n, .int .i64 v] w fun e w' => e = .returned (.tuple #[.int .i64 (rkLo es v), .int .i64 (rkHi n es v)]) ∧ Below w.heap.size w w' := by
  have HR := Lib.hid hr
  have HL := Lib.hid hl
  have HB := Lib.hid (fun j (hj : j < m) => hK.b j (by rw [hl]; exact hj))
  obtain ⟨hk, hi⟩ := hK.idx v
  rw [hl] at hk hi
  have HI := Lib.hid hi
  have hA : rkLo es v = loAt es (rkIdx es v) := rfl
  have hB : rkHi n es v = hiAt n es (rkIdx es v) := rfl
  rw [hA, hB]
  generalize rkIdx es v = K at hk HI
  have b := Below.refl w.heap.size w
  clear hr hl hK hi hA hB
  go_enter Try.func45, Try.ntmps45
  go_wp2
  go_loopw [8, 16] (fun lv i wr => ∃ j : Nat, j ≤ m ∧ i = .int .i64 (j : Nat) ∧ lv = .int .i64 (loAt es (min j K)) ∧ Below w.heap.size w wr) (fun _ i _ => m - (intOf i).toNat)
  case atStart => exact ⟨0, by omega, rfl, by rw [Nat.zero_min]; rfl, b⟩
  case round =>
    clear b
    obtain ⟨j, hj, rfl, rfl, b⟩ := hrel
    by_cases hlt : j < m
    · obtain ⟨ad, rfl, hadb, ht0⟩ := ent_at HR.out hlt
      have hix := HI.out j hlt
      have hsu : loAt es (j + 1) = (tupAt es j).g := rfl
      generalize he : tupAt es j = ee at ht0 hix hsu
      obtain ⟨ev, eg, ed⟩ := ee
      dsimp only at hix hsu
      have HSU := Lib.hid hsu
      have HIX := Lib.hid hix
      obtain ⟨p0, p1, p2⟩ := ht0.below b (by rw [block_of_add]; exact hadb)
      dsimp only at p0 p1 p2
      generalize hx : loAt es (min j K) = x0
      have HX := Lib.hid hx
      have i1 : (j : Int) < (m : Int) := by omega
      have i2 : (0 : Int) ≤ (j : Int) := by omega
      clear he hix hsu ht0 hx
      have zr := b.size
      go_upto_region 5 with (fail)
      have ti : Row (wr.alloc (.cells #[.int .i64 ev, .int .i64 eg, .int .i64 ed] 56)) wr.heap.size 56 #[.int .i64 ev, .int .i64 eg, .int .i64 ed] := row_new rfl
      replace b := b.alloc b.size (.cells #[.int .i64 ev, .int .i64 eg, .int .i64 ed] 56)
      generalize wr.alloc (.cells #[.int .i64 ev, .int .i64 eg, .int .i64 ed] 56) = w4 at b ti ⊢
      generalize wr.heap.size = tb at ti zr ⊢
      clear p0 p1 p2
      obtain ⟨T0, T1, T2, Tf0, Tf1, Tf2⟩ := row_three ti
      by_cases hg : ev ≤ v
      · clear ti
        go_wp2
        go_roundw
        case rel => exact ⟨j + 1, by omega, by go_num, by have := HIX.out.1 hg; rw [Nat.min_eq_left (show j + 1 ≤ K by omega), HSU.out], b⟩
        case measure => simp [intOf]; omega
      · clear ti
        go_wp2
        go_roundw
        case rel => exact ⟨j + 1, by omega, by go_num, by rw [← HX.out]; have h1 : ¬ j < K := fun h => hg (HIX.out.2 h); rw [Nat.min_eq_right (show K ≤ j + 1 by omega), Nat.min_eq_right (show K ≤ j by omega)], b⟩
        case measure => simp [intOf]; omega
    · have i1 : ¬ (j : Int) < (m : Int) := by omega
      obtain rfl : j = m := by omega
      rw [Nat.min_eq_right hk]
      have wm : IntKind.i64.wrap ((j : Int) - 1) = (j : Int) - 1 := IntWalk.i64_in _ (by omega)
      have hst : n = hiAt n es (max j K) := by unfold hiAt; rw [if_neg (by rw [HL.out]; omega)]
      have HST := Lib.hid hst
      clear hst i1 hlt hj
      go_wp2
      go_loopw [9, 12] (fun hv i wr => ∃ q : Nat, q ≤ j ∧ i = .int .i64 ((q : Int) - 1) ∧ hv = .int .i64 (hiAt n es (max q K)) ∧ Below w.heap.size w wr) (fun _ i _ => (intOf i + 1).toNat)
      case atStart => exact ⟨j, by omega, rfl, by rw [← HST.out], b⟩
      case round =>
        clear b
        obtain ⟨q, hq, rfl, rfl, b⟩ := hrel
        by_cases h0 : q = 0
        · subst h0
          have i3 : ¬ (0 : Int) ≤ ((0 : Nat) : Int) - 1 := by omega
          rw [Nat.max_eq_right (Nat.zero_le _)]
          go_wp2
          exact bodyPost_ret (v := .tuple #[.int .i64 (loAt es K), .int .i64 (hiAt n es K)]) (by simp [results, Try.results45, go_sem, wm]) rfl ⟨rfl, b⟩
        · obtain ⟨i, rfl⟩ : ∃ i, q = i + 1 := ⟨q - 1, by omega⟩
          have hil : i < j := by omega
          obtain ⟨ad, rfl, hadb, ht0⟩ := ent_at HR.out hil
          have hix := HI.out i hil
          have hb := HB.out i hil
          have hsu : hiAt n es i = (tupAt es i).d - 1 := by unfold hiAt; rw [if_pos (by rw [HL.out]; exact hil)]
          generalize he : tupAt es i = ee at ht0 hix hsu hb
          obtain ⟨ev, eg, ed⟩ := ee
          dsimp only at hix hsu hb
          have HSU := Lib.hid hsu
          have HIX := Lib.hid hix
          obtain ⟨p0, p1, p2⟩ := ht0.below b (by rw [block_of_add]; exact hadb)
          dsimp only at p0 p1 p2
          generalize hx : hiAt n es (max (i + 1) K) = x0
          have HX := Lib.hid hx
          have e1 : ((i + 1 : Nat) : Int) - 1 = (i : Int) := by omega
          rw [e1]
          have i1 : (i : Int) < (j : Int) := by omega
          have i2 : (0 : Int) ≤ (i : Int) := by omega
          have wd : IntKind.i64.wrap (ed - 1) = ed - 1 := IntWalk.i64_in _ (by omega)
          have wi : IntKind.i64.wrap ((i : Int) - 1) = (i : Int) - 1 := IntWalk.i64_in _ (by omega)
          clear he hix hsu ht0 hx e1 h0
          by_cases hg : v < ev
          · go_wp2
            go_roundw
            case rel => exact ⟨i, by omega, rfl, by have h1 : ¬ i < K := (fun h => by have := HIX.out.2 h; omega); rw [Nat.max_eq_left (show K ≤ i by omega), HSU.out], b⟩
            case measure => simp [intOf]
          · go_wp2
            go_roundw
            case rel => exact ⟨i, by omega, rfl, by rw [← HX.out]; have h1 := HIX.out.1 (by omega); rw [Nat.max_eq_right (show i + 1 ≤ K by omega), Nat.max_eq_right (show i ≤ K by omega)], b⟩
            case measure => simp [intOf]
theorem rRank_bad (k cap n : Int) (A : Option Addr) (m c : Nat) (ts : List Tup) (v : Int) (w : World) (hin : SIn k cap n A m c ts w) (hv : svalE k cap n ts = 2) : Calls Try.prog 28 #[.agg #[.int .i64 k, .int .i64 cap, .int .i64 n, .slice A m c], .int .i64 v] w fun e w' => e = .returned (.tuple #[.agg #[.int .i64 0, .int .i64 0, .int .i64 0, .int .i64 0, .int .i64 0, .int .i64 0], .int .i64 2]) ∧ Below w.heap.size w w' := by
  have P := Lib.hid (fun w1 (hb : Below w.heap.size w w1) => rEntries_bad k cap n A m c ts w1 (hin.below hb) hv)
  clear hin hv
  go_enter Try.func28, Try.ntmps28
  go_wp2_with (first | (go_at_call 26; with_reducible refine (P.out _ (by (repeat (first | exact Below.refl _ _ | refine Below.setCell ?_ (by first | (simp; done) | (simp; omega) | omega) _ | refine Below.alloc ?_ (by first | (simp; done) | (simp; omega) | omega) _ | refine Below.drew ?_ | refine Below.trans ?_ (Below.mono (by assumption) (by first | (simp; done) | (simp; omega) | omega)))))).mono ?_; rintro e w1 ⟨rfl, hb1⟩; have hz1 := hb1.size; (try simp at hz1); have o1 : Below w.heap.size w w1 := (by (repeat (first | exact Below.refl _ _ | refine Below.setCell ?_ (by first | (simp; done) | (simp; omega) | omega) _ | refine Below.alloc ?_ (by first | (simp; done) | (simp; omega) | omega) _ | refine Below.drew ?_ | refine Below.trans ?_ (Below.mono (by assumption) (by first | (simp; done) | (simp; omega) | omega))))); have q1_0 : w.heap.size < w1.heap.size := (by omega); have r1_0 : Row w1 (w.heap.size) 24 #[.int .i64 k, .int .i64 cap, .int .i64 n, .slice A m c] := row_call (by (repeat (first | assumption | (refine row_new ?_; (first | (simp; done) | omega)) | refine row_alloc ?_ _ | refine row_drew ?_ | refine row_call ?_ (by assumption)))) hb1; obtain ⟨c1_0a, c1_0b, c1_0c, c1_0d, f1_0a, f1_0b, f1_0c, f1_0d⟩ := row_four r1_0; have q1_1 : w.heap.size + 1 < w1.heap.size := (by omega); have r1_1 : Row w1 (w.heap.size + 1) 50 #[.int .i64 0, .int .i64 0, .int .i64 0, .int .i64 0, .int .i64 0, .int .i64 0] := row_call (by (repeat (first | assumption | (refine row_new ?_; (first | (simp; done) | omega)) | refine row_alloc ?_ _ | refine row_drew ?_ | refine row_call ?_ (by assumption)))) hb1; obtain ⟨c1_1a, c1_1b, c1_1c, c1_1d, c1_1e, c1_1f, f1_1a, f1_1b, f1_1c, f1_1d, f1_1e, f1_1f⟩ := row_six r1_1))
  obtain ⟨R0, R1, R2, R3, R4, R5, Rf0, Rf1, Rf2, Rf3, Rf4, Rf5⟩ := row_six r1_1
  exact bodyPost_ret (v := .tuple #[.agg #[.int .i64 0, .int .i64 0, .int .i64 0, .int .i64 0, .int .i64 0, .int .i64 0], .int .i64 2]) (by simp [results, Try.results28, go_sem, R0, R1, R2, R3, R4, R5]) rfl ⟨rfl, below_six o1 (by omega) _ _ _ _ _ _⟩
set_option maxHeartbeats 4000000 in
theorem rRank_ok (k cap n : Int) (A : Option Addr) (m c : Nat) (ts : List Tup) (v : Int) (lo hi : Nat) (w : World) (hin : SIn k cap n A m c ts w) (hv : svalE k cap n ts = 0) (hlo : rkLo (ents ts m) v = lo) (hhi : rkHi n (ents ts m) v = hi) : Calls Try.prog 28 #[.agg #[.int .i64 k, .int .i64 cap, .int .i64 n, .slice A m c], .int .i64 v] w fun e w' => e = .returned (.tuple #[.agg #[.int .i64 lo, .int .i64 1, .int .i64 ((lo + hi) / 2 : Nat), .int .i64 1, .int .i64 hi, .int .i64 1], .int .i64 0]) ∧ Below w.heap.size w w' := by
  have PE := Lib.hid (fun w1 (hb : Below w.heap.size w w1) => rEntries_ok k cap n A m c ts w1 (hin.below hb) hv)
  have hl := hin.len
  have HK : EOK n (ents ts m) := by rw [← hl]; exact ents_ok hv
  obtain ⟨k0, k1, cp0, cp1, n0, n1, mc, _, _⟩ := of_svalE hv
  have mB : m ≤ 65536 := by rw [hl] at mc; omega
  have HN := HK.le n0 v
  rw [hlo, hhi] at HN
  have HLE := ents_len ts m
  generalize ents ts m = es at PE HK hlo hhi HLE
  have PB := fun (A : Option Addr) (c : Nat) (w : World) (hr : Reads w w.heap.size 3 A m (tcells es)) => rbetween n A m c es v w hr HLE HK mB n0 n1
  rw [hlo, hhi] at PB
  have PB := Lib.hid PB
  have PW := Lib.hid (fun w => rwhole lo hi (by omega) (by omega) w)
  generalize (lo + hi) / 2 = md at PW ⊢
  clear hin hv hl hlo hhi HLE mc HK
  go_enter Try.func28, Try.ntmps28
  go_upto_region 1 with (fail)
  have x : Row ((w.alloc (.cells #[.int .i64 k, .int .i64 cap, .int .i64 n, .slice A m c] 24)).alloc (.cells #[.int .i64 0, .int .i64 0, .int .i64 0, .int .i64 0, .int .i64 0, .int .i64 0] 50)) w.heap.size 24 #[.int .i64 k, .int .i64 cap, .int .i64 n, .slice A m c] := row_alloc (row_new rfl) _
  have r : Row ((w.alloc (.cells #[.int .i64 k, .int .i64 cap, .int .i64 n, .slice A m c] 24)).alloc (.cells #[.int .i64 0, .int .i64 0, .int .i64 0, .int .i64 0, .int .i64 0, .int .i64 0] 50)) (w.heap.size + 1) 50 #[.int .i64 0, .int .i64 0, .int .i64 0, .int .i64 0, .int .i64 0, .int .i64 0] := row_new (by simp)
  have o : Below w.heap.size w ((w.alloc (.cells #[.int .i64 k, .int .i64 cap, .int .i64 n, .slice A m c] 24)).alloc (.cells #[.int .i64 0, .int .i64 0, .int .i64 0, .int .i64 0, .int .i64 0, .int .i64 0] 50)) := by (repeat (first | exact Below.refl _ _ | refine Below.setCell ?_ (by first | (simp; done) | (simp; omega) | omega) _ | refine Below.alloc ?_ (by first | (simp; done) | (simp; omega) | omega) _ | refine Below.drew ?_ | refine Below.trans ?_ (Below.mono (by assumption) (by first | (simp; done) | (simp; omega) | omega))))
  generalize ((w.alloc (.cells #[.int .i64 k, .int .i64 cap, .int .i64 n, .slice A m c] 24)).alloc (.cells #[.int .i64 0, .int .i64 0, .int .i64 0, .int .i64 0, .int .i64 0, .int .i64 0] 50)) = w1 at x r o ⊢
  obtain ⟨X0, X1, X2, X3, Xf0, Xf1, Xf2, Xf3⟩ := row_four x
  go_wp2_with fail
  refine (PE.out _ o).mono ?_
  rintro e w3 ⟨v3, rfl, own3, hb3⟩
  obtain ⟨A3, c3, rfl, rd3, nc3, cm3, fr3⟩ := orow_forms own3
  replace r := row_call r hb3
  replace x := row_call x hb3
  replace o := o.trans (hb3.mono o.size)
  have PB := Lib.hid (PB.out A3 c3 w3 rd3)
  clear own3 hb3 X0 X1 X2 X3 Xf0 Xf1 Xf2 Xf3 rd3 fr3 PE
  obtain ⟨X0, X1, X2, X3, Xf0, Xf1, Xf2, Xf3⟩ := row_four x
  go_upto_region 6 with (first | (go_at_call 45; refine PB.out.mono ?_; rintro e w4 ⟨rfl, hb4⟩) | (go_at_call 46; refine (PW.out _).mono ?_; rintro e w5 ⟨rfl, hb5⟩))
  have b := hb4
  have r6 := row_alloc (row_call (row_call r b) hb5) (.cells #[.int .i64 lo, .int .i64 1, .int .i64 md, .int .i64 1, .int .i64 hi, .int .i64 1] 50)
  have m6 : Row (w5.alloc (.cells #[.int .i64 lo, .int .i64 1, .int .i64 md, .int .i64 1, .int .i64 hi, .int .i64 1] 50)) w5.heap.size 50 #[.int .i64 lo, .int .i64 1, .int .i64 md, .int .i64 1, .int .i64 hi, .int .i64 1] := row_new rfl
  have o6 := (o.trans ((b.trans (hb5.mono b.size)).mono o.size)).alloc (o.trans ((b.trans (hb5.mono b.size)).mono o.size)).size (.cells #[.int .i64 lo, .int .i64 1, .int .i64 md, .int .i64 1, .int .i64 hi, .int .i64 1] 50)
  generalize w5.alloc (.cells #[.int .i64 lo, .int .i64 1, .int .i64 md, .int .i64 1, .int .i64 hi, .int .i64 1] 50) = w6 at r6 m6 o6 ⊢
  generalize w5.heap.size = b5 at m6 ⊢
  obtain ⟨R0, R1, R2, R3, R4, R5, Rf0, Rf1, Rf2, Rf3, Rf4, Rf5⟩ := row_six r6
  obtain ⟨M0, M1, M2, M3, M4, M5, Mf0, Mf1, Mf2, Mf3, Mf4, Mf5⟩ := row_six m6
  clear r6 m6 hb5
  go_wp2
  exact bodyPost_ret (v := .tuple #[.agg #[.int .i64 lo, .int .i64 1, .int .i64 md, .int .i64 1, .int .i64 hi, .int .i64 1], .int .i64 0]) (by simp [results, Try.results28, go_sem, R0, R1, R2, R3, R4, R5]) rfl ⟨rfl, below_six o6 (by omega) _ _ _ _ _ _⟩
end Go.Proofs.Ytdibjlphcmjnoaa
