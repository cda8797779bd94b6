/- Summaries of a stream: the entry of least error, walked. -/
import Derived.Test.YtdibjlphcmjnoaaAskD
import Derived.Deep.QuietTactic
import Derived.BigQuiet
set_option linter.unusedVariables false
set_option linter.unusedSimpArgs false
set_option linter.unusedSectionVars false
set_option linter.unnecessarySimpa false
namespace Go.Proofs.Ytdibjlphcmjnoaa
open Go.RowKit
set_option maxHeartbeats 4000000 in
theorem rfor (n r : Int) (A : Option Addr) (m c : Nat) (es : List Tup) (w : World) (hr : Reads w w.heap.size 3 A m (tcells es)) (hl : es.length = m) (hK : EOK n es) (hm : m ≤ 65536) (hn2 : n ≤ 1099511627776) (r0 : 0 ≤ r) (r1 : r ≤ n) : Calls Try.prog 49 #[.slice A m c, .int .i64 r] w fun e w' => e = .returned (.int .i64 (ebest es r m : Nat)) ∧ Below w.heap.size w w' := by
  have HR := Lib.hid hr
  have HL := Lib.hid hl
  have HB := Lib.hid (fun j (hj : j < m) => hK.b j (by rw [hl]; exact hj))
  have b := Below.refl w.heap.size w
  clear hr hl hK
  go_enter Try.func49, Try.ntmps49
  go_wp2
  go_loopw [5, 10] (fun bv i wr => ∃ j : Nat, j ≤ m ∧ i = .int .i64 (j : Nat) ∧ bv = .int .i64 (ebest es r j : Nat) ∧ Below w.heap.size w wr) (fun _ i _ => m - (intOf i).toNat)
  case atStart => exact ⟨0, by omega, rfl, rfl, b⟩
  case round =>
    clear b
    obtain ⟨j, hj, rfl, rfl, b⟩ := hrel
    by_cases hlt : j < m
    · obtain ⟨ad, rfl, hadb, ht0⟩ := ent_at HR.out hlt
      have hb1 := HB.out j hlt
      have hbm : ebest es r j < m := Nat.lt_of_le_of_lt (ebest_le es r j) hlt
      obtain ⟨ad2, h2, hadb2, ht2⟩ := ent_at HR.out hbm
      obtain rfl := Option.some.inj h2
      have hb2 := HB.out _ hbm
      have hs1 : ebest es r (j + 1) = if efar es r j < efar es r (ebest es r j) then j else ebest es r j := rfl
      generalize hs : ebest es r (j + 1) = s1 at hs1
      have HS := Lib.hid hs
      clear hs h2
      generalize ebest es r j = q at hbm ht2 hb2 hs1
      have f1 : efar es r j = max (r - (tupAt es j).g) ((tupAt es j).d - r) := rfl
      have f2 : efar es r q = max (r - (tupAt es q).g) ((tupAt es q).d - r) := rfl
      rw [f1, f2] at hs1
      generalize tupAt es j = e1 at ht0 hb1 hs1
      generalize tupAt es q = e2 at ht2 hb2 hs1
      obtain ⟨ev, eg, ed⟩ := e1
      obtain ⟨bv, bg, bd⟩ := e2
      dsimp only at hs1 hb1 hb2
      clear f1 f2
      have HS1 := Lib.hid hs1
      obtain ⟨p0, p1, p2⟩ := ht0.below b (by rw [block_of_add]; exact hadb)
      obtain ⟨q0, q1, q2⟩ := ht2.below b (by rw [block_of_add]; exact hadb)
      have Q1 := Lib.hid q1
      have Q2 := Lib.hid q2
      dsimp only at p0 p1 p2
      have i1 : (j : Int) < (m : Int) := by omega
      have i2 : (0 : Int) ≤ (j : Int) := by omega
      have i3 : (q : Int) < (m : Int) := by omega
      have i4 : (0 : Int) ≤ (q : Int) := by omega
      have wa : IntKind.i64.wrap (r - eg) = r - eg := IntWalk.i64_in _ (by omega)
      have wb : IntKind.i64.wrap (ed - r) = ed - r := IntWalk.i64_in _ (by omega)
      have wc : IntKind.i64.wrap (r - bg) = r - bg := IntWalk.i64_in _ (by omega)
      have wd : IntKind.i64.wrap (bd - r) = bd - r := IntWalk.i64_in _ (by omega)
      clear ht0 ht2 hs1 q0 q1 q2
      have zr := b.size
      go_upto_region 5 with (fail)
      have ti : Row (wr.alloc (.cells #[.int .i64 ev, .int .i64 eg, .int .i64 ed] 56)) wr.heap.size 56 #[.int .i64 ev, .int .i64 eg, .int .i64 ed] := row_new rfl
      have q1 := Q1.out
      have q2 := Q2.out
      dsimp only at q1 q2
      have BB := (Below.refl wr.heap.size wr).alloc (Nat.le_refl _) (.cells #[.int .i64 ev, .int .i64 eg, .int .i64 ed] 56)
      have nb : (ad.add (q * 3)).block < wr.heap.size := by rw [block_of_add]; omega
      replace q1 := (BB.cell (p := ⟨(ad.add (q * 3)).block, (ad.add (q * 3)).off + 1, none⟩) nb).trans q1
      replace q2 := (BB.cell (p := ⟨(ad.add (q * 3)).block, (ad.add (q * 3)).off + 2, none⟩) nb).trans q2
      replace b := b.alloc b.size (.cells #[.int .i64 ev, .int .i64 eg, .int .i64 ed] 56)
      generalize wr.alloc (.cells #[.int .i64 ev, .int .i64 eg, .int .i64 ed] 56) = w4 at b ti q1 q2 ⊢
      generalize wr.heap.size = tb at ti zr ⊢
      clear p0 p1 p2 BB nb
      obtain ⟨T0, T1, T2, Tf0, Tf1, Tf2⟩ := row_three ti
      clear ti Q1 Q2
      go_quiet (fail)
      by_cases hg : max (r - eg) (ed - r) < max (r - bg) (bd - r)
      · go_wp2
        go_roundw
        case rel => exact ⟨j + 1, by omega, by go_num, by rw [HS.out, HS1.out, if_pos hg], b.trans ⟨rfl, rfl, rfl, Nat.le_refl _, fun _ _ => rfl⟩⟩
        case measure => simp [intOf]; omega
      · go_wp2
        go_roundw
        case rel => exact ⟨j + 1, by omega, by go_num, by rw [HS.out, HS1.out, if_neg hg], b.trans ⟨rfl, rfl, rfl, Nat.le_refl _, fun _ _ => rfl⟩⟩
        case measure => simp [intOf]; omega
    · have i1 : ¬ (j : Int) < (m : Int) := by omega
      obtain rfl : j = m := by omega
      go_wp2
      go_ret
      exact ⟨rfl, b⟩
end Go.Proofs.Ytdibjlphcmjnoaa
