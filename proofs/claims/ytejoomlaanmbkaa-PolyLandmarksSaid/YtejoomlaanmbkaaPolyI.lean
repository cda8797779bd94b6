/- Counters with polynomial decay: items with a landmark; adding them; their sum; the law of truth, walked. -/
import Derived.Test.YtejoomlaanmbkaaPolyE
import Derived.Test.YtejoomlaanmbkaaMathPoly3
namespace Go.Proofs.Ytejoomlaanmbkaa
open Go.RowKit Go.Shelf
/-- What making items with a landmark leaves. -/
def ShRet (land : Int) (w : World) (e : Ending) (w' : World) : Prop :=
  ∃ (A : Option Addr) (c : Nat) (l : List Itm) (last : Int), e = .returned (.slice A l.length c) ∧ Reads w' w'.heap.size 2 A l.length (icells l) ∧ l.length ≤ 60 ∧ PM land (last + land) l ∧ 0 ≤ last ∧ last ≤ 48060 ∧ Below w.heap.size w w' ∧ ∀ a, A = some a → w.heap.size ≤ a.block ∧ a.block < w'.heap.size
set_option maxHeartbeats 2000000 in
theorem pshift (A : Option Addr) (m c : Nat) (l : List Itm) (land : Int) (w : World) (hin : RIn A m c l w) (h0 : 0 ≤ land) (h1 : land ≤ 1000000) :
    Calls Try.prog 24 #[.slice A m c, .int .i64 land] w (ShRet land w) := by
  have PI : RowKit.Hid (∀ w1, Below w.heap.size w w1 → Calls Try.prog 47 #[.slice A m c, .int .i64 400, .int .i64 60, .int .i64 4096] w1 (IRet 60 801 0 4096 w1)) :=
    Lib.hid (fun w1 hb => ppos A m c l 400 60 4096 w1 (hin.below hb) (by decide) (by decide) (by decide) (by decide))
  clear hin
  go_enter Try.func24, Try.ntmps24
  go_wp2_with fail
  refine (PI.out _ (Below.refl _ _)).mono ?_
  intro e w1 hq
  obtain ⟨v, l', last, rfl, own1, hlm, HM0, o⟩ := hq
  have lb : last ≤ 48060 := by have h3 := HM0.2.2; omega
  have lb0 := HM0.2.1
  have TB := Lib.hid (fun i (hi : i < l'.length) => (by have := HM0.1 i hi; exact ⟨this.1, by omega⟩ : 0 ≤ (itmAt l' i).t ∧ (itmAt l' i).t ≤ 48060))
  have HM := Lib.hid (pm_shift (land := land) HM0)
  clear HM0
  obtain ⟨A1, c1, rfl⟩ : ∃ A1 c1, v = .slice A1 l'.length c1 := by
    rcases own1.2 with ⟨h1, h2⟩ | ⟨g, cap, cur, h1, _⟩
    · exact ⟨none, 0, by rw [h1, h2]⟩
    · exact ⟨_, _, h1⟩
  generalize hn : l'.length = n at own1 hlm TB ⊢
  have HN := Lib.hid hn
  clear hn
  have own : w1.ownsRow w.heap.size 51 2 (.slice A1 n c1) n (icells (isome land l' 0)) := by rw [isome_zero]; exact own1
  clear own1
  go_wp2
  go_loopw [11] (fun i wr => ∃ k : Nat, k ≤ n ∧ i = .int .i64 (k : Nat) ∧ wr.ownsRow w.heap.size 51 2 (.slice A1 n c1) n (icells (isome land l' k)) ∧ Below w.heap.size w wr) (fun i _ => n - (intOf i).toNat)
  case atStart => exact ⟨0, by omega, rfl, own, o⟩
  case round =>
    clear own o
    obtain ⟨k, hk, rfl, own, hb⟩ := hrel
    by_cases hlt : k < n
    · obtain ⟨g, c2, hv, hg, hgl⟩ := own.form (by omega)
      simp only [Value.slice.injEq] at hv
      obtain ⟨rfl, _, rfl⟩ := hv
      obtain ⟨own2, _⟩ := own_of_row own
      have hl2 : (isome land l' k).length = n := by rw [isome_len, HN.out]
      have hat := icells_at (isome land l' k) k (by omega)
      rw [isome_at (by rw [HN.out]; exact hlt)] at hat
      have hx := (own2.cell (j := k * 2) (by omega)).trans hat.1
      have hfr := own2.free (k * 2)
      have st := own2.set (k * 2) (.int .i64 ((itmAt l' k).t + land))
      rw [icells_time _ _ (by omega), isome_step (by rw [HN.out]; exact hlt)] at st
      have tb := TB.out k hlt
      generalize (itmAt l' k).t = rt at hx st tb
      have wt : IntKind.i64.wrap (rt + land) = rt + land := IntWalk.i64_in _ (by omega)
      have sb : Below w.heap.size w (wr.setCell ⟨g, k * 2, none⟩ (.int .i64 (rt + land))) := hb.setCell hg _
      have ST := Lib.hid st
      have i1 : (k : Int) < (n : Int) := by omega
      have i2 : (0 : Int) ≤ (k : Int) := by omega
      clear hat st own own2
      go_wp2
      go_roundw
      case rel => exact ⟨k + 1, by omega, by go_num, ST.out.row hg, sb⟩
      case measure => simp [intOf]; omega
    · have i1 : ¬ (k : Int) < (n : Int) := by omega
      obtain rfl : k = n := by omega
      have ha := isome_all land l'
      rw [HN.out] at ha
      rw [ha] at own
      have hlen : (l'.map (ishift land)).length = k := by rw [List.length_map, HN.out]
      obtain ⟨A3, c3, hv, rd3, nc3, cm3, fr3⟩ := orow_forms own
      simp only [Value.slice.injEq] at hv
      obtain ⟨rfl, _, rfl⟩ := hv
      clear ha own
      go_wp2
      go_ret
      exact ⟨A1, c1, l'.map (ishift land), last, by rw [hlen]; rfl, by rw [hlen]; exact rd3, by rw [hlen]; exact hlm, HM.out, lb0, lb, hb, fr3⟩
/-- What adding items leaves: the counter of the items. -/
def RunP (p : Nat) (land : Int) (l : List Itm) (w : World) (e : Ending) (w' : World) : Prop :=
  ∃ A n c, e = .returned (.tuple #[.agg #[.int .i64 (p : Nat), .int .i64 land, .int .i64 (nowP land l l.length), .slice A n c], .bool true]) ∧ PIn (p : Nat) land (nowP land l l.length) A n c (psts p land l) w' ∧ Below w.heap.size w w' ∧ ∀ a, A = some a → w.heap.size ≤ a.block ∧ a.block < w'.heap.size
set_option maxHeartbeats 4000000 in
theorem prun15 (p : Nat) (land last : Int) (A : Option Addr) (m c : Nat) (l : List Itm) (w : World) (hp : p ≤ 4) (h0 : 0 ≤ land) (hm : PM land last l) (hlast : last ≤ 16777216) (hr : Reads w w.heap.size 2 A m (icells l)) (hl : m ≤ 900) :
    Calls Try.prog 25 #[.int .i64 (p : Nat), .int .i64 land, .slice A m c] w (RunP p land l w) := by
  have hlen := hr.itm_len
  have HL := Lib.hid hlen
  have HR := Lib.hid hr
  have HM := Lib.hid hm
  have h2 : land ≤ 16777216 := by have := hm.2; omega
  have CN := fun w => ppnew (p : Int) land w
  rw [pnew_psts hp h0 h2] at CN
  have CN := Lib.hid CN
  have RR := Lib.hid (fun k (hk : k < m) => run_round (k := k) hp h0 hm hlast (by omega) (by omega))
  clear hlen hr hm
  go_enter Try.func25, Try.ntmps25
  go_wp2_with fail
  refine (CN.out _).mono ?_
  intro e w1 hq
  obtain ⟨A1, n1, c1, rfl, i1, hb1, f1⟩ := pret_at rfl hq
  clear hq
  have hz1 := hb1.size
  simp at hz1
  have r : Row w1 w.heap.size 24 #[.int .i64 0, .int .i64 0, .int .i64 0, .slice none 0 0] := row_call (row_new rfl) hb1
  have o : Below w.heap.size w w1 := by (repeat (first | exact Below.refl _ _ | refine Below.setCell ?_ (by first | (simp; done) | (simp; omega) | omega) _ | refine Below.alloc ?_ (by first | (simp; done) | (simp; omega) | omega) _ | refine Below.drew ?_ | refine Below.trans ?_ (Below.mono (by assumption) (by first | (simp; done) | (simp; omega) | omega))))
  go_upto_region 2 with (fail)
  have r := row_alloc r (.cells #[.int .i64 (p : Nat), .int .i64 land, .int .i64 land, .slice A1 n1 c1] 24)
  have x : Row (w1.alloc (.cells #[.int .i64 (p : Nat), .int .i64 land, .int .i64 land, .slice A1 n1 c1] 24)) w1.heap.size 24 #[.int .i64 (p : Nat), .int .i64 land, .int .i64 land, .slice A1 n1 c1] := row_new rfl
  replace o := o.alloc o.size (.cells #[.int .i64 (p : Nat), .int .i64 land, .int .i64 land, .slice A1 n1 c1] 24)
  replace i1 := i1.below (w' := w1.alloc (.cells #[.int .i64 (p : Nat), .int .i64 land, .int .i64 land, .slice A1 n1 c1] 24)) ((Below.refl _ _).alloc (Nat.le_refl _) _)
  have f1 : ∀ a, A1 = some a → w.heap.size < a.block ∧ a.block ≠ w1.heap.size ∧ a.block < (w1.alloc (.cells #[.int .i64 (p : Nat), .int .i64 land, .int .i64 land, .slice A1 n1 c1] 24)).heap.size := fun a e => by have h1 := f1 a e; simp at h1 ⊢; omega
  have zb : w.heap.size < w1.heap.size := by omega
  generalize w1.alloc (.cells #[.int .i64 (p : Nat), .int .i64 land, .int .i64 land, .slice A1 n1 c1] 24) = w2 at r x o i1 f1 ⊢
  generalize w1.heap.size = bx at x f1 zb ⊢
  clear hb1 hz1
  go_wp2
  go_loopw [9, 20] (fun f i wr => ∃ (k : Nat) (A' : Option Addr) (n' c' : Nat), k ≤ m ∧ i = .int .i64 (k : Nat) ∧ f = .int .i64 0 ∧ Row wr w.heap.size 24 #[.int .i64 0, .int .i64 0, .int .i64 0, .slice none 0 0] ∧ Row wr bx 24 #[.int .i64 (p : Nat), .int .i64 land, .int .i64 (nowP land l k), .slice A' n' c'] ∧ RowKit.Hid (PIn (p : Nat) land (nowP land l k) A' n' c' (psts p land (l.take k)) wr) ∧ (∀ a, A' = some a → w.heap.size < a.block ∧ a.block ≠ bx ∧ a.block < wr.heap.size) ∧ Below w.heap.size w wr) (fun _ i _ => m - (intOf i).toNat)
  case atStart => exact ⟨0, A1, n1, c1, by omega, rfl, rfl, r, x, Lib.hid i1, f1, o⟩
  case round =>
    clear r x o i1 f1
    obtain ⟨k, A2, n2, c2, hk, rfl, rfl, r, x, HI, f2, o⟩ := hrel
    by_cases hlt : k < m
    · obtain ⟨ad, rfl, hadb, ht0⟩ := HR.out.itm hlt
      obtain ⟨g0, g1⟩ := ht0.below o (by rw [block_of_add]; exact hadb)
      obtain ⟨V1, R1, R2⟩ := RR.out k hlt
      have CA := fun w1 hb => ppadv (p : Int) land (nowP land l k) A2 n2 c2 (psts p land (l.take k)) (itmAt l k).t w1 (HI.out.below hb)
      rw [R1] at CA
      have CD := fun (A : Option Addr) (n c : Nat) (w1 : World) (h : PIn (p : Int) land (itmAt l k).t A n c (psts p land (l.take k)) w1) => ppadd (p : Int) land (itmAt l k).t A n c (psts p land (l.take k)) (itmAt l k).v w1 h
      rw [R2] at CD
      have HNK := Lib.hid (nowP_succ land l k)
      clear V1 R1 R2
      generalize (itmAt l k).t = tk at g0 CA CD HNK
      generalize (itmAt l k).v = vk at g1 CD
      generalize hnk : nowP land l (k + 1) = nk at CD HNK
      have HNQ := Lib.hid hnk
      clear hnk
      have HNK := HNK.out.symm
      subst HNK
      have CA := Lib.hid CA
      have CD := Lib.hid CD
      have j1 : (k : Int) < (m : Int) := by omega
      have j2 : (0 : Int) ≤ (k : Int) := by omega
      have zw := o.size
      have zx := row_lt x
      obtain ⟨X0, X1, X2, X3, Xf0, Xf1, Xf2, Xf3⟩ := row_four x
      have bi := (Below.refl wr.heap.size wr).alloc (Nat.le_refl _) (.cells #[.int .i64 tk, .int .i64 vk] 51)
      clear ht0
      go_wp2_with fail
      refine (CA.out _ bi).mono ?_
      intro e w5 hq
      obtain ⟨A5, n5, c5, rfl, i5, hb5, f5⟩ := pret_at rfl hq
      clear hq CA bi X0 X1 X2 X3 Xf0 Xf1 Xf2 Xf3
      replace r := row_call (row_alloc r (.cells #[.int .i64 tk, .int .i64 vk] 51)) hb5
      replace x := row_call (row_alloc x (.cells #[.int .i64 tk, .int .i64 vk] 51)) hb5
      have ti : Row w5 wr.heap.size 51 #[.int .i64 tk, .int .i64 vk] := row_call (row_new rfl) hb5
      replace o := (o.alloc zw (.cells #[.int .i64 tk, .int .i64 vk] 51)).trans (hb5.mono (by simp; omega))
      have zt := row_lt ti
      have f5' : ∀ a, A5 = some a → a.block ≠ bx := fun a e => by have h := f5 a e; simp at h; omega
      obtain ⟨X0, X1, X2, X3, Xf0, Xf1, Xf2, Xf3⟩ := row_four x
      obtain ⟨I0, I1, If0, If1⟩ := row_two ti
      have x2 : Row ((((w5.setCell ⟨bx, 0, none⟩ (.int .i64 (p : Nat))).setCell ⟨bx, 1, none⟩ (.int .i64 land)).setCell ⟨bx, 2, none⟩ (.int .i64 tk)).setCell ⟨bx, 3, none⟩ (.slice A5 n5 c5)) bx 24 #[.int .i64 (p : Nat), .int .i64 land, .int .i64 tk, .slice A5 n5 c5] := row_four_set x
      have r2 := row_four_other (c := bx) (u0 := .int .i64 (p : Nat)) (u1 := .int .i64 land) (u2 := .int .i64 tk) (u3 := .slice A5 n5 c5) r (by omega)
      have i6 := i5.row (b := bx) f5' (.int .i64 (p : Nat)) (.int .i64 land) (.int .i64 tk) (.slice A5 n5 c5)
      have o2 := below_four (b := bx) o (by omega) (.int .i64 (p : Nat)) (.int .i64 land) (.int .i64 tk) (.slice A5 n5 c5)
      have sz := size_four w5 bx (.int .i64 (p : Nat)) (.int .i64 land) (.int .i64 tk) (.slice A5 n5 c5)
      have nb : wr.heap.size ≠ bx := by omega
      clear hb5 i5
      go_wp2_with fail
      refine (CD.out _ _ _ _ i6).mono ?_
      intro e w6 hq
      generalize ((((w5.setCell ⟨bx, 0, none⟩ (.int .i64 (p : Nat))).setCell ⟨bx, 1, none⟩ (.int .i64 land)).setCell ⟨bx, 2, none⟩ (.int .i64 tk)).setCell ⟨bx, 3, none⟩ (.slice A5 n5 c5)) = w7 at x2 r2 i6 o2 sz hq
      obtain ⟨A6, n6, c6, rfl, i7, hb6, f6⟩ := pret_at rfl hq
      clear hq i6 X0 X1 X2 X3 Xf0 Xf1 Xf2 Xf3 I0 I1 If0 If1 CD x r o
      have x := row_call x2 hb6
      have r := row_call r2 hb6
      have o := o2.trans (hb6.mono (by have := o2.size; omega))
      have f6' : ∀ a, A6 = some a → a.block ≠ bx := fun a e => by have h := f6 a e; omega
      have f7 : ∀ a, A6 = some a → w.heap.size < a.block ∧ a.block ≠ bx ∧ a.block < ((((w6.setCell ⟨bx, 0, none⟩ (.int .i64 (p : Nat))).setCell ⟨bx, 1, none⟩ (.int .i64 land)).setCell ⟨bx, 2, none⟩ (.int .i64 tk)).setCell ⟨bx, 3, none⟩ (.slice A6 n6 c6)).heap.size := fun a e => by have h := f6 a e; rw [size_four]; omega
      obtain ⟨X0, X1, X2, X3, Xf0, Xf1, Xf2, Xf3⟩ := row_four x
      have x3 : Row ((((w6.setCell ⟨bx, 0, none⟩ (.int .i64 (p : Nat))).setCell ⟨bx, 1, none⟩ (.int .i64 land)).setCell ⟨bx, 2, none⟩ (.int .i64 tk)).setCell ⟨bx, 3, none⟩ (.slice A6 n6 c6)) bx 24 #[.int .i64 (p : Nat), .int .i64 land, .int .i64 tk, .slice A6 n6 c6] := row_four_set x
      have r3 := row_four_other (c := bx) (u0 := .int .i64 (p : Nat)) (u1 := .int .i64 land) (u2 := .int .i64 tk) (u3 := .slice A6 n6 c6) r (by omega)
      have i8 := i7.row (b := bx) f6' (.int .i64 (p : Nat)) (.int .i64 land) (.int .i64 tk) (.slice A6 n6 c6)
      have o3 := below_four (b := bx) o (by omega) (.int .i64 (p : Nat)) (.int .i64 land) (.int .i64 tk) (.slice A6 n6 c6)
      clear x2 r2 o2 i7 hb6 r o x
      go_wp2
      go_roundw
      case rel => exact ⟨k + 1, A6, n6, c6, by omega, by go_num, rfl, r3, by rw [HNQ.out]; exact x3, by rw [HNQ.out]; exact Lib.hid i8, f7, o3⟩
      case measure => simp [intOf]; omega
    · have j1 : ¬ (k : Int) < (m : Int) := by omega
      obtain rfl : k = m := by omega
      have zx := row_lt x
      have zr := row_lt r
      obtain ⟨X0, X1, X2, X3, Xf0, Xf1, Xf2, Xf3⟩ := row_four x
      obtain ⟨R0, R1, R2, R3, Rf0, Rf1, Rf2, Rf3⟩ := row_four r
      have i9 := HI.out.row (b := w.heap.size) (fun a e => by have := (f2 a e).1; omega) (.int .i64 (p : Nat)) (.int .i64 land) (.int .i64 (nowP land l k)) (.slice A2 n2 c2)
      have o9 := below_four (b := w.heap.size) o (Nat.le_refl _) (.int .i64 (p : Nat)) (.int .i64 land) (.int .i64 (nowP land l k)) (.slice A2 n2 c2)
      have F2 := Lib.hid f2
      have sz := size_four wr w.heap.size (.int .i64 (p : Nat)) (.int .i64 land) (.int .i64 (nowP land l k)) (.slice A2 n2 c2)
      clear f2
      go_wp2
      exact bodyPost_ret (v := .tuple #[.agg #[.int .i64 (p : Nat), .int .i64 land, .int .i64 (nowP land l k), .slice A2 n2 c2], .bool true]) (by simp [results, Try.results25, go_sem, R0, R1, R2, R3]) rfl ⟨A2, n2, c2, by rw [HL.out], by rw [HL.out]; rw [List.take_of_length_le (by rw [HL.out]; exact Nat.le_refl _)] at i9; exact i9, o9, fun a e => by have := F2.out a e; rw [sz]; omega⟩
set_option maxHeartbeats 4000000 in
theorem rpoly8 (p : Nat) (land now : Int) (A : Option Addr) (m c : Nat) (l : List Itm) (w : World) (hp : p ≤ 4) (h0 : 0 ≤ land) (h1 : land ≤ 16777216) (hnow : now ≤ 16777216) (hf : Fit land now l) (hr : Reads w w.heap.size 2 A m (icells l)) (hl : m ≤ 900) :
    Calls Try.prog 26 #[.slice A m c, .int .i64 land, .int .i64 (p : Nat)] w fun e w' => e = .returned (.tuple #[W (pmom land l p), .bool true]) ∧ Below w.heap.size w w' := by
  have hlen := hr.itm_len
  have HL := Lib.hid hlen
  have HR := Lib.hid hr
  have HF := Lib.hid hf
  have q1 : ¬ (p : Int) < 0 := by omega
  have q2 : ¬ 4 < (p : Int) := by omega
  clear hlen hr hf
  go_enter Try.func26, Try.ntmps26
  go_upto_region 4 with (first | (go_at_call 32; refine (rtick_yes _ h0 h1 _).mono ?_; rintro e w9 ⟨rfl, h9⟩; obtain rfl := h9.symm))
  have r : Row ((w.alloc (.cells #[.int .u64 0, .int .u64 0] 35)).alloc (.cells #[.int .u64 0, .int .u64 0] 35)) w.heap.size 35 #[.int .u64 0, .int .u64 0] := row_alloc (row_new rfl) _
  have s0 : Row ((w.alloc (.cells #[.int .u64 0, .int .u64 0] 35)).alloc (.cells #[.int .u64 0, .int .u64 0] 35)) (w.heap.size + 1) 35 #[.int .u64 0, .int .u64 0] := row_new (by simp)
  have s : Row ((w.alloc (.cells #[.int .u64 0, .int .u64 0] 35)).alloc (.cells #[.int .u64 0, .int .u64 0] 35)) (w.heap.size + 1) 35 #[.int .u64 (hi (pmom land (l.take 0) p)), .int .u64 (lo (pmom land (l.take 0) p))] := by
    have e : pmom land (l.take 0) p = 0 := by rw [List.take_zero]; exact pmom_nil _ _
    rw [e, hi_0, lo_0]
    exact s0
  clear s0
  have o : Below w.heap.size w ((w.alloc (.cells #[.int .u64 0, .int .u64 0] 35)).alloc (.cells #[.int .u64 0, .int .u64 0] 35)) := by (repeat (first | exact Below.refl _ _ | refine Below.setCell ?_ (by first | (simp; done) | (simp; omega) | omega) _ | refine Below.alloc ?_ (by first | (simp; done) | (simp; omega) | omega) _ | refine Below.drew ?_ | refine Below.trans ?_ (Below.mono (by assumption) (by first | (simp; done) | (simp; omega) | omega))))
  generalize ((w.alloc (.cells #[.int .u64 0, .int .u64 0] 35)).alloc (.cells #[.int .u64 0, .int .u64 0] 35)) = w1 at r s o ⊢
  clear q1 q2
  go_wp2
  go_loopw [29] (fun i wr => ∃ k : Nat, k ≤ m ∧ i = .int .i64 (k : Nat) ∧ Row wr w.heap.size 35 #[.int .u64 0, .int .u64 0] ∧ Row wr (w.heap.size + 1) 35 #[.int .u64 (hi (pmom land (l.take k) p)), .int .u64 (lo (pmom land (l.take k) p))] ∧ Below w.heap.size w wr) (fun i _ => m - (intOf i).toNat)
  case atStart => exact ⟨0, by omega, rfl, r, s, o⟩
  case round =>
    clear r s o
    obtain ⟨k, hk, rfl, r, s, o⟩ := hrel
    by_cases hlt : k < m
    · obtain ⟨ad, rfl, hadb, ht0⟩ := HR.out.itm hlt
      obtain ⟨g0, g1⟩ := ht0.below o (by rw [block_of_add]; exact hadb)
      have kl : k < l.length := by rw [HL.out]; exact hlt
      have xm : itmAt l k ∈ l := by rw [← itm_eq kl]; exact List.getElem_mem kl
      obtain ⟨b1, b2, b3, b4⟩ := HF.out _ xm
      have hst : pmom land (l.take (k + 1)) p = pmom land (l.take k) p + powN (ageN land (itmAt l k).t) p * (itmAt l k).v.toNat := by rw [take_snoc kl, pmom_snoc]; rfl
      have hb4 : pmom land (l.take (k + 1)) p < big := pmom_fits h0 hnow hp (fun x hx => HF.out x (List.mem_of_mem_take hx)) (by rw [List.length_take]; omega)
      generalize (itmAt l k).t = tk at g0 b1 b2 hst
      obtain ⟨vn, hvn⟩ : ∃ vn : Nat, (itmAt l k).v = (vn : Int) := ⟨(itmAt l k).v.toNat, by omega⟩
      rw [hvn] at g1 b3 b4 hst
      rw [Int.toNat_natCast] at hst
      obtain ⟨a1, a2⟩ := ageN_bound h0 b1 (show tk ≤ 16777216 by omega)
      have ai := ageN_int b1
      generalize ageN land tk = av at a1 a2 ai hst
      have wa : IntKind.i64.wrap (tk - land) = tk - land := IntWalk.i64_in _ (by omega)
      have wb : IntKind.i64.wrap (tk - land + 1) = tk - land + 1 := IntWalk.i64_in _ (by omega)
      have wc : IntKind.u64.wrap (tk - land + 1) = (av : Int) := by rw [IntWalk.u64_in _ (by omega)]; omega
      have wv : IntKind.u64.wrap (vn : Int) = (vn : Int) := IntWalk.u64_in _ (by omega)
      have PO := Lib.hid (fun w => rof vn (by omega) w)
      have PW := fun w => rpow_any av (by omega) (p : Int) (by omega) w
      rw [powIV_nat, powIB_nat, (pow_yes (powN_fits a2 hp)).1, (pow_yes (powN_fits a2 hp)).2] at PW
      have ub := powT_fits (v := vn) a2 hp (by omega)
      have ub' : vn * powN av p < big := by rw [Nat.mul_comm]; exact ub
      have PM := fun w => rmul vn (powN av p) (by unfold big; omega) (powN_fits a2 hp) w
      rw [(mulV_yes ub').1, (mulV_yes ub').2, Nat.mul_comm vn] at PM
      generalize powN av p * vn = u at PM ub hst
      generalize powN av p = pj at PW PM
      generalize hs0 : pmom land (l.take k) p = s0 at s hst
      generalize hr0 : pmom land (l.take (k + 1)) p = s1 at hst hb4
      have HRR := Lib.hid hr0
      subst hst
      have PA := Lib.hid (fun w => radd_fits s0 u (by omega) ub hb4 w)
      have PW := Lib.hid PW
      have PM := Lib.hid PM
      have j1 : (k : Int) < (m : Int) := by omega
      have j2 : (0 : Int) ≤ (k : Int) := by omega
      have t1 : 0 ≤ tk := by omega
      have t2 : tk ≤ 16777216 := by omega
      have t3 : ¬ tk < land := by omega
      have t4 : ¬ (vn : Int) < 0 := by omega
      clear ht0 hs0 hr0 hvn xm ai ub'
      have zt : w.heap.size + 1 < wr.heap.size := row_lt s
      go_upto_region 7 with (fail)
      replace r := row_alloc r (.cells #[.int .i64 tk, .int .i64 (vn : Nat)] 51)
      replace s := row_alloc s (.cells #[.int .i64 tk, .int .i64 (vn : Nat)] 51)
      replace o := o.alloc o.size (.cells #[.int .i64 tk, .int .i64 (vn : Nat)] 51)
      have ti : Row (wr.alloc (.cells #[.int .i64 tk, .int .i64 (vn : Nat)] 51)) wr.heap.size 51 #[.int .i64 tk, .int .i64 (vn : Nat)] := row_new rfl
      generalize wr.alloc (.cells #[.int .i64 tk, .int .i64 (vn : Nat)] 51) = wq at r s o ti ⊢
      generalize wr.heap.size = tb at ti zt ⊢
      clear g0 g1
      obtain ⟨I0, I1, If0, If1⟩ := row_two ti
      go_upto_region 10 with (first | (go_at_call 32; refine (rtick_yes _ t1 t2 _).mono ?_; rintro e w9 ⟨rfl, h9⟩; obtain rfl := h9.symm) | (go_at_call 41; with_reducible refine (PW.out _).mono ?_; rintro e w1 ⟨rfl, hb1⟩; have hz1 := hb1.size; (try simp at hz1)))
      clear I0 I1 If0 If1
      replace r := row_call r hb1
      replace s := row_call s hb1
      replace ti := row_call ti hb1
      replace o := o.trans (hb1.mono o.size)
      replace r := row_alloc r (.cells #[.int .u64 (hi pj), .int .u64 (lo pj)] 35)
      replace s := row_alloc s (.cells #[.int .u64 (hi pj), .int .u64 (lo pj)] 35)
      replace ti := row_alloc ti (.cells #[.int .u64 (hi pj), .int .u64 (lo pj)] 35)
      replace o := o.alloc o.size (.cells #[.int .u64 (hi pj), .int .u64 (lo pj)] 35)
      have k1 : Row (w1.alloc (.cells #[.int .u64 (hi pj), .int .u64 (lo pj)] 35)) w1.heap.size 35 #[.int .u64 (hi pj), .int .u64 (lo pj)] := row_new rfl
      generalize w1.alloc (.cells #[.int .u64 (hi pj), .int .u64 (lo pj)] 35) = w2 at r s ti o k1 ⊢
      generalize w1.heap.size = b1 at k1 hz1 ⊢
      clear hb1
      refine wp_region_free1 [0, 1, 2, 3, 4, 5, 6, 8, 7] [8] [0, 1, 2, 3, 4, 5, 6, 7, 9] (9, 35, #[.int .u64 0, .int .u64 0]) 13 10 (fun w' => Below w2.heap.size w2 w') (by kernel_rfl) (by kernel_rfl) ⟨_, _, rfl, rfl, rfl, fun ρ w' => by go_simp⟩ rfl (by simp) (fun _ h => h.alloc h.size _) (fun _ _ d _ _ h => by cases d <;> exact h) ?_ ?_
      · exact (Below.refl _ _).drew
      (refine plan_pure ?_ rfl rfl (fun w' => ?_) ?_; rotate_left; (go_simp; try with_reducible rfl); simp only [Act.put, List.setIfInBounds_toArray, List.set_cons_zero, List.set_cons_succ])
      (refine plan_val ?_ rfl rfl rfl (fun w' hS => ?_) ?_; rotate_left; (obtain ⟨Q0, Q1, Qf0, Qf1⟩ := row_two (row_call k1 hS); obtain ⟨I0, I1, If0, If1⟩ := row_two (row_call ti hS); go_simp; try with_reducible rfl); simp only [Act.put, List.setIfInBounds_toArray, List.set_cons_zero, List.set_cons_succ])
      (refine plan_pure ?_ rfl rfl (fun w' => ?_) ?_; rotate_left; (go_simp; try with_reducible rfl); simp only [Act.put, List.setIfInBounds_toArray, List.set_cons_zero, List.set_cons_succ])
      refine plan_call (W vn) 43 #[.int .u64 (vn : Nat)] rfl rfl rfl (fun _ _ h hb => h.trans (hb.mono h.size)) (fun w' hS => by obtain ⟨Q0, Q1, Qf0, Qf1⟩ := row_two (row_call k1 hS); obtain ⟨I0, I1, If0, If1⟩ := row_two (row_call ti hS); go_simp) (fun w' hS => PO.out w') ?_
      simp only [Act.put, List.setIfInBounds_toArray, List.set_cons_zero, List.set_cons_succ]
      (refine plan_val ?_ rfl rfl rfl (fun w' hS => ?_) ?_; rotate_left; (obtain ⟨Q0, Q1, Qf0, Qf1⟩ := row_two (row_call k1 hS); obtain ⟨I0, I1, If0, If1⟩ := row_two (row_call ti hS); go_simp; try with_reducible rfl); simp only [Act.put, List.setIfInBounds_toArray, List.set_cons_zero, List.set_cons_succ])
      refine plan_call (.tuple #[W u, .bool true]) 42 #[W vn, W pj] rfl rfl rfl (fun _ _ h hb => h.trans (hb.mono h.size)) (fun w' hS => by obtain ⟨Q0, Q1, Qf0, Qf1⟩ := row_two (row_call k1 hS); obtain ⟨I0, I1, If0, If1⟩ := row_two (row_call ti hS); go_simp) (fun w' hS => PM.out w') ?_
      simp only [Act.put, List.setIfInBounds_toArray, List.set_cons_zero, List.set_cons_succ]
      (refine plan_pure ?_ rfl rfl (fun w' => ?_) ?_; rotate_left; (go_simp; try with_reducible rfl); simp only [Act.put, List.setIfInBounds_toArray, List.set_cons_zero, List.set_cons_succ])
      (refine plan_pure ?_ rfl rfl (fun w' => ?_) ?_; rotate_left; (go_simp; try with_reducible rfl); simp only [Act.put, List.setIfInBounds_toArray, List.set_cons_zero, List.set_cons_succ])
      (refine plan_pure ?_ rfl rfl (fun w' => ?_) ?_; rotate_left; (go_simp; try with_reducible rfl); simp only [Act.put, List.setIfInBounds_toArray, List.set_cons_zero, List.set_cons_succ])
      refine plan_nil ?_
      intro g8 w3 L3 hr8 hg8
      simp only [List.drop_succ_cons, List.drop_zero]
      try simp only [Act.put, List.setIfInBounds_toArray, List.set_cons_zero, List.set_cons_succ]
      have zk1 := row_lt k1
      have zr := row_lt r
      have zs := row_lt s
      have zti := row_lt ti
      have zo := o.size
      replace r := row_call r L3
      replace s := row_call s L3
      replace o := o.trans (L3.mono o.size)
      clear k1 L3 ti
      obtain ⟨Q0, Q1, Qf0, Qf1⟩ := row_two hr8
      go_upto_region 11 with (fail)
      clear Q0 Q1 Qf0 Qf1
      replace r := row_other (p := ⟨g8, 0, none⟩) r (by show w.heap.size ≠ g8; omega) (.int .u64 (hi u))
      replace s := row_other (p := ⟨g8, 0, none⟩) s (by show w.heap.size + 1 ≠ g8; omega) (.int .u64 (hi u))
      replace o := o.setCell (p := ⟨g8, 0, none⟩) (by show w.heap.size ≤ g8; omega) (.int .u64 (hi u))
      replace r := row_other (p := ⟨g8, 1, none⟩) r (by show w.heap.size ≠ g8; omega) (.int .u64 (lo u))
      replace s := row_other (p := ⟨g8, 1, none⟩) s (by show w.heap.size + 1 ≠ g8; omega) (.int .u64 (lo u))
      replace o := o.setCell (p := ⟨g8, 1, none⟩) (by show w.heap.size ≤ g8; omega) (.int .u64 (lo u))
      have k2 := row_two_set (u := .int .u64 (hi u)) (v := .int .u64 (lo u)) hr8
      generalize ((w3.setCell ⟨g8, 0, none⟩ (.int .u64 (hi u))).setCell ⟨g8, 1, none⟩ (.int .u64 (lo u))) = w6 at r s o k2 ⊢
      clear hr8
      obtain ⟨Q0, Q1, Qf0, Qf1⟩ := row_two k2
      obtain ⟨S0, S1, Sf0, Sf1⟩ := row_two s
      go_upto_region 14 with (go_at_call 48; with_reducible refine (PA.out _).mono ?_; rintro e w9 ⟨rfl, hb9⟩; have s9 := row_call s hb9; obtain ⟨T0, T1, Tf0, Tf1⟩ := row_two s9)
      clear Q0 Q1 Qf0 Qf1 S0 S1 Sf0 Sf1 T0 T1 Tf0 Tf1 s9
      replace r := row_call r hb9
      replace s := row_call s hb9
      replace o := o.trans (hb9.mono o.size)
      clear hb9 k2
      replace r := row_other (p := ⟨(w.heap.size + 1), 0, none⟩) r (by show w.heap.size ≠ w.heap.size + 1; omega) (.int .u64 (hi (s0 + u)))
      replace o := o.setCell (p := ⟨(w.heap.size + 1), 0, none⟩) (by show w.heap.size ≤ w.heap.size + 1; omega) (.int .u64 (hi (s0 + u)))
      replace r := row_other (p := ⟨(w.heap.size + 1), 1, none⟩) r (by show w.heap.size ≠ w.heap.size + 1; omega) (.int .u64 (lo (s0 + u)))
      replace o := o.setCell (p := ⟨(w.heap.size + 1), 1, none⟩) (by show w.heap.size ≤ w.heap.size + 1; omega) (.int .u64 (lo (s0 + u)))
      have s2 : Row ((w9.setCell ⟨(w.heap.size + 1), 0, none⟩ (.int .u64 (hi (s0 + u)))).setCell ⟨(w.heap.size + 1), 1, none⟩ (.int .u64 (lo (s0 + u)))) (w.heap.size + 1) 35 #[.int .u64 (hi (s0 + u)), .int .u64 (lo (s0 + u))] := row_two_set s
      clear s
      generalize ((w9.setCell ⟨(w.heap.size + 1), 0, none⟩ (.int .u64 (hi (s0 + u)))).setCell ⟨(w.heap.size + 1), 1, none⟩ (.int .u64 (lo (s0 + u)))) = w10 at r o s2 ⊢
      go_wp2
      go_roundw
      case rel => exact ⟨k + 1, by omega, by go_num, r, by rw [HRR.out]; exact s2, o⟩
      case measure => simp [intOf]; omega
    · have j1 : ¬ (k : Int) < (m : Int) := by omega
      obtain rfl : k = m := by omega
      rw [List.take_of_length_le (by rw [HL.out]; exact Nat.le_refl _)] at s
      obtain ⟨S0, S1, Sf0, Sf1⟩ := row_two s
      obtain ⟨R0, R1, Rf0, Rf1⟩ := row_two r
      go_wp2
      exact bodyPost_ret (v := .tuple #[W (pmom land l p), .bool true]) (by simp [results, Try.results26, go_sem, R0, R1, W]) rfl ⟨rfl, by (repeat (first | exact Below.refl _ _ | refine Below.setCell ?_ (by first | (simp; done) | (simp; omega) | omega) _ | refine Below.alloc ?_ (by first | (simp; done) | (simp; omega) | omega) _ | refine Below.drew ?_ | refine Below.trans ?_ (Below.mono (by assumption) (by first | (simp; done) | (simp; omega) | omega))))⟩
end Go.Proofs.Ytejoomlaanmbkaa
