/- Summaries of a stream: the reference's Insert and Compress, walked. -/
import Derived.Test.YtdibjlphcmjnoaaSumS
import Derived.Test.YtdibjlphcmjnoaaSumR
import Derived.Test.YtdibjlphcmjnoaaPhase
namespace Go.Proofs.Ytdibjlphcmjnoaa
open Go.RowKit
/-- What fit leaves: a state and an error; its slice is the one that was given, or a new one. -/
def FRet (A : Option Addr) (r : SOut) (w : World) (e : Ending) (w' : World) : Prop :=
  ∃ A' m c, e = .returned (.tuple #[.agg #[.int .i64 r.k, .int .i64 r.cap, .int .i64 r.n, .slice A' m c], .int .i64 r.f]) ∧ SIn r.k r.cap r.n A' m c r.ts w' ∧ Below w.heap.size w w' ∧ ∀ a, A' = some a → A = some a ∨ (w.heap.size ≤ a.block ∧ a.block < w'.heap.size)
set_option maxHeartbeats 4000000 in
theorem rfit (k cap n : Int) (A : Option Addr) (m c : Nat) (ts : List Tup) (w : World) (hin : SIn k cap n A m c ts w) (n0 : 0 ≤ n) (n1 : n ≤ 1099511627776) (k0 : 1 ≤ k) (hb : ∀ t ∈ ts, TB 4398046511104 t) (hmm : m ≤ 1000000) (hA : ∀ a, A = some a → a.block < w.heap.size) :
    Calls Try.prog 38 #[.agg #[.int .i64 k, .int .i64 cap, .int .i64 n, .slice A m c]] w (FRet A (sfit k cap n ts) w) := by
  have hl := hin.len
  by_cases hc : (m : Int) ≤ cap
  · rw [sfit_short (by rw [hl]; exact hc)]
    have HR := Lib.hid hin
    have t1 : ¬ cap < (m : Int) := by omega
    clear hin hl hb hc
    go_enter Try.func38, Try.ntmps38
    go_wp2_with fail
    exact bodyPost_ret (v := .tuple #[.agg #[.int .i64 k, .int .i64 cap, .int .i64 n, .slice A m c], .int .i64 0]) (by simp [results, Try.results38, go_sem, List.getElem?_toArray]) rfl ⟨A, m, c, rfl, HR.out.below (by (repeat (first | exact Below.refl _ _ | refine Below.setCell ?_ (by first | (simp; done) | (simp; omega) | omega) _ | refine Below.alloc ?_ (by first | (simp; done) | (simp; omega) | omega) _ | refine Below.drew ?_ | refine Below.trans ?_ (Below.mono (by assumption) (by first | (simp; done) | (simp; omega) | omega))))), by (repeat (first | exact Below.refl _ _ | refine Below.setCell ?_ (by first | (simp; done) | (simp; omega) | omega) _ | refine Below.alloc ?_ (by first | (simp; done) | (simp; omega) | omega) _ | refine Below.drew ?_ | refine Below.trans ?_ (Below.mono (by assumption) (by first | (simp; done) | (simp; omega) | omega)))), fun a e => .inl e⟩
  · have PJ := rjoin k cap n A m c ts
    have TBC := Lib.hid (comp_TB (m := smost n k) (by have := smost_small (n := n) (k := k) n0 n1 k0; omega) hb)
    have F1 := Lib.hid (fun (h2 : ((comp (smost n k) ts).length : Int) ≤ cap) => sfit_comp (k := k) (n := n) (ts := ts) (show cap < (ts.length : Int) by rw [hl]; omega) h2)
    have F2 := Lib.hid (fun (h2 : cap < ((comp (smost n k) ts).length : Int)) => sfit_full (k := k) (n := n) (ts := ts) (show cap < (ts.length : Int) by rw [hl]; omega) h2)
    have PJ := Lib.hid (fun w1 (hb1 : Below w.heap.size w w1) => PJ w1 (hin.below hb1) n0 n1 k0 hb hmm)
    have t1 : cap < (m : Int) := by omega
    have kB := hin.kB
    have cB := hin.capB
    have nB := hin.nB
    generalize hres : sfit k cap n ts = res at F1 F2
    have HRES := Lib.hid hres
    generalize comp (smost n k) ts = cl at PJ TBC F1 F2
    clear hin hl hb hc hres
    go_enter Try.func38, Try.ntmps38
    have X : Row ((w.alloc (.cells #[.int .i64 k, .int .i64 cap, .int .i64 n, .slice A m c] 24)).alloc (.cells #[.int .i64 0, .int .i64 0, .int .i64 0, .slice none 0 0] 24)) (w.heap.size) 24 #[.int .i64 k, .int .i64 cap, .int .i64 n, .slice A m c] := row_alloc (row_new rfl) _
    have R : Row ((w.alloc (.cells #[.int .i64 k, .int .i64 cap, .int .i64 n, .slice A m c] 24)).alloc (.cells #[.int .i64 0, .int .i64 0, .int .i64 0, .slice none 0 0] 24)) (w.heap.size + 1) 24 #[.int .i64 0, .int .i64 0, .int .i64 0, .slice none 0 0] := row_new (by simp)
    have o1 : Below w.heap.size w ((w.alloc (.cells #[.int .i64 k, .int .i64 cap, .int .i64 n, .slice A m c] 24)).alloc (.cells #[.int .i64 0, .int .i64 0, .int .i64 0, .slice none 0 0] 24)) := by (repeat (first | exact Below.refl _ _ | refine Below.setCell ?_ (by first | (simp; done) | (simp; omega) | omega) _ | refine Below.alloc ?_ (by first | (simp; done) | (simp; omega) | omega) _ | refine Below.drew ?_ | refine Below.trans ?_ (Below.mono (by assumption) (by first | (simp; done) | (simp; omega) | omega))))
    have zz : w.heap.size + 2 ≤ ((w.alloc (.cells #[.int .i64 k, .int .i64 cap, .int .i64 n, .slice A m c] 24)).alloc (.cells #[.int .i64 0, .int .i64 0, .int .i64 0, .slice none 0 0] 24)).heap.size := by simp
    go_upto_region 1 with (fail)
    generalize ((w.alloc (.cells #[.int .i64 k, .int .i64 cap, .int .i64 n, .slice A m c] 24)).alloc (.cells #[.int .i64 0, .int .i64 0, .int .i64 0, .slice none 0 0] 24)) = w1 at X R o1 zz ⊢
    obtain ⟨X0, X1, X2, X3, _, _, _, _⟩ := row_four X
    go_wp2_with fail
    refine (PJ.out _ o1).mono ?_
    rintro e w3 ⟨g, L, c3, rfl, own3, hg3, hb3⟩
    clear X0 X1 X2 X3
    have X := row_call X hb3
    have R := row_call R hb3
    have o3 := o1.trans (hb3.mono o1.size)
    obtain ⟨X0, X1, X2, X3, X4, X5, X6, X7⟩ := row_four X
    go_upto_region 3 with (fail)
    clear X0 X1 X2 X3 X4 X5 X6 X7
    have X := row_four_set (u0 := .int .i64 k) (u1 := .int .i64 cap) (u2 := .int .i64 n) (u3 := .slice (some ⟨g, 0, none⟩) L c3) X
    have R := row_four_other (c := w.heap.size) (u0 := .int .i64 k) (u1 := .int .i64 cap) (u2 := .int .i64 n) (u3 := .slice (some ⟨g, 0, none⟩) L c3) R (by omega)
    have own4 := (((own3.other (p := ⟨w.heap.size, 0, none⟩) (by simp; omega) (.int .i64 k)).other (p := ⟨w.heap.size, 1, none⟩) (by simp; omega) (.int .i64 cap)).other (p := ⟨w.heap.size, 2, none⟩) (by simp; omega) (.int .i64 n)).other (p := ⟨w.heap.size, 3, none⟩) (by simp; omega) (.slice (some ⟨g, 0, none⟩) L c3)
    have o4 := below_four o3 (Nat.le_refl _) (.int .i64 k) (.int .i64 cap) (.int .i64 n) (.slice (some ⟨g, 0, none⟩) L c3)
    generalize ((((w3.setCell ⟨w.heap.size, 0, none⟩ (.int .i64 k)).setCell ⟨w.heap.size, 1, none⟩ (.int .i64 cap)).setCell ⟨w.heap.size, 2, none⟩ (.int .i64 n)).setCell ⟨w.heap.size, 3, none⟩ (.slice (some ⟨g, 0, none⟩) L c3)) = w4 at X R own4 o4 ⊢
    obtain ⟨X0, X1, X2, X3, X4, X5, X6, X7⟩ := row_four X
    obtain ⟨R0, R1, R2, R3, R4, R5, R6, R7⟩ := row_four R
    have ll := own4.tlen
    have gb : w.heap.size + 1 < g := by omega
    by_cases hd : (L : Int) ≤ cap
    · have t2 : ¬ cap < (L : Int) := by omega
      have E := F1.out (by rw [ll]; exact hd)
      clear hd
      go_wp2
      have ow : Own ((((w4.setCell ⟨w.heap.size + 1, 0, none⟩ (.int .i64 k)).setCell ⟨w.heap.size + 1, 1, none⟩ (.int .i64 cap)).setCell ⟨w.heap.size + 1, 2, none⟩ (.int .i64 n)).setCell ⟨w.heap.size + 1, 3, none⟩ (.slice (some ⟨g, 0, none⟩) L c3)) 66 3 g L c3 (tcells cl) :=
        (((own4.other (by simp; omega) _).other (by simp; omega) _).other (by simp; omega) _).other (by simp; omega) _
      have ob : Below w.heap.size w ((((w4.setCell ⟨w.heap.size + 1, 0, none⟩ (.int .i64 k)).setCell ⟨w.heap.size + 1, 1, none⟩ (.int .i64 cap)).setCell ⟨w.heap.size + 1, 2, none⟩ (.int .i64 n)).setCell ⟨w.heap.size + 1, 3, none⟩ (.slice (some ⟨g, 0, none⟩) L c3)) := by
        (repeat (first | exact Below.refl _ _ | refine Below.setCell ?_ (by first | (simp; done) | (simp; omega) | omega) _ | refine Below.alloc ?_ (by first | (simp; done) | (simp; omega) | omega) _ | refine Below.drew ?_ | refine Below.trans ?_ (Below.mono (by assumption) (by first | (simp; done) | (simp; omega) | omega))))
      exact bodyPost_ret (v := .tuple #[.agg #[.int .i64 k, .int .i64 cap, .int .i64 n, .slice (some ⟨g, 0, none⟩) L c3], .int .i64 0]) (by simp [results, Try.results38, go_sem, X0, X1, X2, X3, R0, R1, R2, R3]) rfl (by (try rw [HRES.out]); (try rw [E]); exact ⟨some ⟨g, 0, none⟩, L, c3, rfl, ⟨ow.reads, kB, cB, nB, fun i => T64.of (TB_at (by decide) TBC.out i) (by decide), ow.cap.1, ow.cap.2⟩, ob, fun a e => by cases e; exact .inr ⟨by simp; omega, ow.lt⟩⟩)
    · have t2 : cap < (L : Int) := by omega
      have E := F2.out (by rw [ll]; exact t2)
      clear hd
      go_wp2
      exact bodyPost_ret (v := .tuple #[.agg #[.int .i64 0, .int .i64 0, .int .i64 0, .slice none 0 0], .int .i64 5]) (by simp [results, Try.results38, go_sem, R0, R1, R2, R3]) rfl (by (try rw [HRES.out]); (try rw [E]); exact ⟨none, 0, 0, rfl, sin_new (by decide) (by decide), by (repeat (first | exact Below.refl _ _ | refine Below.setCell ?_ (by first | (simp; done) | (simp; omega) | omega) _ | refine Below.alloc ?_ (by first | (simp; done) | (simp; omega) | omega) _ | refine Below.drew ?_ | refine Below.trans ?_ (Below.mono (by assumption) (by first | (simp; done) | (simp; omega) | omega)))), fun a e => by cases e⟩)
theorem rscomp_bad (k cap n : Int) (A : Option Addr) (m c : Nat) (ts : List Tup) (w : World) (hin : SIn k cap n A m c ts w) (hv : svalE k cap n ts = 2) : Calls Try.prog 18 #[.agg #[.int .i64 k, .int .i64 cap, .int .i64 n, .slice A m c]] w fun e w' => SRet (scomp k cap n ts) w e w' := by
  rw [scomp_bad hv]
  have P := fun w1 (hb : Below w.heap.size w w1) => rsval k cap n A m c ts w1 (hin.below hb)
  rw [hv] at P
  have P := Lib.hid P
  clear hv hin
  go_enter Try.func18, Try.ntmps18
  go_wp2_with (go_at_call 20; with_reducible refine (P.out _ (by (repeat (first | exact Below.refl _ _ | refine Below.setCell ?_ (by first | (simp; done) | (simp; omega) | omega) _ | refine Below.alloc ?_ (by first | (simp; done) | (simp; omega) | omega) _ | refine Below.drew ?_ | refine Below.trans ?_ (Below.mono (by assumption) (by first | (simp; done) | (simp; omega) | omega)))))).mono ?_; rintro e w1 ⟨rfl, hb1⟩; have hz1 := hb1.size; (try simp at hz1); have o1 : Below w.heap.size w w1 := (by (repeat (first | exact Below.refl _ _ | refine Below.setCell ?_ (by first | (simp; done) | (simp; omega) | omega) _ | refine Below.alloc ?_ (by first | (simp; done) | (simp; omega) | omega) _ | refine Below.drew ?_ | refine Below.trans ?_ (Below.mono (by assumption) (by first | (simp; done) | (simp; omega) | omega))))); have q1_0 : w.heap.size < w1.heap.size := (by omega); have r1_0 : Row w1 (w.heap.size) 24 #[.int .i64 k, .int .i64 cap, .int .i64 n, .slice A m c] := row_call (by (repeat (first | assumption | (refine row_new ?_; (first | (simp; done) | omega)) | refine row_alloc ?_ _ | refine row_drew ?_ | refine row_call ?_ (by assumption)))) hb1; obtain ⟨c1_0a, c1_0b, c1_0c, c1_0d, f1_0a, f1_0b, f1_0c, f1_0d⟩ := row_four r1_0; have q1_1 : w.heap.size + 1 < w1.heap.size := (by omega); have r1_1 : Row w1 (w.heap.size + 1) 24 #[.int .i64 0, .int .i64 0, .int .i64 0, .slice none 0 0] := row_call (by (repeat (first | assumption | (refine row_new ?_; (first | (simp; done) | omega)) | refine row_alloc ?_ _ | refine row_drew ?_ | refine row_call ?_ (by assumption)))) hb1; obtain ⟨c1_1a, c1_1b, c1_1c, c1_1d, f1_1a, f1_1b, f1_1c, f1_1d⟩ := row_four r1_1)
  exact bodyPost_ret (v := .tuple #[.agg #[.int .i64 0, .int .i64 0, .int .i64 0, .slice none 0 0], .int .i64 2]) (by simp [results, Try.results18, go_sem, c1_1a, c1_1b, c1_1c, c1_1d]) rfl (sret_zero (by (repeat (first | exact Below.refl _ _ | refine Below.setCell ?_ (by first | (simp; done) | (simp; omega) | omega) _ | refine Below.alloc ?_ (by first | (simp; done) | (simp; omega) | omega) _ | refine Below.drew ?_ | refine Below.trans ?_ (Below.mono (by assumption) (by first | (simp; done) | (simp; omega) | omega))))))
set_option maxHeartbeats 2000000 in
theorem rscomp_ok (k cap n : Int) (A : Option Addr) (m c : Nat) (ts : List Tup) (w : World) (hin : SIn k cap n A m c ts w) (hv : svalE k cap n ts = 0) : Calls Try.prog 18 #[.agg #[.int .i64 k, .int .i64 cap, .int .i64 n, .slice A m c]] w fun e w' => SRet (scomp k cap n ts) w e w' := by
  rw [scomp_ok hv]
  have V := of_svalE hv
  obtain ⟨k0, k1, cp0, cp1, n0, n1, mc, _, _⟩ := V
  have hl := hin.len
  rw [hl] at mc
  have P := fun w1 (hb : Below w.heap.size w w1) => rsval k cap n A m c ts w1 (hin.below hb)
  rw [hv] at P
  have P := Lib.hid P
  have TBO := fun t ht => (sval_TB hv t ht).mono (show (1099511627776 : Int) ≤ 4398046511104 by decide)
  have TBC := Lib.hid (comp_TB (m := smost n k) (by have := smost_small (n := n) (k := k) n0 n1 k0; omega) TBO)
  have PJ := Lib.hid (fun w1 (hb1 : Below w.heap.size w w1) => rjoin k cap n A m c ts w1 (hin.below hb1) n0 n1 k0 TBO (by omega))
  generalize comp (smost n k) ts = cl at PJ TBC ⊢
  clear hin hv hl TBO
  go_enter Try.func18, Try.ntmps18
  go_wp2_with (go_at_call 20; with_reducible refine (P.out _ (by (repeat (first | exact Below.refl _ _ | refine Below.setCell ?_ (by first | (simp; done) | (simp; omega) | omega) _ | refine Below.alloc ?_ (by first | (simp; done) | (simp; omega) | omega) _ | refine Below.drew ?_ | refine Below.trans ?_ (Below.mono (by assumption) (by first | (simp; done) | (simp; omega) | omega)))))).mono ?_; rintro e w1 ⟨rfl, hb1⟩; have hz1 := hb1.size; (try simp at hz1); have o1 : Below w.heap.size w w1 := (by (repeat (first | exact Below.refl _ _ | refine Below.setCell ?_ (by first | (simp; done) | (simp; omega) | omega) _ | refine Below.alloc ?_ (by first | (simp; done) | (simp; omega) | omega) _ | refine Below.drew ?_ | refine Below.trans ?_ (Below.mono (by assumption) (by first | (simp; done) | (simp; omega) | omega))))); have q1_0 : w.heap.size < w1.heap.size := (by omega); have r1_0 : Row w1 (w.heap.size) 24 #[.int .i64 k, .int .i64 cap, .int .i64 n, .slice A m c] := row_call (by (repeat (first | assumption | (refine row_new ?_; (first | (simp; done) | omega)) | refine row_alloc ?_ _ | refine row_drew ?_ | refine row_call ?_ (by assumption)))) hb1; obtain ⟨c1_0a, c1_0b, c1_0c, c1_0d, f1_0a, f1_0b, f1_0c, f1_0d⟩ := row_four r1_0; have q1_1 : w.heap.size + 1 < w1.heap.size := (by omega); have r1_1 : Row w1 (w.heap.size + 1) 24 #[.int .i64 0, .int .i64 0, .int .i64 0, .slice none 0 0] := row_call (by (repeat (first | assumption | (refine row_new ?_; (first | (simp; done) | omega)) | refine row_alloc ?_ _ | refine row_drew ?_ | refine row_call ?_ (by assumption)))) hb1; obtain ⟨c1_1a, c1_1b, c1_1c, c1_1d, f1_1a, f1_1b, f1_1c, f1_1d⟩ := row_four r1_1)
  refine (PJ.out _ o1).mono ?_
  rintro e w3 ⟨g, L, c3, rfl, own3, hg3, hb3⟩
  have R := row_call r1_1 hb3
  have o3 := o1.trans (hb3.mono o1.size)
  have gb : w.heap.size + 1 < g := by omega
  clear c1_0a c1_0b c1_0c c1_0d f1_0a f1_0b f1_0c f1_0d c1_1a c1_1b c1_1c c1_1d f1_1a f1_1b f1_1c f1_1d r1_0 r1_1 o1 hb3
  obtain ⟨R0, R1, R2, R3, R4, R5, R6, R7⟩ := row_four R
  go_wp2
  have ow : Own ((((w3.setCell ⟨w.heap.size + 1, 0, none⟩ (.int .i64 k)).setCell ⟨w.heap.size + 1, 1, none⟩ (.int .i64 cap)).setCell ⟨w.heap.size + 1, 2, none⟩ (.int .i64 n)).setCell ⟨w.heap.size + 1, 3, none⟩ (.slice (some ⟨g, 0, none⟩) L c3)) 66 3 g L c3 (tcells cl) :=
    (((own3.other (by simp; omega) _).other (by simp; omega) _).other (by simp; omega) _).other (by simp; omega) _
  have ob : Below w.heap.size w ((((w3.setCell ⟨w.heap.size + 1, 0, none⟩ (.int .i64 k)).setCell ⟨w.heap.size + 1, 1, none⟩ (.int .i64 cap)).setCell ⟨w.heap.size + 1, 2, none⟩ (.int .i64 n)).setCell ⟨w.heap.size + 1, 3, none⟩ (.slice (some ⟨g, 0, none⟩) L c3)) := by
    (repeat (first | exact Below.refl _ _ | refine Below.setCell ?_ (by first | (simp; done) | (simp; omega) | omega) _ | refine Below.alloc ?_ (by first | (simp; done) | (simp; omega) | omega) _ | refine Below.drew ?_ | refine Below.trans ?_ (Below.mono (by assumption) (by first | (simp; done) | (simp; omega) | omega))))
  exact bodyPost_ret (v := .tuple #[.agg #[.int .i64 k, .int .i64 cap, .int .i64 n, .slice (some ⟨g, 0, none⟩) L c3], .int .i64 0]) (by simp [results, Try.results18, go_sem, R0, R1, R2, R3]) rfl (sret_own ow (by omega) (by omega) (by omega) TBC.out ob (by omega))
theorem rscomp (k cap n : Int) (A : Option Addr) (m c : Nat) (ts : List Tup) (w : World) (hin : SIn k cap n A m c ts w) : Calls Try.prog 18 #[.agg #[.int .i64 k, .int .i64 cap, .int .i64 n, .slice A m c]] w fun e w' => SRet (scomp k cap n ts) w e w' := by
  rcases svalE_two (k := k) (cap := cap) (n := n) (ts := ts) with hv | hv
  · exact rscomp_ok k cap n A m c ts w hin hv
  · exact rscomp_bad k cap n A m c ts w hin hv
theorem rinsert_bad (k cap n : Int) (A : Option Addr) (m c : Nat) (ts : List Tup) (v : Int) (w : World) (hin : SIn k cap n A m c ts w) (hv : svalE k cap n ts = 2) : Calls Try.prog 16 #[.agg #[.int .i64 k, .int .i64 cap, .int .i64 n, .slice A m c], .int .i64 v] w fun e w' => SRet (sinsert k cap n ts v) w e w' := by
  rw [sinsert_bad hv]
  have P := fun w1 (hb : Below w.heap.size w w1) => rsval k cap n A m c ts w1 (hin.below hb)
  rw [hv] at P
  have P := Lib.hid P
  clear hv hin
  go_enter Try.func16, Try.ntmps16
  go_wp2_with (first | (go_at_call 20; with_reducible refine (P.out _ (by (repeat (first | exact Below.refl _ _ | refine Below.setCell ?_ (by first | (simp; done) | (simp; omega) | omega) _ | refine Below.alloc ?_ (by first | (simp; done) | (simp; omega) | omega) _ | refine Below.drew ?_ | refine Below.trans ?_ (Below.mono (by assumption) (by first | (simp; done) | (simp; omega) | omega)))))).mono ?_; rintro e w1 ⟨rfl, hb1⟩; have hz1 := hb1.size; (try simp at hz1); have o1 : Below w.heap.size w w1 := (by (repeat (first | exact Below.refl _ _ | refine Below.setCell ?_ (by first | (simp; done) | (simp; omega) | omega) _ | refine Below.alloc ?_ (by first | (simp; done) | (simp; omega) | omega) _ | refine Below.drew ?_ | refine Below.trans ?_ (Below.mono (by assumption) (by first | (simp; done) | (simp; omega) | omega))))); have q1_0 : w.heap.size < w1.heap.size := (by omega); have r1_0 : Row w1 (w.heap.size) 24 #[.int .i64 k, .int .i64 cap, .int .i64 n, .slice A m c] := row_call (by (repeat (first | assumption | (refine row_new ?_; (first | (simp; done) | omega)) | refine row_alloc ?_ _ | refine row_drew ?_ | refine row_call ?_ (by assumption)))) hb1; obtain ⟨c1_0a, c1_0b, c1_0c, c1_0d, f1_0a, f1_0b, f1_0c, f1_0d⟩ := row_four r1_0; have q1_1 : w.heap.size + 1 < w1.heap.size := (by omega); have r1_1 : Row w1 (w.heap.size + 1) 24 #[.int .i64 0, .int .i64 0, .int .i64 0, .slice none 0 0] := row_call (by (repeat (first | assumption | (refine row_new ?_; (first | (simp; done) | omega)) | refine row_alloc ?_ _ | refine row_drew ?_ | refine row_call ?_ (by assumption)))) hb1; obtain ⟨c1_1a, c1_1b, c1_1c, c1_1d, f1_1a, f1_1b, f1_1c, f1_1d⟩ := row_four r1_1))
  exact bodyPost_ret (v := .tuple #[.agg #[.int .i64 0, .int .i64 0, .int .i64 0, .slice none 0 0], .int .i64 2]) (by simp [results, Try.results16, go_sem, c1_1a, c1_1b, c1_1c, c1_1d]) rfl (sret_zero (by (repeat (first | exact Below.refl _ _ | refine Below.setCell ?_ (by first | (simp; done) | (simp; omega) | omega) _ | refine Below.alloc ?_ (by first | (simp; done) | (simp; omega) | omega) _ | refine Below.drew ?_ | refine Below.trans ?_ (Below.mono (by assumption) (by first | (simp; done) | (simp; omega) | omega))))))
theorem rinsert_range (k cap n : Int) (A : Option Addr) (m c : Nat) (ts : List Tup) (v : Int) (w : World) (hin : SIn k cap n A m c ts w) (hv : svalE k cap n ts = 0) (h : v < -4096 ∨ 4096 < v) : Calls Try.prog 16 #[.agg #[.int .i64 k, .int .i64 cap, .int .i64 n, .slice A m c], .int .i64 v] w fun e w' => SRet (sinsert k cap n ts v) w e w' := by
  rw [sinsert_range hv h]
  have P := fun w1 (hb : Below w.heap.size w w1) => rsval k cap n A m c ts w1 (hin.below hb)
  rw [hv] at P
  have P := Lib.hid P
  have VV := fun w => rvalue v w
  rw [decide_eq_false (by omega)] at VV
  have VV := Lib.hid VV
  clear hv hin h
  go_enter Try.func16, Try.ntmps16
  go_wp2_with (first | (go_at_call 20; with_reducible refine (P.out _ (by (repeat (first | exact Below.refl _ _ | refine Below.setCell ?_ (by first | (simp; done) | (simp; omega) | omega) _ | refine Below.alloc ?_ (by first | (simp; done) | (simp; omega) | omega) _ | refine Below.drew ?_ | refine Below.trans ?_ (Below.mono (by assumption) (by first | (simp; done) | (simp; omega) | omega)))))).mono ?_; rintro e w1 ⟨rfl, hb1⟩; have hz1 := hb1.size; (try simp at hz1); have o1 : Below w.heap.size w w1 := (by (repeat (first | exact Below.refl _ _ | refine Below.setCell ?_ (by first | (simp; done) | (simp; omega) | omega) _ | refine Below.alloc ?_ (by first | (simp; done) | (simp; omega) | omega) _ | refine Below.drew ?_ | refine Below.trans ?_ (Below.mono (by assumption) (by first | (simp; done) | (simp; omega) | omega))))); have q1_0 : w.heap.size < w1.heap.size := (by omega); have r1_0 : Row w1 (w.heap.size) 24 #[.int .i64 k, .int .i64 cap, .int .i64 n, .slice A m c] := row_call (by (repeat (first | assumption | (refine row_new ?_; (first | (simp; done) | omega)) | refine row_alloc ?_ _ | refine row_drew ?_ | refine row_call ?_ (by assumption)))) hb1; obtain ⟨c1_0a, c1_0b, c1_0c, c1_0d, f1_0a, f1_0b, f1_0c, f1_0d⟩ := row_four r1_0; have q1_1 : w.heap.size + 1 < w1.heap.size := (by omega); have r1_1 : Row w1 (w.heap.size + 1) 24 #[.int .i64 0, .int .i64 0, .int .i64 0, .slice none 0 0] := row_call (by (repeat (first | assumption | (refine row_new ?_; (first | (simp; done) | omega)) | refine row_alloc ?_ _ | refine row_drew ?_ | refine row_call ?_ (by assumption)))) hb1; obtain ⟨c1_1a, c1_1b, c1_1c, c1_1d, f1_1a, f1_1b, f1_1c, f1_1d⟩ := row_four r1_1) | (go_at_call 37; with_reducible refine (VV.out _).mono ?_; rintro e w9 ⟨rfl, h9⟩; obtain rfl := h9.symm))
  exact bodyPost_ret (v := .tuple #[.agg #[.int .i64 0, .int .i64 0, .int .i64 0, .slice none 0 0], .int .i64 4]) (by simp [results, Try.results16, go_sem, c1_1a, c1_1b, c1_1c, c1_1d]) rfl (sret_zero (by (repeat (first | exact Below.refl _ _ | refine Below.setCell ?_ (by first | (simp; done) | (simp; omega) | omega) _ | refine Below.alloc ?_ (by first | (simp; done) | (simp; omega) | omega) _ | refine Below.drew ?_ | refine Below.trans ?_ (Below.mono (by assumption) (by first | (simp; done) | (simp; omega) | omega))))))
theorem rinsert_full (k cap n : Int) (A : Option Addr) (m c : Nat) (ts : List Tup) (v : Int) (w : World) (hin : SIn k cap n A m c ts w) (hv : svalE k cap n ts = 0) (h0 : -4096 ≤ v) (h1 : v ≤ 4096) (hn : n = 1099511627776) : Calls Try.prog 16 #[.agg #[.int .i64 k, .int .i64 cap, .int .i64 n, .slice A m c], .int .i64 v] w fun e w' => SRet (sinsert k cap n ts v) w e w' := by
  rw [sinsert_full hv h0 h1 hn]
  have P := fun w1 (hb : Below w.heap.size w w1) => rsval k cap n A m c ts w1 (hin.below hb)
  rw [hv] at P
  have P := Lib.hid P
  have VV := fun w => rvalue v w
  rw [decide_eq_true (by omega)] at VV
  have VV := Lib.hid VV
  have hnb : (n == 1099511627776) = true := by simpa using hn
  clear hv hin hn
  go_enter Try.func16, Try.ntmps16
  go_wp2_with (first | (go_at_call 20; with_reducible refine (P.out _ (by (repeat (first | exact Below.refl _ _ | refine Below.setCell ?_ (by first | (simp; done) | (simp; omega) | omega) _ | refine Below.alloc ?_ (by first | (simp; done) | (simp; omega) | omega) _ | refine Below.drew ?_ | refine Below.trans ?_ (Below.mono (by assumption) (by first | (simp; done) | (simp; omega) | omega)))))).mono ?_; rintro e w1 ⟨rfl, hb1⟩; have hz1 := hb1.size; (try simp at hz1); have o1 : Below w.heap.size w w1 := (by (repeat (first | exact Below.refl _ _ | refine Below.setCell ?_ (by first | (simp; done) | (simp; omega) | omega) _ | refine Below.alloc ?_ (by first | (simp; done) | (simp; omega) | omega) _ | refine Below.drew ?_ | refine Below.trans ?_ (Below.mono (by assumption) (by first | (simp; done) | (simp; omega) | omega))))); have q1_0 : w.heap.size < w1.heap.size := (by omega); have r1_0 : Row w1 (w.heap.size) 24 #[.int .i64 k, .int .i64 cap, .int .i64 n, .slice A m c] := row_call (by (repeat (first | assumption | (refine row_new ?_; (first | (simp; done) | omega)) | refine row_alloc ?_ _ | refine row_drew ?_ | refine row_call ?_ (by assumption)))) hb1; obtain ⟨c1_0a, c1_0b, c1_0c, c1_0d, f1_0a, f1_0b, f1_0c, f1_0d⟩ := row_four r1_0; have q1_1 : w.heap.size + 1 < w1.heap.size := (by omega); have r1_1 : Row w1 (w.heap.size + 1) 24 #[.int .i64 0, .int .i64 0, .int .i64 0, .slice none 0 0] := row_call (by (repeat (first | assumption | (refine row_new ?_; (first | (simp; done) | omega)) | refine row_alloc ?_ _ | refine row_drew ?_ | refine row_call ?_ (by assumption)))) hb1; obtain ⟨c1_1a, c1_1b, c1_1c, c1_1d, f1_1a, f1_1b, f1_1c, f1_1d⟩ := row_four r1_1) | (go_at_call 37; with_reducible refine (VV.out _).mono ?_; rintro e w9 ⟨rfl, h9⟩; obtain rfl := h9.symm))
  exact bodyPost_ret (v := .tuple #[.agg #[.int .i64 0, .int .i64 0, .int .i64 0, .slice none 0 0], .int .i64 5]) (by simp [results, Try.results16, go_sem, c1_1a, c1_1b, c1_1c, c1_1d]) rfl (sret_zero (by (repeat (first | exact Below.refl _ _ | refine Below.setCell ?_ (by first | (simp; done) | (simp; omega) | omega) _ | refine Below.alloc ?_ (by first | (simp; done) | (simp; omega) | omega) _ | refine Below.drew ?_ | refine Below.trans ?_ (Below.mono (by assumption) (by first | (simp; done) | (simp; omega) | omega))))))
set_option maxRecDepth 100000 in
set_option maxHeartbeats 4000000 in
theorem rinsert_ok (k cap n : Int) (A : Option Addr) (m c : Nat) (ts : List Tup) (v : Int) (w : World) (hin : SIn k cap n A m c ts w) (hv : svalE k cap n ts = 0) (h0 : -4096 ≤ v) (h1 : v ≤ 4096) (hn : n ≠ 1099511627776) : Calls Try.prog 16 #[.agg #[.int .i64 k, .int .i64 cap, .int .i64 n, .slice A m c], .int .i64 v] w fun e w' => SRet (sinsert k cap n ts v) w e w' := by
  rw [sinsert_ok hv h0 h1 hn]
  have HR := Lib.hid hin
  have hl := hin.len
  have kB := hin.kB
  have cB := hin.capB
  have V := of_svalE hv
  obtain ⟨k0, k1, cp0, cp1, n0, n1, mc, _, _⟩ := V
  rw [hl] at mc
  have P := fun w1 (hb : Below w.heap.size w w1) => rsval k cap n A m c ts w1 (hin.below hb)
  rw [hv] at P
  have P := Lib.hid P
  have VV := fun w => rvalue v w
  rw [decide_eq_true (by omega)] at VV
  have VV := Lib.hid VV
  have pm := sat_le v ts
  rw [hl] at pm
  have LOW := Lib.hid (fun j (h : j < sat v ts) => sat_low h)
  have HIGH := Lib.hid (fun j (h : sat v ts ≤ j) (h2 : j < m) => Int.lt_of_lt_of_le (sat_high (v := v) (ts := ts) (by rw [hl]; omega)) (sval_asc hv (sat v ts) j h (by rw [hl]; exact h2)))
  have TBS := Lib.hid (sins_TB hv h0 h1)
  have TBO := Lib.hid (sval_TB hv)
  have HSI : RowKit.Hid (sins v ts = ts.take (sat v ts) ++ ⟨v, 1, sgap v ts⟩ :: ts.drop (sat v ts)) := Lib.hid rfl
  have HGP : RowKit.Hid (sgap v ts = if 0 < sat v ts ∧ sat v ts < ts.length then (tupAt ts (sat v ts)).g + (tupAt ts (sat v ts)).d - 1 else 0) := Lib.hid rfl
  have HSL : RowKit.Hid ((sins v ts).length = m + 1) := Lib.hid (by rw [sins_len, hl])
  generalize sat v ts = p at pm LOW HIGH HSI HGP
  generalize sgap v ts = gap at HSI HGP
  have hnb : (n == 1099511627776) = false := by simpa using hn
  have n2 : n + 1 ≤ 1099511627776 := by omega
  have HL := Lib.hid hl
  have mB : m ≤ 65536 := by omega
  have cB' := hin.mc
  have PF := Lib.hid (fun w1 g L c1 (ho : Own w1 66 3 g L c1 (tcells (sins v ts))) (hL : L ≤ m + 1) => rfit k cap (n + 1) (some ⟨g, 0, none⟩) L c1 (sins v ts) w1 ⟨ho.reads, kB, cB, by omega, fun i => T64.of (TB_at (by decide) TBS.out i) (by decide), ho.cap.1, ho.cap.2⟩ (by omega) n2 k0 TBS.out (by omega) (fun a e => by cases e; exact ho.lt))
  obtain ⟨ii, hii, iz0, iz1, iz2⟩ := info_parts info_tup
  clear hin hv hl hn h0 h1
  go_enter Try.func16, Try.ntmps16
  go_upto_block 0 with (first | (go_at_call 20; with_reducible refine (P.out _ (by (repeat (first | exact Below.refl _ _ | refine Below.setCell ?_ (by first | (simp; done) | (simp; omega) | omega) _ | refine Below.alloc ?_ (by first | (simp; done) | (simp; omega) | omega) _ | refine Below.drew ?_ | refine Below.trans ?_ (Below.mono (by assumption) (by first | (simp; done) | (simp; omega) | omega)))))).mono ?_; rintro e w1 ⟨rfl, hb1⟩; have hz1 := hb1.size; (try simp at hz1); have o1 : Below w.heap.size w w1 := (by (repeat (first | exact Below.refl _ _ | refine Below.setCell ?_ (by first | (simp; done) | (simp; omega) | omega) _ | refine Below.alloc ?_ (by first | (simp; done) | (simp; omega) | omega) _ | refine Below.drew ?_ | refine Below.trans ?_ (Below.mono (by assumption) (by first | (simp; done) | (simp; omega) | omega))))); have q1_0 : w.heap.size < w1.heap.size := (by omega); have r1_0 : Row w1 (w.heap.size) 24 #[.int .i64 k, .int .i64 cap, .int .i64 n, .slice A m c] := row_call (by (repeat (first | assumption | (refine row_new ?_; (first | (simp; done) | omega)) | refine row_alloc ?_ _ | refine row_drew ?_ | refine row_call ?_ (by assumption)))) hb1; obtain ⟨c1_0a, c1_0b, c1_0c, c1_0d, f1_0a, f1_0b, f1_0c, f1_0d⟩ := row_four r1_0; have q1_1 : w.heap.size + 1 < w1.heap.size := (by omega); have r1_1 : Row w1 (w.heap.size + 1) 24 #[.int .i64 0, .int .i64 0, .int .i64 0, .slice none 0 0] := row_call (by (repeat (first | assumption | (refine row_new ?_; (first | (simp; done) | omega)) | refine row_alloc ?_ _ | refine row_drew ?_ | refine row_call ?_ (by assumption)))) hb1; obtain ⟨c1_1a, c1_1b, c1_1c, c1_1d, f1_1a, f1_1b, f1_1c, f1_1d⟩ := row_four r1_1) | (go_at_call 37; with_reducible refine (VV.out _).mono ?_; rintro e w9 ⟨rfl, h9⟩; obtain rfl := h9.symm))
  go_cut [7] (fun i wx => i = .int .i64 (p : Nat) ∧ wx = w1)
  case first =>
    go_wp2_with fail
    go_loopw [7] (fun i wr => ∃ j : Nat, p ≤ j ∧ j ≤ m ∧ i = .int .i64 (j : Nat) ∧ wr = w1) (fun i _ => (intOf i).toNat)
    case atStart => exact ⟨m, by omega, by omega, rfl, rfl⟩
    case round =>
      obtain ⟨j, hjp, hj, rfl, rfl⟩ := hrel
      by_cases hz : 0 < j
      · obtain ⟨q, hq⟩ : ∃ q, j = q + 1 := ⟨j - 1, by omega⟩
        obtain ⟨ad, rfl, hadb, ht0⟩ := HR.out.reads.tup (i := q) (by omega)
        obtain ⟨hv, hg, hd⟩ := ht0.below o1 (by rw [block_of_add]; exact hadb)
        have i1 : (0 : Int) < (j : Int) := by omega
        have i2 : (0 : Int) ≤ (q : Int) := by omega
        have i3 : (q : Int) < (m : Int) := by omega
        have wq : IntKind.i64.wrap ((j : Int) - 1) = (q : Int) := by
          rw [IntWalk.i64_in _ (by omega)]
          omega
        by_cases hlt : p < j
        · have tv := HIGH.out q (by omega) (by omega)
          generalize (tupAt ts q).v = tv at hv tv
          have z1 : p ≤ q := by omega
          have z2 : q < j := by omega
          clear hg hd ht0 hq
          go_wp2
          go_roundw
          case rel => exact ⟨q, by omega, by omega, by go_num, by trivial⟩
          case measure => simp [intOf]; omega
        · obtain rfl : j = p := by omega
          have tv := Int.not_lt.2 (LOW.out q (by omega))
          generalize (tupAt ts q).v = tv at hv tv
          clear hg hd ht0 hq
          go_wp2
          go_meet
          exact ⟨rfl, rfl⟩
      · have i1 : ¬ (0 : Int) < (j : Int) := by omega
        obtain rfl : j = p := by omega
        go_wp2
        go_meet
        exact ⟨rfl, rfl⟩
  case rest =>
    obtain ⟨rfl, rfl⟩ := hcut
    go_upto_region 12 with (fail)
    have K1 : Row (wc.alloc (.cells #[.int .i64 v, .int .i64 1, .int .i64 0] 66)) wc.heap.size 66 #[.int .i64 v, .int .i64 1, .int .i64 0] := row_new rfl
    have K2 := row_alloc r1_0 (.cells #[.int .i64 v, .int .i64 1, .int .i64 0] 66)
    have K3 := row_alloc r1_1 (.cells #[.int .i64 v, .int .i64 1, .int .i64 0] 66)
    have K4 := o1.alloc o1.size (.cells #[.int .i64 v, .int .i64 1, .int .i64 0] 66)
    have K5 : wc.heap.size < (wc.alloc (.cells #[.int .i64 v, .int .i64 1, .int .i64 0] 66)).heap.size := row_lt K1
    generalize (wc.alloc (.cells #[.int .i64 v, .int .i64 1, .int .i64 0] 66)) = w2 at K1 K2 K3 K4 K5 ⊢
    generalize wc.heap.size = tb at K1 K5 hz1 q1_0 q1_1 ⊢
    clear c1_0a c1_0b c1_0c c1_0d f1_0a f1_0b f1_0c f1_0d c1_1a c1_1b c1_1c c1_1d f1_1a f1_1b f1_1c f1_1d r1_0 r1_1 o1
    go_cut [51] (fun b wx => b = .bool (decide (0 < p ∧ p < m)) ∧ wx = w2)
    case first =>
      obtain ⟨A0, A1, A2, A3, _, _, _, _⟩ := row_four K2
      by_cases hp0 : p = 0
      · subst hp0
        go_wp2
        go_meet
        exact ⟨congrArg Value.bool (by simp), rfl⟩
      · have i1 : (0 : Int) < (p : Int) := by omega
        by_cases hpm : p = m
        · have i2 : ¬ (p : Int) < (m : Int) := by omega
          clear hpm
          go_wp2
          go_meet
          exact ⟨congrArg Value.bool (by simp; omega), rfl⟩
        · have i2 : (p : Int) < (m : Int) := by omega
          go_wp2
          go_meet
          exact ⟨congrArg Value.bool (by simp; omega), rfl⟩
    case rest =>
    obtain ⟨hb, rfl⟩ := hcut
    subst hb
    go_upto_if 51 with (fail)
    go_cut [] (fun wx => Row wx tb 66 #[.int .i64 v, .int .i64 1, .int .i64 gap] ∧ Row wx (w.heap.size) 24 #[.int .i64 k, .int .i64 cap, .int .i64 n, .slice A m c] ∧ Row wx (w.heap.size + 1) 24 #[.int .i64 0, .int .i64 0, .int .i64 0, .slice none 0 0] ∧ Below w.heap.size w wx)
    case first =>
      by_cases hp0 : ¬ (0 < p ∧ p < m)
      · have gz : gap = 0 := by rw [HGP.out, if_neg (by rw [HL.out]; exact hp0)]
        have hb : decide (0 < p ∧ p < m) = false := decide_eq_false hp0
        rw [hb]
        subst gz
        go_wp2
        go_meet
        exact ⟨K1, K2, K3, K4⟩
      · have hp1 : 0 < p ∧ p < m := Classical.not_not.1 hp0
        have hb : decide (0 < p ∧ p < m) = true := decide_eq_true hp1
        rw [hb]
        · have i2 : (p : Int) < (m : Int) := by omega
          have i3 : (0 : Int) ≤ (p : Int) := by omega
          have gz : gap = (tupAt ts p).g + (tupAt ts p).d - 1 := by rw [HGP.out, if_pos (by rw [HL.out]; omega)]
          obtain ⟨ad, rfl, hadb, ht0⟩ := HR.out.reads.tup (i := p) (by omega)
          obtain ⟨hv, hg, hd⟩ := ht0.below K4 (by rw [block_of_add]; exact hadb)
          have tb0 := TB_at (by decide) TBO.out p
          unfold TB at tb0
          generalize (tupAt ts p).g = tg at hg gz tb0
          generalize (tupAt ts p).d = td at hd gz tb0
          have wa : IntKind.i64.wrap (tg + td) = tg + td := IntWalk.i64_in _ (by omega)
          have wb : IntKind.i64.wrap (tg + td - 1) = tg + td - 1 := IntWalk.i64_in _ (by omega)
          clear tb0 hv ht0
          go_upto_region 13 with (fail)
          have LL : Row wc tb 66 #[.int .i64 v, .int .i64 1, .int .i64 0] ∧ Row wc (w.heap.size) 24 #[.int .i64 k, .int .i64 cap, .int .i64 n, .slice (some ad) m c] ∧ wc.cell? ⟨(ad.add (p * 3)).block, (ad.add (p * 3)).off + 1, none⟩ = some (.int .i64 tg) ∧ wc.cell? ⟨(ad.add (p * 3)).block, (ad.add (p * 3)).off + 2, none⟩ = some (.int .i64 td) ∧ Row wc (w.heap.size + 1) 24 #[.int .i64 0, .int .i64 0, .int .i64 0, .slice none 0 0] ∧ Below w.heap.size w wc := ⟨K1, K2, hg, hd, K3, K4⟩
          clear K1 K2 K3 K4 hg hd
          refine wp_region_free0 [0, 1, 2, 3, 4, 5, 6, 7, 8, 9, 10, 11, 12, 13, 14] [] [0, 1, 2, 3, 4, 5, 6, 7, 8, 9, 10, 11, 12, 13, 14] 15 (fun w' => Row w' tb 66 #[.int .i64 v, .int .i64 1, .int .i64 0] ∧ Row w' (w.heap.size) 24 #[.int .i64 k, .int .i64 cap, .int .i64 n, .slice (some ad) m c] ∧ w'.cell? ⟨(ad.add (p * 3)).block, (ad.add (p * 3)).off + 1, none⟩ = some (.int .i64 tg) ∧ w'.cell? ⟨(ad.add (p * 3)).block, (ad.add (p * 3)).off + 2, none⟩ = some (.int .i64 td) ∧ Row w' (w.heap.size + 1) 24 #[.int .i64 0, .int .i64 0, .int .i64 0, .slice none 0 0] ∧ Below w.heap.size w w') (by kernel_rfl) (by kernel_rfl) (fun _ _ d _ _ h => by cases d <;> exact h) ?_ ?_
          · exact ⟨LL.1, LL.2.1, LL.2.2.1, LL.2.2.2.1, LL.2.2.2.2.1, LL.2.2.2.2.2.drew⟩
          (refine plan_pure ?_ rfl rfl (fun w' => ?_) ?_; rotate_left; (go_simp; try with_reducible rfl); simp only [Act.put, List.setIfInBounds_toArray, List.set_cons_zero, List.set_cons_succ])
          (refine plan_val ?_ rfl rfl rfl (fun w' hS => ?_) ?_; rotate_left; (obtain ⟨B0, B1, B2, B3, B4, B5⟩ := row_three hS.1; obtain ⟨A0, A1, A2, A3, _, _, _, _⟩ := row_four hS.2.1; have q1 := hS.2.2.1; have q2 := hS.2.2.2.1; go_simp; try with_reducible rfl); simp only [Act.put, List.setIfInBounds_toArray, List.set_cons_zero, List.set_cons_succ])
          (refine plan_pure ?_ rfl rfl (fun w' => ?_) ?_; rotate_left; (go_simp; try with_reducible rfl); simp only [Act.put, List.setIfInBounds_toArray, List.set_cons_zero, List.set_cons_succ])
          (refine plan_pure ?_ rfl rfl (fun w' => ?_) ?_; rotate_left; (go_simp; try with_reducible rfl); simp only [Act.put, List.setIfInBounds_toArray, List.set_cons_zero, List.set_cons_succ])
          (refine plan_pure ?_ rfl rfl (fun w' => ?_) ?_; rotate_left; (go_simp; try with_reducible rfl); simp only [Act.put, List.setIfInBounds_toArray, List.set_cons_zero, List.set_cons_succ])
          (refine plan_val ?_ rfl rfl rfl (fun w' hS => ?_) ?_; rotate_left; (obtain ⟨B0, B1, B2, B3, B4, B5⟩ := row_three hS.1; obtain ⟨A0, A1, A2, A3, _, _, _, _⟩ := row_four hS.2.1; have q1 := hS.2.2.1; have q2 := hS.2.2.2.1; go_simp; try with_reducible rfl); simp only [Act.put, List.setIfInBounds_toArray, List.set_cons_zero, List.set_cons_succ])
          (refine plan_pure ?_ rfl rfl (fun w' => ?_) ?_; rotate_left; (go_simp; try with_reducible rfl); simp only [Act.put, List.setIfInBounds_toArray, List.set_cons_zero, List.set_cons_succ])
          (refine plan_val ?_ rfl rfl rfl (fun w' hS => ?_) ?_; rotate_left; (obtain ⟨B0, B1, B2, B3, B4, B5⟩ := row_three hS.1; obtain ⟨A0, A1, A2, A3, _, _, _, _⟩ := row_four hS.2.1; have q1 := hS.2.2.1; have q2 := hS.2.2.2.1; go_simp; try with_reducible rfl); simp only [Act.put, List.setIfInBounds_toArray, List.set_cons_zero, List.set_cons_succ])
          (refine plan_pure ?_ rfl rfl (fun w' => ?_) ?_; rotate_left; (go_simp; try with_reducible rfl); simp only [Act.put, List.setIfInBounds_toArray, List.set_cons_zero, List.set_cons_succ])
          (refine plan_pure ?_ rfl rfl (fun w' => ?_) ?_; rotate_left; (go_simp; try with_reducible rfl); simp only [Act.put, List.setIfInBounds_toArray, List.set_cons_zero, List.set_cons_succ])
          (refine plan_pure ?_ rfl rfl (fun w' => ?_) ?_; rotate_left; (go_simp; try with_reducible rfl); simp only [Act.put, List.setIfInBounds_toArray, List.set_cons_zero, List.set_cons_succ])
          (refine plan_val ?_ rfl rfl rfl (fun w' hS => ?_) ?_; rotate_left; (obtain ⟨B0, B1, B2, B3, B4, B5⟩ := row_three hS.1; obtain ⟨A0, A1, A2, A3, _, _, _, _⟩ := row_four hS.2.1; have q1 := hS.2.2.1; have q2 := hS.2.2.2.1; go_simp; try with_reducible rfl); simp only [Act.put, List.setIfInBounds_toArray, List.set_cons_zero, List.set_cons_succ])
          (refine plan_pure ?_ rfl rfl (fun w' => ?_) ?_; rotate_left; (go_simp; try with_reducible rfl); simp only [Act.put, List.setIfInBounds_toArray, List.set_cons_zero, List.set_cons_succ])
          (refine plan_pure ?_ rfl rfl (fun w' => ?_) ?_; rotate_left; (go_simp; try with_reducible rfl); simp only [Act.put, List.setIfInBounds_toArray, List.set_cons_zero, List.set_cons_succ])
          (refine plan_pure ?_ rfl rfl (fun w' => ?_) ?_; rotate_left; (go_simp; try with_reducible rfl); simp only [Act.put, List.setIfInBounds_toArray, List.set_cons_zero, List.set_cons_succ])
          refine plan_nil ?_
          intro w3 L3
          simp only [List.drop_succ_cons, List.drop_zero]
          try simp only [Act.put, List.setIfInBounds_toArray, List.set_cons_zero, List.set_cons_succ]
          clear LL
          have B := row_set L3.1 2 (.int .i64 (tg + td - 1))
          have C := row_other (p := ⟨tb, 2, none⟩) L3.2.1 (by simp; omega) (.int .i64 (tg + td - 1))
          have D := row_other (p := ⟨tb, 2, none⟩) L3.2.2.2.2.1 (by simp; omega) (.int .i64 (tg + td - 1))
          have E := L3.2.2.2.2.2.setCell (p := ⟨tb, 2, none⟩) (by simp; omega) (.int .i64 (tg + td - 1))
          obtain ⟨B0, B1, B2, B3, B4, B5⟩ := row_three L3.1
          go_wp2
          go_meet
          rw [gz]
          exact ⟨B, C, D, E⟩
    case rest =>
      obtain ⟨K1, K2, K3, K4⟩ := hcut
      obtain ⟨A0, A1, A2, A3, A4, A5, A6, A7⟩ := row_four K2
      have wn : IntKind.i64.wrap (n + 1) = n + 1 := IntWalk.i64_in _ (by omega)
      have pc : (p : Int) ≤ (c : Int) := by omega
      have pc2 : p ≤ c := by omega
      have i3 : (0 : Int) ≤ (p : Int) := by omega
      have i4 : (p : Int) ≤ (m : Int) := by omega
      have rp := HR.out.reads.pre pm
      rw [tcells_take] at rp
      have RP := Lib.hid rp
      clear rp
      have rs := HR.out.reads.cut pm cB'
      rw [tcells_drop] at rs
      have RS := Lib.hid rs
      clear rs
      clear K5 HIGH LOW
      go_upto_region 15 with (fail)
      have x0 : Row (wc.setCell ⟨w.heap.size, 2, none⟩ (.int .i64 (n + 1))) (w.heap.size) 24 #[.int .i64 k, .int .i64 cap, .int .i64 (n + 1), .slice A m c] := row_set K2 2 _
      have x1 := row_other (p := ⟨w.heap.size, 2, none⟩) K3 (by simp) (.int .i64 (n + 1))
      have xt := row_other (p := ⟨w.heap.size, 2, none⟩) K1 (by simp; omega) (.int .i64 (n + 1))
      have xo := K4.setCell (p := ⟨w.heap.size, 2, none⟩) (Nat.le_refl _) (.int .i64 (n + 1))
      generalize (wc.setCell ⟨w.heap.size, 2, none⟩ (.int .i64 (n + 1))) = w5 at x0 x1 xt xo ⊢
      clear K1 K2 K3 K4 A0 A1 A2 A3 A4 A5 A6 A7
      go_cut [] (fun wx => ∃ g L c', Row wx (w.heap.size) 24 #[.int .i64 k, .int .i64 cap, .int .i64 (n + 1), .slice (some ⟨g, 0, none⟩) L c'] ∧ Row wx (w.heap.size + 1) 24 #[.int .i64 0, .int .i64 0, .int .i64 0, .slice none 0 0] ∧ Own wx 66 3 g L c' (tcells (sins v ts)) ∧ w.heap.size + 1 < g ∧ L ≤ m + 1 ∧ Below w.heap.size w wx)
      case rest =>
        obtain ⟨g, L, c1, x0, x1, own, gR, hL, xo⟩ := hcut
        have PF := Lib.hid (PF.out wc g L c1 own hL)
        clear HSI HGP HSL TBO TBS RP RS
        generalize hr : sfit k cap (n + 1) (sins v ts) = r at PF
        have HRR := Lib.hid hr
        clear hr
        obtain ⟨rk, rc, rn, rts, rf⟩ := r
        have zw := xo.size
        obtain ⟨A0, A1, A2, A3, A4, A5, A6, A7⟩ := row_four x0
        go_wp2_with fail
        refine PF.out.mono ?_
        rintro e w8 ⟨A9, m9, c9, rfl, sin9, hb9, hf9⟩
        have gl := own.lt
        have x1 := row_call x1 hb9
        have o9 := xo.trans (hb9.mono zw)
        clear A0 A1 A2 A3 A4 A5 A6 A7 x0 own PF
        have fx : ∀ a, A9 = some a → w.heap.size + 1 < a.block ∧ a.block < w8.heap.size := fun a e => by
          have hz := hb9.size
          rcases hf9 a e with h | h
          · cases h
            exact ⟨gR, by simp; omega⟩
          · exact ⟨by omega, h.2⟩
        obtain ⟨R0, R1, R2, R3, R4, R5, R6, R7⟩ := row_four x1
        go_wp2
        have sx := sin9.row (b := w.heap.size + 1) (fun a e => by have := fx a e; omega) (.int .i64 rk) (.int .i64 rc) (.int .i64 rn) (.slice A9 m9 c9)
        have ob := below_four o9 (b := w.heap.size + 1) (by omega) (.int .i64 rk) (.int .i64 rc) (.int .i64 rn) (.slice A9 m9 c9)
        exact bodyPost_ret (v := .tuple #[.agg #[.int .i64 rk, .int .i64 rc, .int .i64 rn, .slice A9 m9 c9], .int .i64 rf]) (by simp [results, Try.results16, go_sem, R0, R1, R2, R3]) rfl (by rw [HRR.out]; exact ⟨A9, m9, c9, rfl, sx, ob, fun a e => by have := fx a e; exact ⟨by omega, by simp; omega⟩⟩)
      case first =>
      have es : ts.take p ++ [⟨v, 1, gap⟩] ++ ts.drop p = sins v ts := by rw [HSI.out]; simp
      have x0 := row_drew x0
      have x1 := row_drew x1
      have xt := row_drew xt
      have xo := xo.drew
      have HS0 : Row w5.drew (w.heap.size) 24 #[.int .i64 k, .int .i64 cap, .int .i64 (n + 1), .slice A m c] ∧ Row w5.drew (w.heap.size + 1) 24 #[.int .i64 0, .int .i64 0, .int .i64 0, .slice none 0 0] ∧ Row w5.drew tb 66 #[.int .i64 v, .int .i64 1, .int .i64 gap] ∧ Below w.heap.size w w5.drew := ⟨x0, x1, xt, xo⟩
      clear HSI HGP HSL PF P VV TBO TBS
      refine wp_region_phase 14 (fun w' => Row w' (w.heap.size) 24 #[.int .i64 k, .int .i64 cap, .int .i64 (n + 1), .slice A m c] ∧ Row w' (w.heap.size + 1) 24 #[.int .i64 0, .int .i64 0, .int .i64 0, .slice none 0 0] ∧ Row w' tb 66 #[.int .i64 v, .int .i64 1, .int .i64 gap] ∧ Below w.heap.size w w') (by kernel_rfl) (by kernel_rfl) (by kernel_rfl) (by kernel_rfl) (by kernel_rfl) (fun HOK => ?_)
      have HS := HS0
      (refine hw_take HOK (i := 1) ?_ rfl (by decide) (by kernel_rfl) (by kernel_rfl) (by exact fun _ _ _ h => h) (Or.inl ⟨by rfl, fun w' hS => ?_⟩) HS ?_; rotate_left; (go_simp; try with_reducible rfl); simp only [Act.put, List.setIfInBounds_toArray, List.set_cons_zero, List.set_cons_succ])
      (refine hw_take HOK (i := 2) ?_ rfl (by decide) (by kernel_rfl) (by kernel_rfl) (by exact fun _ _ _ h => h) (Or.inl ⟨by rfl, fun w' hS => ?_⟩) HS ?_; rotate_left; (obtain ⟨A0, A1, A2, A3, _, _, _, _⟩ := row_four hS.1; obtain ⟨B0, B1, B2, B3, B4, B5⟩ := row_three hS.2.2.1; go_simp; try with_reducible rfl); simp only [Act.put, List.setIfInBounds_toArray, List.set_cons_zero, List.set_cons_succ])
      (refine hw_take HOK (i := 3) ?_ rfl (by decide) (by kernel_rfl) (by kernel_rfl) (by exact fun _ _ _ h => h) (Or.inl ⟨by rfl, fun w' hS => ?_⟩) HS ?_; rotate_left; (go_simp; try with_reducible rfl); simp only [Act.put, List.setIfInBounds_toArray, List.set_cons_zero, List.set_cons_succ])
      (refine hw_take HOK (i := 4) ?_ rfl (by decide) (by kernel_rfl) (by kernel_rfl) (by exact fun _ _ _ h => h) (Or.inl ⟨by rfl, fun w' hS => ?_⟩) HS ?_; rotate_left; (go_simp; try with_reducible rfl); simp only [Act.put, List.setIfInBounds_toArray, List.set_cons_zero, List.set_cons_succ])
      (refine hw_take HOK (i := 6) ?_ rfl (by decide) (by kernel_rfl) (by kernel_rfl) (by exact fun _ _ _ h => h) (Or.inl ⟨by rfl, fun w' hS => ?_⟩) HS ?_; rotate_left; (obtain ⟨A0, A1, A2, A3, _, _, _, _⟩ := row_four hS.1; obtain ⟨B0, B1, B2, B3, B4, B5⟩ := row_three hS.2.2.1; go_simp; try with_reducible rfl); simp only [Act.put, List.setIfInBounds_toArray, List.set_cons_zero, List.set_cons_succ])
      (refine hw_take HOK (i := 9) ?_ rfl (by decide) (by kernel_rfl) (by kernel_rfl) (by exact fun _ _ _ h => h) (Or.inl ⟨by rfl, fun w' hS => ?_⟩) HS ?_; rotate_left; (go_simp; try with_reducible rfl); simp only [Act.put, List.setIfInBounds_toArray, List.set_cons_zero, List.set_cons_succ])
      (refine hw_take HOK (i := 10) ?_ rfl (by decide) (by kernel_rfl) (by kernel_rfl) (by exact fun _ _ _ h => h) (Or.inl ⟨by rfl, fun w' hS => ?_⟩) HS ?_; rotate_left; (obtain ⟨A0, A1, A2, A3, _, _, _, _⟩ := row_four hS.1; obtain ⟨B0, B1, B2, B3, B4, B5⟩ := row_three hS.2.2.1; go_simp; try with_reducible rfl); simp only [Act.put, List.setIfInBounds_toArray, List.set_cons_zero, List.set_cons_succ])
      (refine hw_take HOK (i := 11) ?_ rfl (by decide) (by kernel_rfl) (by kernel_rfl) (by exact fun _ _ _ h => h) (Or.inl ⟨by rfl, fun w' hS => ?_⟩) HS ?_; rotate_left; (go_simp; try with_reducible rfl); simp only [Act.put, List.setIfInBounds_toArray, List.set_cons_zero, List.set_cons_succ])
      (refine hw_take HOK (i := 12) ?_ rfl (by decide) (by kernel_rfl) (by kernel_rfl) (by exact fun _ _ _ h => h) (Or.inl ⟨by rfl, fun w' hS => ?_⟩) HS ?_; rotate_left; (go_simp; try with_reducible rfl); simp only [Act.put, List.setIfInBounds_toArray, List.set_cons_zero, List.set_cons_succ])
      generalize w5.drew = w6 at x0 x1 xt xo HS ⊢
      have zt := row_lt xt
      clear HS
      refine hw_two (i := 0) (j := 7) rfl rfl (by decide) (by decide) (by kernel_rfl) (fun K hK => ?_) (fun K hK => ?_)
      · go_simp
        have x0 := row_alloc x0 (.cells #[] 66)
        have x1 := row_alloc x1 (.cells #[] 66)
        have xt := row_alloc xt (.cells #[] 66)
        have xo := xo.alloc xo.size (.cells #[] 66)
        have ew : Own (w6.alloc (.cells #[] 66)) 66 3 w6.heap.size 0 0 [] := own_new (n := 0) rfl (by unfold maxLen; omega) (by simp)
        have zg : w6.heap.size < (w6.alloc (.cells #[] 66)).heap.size := by simp
        refine hK _ _ ⟨x0, x1, xt, xo⟩ ?_
        clear hK K
        try simp only [Act.put, List.setIfInBounds_toArray, List.set_cons_zero, List.set_cons_succ]
        generalize w6.alloc (.cells #[] 66) = w7 at x0 x1 xt xo ew zg ⊢
        have ge0 : tb < w6.heap.size := by omega
        generalize w6.heap.size = eb at ew ge0 zg ⊢
        have zt := row_lt xt
        refine hw_two (i := 5) (j := 7) rfl rfl (by decide) (by decide) (by kernel_rfl) (fun K hK => ?_) (fun K hK => ?_)
        · refine step_append_any _ rfl _ _ 22 rfl w.heap.size 66 ii (.agg #[.int .i64 0, .int .i64 0, .int .i64 0]) 3 24 Try.underlying22 hii iz0 iz1 iz2 rfl (by decide) (.slice (some ⟨eb, 0, none⟩) 0 0) 0 [] rfl (ew.row (by omega)) w.heap.size A p c (tcells (ts.take p)) rfl (RP.out.below xo) (tcells_one _) (by unfold maxLen; omega) (by omega) xo.size ?_
          intro vv w8 pr gr at5
          rw [Nat.zero_add, List.nil_append] at pr
          have hvv : ∃ gp cp, vv = .slice (some ⟨gp, 0, none⟩) p cp := by
            rcases pr.2 with ⟨hv, _⟩ | ⟨gp, cp, cur, hv, _⟩
            · subst hv
              simp [Value.ownBlock] at at5
            · exact ⟨gp, cp, hv⟩
          obtain ⟨gp, cp, rfl⟩ := hvv
          have pw := (own_of_row pr).1
          have at6 : gp = eb ∨ gp = w7.heap.size := by simpa [Value.ownBlock] using at5
          have zo := xo.size
          have nt : (Value.slice (some ⟨eb, 0, none⟩) 0 0).ownBlock ≠ some tb := by simp [Value.ownBlock]; omega
          have nx : (Value.slice (some ⟨eb, 0, none⟩) 0 0).ownBlock ≠ some (w.heap.size) := by simp [Value.ownBlock]; omega
          have nr : (Value.slice (some ⟨eb, 0, none⟩) 0 0).ownBlock ≠ some (w.heap.size + 1) := by simp [Value.ownBlock]; omega
          have x0 := row_grown x0 gr nx
          have x1 := row_grown x1 gr nr
          have xt := row_grown xt gr nt
          have xo : Below w.heap.size w w8 := below_grown xo gr (fun q e => by simp [Value.ownBlock] at e; omega) xo.size
          refine hK _ _ ⟨x0, x1, xt, xo⟩ ?_
          clear hK K
          try simp only [Act.put, List.setIfInBounds_toArray, List.set_cons_zero, List.set_cons_succ]
          have gpt : tb < gp := by omega
          clear pr gr at5 ew nt nx nr
          have zt := row_lt xt
          refine hw_one (i := 7) rfl (by decide) (by kernel_rfl) (fun K hK => ?_)
          go_simp
          have x0 := row_alloc x0 (.cells #[.int .i64 v, .int .i64 1, .int .i64 gap] 66)
          have x1 := row_alloc x1 (.cells #[.int .i64 v, .int .i64 1, .int .i64 gap] 66)
          have xt := row_alloc xt (.cells #[.int .i64 v, .int .i64 1, .int .i64 gap] 66)
          have xo := xo.alloc xo.size (.cells #[.int .i64 v, .int .i64 1, .int .i64 gap] 66)
          have lw : Own (w8.alloc (.cells #[.int .i64 v, .int .i64 1, .int .i64 gap] 66)) 66 3 w8.heap.size 1 1 (tcells [⟨v, 1, gap⟩]) := by
            have h := own_new (w := w8) (e := 66) (size := 3) (n := 1) (cs := #[.int .i64 v, .int .i64 1, .int .i64 gap]) rfl (by unfold maxLen; omega) rfl
            simpa [tcells] using h
          have nlp : gp < w8.heap.size := pw.lt
          have pw := pw.alloc (.cells #[.int .i64 v, .int .i64 1, .int .i64 gap] 66)
          refine hK _ _ ⟨x0, x1, xt, xo⟩ ?_
          clear hK K
          try simp only [Act.put, List.setIfInBounds_toArray, List.set_cons_zero, List.set_cons_succ]
          generalize w8.alloc (.cells #[.int .i64 v, .int .i64 1, .int .i64 gap] 66) = w9 at x0 x1 xt xo lw pw ⊢
          have gl0 : tb < w8.heap.size := by omega
          generalize w8.heap.size = lb at lw gl0 nlp ⊢
          have zt := row_lt xt
          refine hw_one (i := 8) rfl (by decide) (by kernel_rfl) (fun K hK => ?_)
          refine step_append_any _ rfl _ _ 22 rfl w.heap.size 66 ii (.agg #[.int .i64 0, .int .i64 0, .int .i64 0]) 3 24 Try.underlying22 hii iz0 iz1 iz2 rfl (by decide) (.slice (some ⟨gp, 0, none⟩) p cp) p (tcells (ts.take p)) rfl (pw.row (by omega)) w9.heap.size (some ⟨lb, 0, none⟩) 1 1 (tcells [⟨v, 1, gap⟩]) rfl lw.reads (tcells_one _) (by unfold maxLen; omega) (by omega) xo.size ?_
          intro vv w10 pr gr at5
          obtain ⟨gq, cq, rfl, _, _⟩ := pr.form (by omega)
          have qw := (own_of_row pr).1
          have at6 : gq = gp ∨ gq = w9.heap.size := by simpa [Value.ownBlock] using at5
          have zo := xo.size
          have nt : (Value.slice (some ⟨gp, 0, none⟩) p cp).ownBlock ≠ some tb := by simp [Value.ownBlock]; omega
          have nx : (Value.slice (some ⟨gp, 0, none⟩) p cp).ownBlock ≠ some (w.heap.size) := by simp [Value.ownBlock]; omega
          have nr : (Value.slice (some ⟨gp, 0, none⟩) p cp).ownBlock ≠ some (w.heap.size + 1) := by simp [Value.ownBlock]; omega
          have x0 := row_grown x0 gr nx
          have x1 := row_grown x1 gr nr
          have xt := row_grown xt gr nt
          have xo : Below w.heap.size w w10 := below_grown xo gr (fun q e => by simp [Value.ownBlock] at e; omega) xo.size
          refine hK _ _ ⟨x0, x1, xt, xo⟩ ?_
          clear hK K
          try simp only [Act.put, List.setIfInBounds_toArray, List.set_cons_zero, List.set_cons_succ]
          have gqt : tb < gq := by omega
          clear pr gr at5 nt nx nr pw lw
          refine hw_one (i := 13) rfl (by decide) (by kernel_rfl) (fun K hK => ?_)
          refine step_append_any _ rfl _ _ 22 rfl w.heap.size 66 ii (.agg #[.int .i64 0, .int .i64 0, .int .i64 0]) 3 24 Try.underlying22 hii iz0 iz1 iz2 rfl (by decide) (.slice (some ⟨gq, 0, none⟩) (p + 1) cq) (p + 1) (tcells (ts.take p) ++ tcells [⟨v, 1, gap⟩]) rfl (qw.row (by omega)) w.heap.size _ (m - p) (c - p) (tcells (ts.drop p)) rfl (RS.out.below xo) (tcells_one _) (by unfold maxLen; omega) (by omega) xo.size ?_
          intro vv w11 pr gr at5
          obtain ⟨gz, cz, rfl, _, _⟩ := pr.form (by omega)
          have zw := (own_of_row pr).1
          have at6 : gz = gq ∨ gz = w10.heap.size := by simpa [Value.ownBlock] using at5
          have zo := xo.size
          have zt := row_lt xt
          have nt : (Value.slice (some ⟨gq, 0, none⟩) (p + 1) cq).ownBlock ≠ some tb := by simp [Value.ownBlock]; omega
          have nx : (Value.slice (some ⟨gq, 0, none⟩) (p + 1) cq).ownBlock ≠ some (w.heap.size) := by simp [Value.ownBlock]; omega
          have nr : (Value.slice (some ⟨gq, 0, none⟩) (p + 1) cq).ownBlock ≠ some (w.heap.size + 1) := by simp [Value.ownBlock]; omega
          have x0 := row_grown x0 gr nx
          have x1 := row_grown x1 gr nr
          have xt := row_grown xt gr nt
          have xo : Below w.heap.size w w11 := below_grown xo gr (fun q e => by simp [Value.ownBlock] at e; omega) xo.size
          refine hK _ _ ⟨x0, x1, xt, xo⟩ ?_
          clear hK K
          try simp only [Act.put, List.setIfInBounds_toArray, List.set_cons_zero, List.set_cons_succ]
          have gzt : tb < gz := by omega
          clear pr gr at5 nt nx nr qw
          refine hw_done (by kernel_rfl) ?_
          simp only [List.drop_succ_cons, List.drop_zero]
          clear HOK
          generalize (if c = p then A else Option.map (fun x => x.add (p * 3)) A) = sA
          obtain ⟨A0, A1, A2, A3, A4, A5, A6, A7⟩ := row_four x0
          go_wp2_with fail
          go_meet
          rw [← tcells_append, ← tcells_append, es] at zw
          exact ⟨gz, p + 1 + (m - p), cz, row_set x0 3 _, row_other x1 (by simp) _, zw.other (by simp; omega) _, by omega, by omega, xo.setCell (Nat.le_refl _) _⟩
        · go_simp
          have x0 := row_alloc x0 (.cells #[.int .i64 v, .int .i64 1, .int .i64 gap] 66)
          have x1 := row_alloc x1 (.cells #[.int .i64 v, .int .i64 1, .int .i64 gap] 66)
          have xt := row_alloc xt (.cells #[.int .i64 v, .int .i64 1, .int .i64 gap] 66)
          have xo := xo.alloc xo.size (.cells #[.int .i64 v, .int .i64 1, .int .i64 gap] 66)
          have lw : Own (w7.alloc (.cells #[.int .i64 v, .int .i64 1, .int .i64 gap] 66)) 66 3 w7.heap.size 1 1 (tcells [⟨v, 1, gap⟩]) := by
            have h := own_new (w := w7) (e := 66) (size := 3) (n := 1) (cs := #[.int .i64 v, .int .i64 1, .int .i64 gap]) rfl (by unfold maxLen; omega) rfl
            simpa [tcells] using h
          have nle : eb < w7.heap.size := ew.lt
          have ew := ew.alloc (.cells #[.int .i64 v, .int .i64 1, .int .i64 gap] 66)
          refine hK _ _ ⟨x0, x1, xt, xo⟩ ?_
          clear hK K
          try simp only [Act.put, List.setIfInBounds_toArray, List.set_cons_zero, List.set_cons_succ]
          generalize w7.alloc (.cells #[.int .i64 v, .int .i64 1, .int .i64 gap] 66) = w8 at x0 x1 xt xo lw ew ⊢
          have gl0 : tb < w7.heap.size := by omega
          generalize w7.heap.size = lb at lw gl0 nle ⊢
          have zt := row_lt xt
          refine hw_one (i := 5) rfl (by decide) (by kernel_rfl) (fun K hK => ?_)
          refine step_append_any _ rfl _ _ 22 rfl w.heap.size 66 ii (.agg #[.int .i64 0, .int .i64 0, .int .i64 0]) 3 24 Try.underlying22 hii iz0 iz1 iz2 rfl (by decide) (.slice (some ⟨eb, 0, none⟩) 0 0) 0 [] rfl (ew.row (by omega)) w.heap.size A p c (tcells (ts.take p)) rfl (RP.out.below xo) (tcells_one _) (by unfold maxLen; omega) (by omega) xo.size ?_
          intro vv w9 pr gr at5
          rw [Nat.zero_add, List.nil_append] at pr
          have hvv : ∃ gp cp, vv = .slice (some ⟨gp, 0, none⟩) p cp := by
            rcases pr.2 with ⟨hv, _⟩ | ⟨gp, cp, cur, hv, _⟩
            · subst hv
              simp [Value.ownBlock] at at5
            · exact ⟨gp, cp, hv⟩
          obtain ⟨gp, cp, rfl⟩ := hvv
          have pw := (own_of_row pr).1
          have at6 : gp = eb ∨ gp = w8.heap.size := by simpa [Value.ownBlock] using at5
          have zo := xo.size
          have nt : (Value.slice (some ⟨eb, 0, none⟩) 0 0).ownBlock ≠ some tb := by simp [Value.ownBlock]; omega
          have nx : (Value.slice (some ⟨eb, 0, none⟩) 0 0).ownBlock ≠ some (w.heap.size) := by simp [Value.ownBlock]; omega
          have nr : (Value.slice (some ⟨eb, 0, none⟩) 0 0).ownBlock ≠ some (w.heap.size + 1) := by simp [Value.ownBlock]; omega
          have x0 := row_grown x0 gr nx
          have x1 := row_grown x1 gr nr
          have xt := row_grown xt gr nt
          have xo : Below w.heap.size w w9 := below_grown xo gr (fun q e => by simp [Value.ownBlock] at e; omega) xo.size
          have lw := lw.grown gr (by simp [Value.ownBlock]; omega)
          refine hK _ _ ⟨x0, x1, xt, xo⟩ ?_
          clear hK K
          try simp only [Act.put, List.setIfInBounds_toArray, List.set_cons_zero, List.set_cons_succ]
          have gpt : tb < gp := by omega
          clear pr gr at5 ew nt nx nr
          have zt := row_lt xt
          refine hw_one (i := 8) rfl (by decide) (by kernel_rfl) (fun K hK => ?_)
          refine step_append_any _ rfl _ _ 22 rfl w.heap.size 66 ii (.agg #[.int .i64 0, .int .i64 0, .int .i64 0]) 3 24 Try.underlying22 hii iz0 iz1 iz2 rfl (by decide) (.slice (some ⟨gp, 0, none⟩) p cp) p (tcells (ts.take p)) rfl (pw.row (by omega)) w9.heap.size (some ⟨lb, 0, none⟩) 1 1 (tcells [⟨v, 1, gap⟩]) rfl lw.reads (tcells_one _) (by unfold maxLen; omega) (by omega) xo.size ?_
          intro vv w10 pr gr at5
          obtain ⟨gq, cq, rfl, _, _⟩ := pr.form (by omega)
          have qw := (own_of_row pr).1
          have at6 : gq = gp ∨ gq = w9.heap.size := by simpa [Value.ownBlock] using at5
          have zo := xo.size
          have nt : (Value.slice (some ⟨gp, 0, none⟩) p cp).ownBlock ≠ some tb := by simp [Value.ownBlock]; omega
          have nx : (Value.slice (some ⟨gp, 0, none⟩) p cp).ownBlock ≠ some (w.heap.size) := by simp [Value.ownBlock]; omega
          have nr : (Value.slice (some ⟨gp, 0, none⟩) p cp).ownBlock ≠ some (w.heap.size + 1) := by simp [Value.ownBlock]; omega
          have x0 := row_grown x0 gr nx
          have x1 := row_grown x1 gr nr
          have xt := row_grown xt gr nt
          have xo : Below w.heap.size w w10 := below_grown xo gr (fun q e => by simp [Value.ownBlock] at e; omega) xo.size
          refine hK _ _ ⟨x0, x1, xt, xo⟩ ?_
          clear hK K
          try simp only [Act.put, List.setIfInBounds_toArray, List.set_cons_zero, List.set_cons_succ]
          have gqt : tb < gq := by omega
          clear pr gr at5 nt nx nr pw lw
          refine hw_one (i := 13) rfl (by decide) (by kernel_rfl) (fun K hK => ?_)
          refine step_append_any _ rfl _ _ 22 rfl w.heap.size 66 ii (.agg #[.int .i64 0, .int .i64 0, .int .i64 0]) 3 24 Try.underlying22 hii iz0 iz1 iz2 rfl (by decide) (.slice (some ⟨gq, 0, none⟩) (p + 1) cq) (p + 1) (tcells (ts.take p) ++ tcells [⟨v, 1, gap⟩]) rfl (qw.row (by omega)) w.heap.size _ (m - p) (c - p) (tcells (ts.drop p)) rfl (RS.out.below xo) (tcells_one _) (by unfold maxLen; omega) (by omega) xo.size ?_
          intro vv w11 pr gr at5
          obtain ⟨gz, cz, rfl, _, _⟩ := pr.form (by omega)
          have zw := (own_of_row pr).1
          have at6 : gz = gq ∨ gz = w10.heap.size := by simpa [Value.ownBlock] using at5
          have zo := xo.size
          have zt := row_lt xt
          have nt : (Value.slice (some ⟨gq, 0, none⟩) (p + 1) cq).ownBlock ≠ some tb := by simp [Value.ownBlock]; omega
          have nx : (Value.slice (some ⟨gq, 0, none⟩) (p + 1) cq).ownBlock ≠ some (w.heap.size) := by simp [Value.ownBlock]; omega
          have nr : (Value.slice (some ⟨gq, 0, none⟩) (p + 1) cq).ownBlock ≠ some (w.heap.size + 1) := by simp [Value.ownBlock]; omega
          have x0 := row_grown x0 gr nx
          have x1 := row_grown x1 gr nr
          have xt := row_grown xt gr nt
          have xo : Below w.heap.size w w11 := below_grown xo gr (fun q e => by simp [Value.ownBlock] at e; omega) xo.size
          refine hK _ _ ⟨x0, x1, xt, xo⟩ ?_
          clear hK K
          try simp only [Act.put, List.setIfInBounds_toArray, List.set_cons_zero, List.set_cons_succ]
          have gzt : tb < gz := by omega
          clear pr gr at5 nt nx nr qw
          refine hw_done (by kernel_rfl) ?_
          simp only [List.drop_succ_cons, List.drop_zero]
          clear HOK
          generalize (if c = p then A else Option.map (fun x => x.add (p * 3)) A) = sA
          obtain ⟨A0, A1, A2, A3, A4, A5, A6, A7⟩ := row_four x0
          go_wp2_with fail
          go_meet
          rw [← tcells_append, ← tcells_append, es] at zw
          exact ⟨gz, p + 1 + (m - p), cz, row_set x0 3 _, row_other x1 (by simp) _, zw.other (by simp; omega) _, by omega, by omega, xo.setCell (Nat.le_refl _) _⟩
      · go_simp
        have x0 := row_alloc x0 (.cells #[.int .i64 v, .int .i64 1, .int .i64 gap] 66)
        have x1 := row_alloc x1 (.cells #[.int .i64 v, .int .i64 1, .int .i64 gap] 66)
        have xt := row_alloc xt (.cells #[.int .i64 v, .int .i64 1, .int .i64 gap] 66)
        have xo := xo.alloc xo.size (.cells #[.int .i64 v, .int .i64 1, .int .i64 gap] 66)
        have lw : Own (w6.alloc (.cells #[.int .i64 v, .int .i64 1, .int .i64 gap] 66)) 66 3 w6.heap.size 1 1 (tcells [⟨v, 1, gap⟩]) := by
          have h := own_new (w := w6) (e := 66) (size := 3) (n := 1) (cs := #[.int .i64 v, .int .i64 1, .int .i64 gap]) rfl (by unfold maxLen; omega) rfl
          simpa [tcells] using h
        refine hK _ _ ⟨x0, x1, xt, xo⟩ ?_
        clear hK K
        try simp only [Act.put, List.setIfInBounds_toArray, List.set_cons_zero, List.set_cons_succ]
        generalize w6.alloc (.cells #[.int .i64 v, .int .i64 1, .int .i64 gap] 66) = w7 at x0 x1 xt xo lw ⊢
        have gl0 : tb < w6.heap.size := by omega
        generalize w6.heap.size = lb at lw gl0 ⊢
        have zt := row_lt xt
        refine hw_one (i := 0) rfl (by decide) (by kernel_rfl) (fun K hK => ?_)
        go_simp
        have x0 := row_alloc x0 (.cells #[] 66)
        have x1 := row_alloc x1 (.cells #[] 66)
        have xt := row_alloc xt (.cells #[] 66)
        have xo := xo.alloc xo.size (.cells #[] 66)
        have ew : Own (w7.alloc (.cells #[] 66)) 66 3 w7.heap.size 0 0 [] := own_new (n := 0) rfl (by unfold maxLen; omega) (by simp)
        have nlb : lb < w7.heap.size := lw.lt
        have lw := lw.alloc (.cells #[] 66)
        have zg : w7.heap.size < (w7.alloc (.cells #[] 66)).heap.size := by simp
        refine hK _ _ ⟨x0, x1, xt, xo⟩ ?_
        clear hK K
        try simp only [Act.put, List.setIfInBounds_toArray, List.set_cons_zero, List.set_cons_succ]
        generalize w7.alloc (.cells #[] 66) = w8 at x0 x1 xt xo ew zg lw ⊢
        have ge0 : tb < w7.heap.size := by omega
        generalize w7.heap.size = eb at ew ge0 zg nlb ⊢
        have zt := row_lt xt
        refine hw_one (i := 5) rfl (by decide) (by kernel_rfl) (fun K hK => ?_)
        refine step_append_any _ rfl _ _ 22 rfl w.heap.size 66 ii (.agg #[.int .i64 0, .int .i64 0, .int .i64 0]) 3 24 Try.underlying22 hii iz0 iz1 iz2 rfl (by decide) (.slice (some ⟨eb, 0, none⟩) 0 0) 0 [] rfl (ew.row (by omega)) w.heap.size A p c (tcells (ts.take p)) rfl (RP.out.below xo) (tcells_one _) (by unfold maxLen; omega) (by omega) xo.size ?_
        intro vv w9 pr gr at5
        rw [Nat.zero_add, List.nil_append] at pr
        have hvv : ∃ gp cp, vv = .slice (some ⟨gp, 0, none⟩) p cp := by
          rcases pr.2 with ⟨hv, _⟩ | ⟨gp, cp, cur, hv, _⟩
          · subst hv
            simp [Value.ownBlock] at at5
          · exact ⟨gp, cp, hv⟩
        obtain ⟨gp, cp, rfl⟩ := hvv
        have pw := (own_of_row pr).1
        have at6 : gp = eb ∨ gp = w8.heap.size := by simpa [Value.ownBlock] using at5
        have zo := xo.size
        have nt : (Value.slice (some ⟨eb, 0, none⟩) 0 0).ownBlock ≠ some tb := by simp [Value.ownBlock]; omega
        have nx : (Value.slice (some ⟨eb, 0, none⟩) 0 0).ownBlock ≠ some (w.heap.size) := by simp [Value.ownBlock]; omega
        have nr : (Value.slice (some ⟨eb, 0, none⟩) 0 0).ownBlock ≠ some (w.heap.size + 1) := by simp [Value.ownBlock]; omega
        have x0 := row_grown x0 gr nx
        have x1 := row_grown x1 gr nr
        have xt := row_grown xt gr nt
        have xo : Below w.heap.size w w9 := below_grown xo gr (fun q e => by simp [Value.ownBlock] at e; omega) xo.size
        have lw := lw.grown gr (by simp [Value.ownBlock]; omega)
        refine hK _ _ ⟨x0, x1, xt, xo⟩ ?_
        clear hK K
        try simp only [Act.put, List.setIfInBounds_toArray, List.set_cons_zero, List.set_cons_succ]
        have gpt : tb < gp := by omega
        clear pr gr at5 ew nt nx nr
        have zt := row_lt xt
        refine hw_one (i := 8) rfl (by decide) (by kernel_rfl) (fun K hK => ?_)
        refine step_append_any _ rfl _ _ 22 rfl w.heap.size 66 ii (.agg #[.int .i64 0, .int .i64 0, .int .i64 0]) 3 24 Try.underlying22 hii iz0 iz1 iz2 rfl (by decide) (.slice (some ⟨gp, 0, none⟩) p cp) p (tcells (ts.take p)) rfl (pw.row (by omega)) w9.heap.size (some ⟨lb, 0, none⟩) 1 1 (tcells [⟨v, 1, gap⟩]) rfl lw.reads (tcells_one _) (by unfold maxLen; omega) (by omega) xo.size ?_
        intro vv w10 pr gr at5
        obtain ⟨gq, cq, rfl, _, _⟩ := pr.form (by omega)
        have qw := (own_of_row pr).1
        have at6 : gq = gp ∨ gq = w9.heap.size := by simpa [Value.ownBlock] using at5
        have zo := xo.size
        have nt : (Value.slice (some ⟨gp, 0, none⟩) p cp).ownBlock ≠ some tb := by simp [Value.ownBlock]; omega
        have nx : (Value.slice (some ⟨gp, 0, none⟩) p cp).ownBlock ≠ some (w.heap.size) := by simp [Value.ownBlock]; omega
        have nr : (Value.slice (some ⟨gp, 0, none⟩) p cp).ownBlock ≠ some (w.heap.size + 1) := by simp [Value.ownBlock]; omega
        have x0 := row_grown x0 gr nx
        have x1 := row_grown x1 gr nr
        have xt := row_grown xt gr nt
        have xo : Below w.heap.size w w10 := below_grown xo gr (fun q e => by simp [Value.ownBlock] at e; omega) xo.size
        refine hK _ _ ⟨x0, x1, xt, xo⟩ ?_
        clear hK K
        try simp only [Act.put, List.setIfInBounds_toArray, List.set_cons_zero, List.set_cons_succ]
        have gqt : tb < gq := by omega
        clear pr gr at5 nt nx nr pw lw
        refine hw_one (i := 13) rfl (by decide) (by kernel_rfl) (fun K hK => ?_)
        refine step_append_any _ rfl _ _ 22 rfl w.heap.size 66 ii (.agg #[.int .i64 0, .int .i64 0, .int .i64 0]) 3 24 Try.underlying22 hii iz0 iz1 iz2 rfl (by decide) (.slice (some ⟨gq, 0, none⟩) (p + 1) cq) (p + 1) (tcells (ts.take p) ++ tcells [⟨v, 1, gap⟩]) rfl (qw.row (by omega)) w.heap.size _ (m - p) (c - p) (tcells (ts.drop p)) rfl (RS.out.below xo) (tcells_one _) (by unfold maxLen; omega) (by omega) xo.size ?_
        intro vv w11 pr gr at5
        obtain ⟨gz, cz, rfl, _, _⟩ := pr.form (by omega)
        have zw := (own_of_row pr).1
        have at6 : gz = gq ∨ gz = w10.heap.size := by simpa [Value.ownBlock] using at5
        have zo := xo.size
        have zt := row_lt xt
        have nt : (Value.slice (some ⟨gq, 0, none⟩) (p + 1) cq).ownBlock ≠ some tb := by simp [Value.ownBlock]; omega
        have nx : (Value.slice (some ⟨gq, 0, none⟩) (p + 1) cq).ownBlock ≠ some (w.heap.size) := by simp [Value.ownBlock]; omega
        have nr : (Value.slice (some ⟨gq, 0, none⟩) (p + 1) cq).ownBlock ≠ some (w.heap.size + 1) := by simp [Value.ownBlock]; omega
        have x0 := row_grown x0 gr nx
        have x1 := row_grown x1 gr nr
        have xt := row_grown xt gr nt
        have xo : Below w.heap.size w w11 := below_grown xo gr (fun q e => by simp [Value.ownBlock] at e; omega) xo.size
        refine hK _ _ ⟨x0, x1, xt, xo⟩ ?_
        clear hK K
        try simp only [Act.put, List.setIfInBounds_toArray, List.set_cons_zero, List.set_cons_succ]
        have gzt : tb < gz := by omega
        clear pr gr at5 nt nx nr qw
        refine hw_done (by kernel_rfl) ?_
        simp only [List.drop_succ_cons, List.drop_zero]
        clear HOK
        generalize (if c = p then A else Option.map (fun x => x.add (p * 3)) A) = sA
        obtain ⟨A0, A1, A2, A3, A4, A5, A6, A7⟩ := row_four x0
        go_wp2_with fail
        go_meet
        rw [← tcells_append, ← tcells_append, es] at zw
        exact ⟨gz, p + 1 + (m - p), cz, row_set x0 3 _, row_other x1 (by simp) _, zw.other (by simp; omega) _, by omega, by omega, xo.setCell (Nat.le_refl _) _⟩
theorem rinsert (k cap n : Int) (A : Option Addr) (m c : Nat) (ts : List Tup) (v : Int) (w : World) (hin : SIn k cap n A m c ts w) : Calls Try.prog 16 #[.agg #[.int .i64 k, .int .i64 cap, .int .i64 n, .slice A m c], .int .i64 v] w fun e w' => SRet (sinsert k cap n ts v) w e w' := by
  rcases svalE_two (k := k) (cap := cap) (n := n) (ts := ts) with hv | hv
  · by_cases h0 : v < -4096
    · exact rinsert_range k cap n A m c ts v w hin hv (.inl h0)
    · by_cases h1 : 4096 < v
      · exact rinsert_range k cap n A m c ts v w hin hv (.inr h1)
      · by_cases h2 : n = 1099511627776
        · exact rinsert_full k cap n A m c ts v w hin hv (by omega) (by omega) h2
        · exact rinsert_ok k cap n A m c ts v w hin hv (by omega) (by omega) h2
  · exact rinsert_bad k cap n A m c ts v w hin hv
end Go.Proofs.Ytdibjlphcmjnoaa
