/- Plain facts on reading decimal numerals: no program is in sight. -/
import Derived.Test.YtoemccfpinonhaaMathDec
namespace Go.Proofs.Ytoemccfpinonhaa
open Go.RowKit
def isdig (c : UInt8) : Bool := decide (48 ≤ c.toNat ∧ c.toNat ≤ 57)
def pnum (bs : List UInt8) : Nat := bs.foldl (fun n c => n * 10 + (c.toNat - 48)) 0
/-- A text is a numeral of a wide number. -/
def parseOK (bs : List UInt8) : Bool := decide (bs ≠ [] ∧ ¬ (1 < bs.length ∧ bs.getD 0 0 = 48) ∧ (∀ c ∈ bs, isdig c = true) ∧ pnum bs < big)
def parseV (bs : List UInt8) : Nat := if parseOK bs = true then pnum bs else 0
theorem pnum_nil : pnum [] = 0 := rfl
theorem pnum_snoc (l : List UInt8) (c : UInt8) : pnum (l ++ [c]) = pnum l * 10 + (c.toNat - 48) := by simp [pnum]
theorem foldl_ge (r : List UInt8) : ∀ n : Nat, n ≤ r.foldl (fun n c => n * 10 + (c.toNat - 48)) n := by
  induction r with
  | nil => intro n; simp
  | cons c r ih => intro n; rw [List.foldl_cons]; exact Nat.le_trans (by omega) (ih _)
theorem pnum_ge (l r : List UInt8) : pnum l ≤ pnum (l ++ r) := by
  unfold pnum
  rw [List.foldl_append]
  exact foldl_ge r _
theorem pnum_take (bs : List UInt8) (k : Nat) : pnum (bs.take k) ≤ pnum bs := by
  have h := pnum_ge (bs.take k) (bs.drop k)
  rwa [List.take_append_drop] at h
theorem foldl_pow (r : List UInt8) : ∀ n : Nat, n * 10 ^ r.length ≤ r.foldl (fun n c => n * 10 + (c.toNat - 48)) n := by
  induction r with
  | nil => intro n; simp
  | cons c r ih =>
    intro n
    rw [List.foldl_cons, List.length_cons, Nat.pow_succ]
    refine Nat.le_trans ?_ (ih _)
    rw [Nat.add_mul]
    have : n * (10 ^ r.length * 10) = n * 10 * 10 ^ r.length := by rw [Nat.mul_comm (10 ^ r.length) 10, Nat.mul_assoc]
    omega
theorem parse_no {bs : List UInt8} (h : parseOK bs = false) : parseV bs = 0 := by unfold parseV; rw [if_neg (by simp [h])]
theorem parse_yes {bs : List UInt8} (h : parseOK bs = true) : parseV bs = pnum bs := by unfold parseV; rw [if_pos h]
theorem parseOK_nil : parseOK [] = false := by simp [parseOK]
theorem parseOK_zero {bs : List UInt8} (h : 1 < bs.length) (k : bs.getD 0 0 = 48) : parseOK bs = false := by
  unfold parseOK
  exact decide_eq_false (fun a => a.2.1 ⟨h, k⟩)
theorem parseOK_bad {bs : List UInt8} {k : Nat} (hk : k < bs.length) (h : isdig (bs.getD k 0) = false) : parseOK bs = false := by
  unfold parseOK
  refine decide_eq_false (fun a => ?_)
  have e : bs.getD k 0 = bs[k] := by simp [List.getD, hk]
  have := a.2.2.1 _ (List.getElem_mem hk)
  rw [← e, h] at this
  cases this
theorem parseOK_over {bs : List UInt8} {k : Nat} (h : ¬ pnum (bs.take k) < big) : parseOK bs = false := by
  unfold parseOK
  refine decide_eq_false (fun a => ?_)
  have := pnum_take bs k
  omega
theorem parseOK_all {bs : List UInt8} (h0 : bs ≠ []) (h1 : ¬ (1 < bs.length ∧ bs.getD 0 0 = 48)) (h2 : ∀ e, e < bs.length → isdig (bs.getD e 0) = true) (h3 : pnum bs < big) : parseOK bs = true := by
  unfold parseOK
  refine decide_eq_true ⟨h0, h1, fun c hc => ?_, h3⟩
  obtain ⟨i, hi⟩ := List.getElem?_of_mem hc
  obtain ⟨hlt, e⟩ := List.getElem?_eq_some_iff.1 hi
  have := h2 i hlt
  rwa [show bs.getD i 0 = c by simp [List.getD, hi]] at this
theorem take_snoc8 {bs : List UInt8} {k : Nat} (h : k < bs.length) : bs.take (k + 1) = bs.take k ++ [bs.getD k 0] := by
  rw [List.take_succ_eq_append_getElem h]
  simp [List.getD, h]
theorem pnum_step {bs : List UInt8} {k : Nat} (h : k < bs.length) : pnum (bs.take (k + 1)) = pnum (bs.take k) * 10 + ((bs.getD k 0).toNat - 48) := by
  rw [take_snoc8 h, pnum_snoc]
/-- A long text is no numeral. -/
theorem parseOK_long {bs : List UInt8} (h : 39 < bs.length) : parseOK bs = false := by
  unfold parseOK
  refine decide_eq_false (fun a => ?_)
  obtain ⟨a0, a1, a2, a3⟩ := a
  match bs, a0 with
  | c :: r, _ =>
    have hd := a2 c (by simp)
    have hc : c ≠ 48 := fun e => a1 ⟨by omega, by simp [e]⟩
    have hp : pnum (c :: r) = r.foldl (fun n c => n * 10 + (c.toNat - 48)) (c.toNat - 48) := by simp [pnum]
    have hf := foldl_pow r (c.toNat - 48)
    rw [← hp] at hf
    unfold isdig at hd
    simp only [decide_eq_true_eq] at hd
    have hne : c.toNat ≠ 48 := fun e => hc (by rw [← UInt8.toNat_inj]; exact e)
    have h1 : 1 * 10 ^ r.length ≤ (c.toNat - 48) * 10 ^ r.length := Nat.mul_le_mul_right _ (by omega)
    have h2 : 10 ^ 39 ≤ 10 ^ r.length := Nat.pow_le_pow_right (by omega) (by simp at h; omega)
    have h3 : big ≤ 10 ^ 39 := by decide
    omega
/-- The digits of the number that a text reads as, are the text. -/
theorem lrev_pnum : ∀ (f : Nat) (l : List UInt8), l.length ≤ f → (∀ c ∈ l, isdig c = true) → (l ≠ [] → l.getD 0 0 ≠ 48) → lrev f (pnum l) = (l.map fun c => (c.toNat : Int)).reverse
  | 0, l, hl, _, _ => by
    have : l = [] := List.eq_nil_of_length_eq_zero (by omega)
    subst this
    rfl
  | f + 1, l, hl, hd, hh => by
    rcases List.eq_nil_or_concat l with rfl | ⟨m, c, rfl⟩
    · rfl
    · have hc := hd c (by simp)
      unfold isdig at hc
      simp only [decide_eq_true_eq] at hc
      have ih := lrev_pnum f m (by simp at hl; omega) (fun x hx => hd x (by simp [hx])) (fun hm => by
        have := hh (by simp)
        match m, hm with
        | x :: r, _ => simpa using this)
      have hpos : pnum (m ++ [c]) ≠ 0 := by
        rw [pnum_snoc]
        match m with
        | [] =>
          have := hh (by simp)
          have hne : c.toNat ≠ 48 := fun e => this (by simp; rw [← UInt8.toNat_inj]; exact e)
          rw [pnum_nil]; omega
        | x :: r =>
          have h1 := hh (by simp)
          have h2 := hd x (by simp)
          unfold isdig at h2
          simp only [decide_eq_true_eq] at h2
          have hne : x.toNat ≠ 48 := fun e => h1 (by simp; rw [← UInt8.toNat_inj]; exact e)
          have h3 : pnum [x] ≤ pnum (x :: r) := pnum_ge [x] r
          have h4 : pnum [x] = x.toNat - 48 := by simp [pnum]
          omega
      simp only [List.concat_eq_append] at *
      rw [lrev_step hpos, pnum_snoc, show (pnum m * 10 + (c.toNat - 48)) / 10 = pnum m by omega, ih, show (pnum m * 10 + (c.toNat - 48)) % 10 = c.toNat - 48 by omega]
      simp
      omega
theorem nums_bytes (l : List UInt8) : (strOfNums (l.map fun c => (c.toNat : Int))) = ⟨l.toArray⟩ := by
  unfold strOfNums
  congr 1
  rw [List.map_map]
  congr 1
  conv => rhs; rw [← List.map_id l]
  refine List.map_congr_left (fun c _ => ?_)
  simp
theorem parse_format {s : ByteArray} (h : parseOK s.data.toList = true) : decStr (parseV s.data.toList) = s := by
  have hlong : ¬ 39 < s.data.toList.length := fun k => by rw [parseOK_long k] at h; cases h
  rw [parse_yes h]
  unfold parseOK at h
  simp only [decide_eq_true_eq] at h
  obtain ⟨h0, h1, h2, h3⟩ := h
  by_cases hz : s.data.toList.getD 0 0 = 48
  · have hl : s.data.toList.length = 1 := by
      have : s.data.toList.length ≠ 0 := fun e => h0 (List.eq_nil_of_length_eq_zero e)
      have : ¬ 1 < s.data.toList.length := fun k => h1 ⟨k, hz⟩
      omega
    match hs : s.data.toList, hl with
    | [c], _ =>
      rw [hs] at hz
      have hc : c = 48 := by simpa using hz
      subst hc
      rw [show pnum [48] = 0 from rfl, decStr_zero]
      have : s.data = #[48] := by rw [← Array.toList_inj]; exact hs
      cases s
      simp at this
      rw [this]
  · have hl := lrev_pnum 39 s.data.toList (by omega) h2 (fun _ => hz)
    have hpos : pnum s.data.toList ≠ 0 := by
      intro e
      rw [e, lrev_zero] at hl
      have t := congrArg List.length hl
      rw [List.length_reverse, List.length_map] at t
      exact h0 (List.eq_nil_of_length_eq_zero t.symm)
    rw [decStr_pos hpos, hl, List.reverse_reverse, nums_bytes]
/-- The bytes of a numeral. -/
def decB (a : Nat) : List UInt8 := (decStr a).data.toList
theorem u8_of (d : Nat) (h : d < 10) : (UInt8.ofNat (48 + d)).toNat = 48 + d := by
  rw [UInt8.toNat_ofNat']
  omega
theorem lrev_bytes : ∀ (f n : Nat), n < 10 ^ f → (∀ c ∈ (lrev f n).reverse.map (fun z => UInt8.ofNat z.toNat), isdig c = true) ∧ pnum ((lrev f n).reverse.map (fun z => UInt8.ofNat z.toNat)) = n ∧
    (n ≠ 0 → (lrev f n).reverse.map (fun z => UInt8.ofNat z.toNat) ≠ [] ∧ ((lrev f n).reverse.map (fun z => UInt8.ofNat z.toNat)).getD 0 0 ≠ 48)
  | 0, n, h => by
    have : n = 0 := by simpa using h
    subst this
    simp [lrev, pnum]
  | f + 1, n, h => by
    by_cases hn : n = 0
    · subst hn
      simp [lrev, pnum]
    · obtain ⟨i1, i2, i3⟩ := lrev_bytes f (n / 10) (by rw [Nat.pow_succ] at h; omega)
      have hu := u8_of (n % 10) (by omega)
      rw [lrev_step hn, List.reverse_cons, List.map_append]
      have e : ((48 + n % 10 : Nat) : Int).toNat = 48 + n % 10 := by omega
      simp only [List.map_cons, List.map_nil, e]
      refine ⟨fun c hc => ?_, ?_, fun _ => ⟨by simp, ?_⟩⟩
      · rcases List.mem_append.1 hc with hc | hc
        · exact i1 c hc
        · simp only [List.mem_singleton] at hc
          subst hc
          unfold isdig
          rw [hu]
          exact decide_eq_true (by omega)
      · rw [pnum_snoc, i2, hu]
        omega
      · by_cases h10 : n / 10 = 0
        · rw [h10, lrev_zero]
          simp only [List.reverse_nil, List.map_nil, List.nil_append]
          intro e'
          have : (UInt8.ofNat (48 + n % 10)) = 48 := by simpa using e'
          rw [this] at hu
          have h48 : (48 : UInt8).toNat = 48 := rfl
          omega
        · obtain ⟨k1, k2⟩ := i3 h10
          generalize (lrev f (n / 10)).reverse.map (fun z => UInt8.ofNat z.toNat) = L at k1 k2 ⊢
          cases L with
          | nil => exact absurd rfl k1
          | cons x r => simpa using k2
theorem parse_dec {a : Nat} (h : a < big) : parseOK (decStr a).data.toList = true ∧ parseV (decStr a).data.toList = a := by
  by_cases hz : a = 0
  · subst hz
    rw [decStr_zero]
    have : parseOK [48] = true := by decide
    exact ⟨this, by rw [show ({ data := #[48] } : ByteArray).data.toList = [48] from rfl, parse_yes this]; rfl⟩
  · obtain ⟨i1, i2, i3⟩ := lrev_bytes 39 a (Nat.lt_trans h (by decide))
    obtain ⟨k1, k2⟩ := i3 hz
    rw [decStr_pos hz, strOfNums_data]
    have : parseOK ((lrev 39 a).reverse.map (fun z => UInt8.ofNat z.toNat)) = true := by
      unfold parseOK
      exact decide_eq_true ⟨k1, fun e => k2 e.2, i1, by rw [i2]; exact h⟩
    exact ⟨this, by rw [parse_yes this, i2]⟩
end Go.Proofs.Ytoemccfpinonhaa
