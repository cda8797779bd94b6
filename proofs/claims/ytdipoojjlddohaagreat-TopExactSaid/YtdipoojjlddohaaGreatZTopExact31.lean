/- What the law TopExact needs, joined of its texts by a program (slim2.py); part 31. -/
import Derived.Test.YtdipoojjlddohaaGreatZTopExact1
import Derived.Test.YtdipoojjlddohaaGreatZTopExact3
import Derived.Test.YtdipoojjlddohaaGreatZTopExact5
import Derived.Test.YtdipoojjlddohaaGreatZTopExact9
import Derived.Test.YtdipoojjlddohaaGreatZTopExact10
import Derived.Test.YtdipoojjlddohaaGreatZTopExact30
set_option linter.unusedVariables false
set_option linter.unusedSimpArgs false
set_option linter.unusedSectionVars false
set_option linter.unnecessarySimpa false
section
/- Counters with polynomial decay: words. -/
set_option maxRecDepth 100000
namespace Go.Proofs.YtdipoojjlddohaaGreat
open Go.RowKit Go.Shelf
def wcells (ms:List Nat):List Value:=ms.flatMap fun m=>[.int .u64 (hi m), .int .u64 (lo m)]
theorem wcells_nil:wcells []=[]:=rfl
theorem wcells_cons (m:Nat) (ms:List Nat):wcells (m :: ms) = .int .u64 (hi m) :: .int .u64 (lo m) :: wcells ms:=rfl
theorem wcells_len:∀ ms:List Nat,(wcells ms).length=ms.length*2
  | []=>rfl
  | m :: ms=>by rw [wcells_cons];simp only [List.length_cons,wcells_len ms];omega
theorem wcells_at:∀ (ms:List Nat) (i:Nat),i<ms.length→(wcells ms)[i*2]?=some (.int .u64 (hi (momAt ms i)))∧(wcells ms)[i*2+1]?=some (.int .u64 (lo (momAt ms i)))
  | [],i,h=>absurd h (by simp)
  | m :: ms,0,_=>⟨rfl,rfl⟩
  | m :: ms,i+1,h=>by
    have ih:=wcells_at ms i (by simpa using h)
    rw [wcells_cons,show (i+1)*2=i*2+1+1 by omega,show i*2+1+1+1=(i*2+1)+1+1 by omega]
    simp only [List.getElem?_cons_succ]
    exact ih
theorem wcells_set (ms:List Nat) (i m:Nat):((wcells ms).set (i*2) (.int .u64 (hi m))).set (i*2+1) (.int .u64 (lo m))=wcells (ms.set i m):=by
  induction ms generalizing i with
  | nil=>rfl
  | cons x ms ih =>
    cases i with
    | zero=>rfl
    | succ i =>
      rw [wcells_cons,show (i+1)*2=i*2+1+1 by omega,show i*2+1+1+1=(i*2+1)+1+1 by omega]
      simp only [List.set_cons_succ]
      rw [ih i]
      rfl
theorem wcells_one (ms:List Nat):∀ u∈wcells ms,u.oneCell'=true:=by
  intro u hu
  unfold wcells at hu
  rw [List.mem_flatMap] at hu
  obtain ⟨m,_,hm⟩:=hu
  simp at hm
  rcases hm with rfl | rfl<;>rfl
section
variable {w w':World} {B m:Nat} {A:Option Addr} {ms:List Nat}
theorem Reads.mom_len (h:Reads w B 2 A m (wcells ms)):ms.length=m:=by have:=h.1;rw [wcells_len] at this;omega
theorem add_lit_one (a:Addr) (j:Nat) (h:j≠0):a.add j=⟨a.block,a.off+j,none⟩:=by unfold Addr.add;rw [if_neg h]
def WCells (w:World) (a:Addr) (m:Nat):Prop:=w.cell? a=some (.int .u64 (hi m))∧w.cell? ⟨a.block,a.off+1,none⟩=some (.int .u64 (lo m))
theorem WCells.below {B:Nat} {a:Addr} {m:Nat} (h:WCells w a m) (hb:Below B w w') (hlt:a.block<B):WCells w' a m :=
  ⟨(hb.cell hlt).trans h.1,(hb.cell (p:=⟨a.block,a.off+1,none⟩) hlt).trans h.2⟩
theorem Reads.mom {i:Nat} (h:Reads w B 2 A m (wcells ms)) (hi:i<m):∃ ad,A=some ad∧ad.block<B∧WCells w (ad.add (i*2)) (momAt ms i):=by
  obtain ⟨ad,e,hb,hc⟩:=h.2 (by omega)
  have ht:=wcells_at ms i (by rw [h.mom_len];exact hi)
  refine ⟨ad,e,hb,hc _ _ ht.1,?_⟩
  rw [← add_lit_one _ 1 (by decide),add_of_add]
  exact hc _ _ ht.2
end
structure PIn (p land now:Int) (A:Option Addr) (n c:Nat) (ms:List Nat) (w:World):Prop where
  reads:Reads w w.heap.size 2 A n (wcells ms)
  pB : -9223372036854775808≤p∧p≤9223372036854775807
  landB : -9223372036854775808≤land∧land≤9223372036854775807
  nowB : -9223372036854775808≤now∧now≤9223372036854775807
  mB:∀ i,momAt ms i<big
  nc:n≤c
  cB:c≤maxLen
section
variable {p land now:Int} {A:Option Addr} {n c:Nat} {ms:List Nat} {w w':World}
theorem PIn.len (h:PIn p land now A n c ms w):ms.length=n:=h.reads.mom_len
theorem PIn.below (h:PIn p land now A n c ms w) (hb:Below w.heap.size w w'):PIn p land now A n c ms w':=⟨(h.reads.below hb).more hb.size,h.pB,h.landB,h.nowB,h.mB,h.nc,h.cB⟩
end
def PRet (r:POut) (w:World) (e:Ending) (w':World):Prop :=
  ∃ A n c,e = .returned (.tuple #[.agg #[.int .i64 r.p, .int .i64 r.land, .int .i64 r.now, .slice A n c], .int .i64 r.f])∧PIn r.p r.land r.now A n c r.ms w'∧Below w.heap.size w w'∧∀ a,A=some a→w.heap.size≤a.block∧a.block<w'.heap.size
theorem pin_zero {w:World}:PIn 0 0 0 none 0 0 [] w :=
  ⟨by simpa [wcells_nil] using Reads.none_,by decide,by decide,by decide,fun i=>by simp [momAt,big],Nat.le_refl _,Nat.zero_le _⟩
theorem pret_zero {w w':World} {f:Int} (hb:Below w.heap.size w w'):PRet (qzero f) w (.returned (.tuple #[.agg #[.int .i64 0, .int .i64 0, .int .i64 0, .slice none 0 0], .int .i64 f])) w' :=
  ⟨none,0,0,rfl,pin_zero,hb,fun a h=>by cases h⟩
theorem pret_own {w w':World} {p land now f:Int} {ms:List Nat} {g n c:Nat} (ho:Own w' 67 2 g n c (wcells ms)) (hp : -9223372036854775808≤p∧p≤9223372036854775807) (hl : -9223372036854775808≤land∧land≤9223372036854775807)
    (hn : -9223372036854775808≤now∧now≤9223372036854775807) (hm:∀ i,momAt ms i<big) (hb:Below w.heap.size w w') (hg:w.heap.size≤g):PRet ⟨p,land,now,ms,f⟩ w (.returned (.tuple #[.agg #[.int .i64 p, .int .i64 land, .int .i64 now, .slice (some ⟨g,0,none⟩) n c], .int .i64 f])) w' :=
  ⟨some ⟨g,0,none⟩,n,c,rfl,⟨ho.reads,hp,hl,hn,hm,ho.cap.1,ho.cap.2⟩,hb,fun a h=>by cases h;exact ⟨hg,ho.lt⟩⟩
theorem ret_i64P {k:IntKind} {a b:Int} (h:a=b):Ending.returned (.int k a) = .returned (.int k b):=by rw [h]
theorem ret_boolP {a b:Bool} (h:a=b):Ending.returned (.bool a) = .returned (.bool b):=by rw [h]
theorem info_wide:(Tryz.prog.info? 67).map (fun i=>(i.zero,i.size,i.bytes))=some (some (.agg #[.int .u64 0, .int .u64 0]),2,16):=by kernel_rfl
theorem ptick_yes (t:Int) (h0:0≤t) (h1:t≤16777216) (w:World):Calls Tryz.prog 206 #[.int .i64 t] w fun e w'=>e = .returned (.bool true)∧w'=w:=by
  go_enter Tryz.func206,Tryz.ntmps206
  go_wp2
  go_ret
  exact ⟨rfl,rfl⟩
theorem ptick_neg (t:Int) (h:t<0) (w:World):Calls Tryz.prog 206 #[.int .i64 t] w fun e w'=>e = .returned (.bool false)∧w'=w:=by
  go_enter Tryz.func206,Tryz.ntmps206
  go_wp2
  go_ret
  exact ⟨rfl,rfl⟩
theorem ptick_late (t:Int) (h:16777216<t) (w:World):Calls Tryz.prog 206 #[.int .i64 t] w fun e w'=>e = .returned (.bool false)∧w'=w:=by
  have h':0≤t:=by omega
  go_enter Tryz.func206,Tryz.ntmps206
  go_wp2
  go_ret
  exact ⟨ret_boolP (by simp;omega),rfl⟩
theorem rtick_neg (t:Int) (h:t<0) (w:World):Calls Tryz.prog 288 #[.int .i64 t] w fun e w'=>e = .returned (.bool false)∧w'=w:=by
  go_enter Tryz.func288,Tryz.ntmps288
  go_wp2
  go_ret
  exact ⟨rfl,rfl⟩
end Go.Proofs.YtdipoojjlddohaaGreat
end
section
/- The product of two wide numbers, walked: the program. -/
namespace Go.Proofs.YtdipoojjlddohaaGreat
open Go.RowKit Go.Shelf
theorem pprod_ll (x y:Nat) (w:World):Calls Tryz.prog 89 #[.int .u64 (lo x), .int .u64 (lo y)] w fun e w'=>e = .returned (W (mlow x y))∧Below w.heap.size w w':=by
  have h:=pproduct (lo x) (lo y) (lo_word x) (lo_word y) w
  rw [lo_toNat,lo_toNat] at h
  exact h
theorem pprod_lh (x y:Nat) (hy:y<big) (w:World):Calls Tryz.prog 89 #[.int .u64 (lo x), .int .u64 (hi y)] w fun e w'=>e = .returned (W (mhigh x y))∧Below w.heap.size w w':=by
  have h:=pproduct (lo x) (hi y) (lo_word x) (hi_word hy) w
  rw [lo_toNat,hi_toNat] at h
  exact h
theorem padd_high (x y:Nat) (hx:hi x=0) (hy:y<big) (hh:hi (mhigh x y)=0) (w:World) :
    Calls Tryz.prog 77 #[W (mlow x y), .agg #[.int .u64 (lo (mhigh x y)), .int .u64 0]] w fun e w'=>e = .returned (.tuple #[W (mulV x y), .bool (mulB x y)])∧Below w.heap.size w w':=by
  obtain ⟨e1,e2⟩:=high_shift hh
  have hs:=mul_split (y:=y) hx
  have hl:=high_lt hh
  rw [← e1,← e2]
  by_cases h:x*y<big
  · obtain ⟨v,b⟩:=mulV_yes h
    rw [v,b,hs]
    exact padd_fits _ _ (mlow_lt x y) hl (by rw [← hs];exact h) w
  · obtain ⟨v,b⟩:=mulV_no h
    rw [v,b]
    exact padd_over _ _ (mlow_lt x y) hl (by rw [← hs];exact h) w
set_option maxHeartbeats 4000000 in
theorem pmul (a b:Nat) (ha:a<big) (hb:b<big) (w:World) :
    Calls Tryz.prog 79 #[W a,W b] w fun e w'=>e = .returned (.tuple #[W (mulV a b), .bool (mulB a b)])∧Below w.heap.size w w':=by
  by_cases hxa:hi a=0
  · have t1:(hi a != 0)=false:=by simp [hxa]
    have HX:=Lib.hid hxa
    clear hxa
    go_enter Tryz.func79,Tryz.ntmps79
    go_upto_region 5 with (fail)
    have hxa:=HX.out
    have L:Row (((w.alloc (.cells (Wc a) 67)).alloc (.cells (Wc b) 67)).alloc (.cells #[.int .u64 0, .int .u64 0] 67)) (w.heap.size) 67 (Wc a)∧Row (((w.alloc (.cells (Wc a) 67)).alloc (.cells (Wc b) 67)).alloc (.cells #[.int .u64 0, .int .u64 0] 67)) (w.heap.size+1) 67 (Wc b)∧Row (((w.alloc (.cells (Wc a) 67)).alloc (.cells (Wc b) 67)).alloc (.cells #[.int .u64 0, .int .u64 0] 67)) (w.heap.size+1+1) 67 #[.int .u64 0, .int .u64 0]∧Below w.heap.size w (((w.alloc (.cells (Wc a) 67)).alloc (.cells (Wc b) 67)).alloc (.cells #[.int .u64 0, .int .u64 0] 67)):=by
      refine ⟨?_,?_,?_,?_⟩
      · (repeat (first | assumption | (refine row_new ?_;(first | (simp;done) | omega)) | refine row_alloc ?_ _ | refine row_drew ?_ | refine row_call ?_ (by assumption)))
      · (repeat (first | assumption | (refine row_new ?_;(first | (simp;done) | omega)) | refine row_alloc ?_ _ | refine row_drew ?_ | refine row_call ?_ (by assumption)))
      · (repeat (first | assumption | (refine row_new ?_;(first | (simp;done) | omega)) | refine row_alloc ?_ _ | refine row_drew ?_ | refine row_call ?_ (by assumption)))
      · (repeat (first | exact Below.refl _ _ | refine Below.setCell ?_ (by (try simp)<;>omega) _ | refine Below.alloc ?_ (by (try simp)<;>omega) _ | refine Below.drew ?_ | refine Below.trans ?_ (Below.mono (by assumption) (by (try simp)<;>omega))))
    generalize (((w.alloc (.cells (Wc a) 67)).alloc (.cells (Wc b) 67)).alloc (.cells #[.int .u64 0, .int .u64 0] 67))=w2 at L ⊢
    have hw2:=row_lt L.2.2.1
    have HX:=Lib.hid hxa
    refine wp_region_free2 [0,1,2,3,4,5,6,7,8,9] [] [0,1,2,3,4,5,6,7,8,9,10,11] (10,67,#[.int .u64 0, .int .u64 0]) (11,67,#[.int .u64 0, .int .u64 0]) 6 7 12 (fun w'=>Row w' (w.heap.size) 67 (Wc a)∧Row w' (w.heap.size+1) 67 (Wc b)∧Row w' (w.heap.size+1+1) 67 #[.int .u64 0, .int .u64 0]∧Below w.heap.size w w') (by kernel_rfl) (by kernel_rfl) ⟨_,_,rfl,rfl,rfl,fun ρ w'=>by go_simp⟩ ⟨_,_,rfl,rfl,rfl,fun ρ w'=>by go_simp⟩ rfl rfl (by simp) (by simp) (fun _ h=>⟨row_alloc h.1 _,row_alloc h.2.1 _,row_alloc h.2.2.1 _,h.2.2.2.alloc h.2.2.2.size _⟩) (fun _ h=>⟨row_alloc h.1 _,row_alloc h.2.1 _,row_alloc h.2.2.1 _,h.2.2.2.alloc h.2.2.2.size _⟩) (fun _ _ d _ _ h=>by cases d<;>exact h) ?_ ?_
    · exact ⟨L.1,L.2.1,L.2.2.1,L.2.2.2.drew⟩
    (refine plan_pure ?_ rfl rfl (fun w'=>?_) ?_;rotate_left;(go_simp;try with_reducible rfl);simp only [put9])
    (refine plan_val ?_ rfl rfl rfl (fun w' hS=>?_) ?_;rotate_left;(obtain ⟨A00,A01,A02,A03⟩:=row_two hS.1;obtain ⟨A10,A11,A12,A13⟩:=row_two hS.2.1;obtain ⟨A20,A21,A22,A23⟩:=row_two hS.2.2.1;go_simp;try with_reducible rfl);simp only [put9])
    (refine plan_pure ?_ rfl rfl (fun w'=>?_) ?_;rotate_left;(go_simp;try with_reducible rfl);simp only [put9])
    (refine plan_val ?_ rfl rfl rfl (fun w' hS=>?_) ?_;rotate_left;(obtain ⟨A00,A01,A02,A03⟩:=row_two hS.1;obtain ⟨A10,A11,A12,A13⟩:=row_two hS.2.1;obtain ⟨A20,A21,A22,A23⟩:=row_two hS.2.2.1;go_simp;try with_reducible rfl);simp only [put9])
    refine plan_call (W (mlow a b)) 89 #[.int .u64 (lo a), .int .u64 (lo b)] rfl rfl rfl (fun _ _ h hb=>⟨row_call h.1 hb,row_call h.2.1 hb,row_call h.2.2.1 hb,h.2.2.2.trans (hb.mono h.2.2.2.size)⟩) (fun w' hS=>by obtain ⟨A00,A01,A02,A03⟩:=row_two hS.1;obtain ⟨A10,A11,A12,A13⟩:=row_two hS.2.1;obtain ⟨A20,A21,A22,A23⟩:=row_two hS.2.2.1;go_simp) (fun w' hS=>pprod_ll a b w') ?_
    simp only [put9]
    (refine plan_pure ?_ rfl rfl (fun w'=>?_) ?_;rotate_left;(go_simp;try with_reducible rfl);simp only [put9])
    (refine plan_val ?_ rfl rfl rfl (fun w' hS=>?_) ?_;rotate_left;(obtain ⟨A00,A01,A02,A03⟩:=row_two hS.1;obtain ⟨A10,A11,A12,A13⟩:=row_two hS.2.1;obtain ⟨A20,A21,A22,A23⟩:=row_two hS.2.2.1;go_simp;try with_reducible rfl);simp only [put9])
    (refine plan_pure ?_ rfl rfl (fun w'=>?_) ?_;rotate_left;(go_simp;try with_reducible rfl);simp only [put9])
    (refine plan_val ?_ rfl rfl rfl (fun w' hS=>?_) ?_;rotate_left;(obtain ⟨A00,A01,A02,A03⟩:=row_two hS.1;obtain ⟨A10,A11,A12,A13⟩:=row_two hS.2.1;obtain ⟨A20,A21,A22,A23⟩:=row_two hS.2.2.1;go_simp;try with_reducible rfl);simp only [put9])
    refine plan_call (W (mhigh a b)) 89 #[.int .u64 (lo a), .int .u64 (hi b)] rfl rfl rfl (fun _ _ h hb=>⟨row_call h.1 hb,row_call h.2.1 hb,row_call h.2.2.1 hb,h.2.2.2.trans (hb.mono h.2.2.2.size)⟩) (fun w' hS=>by obtain ⟨A00,A01,A02,A03⟩:=row_two hS.1;obtain ⟨A10,A11,A12,A13⟩:=row_two hS.2.1;obtain ⟨A20,A21,A22,A23⟩:=row_two hS.2.2.1;go_simp) (fun w' hS=>pprod_lh a b hb w') ?_
    simp only [put9]
    refine plan_nil ?_
    intro g k w3 L3 Rg Rk hgk hg hk
    simp only [List.drop_succ_cons,List.drop_zero]
    try simp only [put9]
    obtain ⟨G0,G1,G2,G3⟩:=row_two Rg
    obtain ⟨K0,K1,K2,K3⟩:=row_two Rk
    go_upto_region 6 with (fail)
    have Rg5:=row_two_other (u := .int .u64 (hi (mhigh a b))) (v := .int .u64 (lo (mhigh a b))) (row_two_set (u := .int .u64 (hi (mlow a b))) (v := .int .u64 (lo (mlow a b))) Rg) hgk
    have Rk5:=row_two_set (u := .int .u64 (hi (mhigh a b))) (v := .int .u64 (lo (mhigh a b))) (row_two_other (u := .int .u64 (hi (mlow a b))) (v := .int .u64 (lo (mlow a b))) Rk (Ne.symm hgk))
    have R45:=row_two_other (c:=k) (u := .int .u64 (hi (mhigh a b))) (v := .int .u64 (lo (mhigh a b))) (row_two_other (c:=g) (u := .int .u64 (hi (mlow a b))) (v := .int .u64 (lo (mlow a b))) L3.2.2.1 (by omega)) (by omega)
    have B5:=(((L3.2.2.2.setCell (p:=⟨g,0,none⟩) (show w.heap.size≤g by omega) (.int .u64 (hi (mlow a b)))).setCell (p:=⟨g,1,none⟩) (show w.heap.size≤g by omega) (.int .u64 (lo (mlow a b)))).setCell (p:=⟨k,0,none⟩) (show w.heap.size≤k by omega) (.int .u64 (hi (mhigh a b)))).setCell (p:=⟨k,1,none⟩) (show w.heap.size≤k by omega) (.int .u64 (lo (mhigh a b)))
    generalize (((w3.setCell ⟨g,0,none⟩ (.int .u64 (hi (mlow a b)))).setCell ⟨g,1,none⟩ (.int .u64 (lo (mlow a b)))).setCell ⟨k,0,none⟩ (.int .u64 (hi (mhigh a b)))).setCell ⟨k,1,none⟩ (.int .u64 (lo (mhigh a b)))=w5 at Rg5 Rk5 R45 B5 ⊢
    clear L L3 Rg Rk G0 G1 G2 G3 K0 K1 K2 K3
    obtain ⟨G0,G1,G2,G3⟩:=row_two Rg5
    obtain ⟨K0,K1,K2,K3⟩:=row_two Rk5
    obtain ⟨Z0,Z1,Z2,Z3⟩:=row_two R45
    have z5:=B5.size
    by_cases hh:hi (mhigh a b)=0
    · have HA:=Lib.hid (fun w'=>padd_high a b hxa hb hh w')
      have tst:(hi (mhigh a b) != 0)=false:=by simp [hh]
      clear hh
      go_wp2_with (go_at_call 77;refine (HA.out _).mono ?_;rintro e w6 ⟨rfl,hb6⟩;have j4:=row_call R45 hb6;obtain ⟨Y0,Y1,Y2,Y3⟩:=row_two j4;have z6:=hb6.size)
      simp [bodyPost,results,Tryz.results79,go_sem,Y0,Y1]
      (repeat (first | exact Below.refl _ _ | refine Below.setCell ?_ (by (try simp)<;>omega) _ | refine Below.alloc ?_ (by (try simp)<;>omega) _ | refine Below.drew ?_ | refine Below.trans ?_ (Below.mono (by assumption) (by (try simp)<;>omega))))
    · obtain ⟨v1,v2⟩:=mulV_no (mul_high hxa hh)
      have HV:=Lib.hid (And.intro v1 v2)
      have tst:(hi (mhigh a b) != 0)=true:=by simp [hh]
      clear v1 v2 hh
      go_wp2
      simp [bodyPost,results,Tryz.results79,go_sem,Z0,Z1,HV.out.1,HV.out.2]
      first | (refine ⟨⟨rfl,rfl⟩,?_⟩;(repeat (first | exact Below.refl _ _ | refine Below.setCell ?_ (by (try simp)<;>omega) _ | refine Below.alloc ?_ (by (try simp)<;>omega) _ | refine Below.drew ?_ | refine Below.trans ?_ (Below.mono (by assumption) (by (try simp)<;>omega))))) | (repeat (first | exact Below.refl _ _ | refine Below.setCell ?_ (by (try simp)<;>omega) _ | refine Below.alloc ?_ (by (try simp)<;>omega) _ | refine Below.drew ?_ | refine Below.trans ?_ (Below.mono (by assumption) (by (try simp)<;>omega))))
  · by_cases hxb:hi b=0
    · have t1:(hi a != 0)=true:=by simp [hxa]
      have t2:(hi b != 0)=false:=by simp [hxb]
      have HX:=Lib.hid hxb
      clear hxb hxa
      obtain ⟨c1,c2⟩:=mul_comm' a b
      rw [c1,c2]
      clear c1 c2
      go_enter Tryz.func79,Tryz.ntmps79
      go_upto_region 5 with (fail)
      have hxb:=HX.out
      have L:Row (((w.alloc (.cells (Wc b) 67)).alloc (.cells (Wc a) 67)).alloc (.cells #[.int .u64 0, .int .u64 0] 67)) (w.heap.size) 67 (Wc b)∧Row (((w.alloc (.cells (Wc b) 67)).alloc (.cells (Wc a) 67)).alloc (.cells #[.int .u64 0, .int .u64 0] 67)) (w.heap.size+1) 67 (Wc a)∧Row (((w.alloc (.cells (Wc b) 67)).alloc (.cells (Wc a) 67)).alloc (.cells #[.int .u64 0, .int .u64 0] 67)) (w.heap.size+1+1) 67 #[.int .u64 0, .int .u64 0]∧Below w.heap.size w (((w.alloc (.cells (Wc b) 67)).alloc (.cells (Wc a) 67)).alloc (.cells #[.int .u64 0, .int .u64 0] 67)):=by
        refine ⟨?_,?_,?_,?_⟩
        · (repeat (first | assumption | (refine row_new ?_;(first | (simp;done) | omega)) | refine row_alloc ?_ _ | refine row_drew ?_ | refine row_call ?_ (by assumption)))
        · (repeat (first | assumption | (refine row_new ?_;(first | (simp;done) | omega)) | refine row_alloc ?_ _ | refine row_drew ?_ | refine row_call ?_ (by assumption)))
        · (repeat (first | assumption | (refine row_new ?_;(first | (simp;done) | omega)) | refine row_alloc ?_ _ | refine row_drew ?_ | refine row_call ?_ (by assumption)))
        · (repeat (first | exact Below.refl _ _ | refine Below.setCell ?_ (by (try simp)<;>omega) _ | refine Below.alloc ?_ (by (try simp)<;>omega) _ | refine Below.drew ?_ | refine Below.trans ?_ (Below.mono (by assumption) (by (try simp)<;>omega))))
      generalize (((w.alloc (.cells (Wc b) 67)).alloc (.cells (Wc a) 67)).alloc (.cells #[.int .u64 0, .int .u64 0] 67))=w2 at L ⊢
      have hw2:=row_lt L.2.2.1
      have HX:=Lib.hid hxb
      refine wp_region_free2 [0,1,2,3,4,5,6,7,8,9] [] [0,1,2,3,4,5,6,7,8,9,10,11] (10,67,#[.int .u64 0, .int .u64 0]) (11,67,#[.int .u64 0, .int .u64 0]) 6 7 12 (fun w'=>Row w' (w.heap.size) 67 (Wc b)∧Row w' (w.heap.size+1) 67 (Wc a)∧Row w' (w.heap.size+1+1) 67 #[.int .u64 0, .int .u64 0]∧Below w.heap.size w w') (by kernel_rfl) (by kernel_rfl) ⟨_,_,rfl,rfl,rfl,fun ρ w'=>by go_simp⟩ ⟨_,_,rfl,rfl,rfl,fun ρ w'=>by go_simp⟩ rfl rfl (by simp) (by simp) (fun _ h=>⟨row_alloc h.1 _,row_alloc h.2.1 _,row_alloc h.2.2.1 _,h.2.2.2.alloc h.2.2.2.size _⟩) (fun _ h=>⟨row_alloc h.1 _,row_alloc h.2.1 _,row_alloc h.2.2.1 _,h.2.2.2.alloc h.2.2.2.size _⟩) (fun _ _ d _ _ h=>by cases d<;>exact h) ?_ ?_
      · exact ⟨L.1,L.2.1,L.2.2.1,L.2.2.2.drew⟩
      (refine plan_pure ?_ rfl rfl (fun w'=>?_) ?_;rotate_left;(go_simp;try with_reducible rfl);simp only [put9])
      (refine plan_val ?_ rfl rfl rfl (fun w' hS=>?_) ?_;rotate_left;(obtain ⟨A00,A01,A02,A03⟩:=row_two hS.1;obtain ⟨A10,A11,A12,A13⟩:=row_two hS.2.1;obtain ⟨A20,A21,A22,A23⟩:=row_two hS.2.2.1;go_simp;try with_reducible rfl);simp only [put9])
      (refine plan_pure ?_ rfl rfl (fun w'=>?_) ?_;rotate_left;(go_simp;try with_reducible rfl);simp only [put9])
      (refine plan_val ?_ rfl rfl rfl (fun w' hS=>?_) ?_;rotate_left;(obtain ⟨A00,A01,A02,A03⟩:=row_two hS.1;obtain ⟨A10,A11,A12,A13⟩:=row_two hS.2.1;obtain ⟨A20,A21,A22,A23⟩:=row_two hS.2.2.1;go_simp;try with_reducible rfl);simp only [put9])
      refine plan_call (W (mlow b a)) 89 #[.int .u64 (lo b), .int .u64 (lo a)] rfl rfl rfl (fun _ _ h hb=>⟨row_call h.1 hb,row_call h.2.1 hb,row_call h.2.2.1 hb,h.2.2.2.trans (hb.mono h.2.2.2.size)⟩) (fun w' hS=>by obtain ⟨A00,A01,A02,A03⟩:=row_two hS.1;obtain ⟨A10,A11,A12,A13⟩:=row_two hS.2.1;obtain ⟨A20,A21,A22,A23⟩:=row_two hS.2.2.1;go_simp) (fun w' hS=>pprod_ll b a w') ?_
      simp only [put9]
      (refine plan_pure ?_ rfl rfl (fun w'=>?_) ?_;rotate_left;(go_simp;try with_reducible rfl);simp only [put9])
      (refine plan_val ?_ rfl rfl rfl (fun w' hS=>?_) ?_;rotate_left;(obtain ⟨A00,A01,A02,A03⟩:=row_two hS.1;obtain ⟨A10,A11,A12,A13⟩:=row_two hS.2.1;obtain ⟨A20,A21,A22,A23⟩:=row_two hS.2.2.1;go_simp;try with_reducible rfl);simp only [put9])
      (refine plan_pure ?_ rfl rfl (fun w'=>?_) ?_;rotate_left;(go_simp;try with_reducible rfl);simp only [put9])
      (refine plan_val ?_ rfl rfl rfl (fun w' hS=>?_) ?_;rotate_left;(obtain ⟨A00,A01,A02,A03⟩:=row_two hS.1;obtain ⟨A10,A11,A12,A13⟩:=row_two hS.2.1;obtain ⟨A20,A21,A22,A23⟩:=row_two hS.2.2.1;go_simp;try with_reducible rfl);simp only [put9])
      refine plan_call (W (mhigh b a)) 89 #[.int .u64 (lo b), .int .u64 (hi a)] rfl rfl rfl (fun _ _ h hb=>⟨row_call h.1 hb,row_call h.2.1 hb,row_call h.2.2.1 hb,h.2.2.2.trans (hb.mono h.2.2.2.size)⟩) (fun w' hS=>by obtain ⟨A00,A01,A02,A03⟩:=row_two hS.1;obtain ⟨A10,A11,A12,A13⟩:=row_two hS.2.1;obtain ⟨A20,A21,A22,A23⟩:=row_two hS.2.2.1;go_simp) (fun w' hS=>pprod_lh b a ha w') ?_
      simp only [put9]
      refine plan_nil ?_
      intro g k w3 L3 Rg Rk hgk hg hk
      simp only [List.drop_succ_cons,List.drop_zero]
      try simp only [put9]
      obtain ⟨G0,G1,G2,G3⟩:=row_two Rg
      obtain ⟨K0,K1,K2,K3⟩:=row_two Rk
      go_upto_region 6 with (fail)
      have Rg5:=row_two_other (u := .int .u64 (hi (mhigh b a))) (v := .int .u64 (lo (mhigh b a))) (row_two_set (u := .int .u64 (hi (mlow b a))) (v := .int .u64 (lo (mlow b a))) Rg) hgk
      have Rk5:=row_two_set (u := .int .u64 (hi (mhigh b a))) (v := .int .u64 (lo (mhigh b a))) (row_two_other (u := .int .u64 (hi (mlow b a))) (v := .int .u64 (lo (mlow b a))) Rk (Ne.symm hgk))
      have R45:=row_two_other (c:=k) (u := .int .u64 (hi (mhigh b a))) (v := .int .u64 (lo (mhigh b a))) (row_two_other (c:=g) (u := .int .u64 (hi (mlow b a))) (v := .int .u64 (lo (mlow b a))) L3.2.2.1 (by omega)) (by omega)
      have B5:=(((L3.2.2.2.setCell (p:=⟨g,0,none⟩) (show w.heap.size≤g by omega) (.int .u64 (hi (mlow b a)))).setCell (p:=⟨g,1,none⟩) (show w.heap.size≤g by omega) (.int .u64 (lo (mlow b a)))).setCell (p:=⟨k,0,none⟩) (show w.heap.size≤k by omega) (.int .u64 (hi (mhigh b a)))).setCell (p:=⟨k,1,none⟩) (show w.heap.size≤k by omega) (.int .u64 (lo (mhigh b a)))
      generalize (((w3.setCell ⟨g,0,none⟩ (.int .u64 (hi (mlow b a)))).setCell ⟨g,1,none⟩ (.int .u64 (lo (mlow b a)))).setCell ⟨k,0,none⟩ (.int .u64 (hi (mhigh b a)))).setCell ⟨k,1,none⟩ (.int .u64 (lo (mhigh b a)))=w5 at Rg5 Rk5 R45 B5 ⊢
      clear L L3 Rg Rk G0 G1 G2 G3 K0 K1 K2 K3
      obtain ⟨G0,G1,G2,G3⟩:=row_two Rg5
      obtain ⟨K0,K1,K2,K3⟩:=row_two Rk5
      obtain ⟨Z0,Z1,Z2,Z3⟩:=row_two R45
      have z5:=B5.size
      by_cases hh:hi (mhigh b a)=0
      · have HA:=Lib.hid (fun w'=>padd_high b a hxb ha hh w')
        have tst:(hi (mhigh b a) != 0)=false:=by simp [hh]
        clear hh
        go_wp2_with (go_at_call 77;refine (HA.out _).mono ?_;rintro e w6 ⟨rfl,hb6⟩;have j4:=row_call R45 hb6;obtain ⟨Y0,Y1,Y2,Y3⟩:=row_two j4;have z6:=hb6.size)
        simp [bodyPost,results,Tryz.results79,go_sem,Y0,Y1]
        (repeat (first | exact Below.refl _ _ | refine Below.setCell ?_ (by (try simp)<;>omega) _ | refine Below.alloc ?_ (by (try simp)<;>omega) _ | refine Below.drew ?_ | refine Below.trans ?_ (Below.mono (by assumption) (by (try simp)<;>omega))))
      · obtain ⟨v1,v2⟩:=mulV_no (mul_high hxb hh)
        have HV:=Lib.hid (And.intro v1 v2)
        have tst:(hi (mhigh b a) != 0)=true:=by simp [hh]
        clear v1 v2 hh
        go_wp2
        simp [bodyPost,results,Tryz.results79,go_sem,Z0,Z1,HV.out.1,HV.out.2]
        first | (refine ⟨⟨rfl,rfl⟩,?_⟩;(repeat (first | exact Below.refl _ _ | refine Below.setCell ?_ (by (try simp)<;>omega) _ | refine Below.alloc ?_ (by (try simp)<;>omega) _ | refine Below.drew ?_ | refine Below.trans ?_ (Below.mono (by assumption) (by (try simp)<;>omega))))) | (repeat (first | exact Below.refl _ _ | refine Below.setCell ?_ (by (try simp)<;>omega) _ | refine Below.alloc ?_ (by (try simp)<;>omega) _ | refine Below.drew ?_ | refine Below.trans ?_ (Below.mono (by assumption) (by (try simp)<;>omega))))
    · obtain ⟨v1,v2⟩:=mulV_no (mul_both hxa hxb)
      rw [v1,v2]
      have t1:(hi a != 0)=true:=by simp [hxa]
      have t2:(hi b != 0)=true:=by simp [hxb]
      clear v1 v2 hxa hxb
      go_enter Tryz.func79,Tryz.ntmps79
      go_wp2
      simp [bodyPost,results,Tryz.results79,go_sem]
      refine ⟨⟨rfl,rfl⟩,?_⟩
      (repeat (first | exact Below.refl _ _ | refine Below.setCell ?_ (by (try simp)<;>omega) _ | refine Below.alloc ?_ (by (try simp)<;>omega) _ | refine Below.drew ?_ | refine Below.trans ?_ (Below.mono (by assumption) (by (try simp)<;>omega))))
end Go.Proofs.YtdipoojjlddohaaGreat
end
