/- What the law TopExact needs, joined of its texts by a program (slim2.py); part 42. -/
import Derived.Test.YtdipoojjlddohaaGreatZTopExact1
import Derived.Test.YtdipoojjlddohaaGreatZTopExact8
import Derived.Test.YtdipoojjlddohaaGreatZTopExact22
import Derived.Test.YtdipoojjlddohaaGreatZTopExact35
import Derived.Test.YtdipoojjlddohaaGreatZTopExact38
import Derived.Test.YtdipoojjlddohaaGreatZTopExact39
import Derived.Test.YtdipoojjlddohaaGreatZTopExact41
set_option linter.unusedVariables false
set_option linter.unusedSimpArgs false
set_option linter.unusedSectionVars false
set_option linter.unnecessarySimpa false
section
/- The counter of items: plain. -/
namespace Go.Proofs.YtdipoojjlddohaaGreat
def ccsum (l:List Itm) (now:Int) (e:Nat):Int:=(l.map fun x=>if now-x.t=(e:Int) then x.v else 0).sum
def cst (a:Nat) (l:List Itm) (now:Int):List Int:=(List.range a).map (ccsum l now)
theorem cst_len (a:Nat) (l:List Itm) (now:Int):(cst a l now).length=a:=by unfold cst;simp
theorem cst_at {a e:Nat} {l:List Itm} {now:Int} (h:e<a):(cst a l now).getD e 0=ccsum l now e:=by
  unfold cst
  rw [List.getD_eq_getElem?_getD,List.getElem?_map,List.getElem?_range h]
  rfl
theorem ccsum_cons (x:Itm) (l:List Itm) (now:Int) (e:Nat):ccsum (x :: l) now e=(if now-x.t=(e:Int) then x.v else 0)+ccsum l now e:=by unfold ccsum;simp
theorem ccsum_snoc (x:Itm) (l:List Itm) (now:Int) (e:Nat):ccsum (l ++ [x]) now e=ccsum l now e+(if now-x.t=(e:Int) then x.v else 0):=by unfold ccsum;simp
theorem ccsum_bound {B:Int} (hB:0≤B):∀ (l:List Itm) (now:Int) (e:Nat),(∀ x∈l,0≤x.v∧x.v≤B)→0≤ccsum l now e∧ccsum l now e≤B*l.length
  | [],_,_,_=>by simp [ccsum]
  | x :: l,now,e,h=>by
    have ih:=ccsum_bound hB l now e (fun y hy=>h y (by simp [hy]))
    have hx:=h x (by simp)
    rw [ccsum_cons,List.length_cons,Int.natCast_succ,Int.mul_add,Int.mul_one]
    split<;>omega
theorem ccsum_zero:∀ (l:List Itm) (now:Int) (e:Nat),(∀ x∈l,now-x.t≠(e:Int))→ccsum l now e=0
  | [],_,_,_=>rfl
  | x :: l,now,e,h=>by
    rw [ccsum_cons,if_neg (h x (by simp)),ccsum_zero l now e (fun y hy=>h y (by simp [hy]))]
    rfl
theorem ccsum_later:∀ (l:List Itm) (now:Int) (d e:Nat),d≤e→ccsum l (now+d) e=ccsum l now (e-d)
  | [],_,_,_,_=>rfl
  | x :: l,now,d,e,h=>by
    rw [ccsum_cons,ccsum_cons,ccsum_later l now d e h]
    congr 1
    have:(now+(d:Int)-x.t=(e:Int))=(now-x.t=((e-d:Nat):Int)):=by
      apply propext
      omega
    simp only [this]
theorem cst_shift {a d:Nat} {l:List Itm} {now:Int} (h:∀ x∈l,x.t≤now):hshift (cst a l now) d=cst a l (now+d):=by
  apply List.ext_getElem?
  intro i
  by_cases hi:i<a
  · have h1:=hshift_at (zs:=cst a l now) (b:=d) (k:=i) (by rw [cst_len];exact hi)
    have h2:=cst_at (l:=l) (now:=now+d) hi
    rw [List.getD_eq_getElem?_getD] at h1 h2
    have l1:i<(hshift (cst a l now) d).length:=by rw [hshift_len,cst_len];exact hi
    have l2:i<(cst a l (now+d)).length:=by rw [cst_len];exact hi
    rw [List.getElem?_eq_getElem l1] at h1 ⊢
    rw [List.getElem?_eq_getElem l2] at h2 ⊢
    simp only [Option.getD_some] at h1 h2
    rw [h1,h2]
    congr 1
    by_cases c:i<d
    · rw [if_pos c,ccsum_zero]
      intro x hx e
      have:=h x hx
      omega
    · rw [if_neg c,cst_at (by omega),ccsum_later l now d i (by omega)]
  · rw [List.getElem?_eq_none (by rw [hshift_len,cst_len];omega),List.getElem?_eq_none (by rw [cst_len];omega)]
theorem cst_add {a:Nat} {l:List Itm} {now v:Int} (ha:1≤a):(cst a l now).set 0 ((cst a l now).getD 0 0+v)=cst a (l ++ [⟨now,v⟩]) now:=by
  apply List.ext_getElem?
  intro i
  rw [List.getElem?_set,cst_len,cst_at (by omega)]
  unfold cst
  by_cases hi:i<a
  · rw [List.getElem?_map,List.getElem?_map,List.getElem?_range hi]
    simp only [Option.map_some]
    rw [ccsum_snoc]
    by_cases c:0=i
    · subst c
      rw [if_pos rfl,if_pos (by omega)]
      simp
    · rw [if_neg c]
      have:¬ now-now=(i:Int):=by omega
      simp only [this,if_false,Int.add_zero]
  · rw [if_neg (by omega),List.getElem?_eq_none (by simp;omega),List.getElem?_eq_none (by simp;omega)]
theorem cst_nil (a:Nat) (now:Int):cst a [] now=List.replicate a 0:=by
  apply List.ext_getElem?
  intro i
  unfold cst ccsum
  by_cases hi:i<a
  · simp [hi]
  · rw [List.getElem?_eq_none (by simp;omega),List.getElem?_eq_none (by simp;omega)]
theorem cst_valid {a:Nat} {l:List Itm} {now:Int} (ha:1≤a) (ha2:a≤64) (h0:0≤now) (h1:now≤16777216) (hl:l.length≤100000) (hv:∀ x∈l,0≤x.v∧x.v≤4096) (ht:∀ x∈l,0≤x.t):hvalE now (cst a l now)=0:=by
  refine hvalE_all (by rw [cst_len];omega) (by rw [cst_len];omega) h0 h1 (fun e he=>?_)
  rw [cst_len] at he
  rw [cst_at he]
  have hb:=ccsum_bound (by decide) l now e hv
  refine sumOK_mk ⟨hb.1,by omega,?_⟩
  by_cases c:(e:Int)≤now
  · exact .inr c
  · left
    refine ccsum_zero l now e (fun x hx e1=>?_)
    have:=ht x hx
    omega
theorem cst_top {a:Nat} {l:List Itm} {now:Int} (ha:1≤a) (hl:l.length≤100000) (hv:∀ x∈l,0≤x.v∧x.v≤4096):(cst a l now).getD 0 0≤409600000:=by
  rw [cst_at (by omega)]
  have hb:=ccsum_bound (by decide) l now 0 hv
  omega
def cterm (a:Nat) (now:Int) (x:Itm):Nat:=if now-x.t<(a:Int) then x.v.toNat*2 ^ (a-1-(now-x.t).toNat) else 0
def cwide (a:Nat) (l:List Itm) (now:Int):Nat:=(l.map (cterm a now)).sum
theorem cwide_snoc (a:Nat) (l:List Itm) (now:Int) (x:Itm):cwide a (l ++ [x]) now=cwide a l now+cterm a now x:=by unfold cwide;simp
theorem hwide_cons {a:Nat} {l:List Itm} {now:Int} {x:Itm} (hx:0≤x.v) (ht:x.t≤now) (hv:∀ y∈l,0≤y.v∧y.v≤4096):∀ k,k≤a →
    hwide (cst a (x :: l) now) a k=(if now-x.t<(k:Int) then x.v.toNat*2 ^ (a-1-(now-x.t).toNat) else 0)+hwide (cst a l now) a k
  | 0,_=>by
    unfold hwide
    rw [if_neg (by omega)]
  | k+1,hk=>by
    unfold hwide
    rw [hwide_cons hx ht hv k (by omega),cst_at (by omega),cst_at (by omega),ccsum_cons]
    have hb:=ccsum_bound (by decide) l now k hv
    by_cases c:now-x.t=(k:Int)
    · rw [if_pos c,if_neg (by omega),if_pos (by omega),Int.toNat_add hx hb.1,Nat.add_mul,show (now-x.t).toNat=k by omega]
      omega
    · rw [if_neg c,Int.zero_add]
      by_cases c2:now-x.t<(k:Int)
      · rw [if_pos c2,if_pos (by omega)]
        omega
      · rw [if_neg c2,if_neg (by omega)]
        omega
theorem hwide_cst {a:Nat} {now:Int}:∀ l:List Itm,(∀ y∈l,0≤y.v∧y.v≤4096)→(∀ y∈l,y.t≤now)→hwide (cst a l now) a a=cwide a l now
  | [],_,_=>by
    have:∀ k,k≤a→hwide (cst a [] now) a k=0:=by
      intro k
      induction k with
      | zero=>intro _;rfl
      | succ k ih =>
        intro hk
        unfold hwide
        rw [ih (by omega),cst_at (by omega)]
        simp [ccsum]
    rw [this a (Nat.le_refl _)]
    rfl
  | x :: l,hv,ht=>by
    rw [hwide_cons (hv x (by simp)).1 (ht x (by simp)) (fun y hy=>hv y (by simp [hy])) a (Nat.le_refl _),hwide_cst l (fun y hy=>hv y (by simp [hy])) (fun y hy=>ht y (by simp [hy]))]
    unfold cwide
    rw [List.map_cons,List.sum_cons]
    rfl
theorem cwide_big {a:Nat} {l:List Itm} {now:Int} (ha:a≤64) (hl:l.length≤100000) (hv:∀ x∈l,0≤x.v∧x.v≤4096) (ht:∀ x∈l,x.t≤now):cwide a l now<20282409603651670423947251286016:=by
  rw [← hwide_cst l hv ht]
  refine hwide_big (fun e he=>?_) ha a (Nat.le_refl _)
  rw [cst_at he]
  have hb:=ccsum_bound (by decide) l now e hv
  omega
theorem cterm_no {a:Nat} {now:Int} {x:Itm} (h:(a:Int)≤now-x.t):cterm a now x=0:=by unfold cterm;rw [if_neg (by omega)]
theorem cterm_yes {a:Nat} {now:Int} {x:Itm} (h:now-x.t<(a:Int)):cterm a now x=x.v.toNat*2 ^ (a-1-(now-x.t).toNat):=by unfold cterm;rw [if_pos h]
theorem cwide_step {a:Nat} {l:List Itm} {now:Int} {k:Nat} (hk:k<l.length):cwide a (l.take (k+1)) now=cwide a (l.take k) now+cterm a now (itmAt l k):=by
  rw [List.take_succ_eq_append_getElem hk,cwide_snoc,itm_eq hk]
def nowAt (l:List Itm) (k:Nat):Int:=if k=0 then 0 else (itmAt l (k-1)).t
section
variable {st hi last:Int} {l:List Itm}
end
end Go.Proofs.YtdipoojjlddohaaGreat
end
section
/- Synopses of sums that halve, with what they know of the stream. -/
namespace Go.Proofs.YtdipoojjlddohaaGreat
open Go.RowKit
def HaI (wd:Int) (ad:List Itm) (now:Int) (A:Option Addr) (m c:Nat) (w:World):Prop:=HIn now A m c (cst wd.toNat ad now) w∧((1≤wd∧wd≤64)∧(0≤now∧now≤16777216)∧ad.length≤10000∧(∀ x∈ad,0≤x.v∧x.v≤4096)∧∀ x∈ad,0≤x.t∧x.t≤now)
theorem HaI.len {wd:Int} {ad:List Itm} {now:Int} {A:Option Addr} {m c:Nat} {w:World} (h:HaI wd ad now A m c w):(m:Int)=wd:=by
  have h1:=h.1.reads.1
  rw [List.length_map,cst_len] at h1
  have:=h.2.1
  omega
theorem haI_ok (wd:Int) (ad:List Itm) (now:Int):InOK (HaI wd ad now) :=
  ⟨fun ⟨h,hp⟩ hb=>⟨⟨(h.reads.below hb).more hb.size,h.nowB,h.zsB,h.nc,h.cB⟩,hp⟩,
   fun u ⟨h,hp⟩ hne=>⟨⟨reads_keep0 h.reads (size_setCell _ _) (fun h0 a e=>Below.heap_setCell _ _ u a.block (fun x=>hne h0 a e x.symm)),h.nowB,h.zsB,h.nc,h.cB⟩,hp⟩,
   fun cs ⟨h,hp⟩ hne=>⟨⟨reads_keep0 h.reads (size_setRow _ _ _) (fun h0 a e=>heap_setRow_other _ _ cs a.block (fun x=>hne h0 a e x.symm)),h.nowB,h.zsB,h.nc,h.cB⟩,hp⟩,
   fun ⟨h,_⟩ hn a e=>reads_blk h.reads hn a e,
   fun ⟨h,hp⟩ hs hk=>⟨⟨reads_keep1 h.reads hs hk,h.nowB,h.zsB,h.nc,h.cB⟩,hp⟩⟩
theorem haI_val {wd:Int} {ad:List Itm} {now:Int} {A:Option Addr} {m c:Nat} {w:World} (h:HaI wd ad now A m c w):hvalE now (cst wd.toNat ad now)=0:=by
  obtain ⟨_,⟨a,b⟩,⟨c',d⟩,e,f,g⟩:=h
  exact cst_valid (by omega) (by omega) c' d (by omega) f (fun x hx=>(g x hx).1)
theorem ha_cfg {wd:Int} (a:1≤wd) (b:wd≤64) (w:World):Calls Tryz.prog 108 #[.agg #[.int .i64 7, .int .i64 0, .int .i64 wd, .int .i64 0, .int .i64 0, .int .i64 0, .int .i64 0, .int .i64 0]] w fun e w'=>e = .returned (.int .i64 0)∧Below w.heap.size w w':=pcfgHalve wd w a b
theorem haHV {wd:Int} {ad:List Itm} {now:Int} {A:Option Addr} {m c:Nat} {w:World} (h:HaI wd ad now A m c w):RowKit.Hid (∀ w',Below w.heap.size w w'→Calls Tryz.prog 143 #[.agg #[.int .i64 now, .slice A m c]] w' fun e w''=>e = .returned (.int .i64 0)∧Below w'.heap.size w' w'') :=
  Lib.hid (fun w' hb=>by
    have h2:=(haI_ok wd ad now).below h hb
    have P:=phval now A m c _ w' h2.1.reads h2.1.nowB h2.1.zsB (by have:=h2.1.nc;have:=h2.1.cB;unfold maxLen at *;omega)
    rw [haI_val h] at P
    exact P)
theorem kHalve {wd:Int} {N:Nat} (a:1≤wd) (b:wd≤64) (hN:N≤9000):KindOK #[.int .i64 7, .int .i64 0, .int .i64 wd, .int .i64 0, .int .i64 0, .int .i64 0, .int .i64 0, .int .i64 0] (HaI wd) (fun ad now A m c=>#[.int .i64 7, .int .i64 0, .int .i64 wd, .int .i64 0, .int .i64 0, .int .i64 0, .int .i64 0, .int .i64 0, .int .i64 0, .int .i64 0, .int .i64 0, .slice none 0 0, .int .i64 0, .int .i64 0, .int .i64 0, .int .i64 0, .slice none 0 0, .int .i64 0, .int .i64 0, .int .i64 0, .int .i64 0, .int .i64 0, .slice none 0 0, .int .i64 0, .int .i64 0, .int .i64 0, .int .i64 0, .int .i64 0, .int .i64 0, .slice none 0 0, .int .i64 0, .int .i64 0, .int .i64 0, .int .i64 0, .int .i64 0, .slice none 0 0, .int .i64 0, .int .i64 0, .int .i64 0, .slice none 0 0, .int .i64 now, .slice A m c, .bool false, .int .i64 0, .int .i64 0, .int .i64 0, .slice none 0 0, .slice none 0 0, .int .i64 0, .int .i64 0, .int .i64 0, .slice none 0 0, .int .i64 0, .int .i64 0, .int .i64 0, .int .i64 0, .slice none 0 0]) (fun v=>0≤v∧v≤4096) N where
  inok:=fun ad now=>haI_ok wd ad now
  size:=fun _ _ _ _ _=>rfl
  one:=fun _ _ _ _ _=>all_one rfl
  new:=fun w=>by
    refine pyNewHalve wd 0 w (HaI wd [] 0) (haI_ok wd [] 0) (by omega) (by omega) (IntWalk.i64_in _ (by omega)) (Lib.hid (ha_cfg a b)) (Lib.hid (fun w'=>(phnew_ok wd 0 w' a b (by omega) (by omega)).mono fun e w'' hq=>?_))
    rw [hnew_yes a b (by omega) (by omega)] at hq
    obtain ⟨A,n,c,he,hin,hb,hf⟩:=hq
    refine ⟨A,n,c,he,⟨?_,⟨a,b⟩,⟨by omega,by omega⟩,by simp,by simp,by simp⟩,hb,fun _ a e => .inl (hf a e)⟩
    rw [cst_nil]
    exact hin
  adv:=fun ad now tt A m c w hi h1 h2=>by
    have hv:=haI_val hi
    have hw:=hi.len
    refine pyAdvanceHalve A m c wd now tt w (HaI wd ad tt) (haI_ok wd ad tt) _ (fun b hb=>?_) (haHV hi) (Lib.hid (ha_cfg a b)) (by simp;omega) (Lib.hid (fun w' hb=>(phadv_ok now A m c _ tt w' ((haI_ok wd ad now).below hi hb).1 hv h1 h2).mono fun e w'' hq=>?_))
    · obtain ⟨hm,a,e,rfl⟩:=hb
      exact reads_blk hi.1.reads hm a e
    · rw [hadv_ok hv h1 h2] at hq
      obtain ⟨A',n',c',he,hin',hb',hf⟩:=hq
      have e2:hshift (cst wd.toNat ad now) (tt-now).toNat=cst wd.toNat ad tt:=by
        have:=cst_shift (a:=wd.toNat) (d:=(tt-now).toNat) (l:=ad) (now:=now) (fun x hx=>(hi.2.2.2.2.2 x hx).2)
        rw [this,show now+((tt-now).toNat:Int)=tt by omega]
      refine ⟨A',n',c',he,⟨?_,hi.2.1,⟨by have:=hi.2.2.1;omega,h2⟩,hi.2.2.2.1,hi.2.2.2.2.1,fun x hx=>by have:=hi.2.2.2.2.2 x hx;omega⟩,hb',fun _ a e => .inl (hf a e)⟩
      rw [← e2]
      exact hin'
  add:=fun ad now v A m c w hi hn hv0=>by
    have hv:=haI_val hi
    have hw:=hi.len
    refine pyAddHalve A m c wd now v w (HaI wd (ad ++ [(⟨now,v⟩:Itm)]) now) (haI_ok wd _ now) _ (fun b hb=>?_) (haHV hi) (Lib.hid (ha_cfg a b)) (by simp;omega) (Lib.hid (fun w' hb=>(phadd_ok now A m c _ v w' ((haI_ok wd ad now).below hi hb).1 hv hv0.1 hv0.2 (by have ht:=cst_top (a:=wd.toNat) (l:=ad) (now:=now) (by omega) (by have:=hi.2.2.2.1;omega) hi.2.2.2.2.1;omega)).mono fun e w'' hq=>?_))
    · obtain ⟨hm,a,e,rfl⟩:=hb
      exact reads_blk hi.1.reads hm a e
    · have ht:=cst_top (a:=wd.toNat) (l:=ad) (now:=now) (by omega) (by have:=hi.2.2.2.1;omega) hi.2.2.2.2.1
      rw [hadd_ok hv hv0.1 hv0.2 (by omega)] at hq
      obtain ⟨A',n',c',he,hin',hb',hf⟩:=hq
      refine ⟨A',n',c',he,⟨?_,hi.2.1,hi.2.2.1,by rw [List.length_append];simp;omega,fun x hx=>?_,fun x hx=>?_⟩,hb',fun _ a e => .inl (hf a e)⟩
      · rw [← cst_add (by omega)]
        exact hin'
      · rcases List.mem_append.1 hx with hx | hx
        · exact hi.2.2.2.2.1 x hx
        · obtain rfl:x=⟨now,v⟩:=by simpa using hx
          exact hv0
      · rcases List.mem_append.1 hx with hx | hx
        · exact hi.2.2.2.2.2 x hx
        · obtain rfl:x=⟨now,v⟩:=by simpa using hx
          exact ⟨hi.2.2.1.1,Int.le_refl _⟩
def HaA (wd now:Int) (ad:List Itm) (w:World) (e:Ending) (w':World):Prop:=e = .returned (.tuple #[.agg #[.int .i64 0, .int .i64 0, .int .i64 0, .int .i64 0, .int .i64 0, .int .i64 0, .slice none 0 0, .int .u64 (hi (cwide wd.toNat ad now)), .int .u64 (lo (cwide wd.toNat ad now)), .int .u64 (hi (2 ^ (wd.toNat-1))), .int .u64 (lo (2 ^ (wd.toNat-1)))], .int .i64 0])∧Below w.heap.size w w'
theorem thAsk {A:Option Addr} {m c:Nat} {wd now:Int} {ad:List Itm} {w:World} (h:HaI wd ad now A m c w) (qa qb:Int):Calls Tryz.prog 12 #[.agg #[.int .i64 7, .int .i64 0, .int .i64 wd, .int .i64 0, .int .i64 0, .int .i64 0, .int .i64 0, .int .i64 0, .int .i64 0, .int .i64 0, .int .i64 0, .slice none 0 0, .int .i64 0, .int .i64 0, .int .i64 0, .int .i64 0, .slice none 0 0, .int .i64 0, .int .i64 0, .int .i64 0, .int .i64 0, .int .i64 0, .slice none 0 0, .int .i64 0, .int .i64 0, .int .i64 0, .int .i64 0, .int .i64 0, .int .i64 0, .slice none 0 0, .int .i64 0, .int .i64 0, .int .i64 0, .int .i64 0, .int .i64 0, .slice none 0 0, .int .i64 0, .int .i64 0, .int .i64 0, .slice none 0 0, .int .i64 now, .slice A m c, .bool false, .int .i64 0, .int .i64 0, .int .i64 0, .slice none 0 0, .slice none 0 0, .int .i64 0, .int .i64 0, .int .i64 0, .slice none 0 0, .int .i64 0, .int .i64 0, .int .i64 0, .int .i64 0, .slice none 0 0], .agg #[.int .i64 9, .int .i64 qa, .int .i64 qb]] w (HaA wd now ad w):=by
  have hv:=haI_val h
  have hw:=h.len
  have HC:=Lib.hid (ha_cfg h.2.1.1 h.2.1.2)
  refine pyAskHalve A m c wd now qa qb _ _ _ _ w (haHV h) HC (by simp;omega) (Lib.hid (fun w'=>pansHalve wd w' HC)) (Lib.hid (fun w' hb=>?_))
  have P:=phask_ok now A m c _ w' ((haI_ok wd ad now).below h hb).1 hv
  have e1:hhorn (cst wd.toNat ad now) (cst wd.toNat ad now).length=cwide wd.toNat ad now:=by
    rw [cst_len,← hwide_last,hwide_cst ad h.2.2.2.2.1 (fun x hx=>(h.2.2.2.2.2 x hx).2)]
  rw [hask_ok hv,e1,cst_len] at P
  exact P
end Go.Proofs.YtdipoojjlddohaaGreat
end
section
/- The exact sum of values that halve, walked. -/
namespace Go.Proofs.YtdipoojjlddohaaGreat
open Go.RowKit Go.Shelf
set_option maxRecDepth 100000 in
set_option maxHeartbeats 4000000 in
theorem pexhalve (a:Nat) (ha:1≤a) (ha2:a≤64) (now:Int) (hn0:0≤now) (hn1:now≤16777216) (A:Option Addr) (m c:Nat) (l:List Itm) (w:World) (hr:Reads w w.heap.size 2 A m (icells l)) (hl:m≤10000)
    (hv:∀ x∈l,0≤x.v∧x.v≤4096) (ht:∀ x∈l,0≤x.t∧x.t≤now) :
    Calls Tryz.prog 25 #[.slice A m c, .int .i64 now, .int .i64 (a:Nat)] w fun e w'=>e = .returned (.tuple #[FR (cwide a l now) (2 ^ (a-1)), .bool true])∧Below w.heap.size w w':=by
  have HL:=Lib.hid hr.itm_len
  have HR:=Lib.hid hr
  have HV:=Lib.hid hv
  have HT:=Lib.hid ht
  have dB:=pow_big ha2
  have hdn:leftN 1 ((a:Int)-1)=2 ^ (a-1):=by unfold leftN;rw [Nat.one_mul];congr 1;omega
  have PD:=fun w=>pleft 1 ((a:Int)-1) (by decide) ⟨by omega,by omega⟩ w
  have hly:=left_yes (a:=1) (n:=(a:Int)-1) (by omega) (by rw [hdn];exact Nat.lt_of_lt_of_le dB (by decide))
  rw [hly.1,hly.2,hdn] at PD
  have PD:=Lib.hid PD
  generalize hdnn:2 ^ (a-1)=dn at PD ⊢
  have PO1:RowKit.Hid (∀ w,Calls Tryz.prog 76 #[.int .u64 1] w fun e w'=>e = .returned (W 1)∧Below w.heap.size w w'):=Lib.hid (fun w=>pof 1 (by decide) w)
  have PTK:=Lib.hid (fun w=>pxtick now hn0 hn1 w)
  have wsn:IntKind.i64.wrap ((a:Int)-1)=(a:Int)-1:=IntWalk.i64_in _ (by omega)
  have a1:¬ (a:Int)<1:=by omega
  have a2:¬ 64<(a:Int):=by omega
  clear hr hv ht hly hdn dB hdnn
  go_enter Tryz.func25,Tryz.ntmps25
  go_upto_region 4 with (go_at_call 74;with_reducible refine (PTK.out _).mono ?_;rintro e w9 ⟨rfl,h9⟩;obtain rfl:=h9.symm)
  have R:Row ((w.alloc (.cells #[.int .u64 0, .int .u64 0, .int .u64 0, .int .u64 0] 69)).alloc (.cells #[.int .u64 0, .int .u64 0] 67)) w.heap.size 69 #[.int .u64 0, .int .u64 0, .int .u64 0, .int .u64 0]:=row_alloc (row_new rfl) _
  have s:Row ((w.alloc (.cells #[.int .u64 0, .int .u64 0, .int .u64 0, .int .u64 0] 69)).alloc (.cells #[.int .u64 0, .int .u64 0] 67)) (w.heap.size+1) 67 #[.int .u64 0, .int .u64 0]:=row_new (by simp)
  have o:Below w.heap.size w ((w.alloc (.cells #[.int .u64 0, .int .u64 0, .int .u64 0, .int .u64 0] 69)).alloc (.cells #[.int .u64 0, .int .u64 0] 67)):=by (repeat (first | exact Below.refl _ _ | refine Below.setCell ?_ (by (try simp)<;>omega) _ | refine Below.alloc ?_ (by (try simp)<;>omega) _ | refine Below.drew ?_ | refine Below.trans ?_ (Below.mono (by assumption) (by (try simp)<;>omega))))
  generalize ((w.alloc (.cells #[.int .u64 0, .int .u64 0, .int .u64 0, .int .u64 0] 69)).alloc (.cells #[.int .u64 0, .int .u64 0] 67))=w1 at R s o ⊢
  clear a1 a2 PTK
  go_wp2
  go_loopw [32] (fun i wr=>∃ k:Nat,k≤m∧i = .int .i64 (k:Nat)∧Row wr w.heap.size 69 #[.int .u64 0, .int .u64 0, .int .u64 0, .int .u64 0]∧Row wr (w.heap.size+1) 67 #[.int .u64 0, .int .u64 0]∧Below w.heap.size w wr) (fun i _=>m-(intOf i).toNat)
  case atStart=>exact ⟨0,by omega,rfl,R,s,o⟩
  case round =>
    clear R s o
    obtain ⟨k,hk,rfl,R,s,o⟩:=hrel
    by_cases hlt:k<m
    · obtain ⟨ad,rfl,hadb,ht0⟩:=HR.out.itm hlt
      obtain ⟨g0,g1⟩:=ht0.below o (by rw [block_of_add];exact hadb)
      have kl:k<l.length:=by rw [HL.out];exact hlt
      have xm:itmAt l k∈l:=by rw [← itm_eq kl];exact List.getElem_mem kl
      have bv:=HV.out _ xm
      have bt:=HT.out _ xm
      generalize (itmAt l k).t=tk at g0 bt
      generalize (itmAt l k).v=vk at g1 bv
      have n1:¬ vk<0:=by omega
      have n2:¬ tk<0:=by omega
      have n3:¬ now<tk:=by omega
      have i1:(k:Int)<(m:Int):=by omega
      have i2:(0:Int)≤(k:Int):=by omega
      clear ht0 xm bv bt
      go_upto_region 7 with (fail)
      have ti:Row (wr.alloc (.cells #[.int .i64 tk, .int .i64 vk] 90)) wr.heap.size 90 #[.int .i64 tk, .int .i64 vk]:=row_new rfl
      have zt:w.heap.size+1<wr.heap.size:=row_lt s
      replace R:=row_alloc R (.cells #[.int .i64 tk, .int .i64 vk] 90)
      replace s:=row_alloc s (.cells #[.int .i64 tk, .int .i64 vk] 90)
      replace o:=o.alloc o.size (.cells #[.int .i64 tk, .int .i64 vk] 90)
      generalize wr.alloc (.cells #[.int .i64 tk, .int .i64 vk] 90)=wq at R s o ti ⊢
      generalize wr.heap.size=tb at ti zt ⊢
      clear g0 g1
      obtain ⟨I0,I1,If0,If1⟩:=row_two ti
      go_wp2
      go_roundw
      case rel=>exact ⟨k+1,by omega,by go_num,R,s,o⟩
      case measure=>simp [intOf];omega
    · have i1:¬ (k:Int)<(m:Int):=by omega
      have s:Row wr (w.heap.size+1) 67 #[.int .u64 (hi (cwide a (l.take 0) now)), .int .u64 (lo (cwide a (l.take 0) now))]:=by
        rw [show cwide a (l.take 0) now=0 from rfl,hi_0,lo_0]
        exact s
      go_wp2
      clear hlt i1 hk
      go_loopw [54] (fun i wr=>∃ k:Nat,k≤m∧i = .int .i64 (k:Nat)∧Row wr w.heap.size 69 #[.int .u64 0, .int .u64 0, .int .u64 0, .int .u64 0]∧Row wr (w.heap.size+1) 67 #[.int .u64 (hi (cwide a (l.take k) now)), .int .u64 (lo (cwide a (l.take k) now))]∧Below w.heap.size w wr) (fun i _=>m-(intOf i).toNat)
      case atStart=>exact ⟨0,by omega,rfl,R,s,o⟩
      case round =>
        clear R s o
        obtain ⟨k,hk,rfl,R,s,o⟩:=hrel
        by_cases hlt:k<m
        · obtain ⟨ad,rfl,hadb,ht0⟩:=HR.out.itm hlt
          obtain ⟨g0,g1⟩:=ht0.below o (by rw [block_of_add];exact hadb)
          have kl:k<l.length:=by rw [HL.out];exact hlt
          have xm:itmAt l k∈l:=by rw [← itm_eq kl];exact List.getElem_mem kl
          have bv:=HV.out _ xm
          have bt:=HT.out _ xm
          have hst:=cwide_step (a:=a) (now:=now) kl
          have hb2:=cwide_big (a:=a) (now:=now) (l:=l.take k) ha2 (by rw [List.length_take];omega) (fun x hx=>HV.out x (List.mem_of_mem_take hx)) (fun x hx=>(HT.out x (List.mem_of_mem_take hx)).2)
          have hb4:=cwide_big (a:=a) (now:=now) (l:=l.take (k+1)) ha2 (by rw [List.length_take];omega) (fun x hx=>HV.out x (List.mem_of_mem_take hx)) (fun x hx=>(HT.out x (List.mem_of_mem_take hx)).2)
          generalize cwide a (l.take k) now=s0 at s hb2 hst
          generalize hr0:cwide a (l.take (k+1)) now=r at hst hb4
          have HRR:=Lib.hid hr0
          have cno:=cterm_no (a:=a) (now:=now) (x:=itmAt l k)
          have cyes:=cterm_yes (a:=a) (now:=now) (x:=itmAt l k)
          generalize hct:cterm a now (itmAt l k)=y at hst cno cyes
          generalize (itmAt l k).t=tk at g0 bt cno cyes
          generalize (itmAt l k).v=vk at g1 bv cyes
          have i1:(k:Int)<(m:Int):=by omega
          have i2:(0:Int)≤(k:Int):=by omega
          have wst:IntKind.i64.wrap (now-tk)=now-tk:=IntWalk.i64_in _ (by omega)
          clear ht0 xm hct hr0
          by_cases hage:(a:Int)≤now-tk
          · have hy:=cno hage
            subst hy
            rw [Nat.add_zero] at hst
            subst hst
            clear cyes cno hb2 hb4
            go_upto_region 13 with (fail)
            have ti:Row (wr.alloc (.cells #[.int .i64 tk, .int .i64 vk] 90)) wr.heap.size 90 #[.int .i64 tk, .int .i64 vk]:=row_new rfl
            have zt:w.heap.size+1<wr.heap.size:=row_lt s
            replace R:=row_alloc R (.cells #[.int .i64 tk, .int .i64 vk] 90)
            replace s:=row_alloc s (.cells #[.int .i64 tk, .int .i64 vk] 90)
            replace o:=o.alloc o.size (.cells #[.int .i64 tk, .int .i64 vk] 90)
            generalize wr.alloc (.cells #[.int .i64 tk, .int .i64 vk] 90)=wq at R s o ti ⊢
            generalize wr.heap.size=tb at ti zt ⊢
            clear g0 g1
            obtain ⟨I0,I1,If0,If1⟩:=row_two ti
            go_wp2
            go_roundw
            case rel=>exact ⟨k+1,by omega,by go_num,R,by rw [HRR.out];exact s,o⟩
            case measure=>simp [intOf];omega
          · obtain ⟨sn,hsn⟩:∃ sn:Nat,vk=(sn:Int):=⟨vk.toNat,by omega⟩
            have hq:leftN sn ((a:Int)-1-(now-tk))=y:=by
              rw [cyes (by omega),hsn]
              unfold leftN
              rw [Int.toNat_natCast]
              congr 2
              omega
            have PL:=fun w=>pleft sn ((a:Int)-1-(now-tk)) (by unfold big;omega) ⟨by omega,by omega⟩ w
            have hly:=left_yes (a:=sn) (n:=(a:Int)-1-(now-tk)) (by omega) (by rw [hq];unfold big;omega)
            rw [hly.1,hly.2,hq] at PL
            have PA:=fun w=>padd_fits s0 y (by unfold big;omega) (by unfold big;omega) (by unfold big;omega) w
            rw [← hst] at PA
            have PL:=Lib.hid PL
            have PA:=Lib.hid PA
            have PO:=Lib.hid (fun w=>pof sn (by omega) w)
            have wsk:IntKind.u64.wrap vk=(sn:Int):=by rw [hsn];exact IntWalk.u64_in _ (by omega)
            have wsj:IntKind.i64.wrap ((a:Int)-1-(now-tk))=(a:Int)-1-(now-tk):=IntWalk.i64_in _ (by omega)
            clear hst hly hq cno cyes hb2 hb4 hsn
            go_upto_region 13 with (fail)
            have ti:Row (wr.alloc (.cells #[.int .i64 tk, .int .i64 vk] 90)) wr.heap.size 90 #[.int .i64 tk, .int .i64 vk]:=row_new rfl
            have zt:w.heap.size+1<wr.heap.size:=row_lt s
            replace R:=row_alloc R (.cells #[.int .i64 tk, .int .i64 vk] 90)
            replace s:=row_alloc s (.cells #[.int .i64 tk, .int .i64 vk] 90)
            replace o:=o.alloc o.size (.cells #[.int .i64 tk, .int .i64 vk] 90)
            generalize wr.alloc (.cells #[.int .i64 tk, .int .i64 vk] 90)=wq at R s o ti ⊢
            generalize wr.heap.size=tb at ti zt ⊢
            clear g0 g1
            obtain ⟨I0,I1,If0,If1⟩:=row_two ti
            go_wp2_with fail
            refine (PO.out _).mono ?_
            rintro e w3 ⟨rfl,hb⟩
            replace R:=row_call R hb
            replace s:=row_call s hb
            replace o:=o.trans (hb.mono o.size)
            replace ti:=row_call ti hb
            clear hb
            clear I0 I1 If0 If1
            go_wp2_with fail
            refine (PL.out _).mono ?_
            rintro e w4 ⟨rfl,hb⟩
            replace R:=row_call R hb
            replace s:=row_call s hb
            replace o:=o.trans (hb.mono o.size)
            replace ti:=row_call ti hb
            clear hb
            go_upto_region 16 with (fail)
            have ty:Row (w4.alloc (.cells #[.int .u64 (hi y), .int .u64 (lo y)] 67)) w4.heap.size 67 #[.int .u64 (hi y), .int .u64 (lo y)]:=row_new rfl
            have zy:w.heap.size+1<w4.heap.size:=row_lt s
            replace R:=row_alloc R (.cells #[.int .u64 (hi y), .int .u64 (lo y)] 67)
            replace s:=row_alloc s (.cells #[.int .u64 (hi y), .int .u64 (lo y)] 67)
            replace o:=o.alloc o.size (.cells #[.int .u64 (hi y), .int .u64 (lo y)] 67)
            generalize w4.alloc (.cells #[.int .u64 (hi y), .int .u64 (lo y)] 67)=w5 at R s o ty ⊢
            generalize w4.heap.size=yb at ty zy ⊢
            clear ti
            obtain ⟨Y0,Y1,Yf0,Yf1⟩:=row_two ty
            obtain ⟨T0,T1,Tf0,Tf1⟩:=row_two s
            go_wp2_with fail
            refine (PA.out _).mono ?_
            rintro e w6 ⟨rfl,hb⟩
            replace R:=row_call R hb
            replace s:=row_call s hb
            replace o:=o.trans (hb.mono o.size)
            clear hb
            clear Y0 Y1 Yf0 Yf1 T0 T1 Tf0 Tf1 ty
            obtain ⟨T0,T1,Tf0,Tf1⟩:=row_two s
            go_upto_region 19 with (fail)
            have s2:=row_two_set (u := .int .u64 (hi r)) (v := .int .u64 (lo r)) s
            replace R:=row_two_other (c:=w.heap.size+1) (u := .int .u64 (hi r)) (v := .int .u64 (lo r)) R (by omega)
            replace o:=(o.setCell (p:=⟨w.heap.size+1,0,none⟩) (by show w.heap.size≤w.heap.size+1;omega) (.int .u64 (hi r))).setCell (p:=⟨w.heap.size+1,1,none⟩) (by show w.heap.size≤w.heap.size+1;omega) (.int .u64 (lo r))
            clear T0 T1 Tf0 Tf1 s
            generalize ((w6.setCell ⟨w.heap.size+1,0,none⟩ (.int .u64 (hi r))).setCell ⟨w.heap.size+1,1,none⟩ (.int .u64 (lo r)))=w7 at R s2 o ⊢
            go_wp2
            go_roundw
            case rel=>exact ⟨k+1,by omega,by go_num,R,by rw [HRR.out];exact s2,o⟩
            case measure=>simp [intOf];omega
        · have i1:¬ (k:Int)<(m:Int):=by omega
          obtain rfl:k=m:=by omega
          rw [List.take_of_length_le (by rw [HL.out];exact Nat.le_refl _)] at s
          generalize hS:cwide a l now=S at s
          replace hS:=Lib.hid hS
          go_wp2_with fail
          refine (PO1.out _).mono ?_
          rintro e w3 ⟨rfl,hb⟩
          replace R:=row_call R hb
          replace s:=row_call s hb
          replace o:=o.trans (hb.mono o.size)
          clear hb
          go_wp2_with fail
          refine (PD.out _).mono ?_
          rintro e w4 ⟨rfl,hb⟩
          replace R:=row_call R hb
          replace s:=row_call s hb
          replace o:=o.trans (hb.mono o.size)
          clear hb
          go_upto_region 23 with (fail)
          have ty:Row (w4.alloc (.cells #[.int .u64 (hi dn), .int .u64 (lo dn)] 67)) w4.heap.size 67 #[.int .u64 (hi dn), .int .u64 (lo dn)]:=row_new rfl
          have zy:w.heap.size+1<w4.heap.size:=row_lt s
          replace R:=row_alloc R (.cells #[.int .u64 (hi dn), .int .u64 (lo dn)] 67)
          replace s:=row_alloc s (.cells #[.int .u64 (hi dn), .int .u64 (lo dn)] 67)
          replace o:=o.alloc o.size (.cells #[.int .u64 (hi dn), .int .u64 (lo dn)] 67)
          generalize w4.alloc (.cells #[.int .u64 (hi dn), .int .u64 (lo dn)] 67)=w5 at R s o ty ⊢
          generalize w4.heap.size=yb at ty zy ⊢
          obtain ⟨Y0,Y1,Yf0,Yf1⟩:=row_two ty
          obtain ⟨T0,T1,Tf0,Tf1⟩:=row_two s
          obtain ⟨Q0,Q1,Q2,Q3,Qf0,Qf1,Qf2,Qf3⟩:=row_four R
          go_wp2
          have R0:=row_set R 0 (.int .u64 (hi S))
          have o0:=o.setCell (p:=⟨w.heap.size,0,none⟩) (Nat.le_refl _) (.int .u64 (hi S))
          have R1:=row_set R0 1 (.int .u64 (lo S))
          have o1:=o0.setCell (p:=⟨w.heap.size,1,none⟩) (Nat.le_refl _) (.int .u64 (lo S))
          have R2:=row_set R1 2 (.int .u64 (hi dn))
          have o2:=o1.setCell (p:=⟨w.heap.size,2,none⟩) (Nat.le_refl _) (.int .u64 (hi dn))
          have R3:=row_set R2 3 (.int .u64 (lo dn))
          have o3:=o2.setCell (p:=⟨w.heap.size,3,none⟩) (Nat.le_refl _) (.int .u64 (lo dn))
          obtain ⟨S0,S1,S2,S3,_,_,_,_⟩:=row_four R3
          exact bodyPost_ret (v := .tuple #[FR S dn, .bool true]) (by simp [results,Tryz.results25,go_sem,FR,S0,S1,S2,S3]) rfl ⟨by rw [hS.out],o3⟩
end Go.Proofs.YtdipoojjlddohaaGreat
end
