/- What the law TopSummaries needs, joined of its texts by a program (slim2.py); part 21. -/
import Derived.Test.YtdipoojjlddohaaGreatZTopSummaries1
import Derived.Test.YtdipoojjlddohaaGreatZTopSummaries19
import Derived.Test.YtdipoojjlddohaaGreatZTopSummaries20
set_option linter.unusedVariables false
set_option linter.unusedSimpArgs false
set_option linter.unusedSectionVars false
set_option linter.unnecessarySimpa false
section
/- Summaries of a stream: a value more, and what a state becomes; plain. -/
namespace Go.Proofs.YtdipoojjlddohaaGreat
structure SOut where
  k:Int
  cap:Int
  n:Int
  ts:List Tup
  f:Int
def szero (f:Int):SOut:=⟨0,0,0,[],f⟩
def snew (k cap:Int):SOut:=if k<1∨64<k∨cap<2∨65536<cap then szero 1 else ⟨k,cap,0,[],0⟩
def sat (v:Int):List Tup→Nat
  | []=>0
  | t :: ts=>if t.v≤v then sat v ts+1 else 0
theorem sat_le (v:Int):∀ ts:List Tup,sat v ts≤ts.length
  | []=>Nat.le_refl _
  | t :: ts=>by
    have:=sat_le v ts
    unfold sat
    split
    · simp only [List.length_cons];omega
    · omega
theorem tupAt_cons (t:Tup) (ts:List Tup) (i:Nat):tupAt (t :: ts) (i+1)=tupAt ts i:=rfl
theorem tupAt_zero (t:Tup) (ts:List Tup):tupAt (t :: ts) 0=t:=rfl
theorem sat_low {v:Int}:∀ {ts:List Tup} {j:Nat},j<sat v ts→(tupAt ts j).v≤v
  | [],j,h=>absurd h (by simp [sat])
  | t :: ts,0,h=>by
    unfold sat at h
    split at h
    · assumption
    · omega
  | t :: ts,j+1,h=>by
    unfold sat at h
    split at h
    · rw [tupAt_cons];exact sat_low (by omega)
    · omega
theorem sat_high {v:Int}:∀ {ts:List Tup},sat v ts<ts.length→v<(tupAt ts (sat v ts)).v
  | [],h=>absurd h (by simp [sat])
  | t :: ts,h=>by
    unfold sat at h ⊢
    split
    · rename_i c
      rw [if_pos c] at h
      rw [tupAt_cons]
      exact sat_high (by simpa using h)
    · rename_i c
      rw [tupAt_zero]
      omega
def Asc (ts:List Tup):Prop:=∀ i j,i≤j→j<ts.length→(tupAt ts i).v≤(tupAt ts j).v
theorem asc_of {m:Int} {ts:List Tup} (h:∀ i,i<ts.length→tOK m ts i=true):Asc ts:=by
  intro i j hij hj
  induction j with
  | zero=>rw [show i=0 by omega];exact Int.le_refl _
  | succ j ih =>
    rcases Nat.lt_or_ge j i with c | c
    · rw [show i=j+1 by omega];exact Int.le_refl _
    · have a:=ih c (by omega)
      have b:=(tOK_of (h (j+1) hj)).2.2.1
      rcases b with b | b
      · omega
      · rw [show j+1-1=j from rfl] at b
        omega
def sgap (v:Int) (ts:List Tup):Int:=if 0<sat v ts∧sat v ts<ts.length then (tupAt ts (sat v ts)).g+(tupAt ts (sat v ts)).d-1 else 0
def sins (v:Int) (ts:List Tup):List Tup:=ts.take (sat v ts) ++ ⟨v,1,sgap v ts⟩ :: ts.drop (sat v ts)
theorem sins_len (v:Int) (ts:List Tup):(sins v ts).length=ts.length+1:=by
  have:=sat_le v ts
  unfold sins
  simp only [List.length_append,List.length_take,List.length_cons,List.length_drop]
  omega
def sfit (k cap n:Int) (ts:List Tup):SOut :=
  if (ts.length:Int)≤cap then ⟨k,cap,n,ts,0⟩ else if ((comp (smost n k) ts).length:Int)≤cap then ⟨k,cap,n,comp (smost n k) ts,0⟩ else szero 5
theorem sfit_short {k cap n:Int} {ts:List Tup} (h:(ts.length:Int)≤cap):sfit k cap n ts=⟨k,cap,n,ts,0⟩:=by unfold sfit;rw [if_pos h]
theorem sfit_comp {k cap n:Int} {ts:List Tup} (h:cap<(ts.length:Int)) (h2:((comp (smost n k) ts).length:Int)≤cap):sfit k cap n ts=⟨k,cap,n,comp (smost n k) ts,0⟩:=by unfold sfit;rw [if_neg (by omega),if_pos h2]
theorem sfit_full {k cap n:Int} {ts:List Tup} (h:cap<(ts.length:Int)) (h2:cap<((comp (smost n k) ts).length:Int)):sfit k cap n ts=szero 5:=by unfold sfit;rw [if_neg (by omega),if_neg (by omega)]
def sinsert (k cap n:Int) (ts:List Tup) (v:Int):SOut :=
  if svalE k cap n ts=0 then if v < -4096∨4096<v then szero 4 else if n=1099511627776 then szero 5 else sfit k cap (n+1) (sins v ts) else szero 2
def scomp (k cap n:Int) (ts:List Tup):SOut:=if svalE k cap n ts=0 then ⟨k,cap,n,comp (smost n k) ts,0⟩ else szero 2
section
variable {k cap n v:Int} {ts:List Tup}
theorem sinsert_bad (h:svalE k cap n ts=2):sinsert k cap n ts v=szero 2:=by unfold sinsert;rw [if_neg (by omega)]
theorem sinsert_range (h:svalE k cap n ts=0) (hv:v < -4096∨4096<v):sinsert k cap n ts v=szero 4:=by unfold sinsert;rw [if_pos h,if_pos hv]
theorem sinsert_full (h:svalE k cap n ts=0) (h0 : -4096≤v) (h1:v≤4096) (hn:n=1099511627776):sinsert k cap n ts v=szero 5:=by unfold sinsert;rw [if_pos h,if_neg (by omega),if_pos hn]
theorem sinsert_ok (h:svalE k cap n ts=0) (h0 : -4096≤v) (h1:v≤4096) (hn:n≠1099511627776):sinsert k cap n ts v=sfit k cap (n+1) (sins v ts):=by unfold sinsert;rw [if_pos h,if_neg (by omega),if_neg hn]
theorem sval_TB (h:svalE k cap n ts=0):∀ t∈ts,TB 1099511627776 t:=by
  intro t ht
  have V:=of_svalE h
  obtain ⟨i,hi,rfl⟩:=List.getElem_of_mem ht
  have hn:n≠0:=fun e=>by have:=V.2.2.2.2.2.2.2.1 e;omega
  have a:=tOK_of ((V.2.2.2.2.2.2.2.2 hn).2.1 i hi)
  have b:=smost_le V.2.2.2.2.1 V.1 hn
  rw [tupAt_eq hi]
  unfold TB
  omega
theorem sval_asc (h:svalE k cap n ts=0):Asc ts:=by
  have V:=of_svalE h
  by_cases hn:n=0
  · have:=V.2.2.2.2.2.2.2.1 hn
    intro i j _ hj
    omega
  · exact asc_of (V.2.2.2.2.2.2.2.2 hn).2.1
theorem TB.mono {A B:Int} {t:Tup} (h:TB A t) (hb:A≤B):TB B t:=by unfold TB at *;omega
theorem sins_TB (h:svalE k cap n ts=0) (h0 : -4096≤v) (h1:v≤4096):∀ t∈sins v ts,TB 4398046511104 t:=by
  intro t ht
  have T:=sval_TB h
  unfold sins at ht
  rcases List.mem_append.1 ht with ht | ht
  · exact (T t (List.mem_of_mem_take ht)).mono (by omega)
  · rcases List.mem_cons.1 ht with rfl | ht
    · have V:=of_svalE h
      unfold TB sgap
      simp only
      split
      · rename_i c
        have hn:n≠0:=fun e=>by have:=V.2.2.2.2.2.2.2.1 e;omega
        have a:=tOK_of ((V.2.2.2.2.2.2.2.2 hn).2.1 (sat v ts) c.2)
        have b:=smost_le V.2.2.2.2.1 V.1 hn
        omega
      · omega
    · exact (T t (List.mem_of_mem_drop ht)).mono (by omega)
end
end Go.Proofs.YtdipoojjlddohaaGreat
end
section
/- Summaries of a stream: what a call that answers a state leaves; New, walked. -/
namespace Go.Proofs.YtdipoojjlddohaaGreat
open Go.RowKit
theorem T64.of {B:Int} {t:Tup} (h:TB B t) (hB:B≤9223372036854775807):T64 t:=by
  unfold TB at h
  unfold T64
  omega
def SRet (r:SOut) (w:World) (e:Ending) (w':World):Prop :=
  ∃ A m c,e = .returned (.tuple #[.agg #[.int .i64 r.k, .int .i64 r.cap, .int .i64 r.n, .slice A m c], .int .i64 r.f])∧SIn r.k r.cap r.n A m c r.ts w'∧Below w.heap.size w w'∧∀ a,A=some a→w.heap.size≤a.block∧a.block<w'.heap.size
theorem sin_new {k cap:Int} {w:World} (hk : -9223372036854775808≤k∧k≤9223372036854775807) (hc : -9223372036854775808≤cap∧cap≤9223372036854775807):SIn k cap 0 none 0 0 [] w :=
  ⟨by simpa [tcells_nil] using Reads.none_,hk,hc,by decide,fun i=>by simp [tupAt,Tup.zero,T64],Nat.le_refl _,Nat.zero_le _⟩
theorem sret_new {w w':World} {k cap f:Int} (hk : -9223372036854775808≤k∧k≤9223372036854775807) (hc : -9223372036854775808≤cap∧cap≤9223372036854775807) (hb:Below w.heap.size w w'):SRet ⟨k,cap,0,[],f⟩ w (.returned (.tuple #[.agg #[.int .i64 k, .int .i64 cap, .int .i64 0, .slice none 0 0], .int .i64 f])) w' :=
  ⟨none,0,0,rfl,sin_new hk hc,hb,fun a h=>by cases h⟩
theorem sret_zero {w w':World} {f:Int} (hb:Below w.heap.size w w'):SRet (szero f) w (.returned (.tuple #[.agg #[.int .i64 0, .int .i64 0, .int .i64 0, .slice none 0 0], .int .i64 f])) w':=sret_new (by decide) (by decide) hb
theorem sret_own {w w':World} {k cap n f:Int} {ts:List Tup} {g m c:Nat} (ho:Own w' 311 3 g m c (tcells ts)) (hk : -9223372036854775808≤k∧k≤9223372036854775807) (hc : -9223372036854775808≤cap∧cap≤9223372036854775807)
    (hn : -9223372036854775808≤n∧n≤9223372036854775807) (hT:∀ t∈ts,TB 4398046511104 t) (hb:Below w.heap.size w w') (hg:w.heap.size≤g):SRet ⟨k,cap,n,ts,f⟩ w (.returned (.tuple #[.agg #[.int .i64 k, .int .i64 cap, .int .i64 n, .slice (some ⟨g,0,none⟩) m c], .int .i64 f])) w' :=
  ⟨some ⟨g,0,none⟩,m,c,rfl,⟨ho.reads,hk,hc,hn,fun i=>T64.of (TB_at (by decide) hT i) (by decide),ho.cap.1,ho.cap.2⟩,hb,fun a h=>by cases h;exact ⟨hg,ho.lt⟩⟩
theorem sret_at {r:SOut} {k cap n f:Int} {ts:List Tup} {w w':World} {e:Ending} (hr:r=⟨k,cap,n,ts,f⟩) (h:SRet r w e w') :
    ∃ A m c,e = .returned (.tuple #[.agg #[.int .i64 k, .int .i64 cap, .int .i64 n, .slice A m c], .int .i64 f])∧SIn k cap n A m c ts w'∧Below w.heap.size w w'∧∀ a,A=some a→w.heap.size≤a.block∧a.block<w'.heap.size:=by
  subst hr
  exact h
theorem info_tup:(Tryz.prog.info? 311).map (fun i=>(i.zero,i.size,i.bytes))=some (some (.agg #[.int .i64 0, .int .i64 0, .int .i64 0]),3,24):=by kernel_rfl
end Go.Proofs.YtdipoojjlddohaaGreat
end
