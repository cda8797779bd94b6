/- What the law TopSummaries needs, joined of its texts by a program (slim2.py); part 24. -/
import Derived.Test.YtdipoojjlddohaaGreatZTopSummaries1
import Derived.Test.YtdipoojjlddohaaGreatZTopSummaries11
import Derived.Test.YtdipoojjlddohaaGreatZTopSummaries22
import Derived.Test.YtdipoojjlddohaaGreatZTopSummaries23
set_option linter.unusedVariables false
set_option linter.unusedSimpArgs false
set_option linter.unusedSectionVars false
set_option linter.unnecessarySimpa false
section
/- Summaries of a stream: entries, and bounds of a rank, walked (out of AskA, AskC). -/
namespace Go.Proofs.YtdipoojjlddohaaGreat
open Go.RowKit
theorem info_ent:(Tryz.prog.info? 242).map (fun i=>(i.zero,i.size,i.bytes))=some (some (.agg #[.int .i64 0, .int .i64 0, .int .i64 0]),3,24):=by kernel_rfl
set_option maxHeartbeats 2000000 in
theorem pentries (k cap n:Int) (A:Option Addr) (m c:Nat) (ts:List Tup) (w:World) (hin:SIn k cap n A m c ts w) (hv:svalE k cap n ts=0):Calls Tryz.prog 148 #[.agg #[.int .i64 k, .int .i64 cap, .int .i64 n, .slice A m c]] w (fun e w'=>∃ v,e = .returned v∧w'.ownsRow w.heap.size 242 3 v m (tcells (ents ts m))∧Below w.heap.size w w'):=by
  have HR:=Lib.hid hin
  have hl:=hin.len
  have EB:=Lib.hid (fun i (hi:i<m)=>ents_bound hv (i:=i) (by rw [hl];exact hi))
  have hmB:m≤65536:=by have:=of_svalE hv;rw [hl] at this;omega
  have hnB:n≤1099511627776:=by have:=of_svalE hv;omega
  obtain ⟨i0,hi0,iz0,iz1,iz2⟩:=info_parts info_ent
  clear hin hl hv
  have o:Below w.heap.size w (w.alloc (.cells #[.int .i64 k, .int .i64 cap, .int .i64 n, .slice A m c] 53)):=(Below.refl _ _).alloc (Nat.le_refl _) _
  go_enter Tryz.func148,Tryz.ntmps148
  go_wp2
  go_loopw [3,4,10] (fun v r i wr=>∃ j:Nat,j≤m∧i = .int .i64 (j:Nat)∧r = .int .i64 (gsum ts j)∧wr.ownsRow w.heap.size 242 3 v j (tcells (ents ts j))∧Below w.heap.size w wr) (fun _ _ i _=>m-(intOf i).toNat)
  case atStart=>exact ⟨0,by omega,rfl,rfl,World.ownsRow_nil _ _ _ _,o⟩
  case round =>
    clear o
    obtain ⟨j,hj,rfl,rfl,own,o⟩:=hrel
    by_cases hlt:j<m
    · obtain ⟨ad,rfl,hadb,ht0⟩:=HR.out.reads.tup hlt
      obtain ⟨p0,p1,p2⟩:=ht0.below o (by rw [block_of_add];exact hadb)
      obtain ⟨b1,b2,b3,b4,b5,b6⟩:=EB.out j hlt
      have HE:RowKit.Hid (ents ts (j+1)=ents ts j ++ [entAt ts j]):=Lib.hid (ents_succ ts j)
      have hea:entAt ts j=⟨(tupAt ts j).v,gsum ts (j+1),gsum ts (j+1)+(tupAt ts j).d⟩:=rfl
      generalize (tupAt ts j).v=tv at p0 hea
      generalize (tupAt ts j).g=tg at p1 b5
      generalize (tupAt ts j).d=td at p2 hea b3 b4
      generalize gsum ts j=s0 at b5 b6 ⊢
      generalize hs1:gsum ts (j+1)=s1 at hea b1 b2 b5
      subst b5
      have HS1:=Lib.hid hs1
      have HEA:=Lib.hid hea
      clear hs1 hea ht0
      have wa:IntKind.i64.wrap (s0+tg)=s0+tg:=IntWalk.i64_in _ (by omega)
      have wb:IntKind.i64.wrap (s0+tg+td)=s0+tg+td:=IntWalk.i64_in _ (by omega)
      have i1:(j:Int)<(m:Int):=by omega
      have i2:(0:Int)≤(j:Int):=by omega
      go_upto_region 6 with (fail)
      have ti:Row (wr.alloc (.cells #[.int .i64 tv, .int .i64 tg, .int .i64 td] 311)) wr.heap.size 311 #[.int .i64 tv, .int .i64 tg, .int .i64 td]:=row_new rfl
      replace own:=own.alloc (.cells #[.int .i64 tv, .int .i64 tg, .int .i64 td] 311)
      replace o:=o.alloc o.size (.cells #[.int .i64 tv, .int .i64 tg, .int .i64 td] 311)
      generalize wr.alloc (.cells #[.int .i64 tv, .int .i64 tg, .int .i64 td] 311)=w3 at own o ti ⊢
      generalize wr.heap.size=tb at ti ⊢
      clear p0 p1 p2
      obtain ⟨T0,T1,T2,Tf0,Tf1,Tf2⟩:=row_three ti
      have hbl:=own.lt
      have OWN:=Lib.hid own
      have zo:=o.size
      clear own
      go_wp2_with (at_builtin;refine wpList_push rfl _ _ 186 rfl 242 i0 (.agg #[.int .i64 0, .int .i64 0, .int .i64 0]) 3 24 Tryz.underlying186 hi0 iz0 iz1 iz2 rfl (by decide) w.heap.size u3 j (tcells (ents ts j)) rfl OWN.out #[.int .i64 tv, .int .i64 (s0+tg), .int .i64 (s0+tg+td)] rfl rfl (by simp [Value.oneCell']) (by unfold maxLen;omega) (by omega) (by omega) ?_;intro g' c4 w9 own9 hg9 hat9 hgr9)
      have own:w9.ownsRow w.heap.size 242 3 (.slice (some ⟨g',0,none⟩) (j+1) c4) (j+1) (tcells (ents ts (j+1))):=by
        rw [HE.out,HEA.out,tcells_append]
        exact own9.row hg9
      replace o:=below_grown (o.alloc o.size (.cells #[.int .i64 tv, .int .i64 (s0+tg), .int .i64 (s0+tg+td)] 242)) hgr9 (fun b e=>(hbl b e).1) (by simp;omega)
      clear own9 hgr9 hat9 OWN ti zo
      go_wp2
      go_roundw
      case rel=>exact ⟨j+1,by omega,by go_num,by rw [HS1.out],own,o⟩
      case measure=>simp [intOf];omega
    · have i1:¬ (j:Int)<(m:Int):=by omega
      obtain rfl:j=m:=by omega
      go_wp2
      go_ret
      exact ⟨_,rfl,own,o⟩
theorem ent_at {w:World} {B m j:Nat} {A:Option Addr} {es:List Tup} (h:Reads w B 3 A m (tcells es)) (hj:j<m):∃ ad,A=some ad∧ad.block<B∧TupCells w (ad.add (j*3)) (tupAt es j):=h.tup hj
set_option maxHeartbeats 4000000 in
theorem pRank_ok (k cap n:Int) (A:Option Addr) (m c:Nat) (ts:List Tup) (v:Int) (lo hi:Nat) (w:World) (hin:SIn k cap n A m c ts w) (hv:svalE k cap n ts=0) (hlo:rkLo (ents ts m) v=lo) (hhi:rkHi n (ents ts m) v=hi):Calls Tryz.prog 49 #[.agg #[.int .i64 k, .int .i64 cap, .int .i64 n, .slice A m c], .int .i64 v] w fun e w'=>e = .returned (.tuple #[.agg #[.int .i64 lo, .int .i64 1, .int .i64 ((lo+hi) / 2:Nat), .int .i64 1, .int .i64 hi, .int .i64 1], .int .i64 0])∧Below w.heap.size w w':=by
  have P:=fun w1 (hb:Below w.heap.size w w1)=>psval k cap n A m c ts w1 (hin.below hb)
  rw [hv] at P
  have P:=Lib.hid P
  have hl:=hin.len
  have HK:EOK n (ents ts m):=by rw [← hl];exact ents_ok hv
  have PE:=Lib.hid (fun w1 (hb:Below w.heap.size w w1)=>pentries k cap n A m c ts w1 (hin.below hb) hv)
  obtain ⟨k0,k1,cp0,cp1,n0,n1,mc,_,_⟩:=of_svalE hv
  have mB:m≤65536:=by rw [hl] at mc;omega
  have HN:=HK.le n0 v
  rw [hlo,hhi] at HN
  have HLE:=ents_len ts m
  generalize ents ts m=es at PE HK hlo hhi HLE
  have HK:=Lib.hid HK
  have HLO:=Lib.hid hlo
  have HHI:=Lib.hid hhi
  have HL:=Lib.hid HLE
  have PW:=Lib.hid (fun w=>pwhole lo hi (by omega) (by omega) w)
  generalize (lo+hi) / 2=md at PW ⊢
  clear hin hv hl hlo hhi HLE mc
  go_enter Tryz.func49,Tryz.ntmps49
  go_upto_region 4 with (first | (go_at_call 147;with_reducible refine (P.out _ (by (repeat (first | exact Below.refl _ _ | refine Below.setCell ?_ (by (try simp)<;>omega) _ | refine Below.alloc ?_ (by (try simp)<;>omega) _ | refine Below.drew ?_ | refine Below.trans ?_ (Below.mono (by assumption) (by (try simp)<;>omega)))))).mono ?_;rintro e w1 ⟨rfl,hb1⟩;have hz1:=hb1.size;(try simp at hz1);have o1:Below w.heap.size w w1:=(by (repeat (first | exact Below.refl _ _ | refine Below.setCell ?_ (by (try simp)<;>omega) _ | refine Below.alloc ?_ (by (try simp)<;>omega) _ | refine Below.drew ?_ | refine Below.trans ?_ (Below.mono (by assumption) (by (try simp)<;>omega)))));have q1_0:w.heap.size<w1.heap.size:=(by omega);have r1_0:Row w1 (w.heap.size) 53 #[.int .i64 k, .int .i64 cap, .int .i64 n, .slice A m c]:=row_call (by (repeat (first | assumption | (refine row_new ?_;(first | (simp;done) | omega)) | refine row_alloc ?_ _ | refine row_drew ?_ | refine row_call ?_ (by assumption)))) hb1;obtain ⟨c1_0a,c1_0b,c1_0c,c1_0d,f1_0a,f1_0b,f1_0c,f1_0d⟩:=row_four r1_0;have q1_1:w.heap.size+1<w1.heap.size:=(by omega);have r1_1:Row w1 (w.heap.size+1) 64 #[.int .i64 0, .int .i64 0, .int .i64 0, .int .i64 0, .int .i64 0, .int .i64 0]:=row_call (by (repeat (first | assumption | (refine row_new ?_;(first | (simp;done) | omega)) | refine row_alloc ?_ _ | refine row_drew ?_ | refine row_call ?_ (by assumption)))) hb1;obtain ⟨c1_1a,c1_1b,c1_1c,c1_1d,c1_1e,c1_1f,f1_1a,f1_1b,f1_1c,f1_1d,f1_1e,f1_1f⟩:=row_six r1_1))
  obtain ⟨X0,X1,X2,X3,Xf0,Xf1,Xf2,Xf3⟩:=row_four r1_0
  go_region
  have L2:Below w1.heap.size w1 w1.drew:=(Below.refl _ _).drew
  have o2:=o1.trans (L2.mono o1.size)
  have x2:=row_call r1_0 L2
  have r2:=row_call r1_1 L2
  generalize w1.drew=w2 at x2 r2 o2 ⊢
  clear L2 X0 X1 X2 X3 Xf0 Xf1 Xf2 Xf3
  clear r1_0 r1_1 o1 hb1 c1_0a c1_0b c1_0c c1_0d f1_0a f1_0b f1_0c f1_0d c1_1a c1_1b c1_1c c1_1d c1_1e c1_1f f1_1a f1_1b f1_1c f1_1d f1_1e f1_1f P
  obtain ⟨X0,X1,X2,X3,Xf0,Xf1,Xf2,Xf3⟩:=row_four x2
  go_wp2_with fail
  refine (PE.out _ (by exact o2)).mono ?_
  rintro e w3 ⟨v3,rfl,own3,hb3⟩
  obtain ⟨A3,c3,rfl,rd3,nc3,cm3,fr3⟩:=orow_forms own3
  have r:=row_call r2 hb3
  have o:=o2.trans (hb3.mono o2.size)
  have RD:=Lib.hid rd3
  have b:=Below.refl w3.heap.size w3
  clear own3 hb3 x2 r2 o2 X0 X1 X2 X3 Xf0 Xf1 Xf2 Xf3 rd3 fr3 PE
  go_wp2
  go_loopw [7,8,24] (fun lv hv i wr=>∃ j:Nat,j≤m∧i = .int .i64 (j:Nat)∧lv = .int .i64 (loAt es j)∧hv = .int .i64 n∧RowKit.Hid (∀ e,e<j→(tupAt es e).v≤v)∧Row wr (w.heap.size+1) 64 #[.int .i64 0, .int .i64 0, .int .i64 0, .int .i64 0, .int .i64 0, .int .i64 0]∧Below w3.heap.size w3 wr) (fun _ _ i _=>m-(intOf i).toNat)
  case atStart=>exact ⟨0,by omega,rfl,rfl,rfl,Lib.hid (fun e he=>absurd he (by omega)),r,b⟩
  case round =>
    clear r b
    obtain ⟨j,hj,rfl,rfl,rfl,HA,r,b⟩:=hrel
    by_cases hlt:j<m
    · obtain ⟨ad,rfl,hadb,ht0⟩:=ent_at RD.out hlt
      have hbb:=HK.out.b j (by rw [HL.out];exact hlt)
      have hIX:=fun (hg:v<(tupAt es j).v)=>rkIdx_eq (v:=v) (es:=es) (k:=j) (by rw [HL.out];exact hj) HA.out (fun _=>hg)
      have hhi:=HHI.out
      have hlo:=HLO.out
      have hsu:loAt es (j+1)=(tupAt es j).g:=rfl
      have hha:j<es.length:=by rw [HL.out];exact hlt
      generalize he:tupAt es j=ee at ht0 hbb
      obtain ⟨ev,eg,ed⟩:=ee
      have HE:=Lib.hid he
      dsimp only at hbb
      rw [he] at hIX hsu
      have HIX:=Lib.hid hIX
      have HSU:=Lib.hid hsu
      have HHA:=Lib.hid hha
      obtain ⟨p0,p1,p2⟩:=ht0.below b (by rw [block_of_add];exact hadb)
      dsimp only at p0 p1 p2
      have i1:(j:Int)<(m:Int):=by omega
      have i2:(0:Int)≤(j:Int):=by omega
      have wd:IntKind.i64.wrap (ed-1)=ed-1:=IntWalk.i64_in _ (by omega)
      clear he hIX hsu ht0 hha hhi hlo
      have zr:=row_lt r
      go_upto_region 8 with (fail)
      have ti:Row (wr.alloc (.cells #[.int .i64 ev, .int .i64 eg, .int .i64 ed] 242)) wr.heap.size 242 #[.int .i64 ev, .int .i64 eg, .int .i64 ed]:=row_new rfl
      replace r:=row_alloc r (.cells #[.int .i64 ev, .int .i64 eg, .int .i64 ed] 242)
      replace b:=b.alloc b.size (.cells #[.int .i64 ev, .int .i64 eg, .int .i64 ed] 242)
      generalize wr.alloc (.cells #[.int .i64 ev, .int .i64 eg, .int .i64 ed] 242)=w4 at r b ti ⊢
      generalize wr.heap.size=tb at ti zr ⊢
      clear p0 p1 p2
      obtain ⟨T0,T1,T2,Tf0,Tf1,Tf2⟩:=row_three ti
      by_cases hg:v<ev
      · have e1:loAt es j=lo:=by have:=HLO.out;unfold rkLo at this;rw [HIX.out hg] at this;exact this
        have e2:ed-1=hi:=by have:=HHI.out;unfold rkHi at this;rw [HIX.out hg] at this;unfold hiAt at this;rw [if_pos HHA.out,HE.out] at this;exact this
        have w2:IntKind.i64.wrap (ed-1)=(hi:Int):=by rw [wd];exact e2
        rw [e1]
        clear e1 e2 wd hbb
        go_upto_region 13 with (go_at_call 139;refine (PW.out _).mono ?_;rintro e w5 ⟨rfl,hb5⟩)
        have r6:=row_alloc (row_call r hb5) (.cells #[.int .i64 lo, .int .i64 1, .int .i64 md, .int .i64 1, .int .i64 hi, .int .i64 1] 64)
        have m6:Row (w5.alloc (.cells #[.int .i64 lo, .int .i64 1, .int .i64 md, .int .i64 1, .int .i64 hi, .int .i64 1] 64)) w5.heap.size 64 #[.int .i64 lo, .int .i64 1, .int .i64 md, .int .i64 1, .int .i64 hi, .int .i64 1]:=row_new rfl
        have o6:=(o.trans ((b.trans (hb5.mono b.size)).mono o.size)).alloc (o.trans ((b.trans (hb5.mono b.size)).mono o.size)).size (.cells #[.int .i64 lo, .int .i64 1, .int .i64 md, .int .i64 1, .int .i64 hi, .int .i64 1] 64)
        generalize w5.alloc (.cells #[.int .i64 lo, .int .i64 1, .int .i64 md, .int .i64 1, .int .i64 hi, .int .i64 1] 64)=w6 at r6 m6 o6 ⊢
        generalize w5.heap.size=b5 at m6 ⊢
        obtain ⟨R0,R1,R2,R3,R4,R5,Rf0,Rf1,Rf2,Rf3,Rf4,Rf5⟩:=row_six r6
        obtain ⟨M0,M1,M2,M3,M4,M5,Mf0,Mf1,Mf2,Mf3,Mf4,Mf5⟩:=row_six m6
        clear r6 m6 hb5
        go_wp2
        exact bodyPost_ret (v := .tuple #[.agg #[.int .i64 lo, .int .i64 1, .int .i64 md, .int .i64 1, .int .i64 hi, .int .i64 1], .int .i64 0]) (by simp [results,Tryz.results49,go_sem,R0,R1,R2,R3,R4,R5]) rfl ⟨rfl,below_six o6 (by omega) _ _ _ _ _ _⟩
      · have HB:=Lib.hid (fun e (he:e<j+1)=>by
          rcases Nat.lt_or_ge e j with q | q
          · exact HA.out e q
          · rw [show e=j by omega,HE.out];exact Int.not_lt.1 hg)
        have hg2:¬ v<ev:=hg
        clear ti wd hbb
        go_wp2
        go_roundw
        case rel=>exact ⟨j+1,by omega,by go_num,by rw [HSU.out],rfl,HB,r,b⟩
        case measure=>simp [intOf];omega
    · have i1:¬ (j:Int)<(m:Int):=by omega
      obtain rfl:j=m:=by omega
      have ix:=rkIdx_eq (v:=v) (es:=es) (k:=j) (by rw [HL.out];exact Nat.le_refl _) HA.out (fun h=>by rw [HL.out] at h;exact absurd h (by omega))
      have e1:loAt es j=lo:=by have:=HLO.out;unfold rkLo at this;rw [ix] at this;exact this
      have e2:n=hi:=by have:=HHI.out;unfold rkHi at this;rw [ix] at this;unfold hiAt at this;rw [if_neg (by rw [HL.out];omega)] at this;exact this
      rw [e1,e2]
      clear e1 ix
      go_upto_region 13 with (go_at_call 139;refine (PW.out _).mono ?_;rintro e w5 ⟨rfl,hb5⟩)
      have r6:=row_alloc (row_call r hb5) (.cells #[.int .i64 lo, .int .i64 1, .int .i64 md, .int .i64 1, .int .i64 hi, .int .i64 1] 64)
      have m6:Row (w5.alloc (.cells #[.int .i64 lo, .int .i64 1, .int .i64 md, .int .i64 1, .int .i64 hi, .int .i64 1] 64)) w5.heap.size 64 #[.int .i64 lo, .int .i64 1, .int .i64 md, .int .i64 1, .int .i64 hi, .int .i64 1]:=row_new rfl
      have o6:=(o.trans ((b.trans (hb5.mono b.size)).mono o.size)).alloc (o.trans ((b.trans (hb5.mono b.size)).mono o.size)).size (.cells #[.int .i64 lo, .int .i64 1, .int .i64 md, .int .i64 1, .int .i64 hi, .int .i64 1] 64)
      generalize w5.alloc (.cells #[.int .i64 lo, .int .i64 1, .int .i64 md, .int .i64 1, .int .i64 hi, .int .i64 1] 64)=w6 at r6 m6 o6 ⊢
      generalize w5.heap.size=b5 at m6 ⊢
      obtain ⟨R0,R1,R2,R3,R4,R5,Rf0,Rf1,Rf2,Rf3,Rf4,Rf5⟩:=row_six r6
      obtain ⟨M0,M1,M2,M3,M4,M5,Mf0,Mf1,Mf2,Mf3,Mf4,Mf5⟩:=row_six m6
      clear r6 m6 hb5
      go_wp2
      exact bodyPost_ret (v := .tuple #[.agg #[.int .i64 lo, .int .i64 1, .int .i64 md, .int .i64 1, .int .i64 hi, .int .i64 1], .int .i64 0]) (by simp [results,Tryz.results49,go_sem,R0,R1,R2,R3,R4,R5]) rfl ⟨rfl,below_six o6 (by omega) _ _ _ _ _ _⟩
end Go.Proofs.YtdipoojjlddohaaGreat
end
