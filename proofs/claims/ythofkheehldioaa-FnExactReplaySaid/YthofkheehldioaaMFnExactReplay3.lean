/- Walks over models, part 3: lawFnExactReplay. -/
import Derived.Test.YthofkheehldioaaPFnExactReplayx0
import Derived.Deep.RegionHeld3
import Derived.Lib.Strings
import Derived.Laws.BytesArg
import Derived.Test.YthofkheehldioaaPFnExactReplayx19
import Derived.Test.YthofkheehldioaaPFnExactReplayx22
import Derived.Test.YthofkheehldioaaPFnExactReplayx20
import Derived.Test.YthofkheehldioaaPFnExactReplayx23
import Derived.Test.YthofkheehldioaaPFnExactReplayx89
import Derived.Test.YthofkheehldioaaPFnExactReplayx90
import Derived.Test.YthofkheehldioaaPFnExactReplayx84
import Derived.Test.YthofkheehldioaaMFnExactReplay0
import Derived.Test.YthofkheehldioaaMFnExactReplay1
import Derived.Test.YthofkheehldioaaMFnExactReplay2
namespace Go.Proofs.Ythofkheehldioaa.PFnExactReplay
open Go.RowKit Go.Proofs.YthofkheehldioaaW.PrintWords Go.Proofs.YthofkheehldioaaW.PrintLast Go.Proofs.YthofkheehldioaaW.PrintMore
set_option linter.unusedVariables false
set_option linter.unusedSimpArgs false
set_option maxHeartbeats 4000000
set_option maxRecDepth 100000
attribute [local go_sem] leq_str geq_str gtr_str
def laws_FnExactReplay.T14 : Bool × List (List Nat × List Nat):=(true,[([],[]),([],[]),([1],[1]),([0,2,2],[0,2]),([3],[3])])
def laws_FnExactReplay.B14 : List Nat:=[0,0,2,7,15]
theorem laws_FnExactReplay.tab14 : rtab .any (opsOf Try.f5 14)=laws_FnExactReplay.T14:=by kernel_rfl
theorem laws_FnExactReplay.bits14 : waitsOk laws_FnExactReplay.T14.2 laws_FnExactReplay.B14=true:=by kernel_rfl
theorem laws_FnExactReplay.M (a b : ByteArray) (AP : Option Addr) (cP : Nat) (ps : List S114) (AS : Option Addr) (cS : Nat) (ss : List S123) (t : Bool) (c : ByteArray) (A1 : Option Addr) (c1 : Nat) (es : List S31) (w : World) (hrp : Kd.C k114 w AP ps.length ps) (hrs : Kd.C k123 w AS ss.length ss) (hr1 : Kd.C k31 w A1 es.length es) (hs : (a.size≤9223372036854775807∧b.size≤9223372036854775807∧c.size≤9223372036854775807∧∀ y ∈ ps,y.f0.size≤9223372036854775807)∧∀ y ∈ es,y.f2.f1.size≤9223372036854775807) : Calls Try.prog 5 #[.agg #[.string a,.string b,.slice AP ps.length cP,.slice AS ss.length cS,.bool t,.string c],.slice A1 es.length c1] w fun e w'=>e=.returned (.bool true)∧Below w.heap.size w w':=by
 have B:=Aside0.mk (Below.refl w.heap.size w)
 have hu:=Try.underlying38
 have hu2:=Try.underlying27
 have hu3:=Try.underlying31
 obtain ⟨hs,hes⟩:=hs
 have HES:=Aside0.mk hes
 have HR1:=Aside0.mk hr1
 clear hes hr1
 by_cases hsz : ps.length≤1048576∧ss.length≤1048576∧es.length≤1048576
 ·obtain ⟨hl1,hl2,hl3⟩:=hsz
  have hsa : (0 : Int)≤1:=by omega
  have hsb : (1 : Int)≤1000000000000:=by omega
  have HRP:=Aside0.mk hrp
  have HRS:=Aside0.mk hrs
  have HSA:=Aside0.mk hs
  clear hrp hrs hs
  obtain ⟨qs,hqs⟩ : ∃ qs,ps.map prOf=qs:=⟨_,rfl⟩
  obtain ⟨us,hus⟩ : ∃ us,ss.map sesOf=us:=⟨_,rfl⟩
  have HQS:=Aside0.mk hqs
  have HUS:=Aside0.mk hus
  have hql : qs.length≤1048576:=by rw [← hqs,List.length_map];exact hl1
  have hul : us.length≤1048576:=by rw [← hus,List.length_map];exact hl2
  clear hqs hus
  obtain ⟨vs,hvs⟩ : ∃ vs,es.map enOf=vs:=⟨_,rfl⟩
  have hvl : vs.length≤1048576:=by rw [← hvs,List.length_map];exact hl3
  have HVS:=Aside0.mk hvs
  clear hvs
  obtain ⟨hx1,hx2,hx3⟩:=rpM_len ⟨a,b,qs,us,t,c⟩ vs
  obtain ⟨⟨⟨xa,xb,xp,xs,xt,xc⟩,rr⟩,hm⟩ : ∃ r,rpM ⟨a,b,qs,us,t,c⟩ vs=r:=⟨_,rfl⟩
  have HM:=Aside0.mk hm
  rw [hm] at hx1 hx2 hx3
  replace hx1 : xp.length≤48:=hx1
  replace hx2 : xs.length≤4:=hx2
  replace hx3 : rr.length≤24:=hx3
  clear hm
  have hy1 : xp.length≤2097152:=by omega
  have hy2 : xs.length≤2097152:=by omega
  have hy3 : rr.length≤2097152:=by omega
  have hy5 : qs.length≤2097152:=by omega
  have hy6 : us.length≤2097152:=by omega
  have hy7 : vs.length≤2097152:=by omega
  have : 0≤(1 + 2 * (qs.length : Int) + 3 * (us.length : Int)):=by omega
  have : (1 + 2 * (qs.length : Int) + 3 * (us.length : Int))≤1000000000000:=by omega
  have : decide ((1 + 2 * (qs.length : Int) + 3 * (us.length : Int)) < 0)=false:=decide_eq_false (by omega)
  have : (1 + 2 * (qs.length : Int) + 3 * (us.length : Int))≤1099511627776:=by omega
  have : 0≤((1 + 2 * (qs.length : Int) + 3 * (us.length : Int)) + 6 * (vs.length : Int)):=by omega
  have : ((1 + 2 * (qs.length : Int) + 3 * (us.length : Int)) + 6 * (vs.length : Int))≤1000000000000:=by omega
  have : decide (((1 + 2 * (qs.length : Int) + 3 * (us.length : Int)) + 6 * (vs.length : Int)) < 0)=false:=decide_eq_false (by omega)
  have : ((1 + 2 * (qs.length : Int) + 3 * (us.length : Int)) + 6 * (vs.length : Int))≤1099511627776:=by omega
  have : 0≤(1 + 2 * (xp.length : Int) + 3 * (xs.length : Int)):=by omega
  have : (1 + 2 * (xp.length : Int) + 3 * (xs.length : Int))≤1000000000000:=by omega
  have : decide ((1 + 2 * (xp.length : Int) + 3 * (xs.length : Int)) < 0)=false:=decide_eq_false (by omega)
  have : (1 + 2 * (xp.length : Int) + 3 * (xs.length : Int))≤1099511627776:=by omega
  have : 0≤((1 + 2 * (xp.length : Int) + 3 * (xs.length : Int)) + (rr.length : Int)):=by omega
  have : ((1 + 2 * (xp.length : Int) + 3 * (xs.length : Int)) + (rr.length : Int))≤1000000000000:=by omega
  have : decide (((1 + 2 * (xp.length : Int) + 3 * (xs.length : Int)) + (rr.length : Int)) < 0)=false:=decide_eq_false (by omega)
  have : ((1 + 2 * (xp.length : Int) + 3 * (xs.length : Int)) + (rr.length : Int))≤1099511627776:=by omega
  clear hx1 hx2 hx3
  go_enter Try.func5,Try.ntmps5
  go_wp2_with (first
   | ((with_reducible refine gate_dst (N:=2) rfl ?_);refine bxq 2 #[.string a,.string b,.slice AP ps.length cP,.slice AS ss.length cS,.bool t,.string c] 27 B fun g2 w1 hb B F2 L2 E2=>?_;obtain ⟨c2_0,c2_1,c2_2,c2_3,c2_4,c2_5⟩:=cs6 F2;clear hb E2)
   | (go_at_call 7;with_reducible refine cx (laws_szState.M a b _ _ ps _ _ ss t c 1048576 w1 (cb HRP B) (cb HRS B) (by omega) HSA.out) B fun v2 hv2 w2 hb B=>?_;replace F2:=bn F2 hb;clear c2_0 c2_1 c2_2 c2_3 c2_4 c2_5;obtain ⟨c2_0,c2_1,c2_2,c2_3,c2_4,c2_5⟩:=cs6 F2;clear hb)
   | (go_at_call 22;with_reducible refine cx (laws_szEntryS.M _ _ es v2 w2 (cb HR1 B) (by omega) HES.out) B fun v3 hv3 w3 hb B=>?_;replace F2:=bn F2 hb;clear c2_0 c2_1 c2_2 c2_3 c2_4 c2_5;obtain ⟨c2_0,c2_1,c2_2,c2_3,c2_4,c2_5⟩:=cs6 F2;clear hb)
   | (go_at_call 10;with_reducible refine c2r (laws_toState.M a b _ _ ps _ _ ss t c qs us w3 (cb HRP B) (cb HRS B) ⟨by omega,by omega⟩ HQS.out HUS.out) B fun AP4 kP4 AS4 kS4 w4 hb B RP4 QP4 RS4 QS4=>?_;replace F2:=bn F2 hb;clear QP4 QS4;clear c2_0 c2_1 c2_2 c2_3 c2_4 c2_5;obtain ⟨c2_0,c2_1,c2_2,c2_3,c2_4,c2_5⟩:=cs6 F2;clear hb)
   | (go_at_call 24;with_reducible refine cr (laws_toEntryS.M _ _ es vs w4 (cb HR1 B) (by assumption) HVS.out) B fun AE5 kE5 w5 hb B RE5 QE5=>?_;have DP4_E5:=fr QE5 RP4;have DS4_E5:=fr QE5 RS4;replace F2:=bn F2 hb;replace RP4:=rn RP4 hb;replace RS4:=rn RS4 hb;clear QE5;clear c2_0 c2_1 c2_2 c2_3 c2_4 c2_5;obtain ⟨c2_0,c2_1,c2_2,c2_3,c2_4,c2_5⟩:=cs6 F2;clear hb)
   | (go_at_call 23;with_reducible refine c3r (spec_Replay.Mr a b _ _ qs _ _ us t c _ _ vs xa xb xp xs xt xc rr HM.out w5 (rc RP4) (rc RS4) (rl RP4) (rl RS4) (rc RE5)) B fun AP6 kP6 AS6 kS6 AN6 kN6 w6 hb B RP6 QP6 RS6 QS6 RN6 QN6=>?_;have DP4_P6:=fr QP6 RP4;have DS4_P6:=fr QP6 RS4;have DE5_P6:=fr QP6 RE5;have DP4_S6:=fr QS6 RP4;have DS4_S6:=fr QS6 RS4;have DE5_S6:=fr QS6 RE5;have DP4_N6:=fr QN6 RP4;have DS4_N6:=fr QN6 RS4;have DE5_N6:=fr QN6 RE5;replace F2:=bn F2 hb;clear QP6 QS6 QN6;clear c2_0 c2_1 c2_2 c2_3 c2_4 c2_5;obtain ⟨c2_0,c2_1,c2_2,c2_3,c2_4,c2_5⟩:=cs6 F2;clear hb)
   | ((with_reducible refine gate_dst (N:=6) rfl ?_);refine bxq 6 #[.string (⟨#[]⟩ : ByteArray),.string (⟨#[]⟩ : ByteArray),.slice none 0 0,.slice none 0 0,.bool false,.string (⟨#[]⟩ : ByteArray)] 38 B fun g6 w7 hb B F6 L6 E6=>?_;have N2_6:=ne1 E6 F2;replace F2:=bn F2 hb;replace RP6:=rn RP6 hb;replace RS6:=rn RS6 hb;replace RN6:=rn RN6 hb;clear c2_0 c2_1 c2_2 c2_3 c2_4 c2_5;obtain ⟨c2_0,c2_1,c2_2,c2_3,c2_4,c2_5⟩:=cs6 F2;obtain ⟨c6_0,c6_1,c6_2,c6_3,c6_4,c6_5⟩:=cs6 F6;clear hb E6)
   | ((with_reducible refine gate_store (t:=38) (p:=6) rfl ?_);obtain ⟨y0,y1,y2,y3,y4,y5,z0,z1,z2,z3,z4,z5⟩:=cz6 F6;refine sxq 38 38 6 0 [.string xa,.string xb,.slice AP6 xp.length kP6,.slice AS6 xs.length kS6,.bool xt,.string xc] [.string xa,.string xb,.slice AP6 xp.length kP6,.slice AS6 xs.length kS6,.bool xt,.string xc] B F6 L6 fun w8 hk B G=>?_;replace F2:=bk F2 hk N2_6.out;replace RP6:=rk RP6 F6 (by decide) hk;replace RS6:=rk RS6 F6 (by decide) hk;replace RN6:=rk RN6 F6 (by decide) hk;replace F6:=G;clear c2_0 c2_1 c2_2 c2_3 c2_4 c2_5;obtain ⟨c2_0,c2_1,c2_2,c2_3,c2_4,c2_5⟩:=cs6 F2;clear c6_0 c6_1 c6_2 c6_3 c6_4 c6_5;obtain ⟨c6_0,c6_1,c6_2,c6_3,c6_4,c6_5⟩:=cs6 F6;clear hk y0 z0 y1 z1 y2 z2 y3 z3 y4 z4 y5 z5)
   | (go_at_call 10;with_reducible refine c2r (laws_toState.M a b _ _ ps _ _ ss t c qs us w8 (cb HRP B) (cb HRS B) ⟨by omega,by omega⟩ HQS.out HUS.out) B fun AP9 kP9 AS9 kS9 w9 hb B RP9 QP9 RS9 QS9=>?_;have DP6_P9:=fr QP9 RP6;have DS6_P9:=fr QP9 RS6;have DN6_P9:=fr QP9 RN6;have DP6_S9:=fr QS9 RP6;have DS6_S9:=fr QS9 RS6;have DN6_S9:=fr QS9 RN6;replace F2:=bn F2 hb;replace F6:=bn F6 hb;replace RP6:=rn RP6 hb;replace RS6:=rn RS6 hb;replace RN6:=rn RN6 hb;clear QP9 QS9;clear c2_0 c2_1 c2_2 c2_3 c2_4 c2_5;obtain ⟨c2_0,c2_1,c2_2,c2_3,c2_4,c2_5⟩:=cs6 F2;clear c6_0 c6_1 c6_2 c6_3 c6_4 c6_5;obtain ⟨c6_0,c6_1,c6_2,c6_3,c6_4,c6_5⟩:=cs6 F6;clear hb)
   | ((with_reducible refine gate_dst (N:=8) rfl ?_);refine bxq 8 #[.string (⟨#[]⟩ : ByteArray),.string (⟨#[]⟩ : ByteArray),.slice none 0 0,.slice none 0 0,.bool false,.string (⟨#[]⟩ : ByteArray)] 38 B fun g8 w10 hb B F8 L8 E8=>?_;have N2_8:=ne1 E8 F2;have N6_8:=ne1 E8 F6;replace F2:=bn F2 hb;replace F6:=bn F6 hb;replace RP6:=rn RP6 hb;replace RS6:=rn RS6 hb;replace RN6:=rn RN6 hb;replace RP9:=rn RP9 hb;replace RS9:=rn RS9 hb;clear c2_0 c2_1 c2_2 c2_3 c2_4 c2_5;obtain ⟨c2_0,c2_1,c2_2,c2_3,c2_4,c2_5⟩:=cs6 F2;clear c6_0 c6_1 c6_2 c6_3 c6_4 c6_5;obtain ⟨c6_0,c6_1,c6_2,c6_3,c6_4,c6_5⟩:=cs6 F6;obtain ⟨c8_0,c8_1,c8_2,c8_3,c8_4,c8_5⟩:=cs6 F8;clear hb E8)
   | ((with_reducible refine gate_store (t:=38) (p:=8) rfl ?_);obtain ⟨y0,y1,y2,y3,y4,y5,z0,z1,z2,z3,z4,z5⟩:=cz6 F8;refine sxq 38 38 8 0 [.string a,.string b,.slice AP9 qs.length kP9,.slice AS9 us.length kS9,.bool t,.string c] [.string a,.string b,.slice AP9 qs.length kP9,.slice AS9 us.length kS9,.bool t,.string c] B F8 L8 fun w11 hk B G=>?_;replace F2:=bk F2 hk N2_8.out;replace F6:=bk F6 hk N6_8.out;replace RP6:=rk RP6 F8 (by decide) hk;replace RS6:=rk RS6 F8 (by decide) hk;replace RN6:=rk RN6 F8 (by decide) hk;replace RP9:=rk RP9 F8 (by decide) hk;replace RS9:=rk RS9 F8 (by decide) hk;replace F8:=G;clear c2_0 c2_1 c2_2 c2_3 c2_4 c2_5;obtain ⟨c2_0,c2_1,c2_2,c2_3,c2_4,c2_5⟩:=cs6 F2;clear c6_0 c6_1 c6_2 c6_3 c6_4 c6_5;obtain ⟨c6_0,c6_1,c6_2,c6_3,c6_4,c6_5⟩:=cs6 F6;clear c8_0 c8_1 c8_2 c8_3 c8_4 c8_5;obtain ⟨c8_0,c8_1,c8_2,c8_3,c8_4,c8_5⟩:=cs6 F8;clear hk y0 z0 y1 z1 y2 z2 y3 z3 y4 z4 y5 z5)
   | (go_at_call 24;with_reducible refine cr (laws_toEntryS.M _ _ es vs w11 (cb HR1 B) (by assumption) HVS.out) B fun AE12 kE12 w12 hb B RE12 QE12=>?_;have DP6_E12:=fr QE12 RP6;have DS6_E12:=fr QE12 RS6;have DN6_E12:=fr QE12 RN6;have DP9_E12:=fr QE12 RP9;have DS9_E12:=fr QE12 RS9;replace F2:=bn F2 hb;replace F6:=bn F6 hb;replace F8:=bn F8 hb;replace RP6:=rn RP6 hb;replace RS6:=rn RS6 hb;replace RN6:=rn RN6 hb;replace RP9:=rn RP9 hb;replace RS9:=rn RS9 hb;clear QE12;clear c2_0 c2_1 c2_2 c2_3 c2_4 c2_5;obtain ⟨c2_0,c2_1,c2_2,c2_3,c2_4,c2_5⟩:=cs6 F2;clear c6_0 c6_1 c6_2 c6_3 c6_4 c6_5;obtain ⟨c6_0,c6_1,c6_2,c6_3,c6_4,c6_5⟩:=cs6 F6;clear c8_0 c8_1 c8_2 c8_3 c8_4 c8_5;obtain ⟨c8_0,c8_1,c8_2,c8_3,c8_4,c8_5⟩:=cs6 F8;clear hb)
   | (go_at_call 25;with_reducible refine c3r (impl_Replay.Mr a b _ _ qs _ _ us t c _ _ vs xa xb xp xs xt xc rr HM.out w12 (rc RP9) (rc RS9) (rl RP9) (rl RS9) (rc RE12)) B fun AP13 kP13 AS13 kS13 AN13 kN13 w13 hb B RP13 QP13 RS13 QS13 RN13 QN13=>?_;have DP6_P13:=fr QP13 RP6;have DS6_P13:=fr QP13 RS6;have DN6_P13:=fr QP13 RN6;have DP9_P13:=fr QP13 RP9;have DS9_P13:=fr QP13 RS9;have DE12_P13:=fr QP13 RE12;have DP6_S13:=fr QS13 RP6;have DS6_S13:=fr QS13 RS6;have DN6_S13:=fr QS13 RN6;have DP9_S13:=fr QS13 RP9;have DS9_S13:=fr QS13 RS9;have DE12_S13:=fr QS13 RE12;have DP6_N13:=fr QN13 RP6;have DS6_N13:=fr QN13 RS6;have DN6_N13:=fr QN13 RN6;have DP9_N13:=fr QN13 RP9;have DS9_N13:=fr QN13 RS9;have DE12_N13:=fr QN13 RE12;replace F2:=bn F2 hb;replace F6:=bn F6 hb;replace F8:=bn F8 hb;replace RP6:=rn RP6 hb;replace RS6:=rn RS6 hb;replace RN6:=rn RN6 hb;replace RP9:=rn RP9 hb;replace RS9:=rn RS9 hb;replace RE12:=rn RE12 hb;clear QP13 QS13 QN13;clear c2_0 c2_1 c2_2 c2_3 c2_4 c2_5;obtain ⟨c2_0,c2_1,c2_2,c2_3,c2_4,c2_5⟩:=cs6 F2;clear c6_0 c6_1 c6_2 c6_3 c6_4 c6_5;obtain ⟨c6_0,c6_1,c6_2,c6_3,c6_4,c6_5⟩:=cs6 F6;clear c8_0 c8_1 c8_2 c8_3 c8_4 c8_5;obtain ⟨c8_0,c8_1,c8_2,c8_3,c8_4,c8_5⟩:=cs6 F8;clear hb)
   | ((with_reducible refine gate_dst (N:=10) rfl ?_);refine bxq 10 #[.string (⟨#[]⟩ : ByteArray),.string (⟨#[]⟩ : ByteArray),.slice none 0 0,.slice none 0 0,.bool false,.string (⟨#[]⟩ : ByteArray)] 38 B fun g10 w14 hb B F10 L10 E10=>?_;have N2_10:=ne1 E10 F2;have N6_10:=ne1 E10 F6;have N8_10:=ne1 E10 F8;replace F2:=bn F2 hb;replace F6:=bn F6 hb;replace F8:=bn F8 hb;replace RP6:=rn RP6 hb;replace RS6:=rn RS6 hb;replace RN6:=rn RN6 hb;replace RP9:=rn RP9 hb;replace RS9:=rn RS9 hb;replace RE12:=rn RE12 hb;replace RP13:=rn RP13 hb;replace RS13:=rn RS13 hb;replace RN13:=rn RN13 hb;clear c2_0 c2_1 c2_2 c2_3 c2_4 c2_5;obtain ⟨c2_0,c2_1,c2_2,c2_3,c2_4,c2_5⟩:=cs6 F2;clear c6_0 c6_1 c6_2 c6_3 c6_4 c6_5;obtain ⟨c6_0,c6_1,c6_2,c6_3,c6_4,c6_5⟩:=cs6 F6;clear c8_0 c8_1 c8_2 c8_3 c8_4 c8_5;obtain ⟨c8_0,c8_1,c8_2,c8_3,c8_4,c8_5⟩:=cs6 F8;obtain ⟨c10_0,c10_1,c10_2,c10_3,c10_4,c10_5⟩:=cs6 F10;clear hb E10)
   | ((with_reducible refine gate_store (t:=38) (p:=10) rfl ?_);obtain ⟨y0,y1,y2,y3,y4,y5,z0,z1,z2,z3,z4,z5⟩:=cz6 F10;refine sxq 38 38 10 0 [.string xa,.string xb,.slice AP13 xp.length kP13,.slice AS13 xs.length kS13,.bool xt,.string xc] [.string xa,.string xb,.slice AP13 xp.length kP13,.slice AS13 xs.length kS13,.bool xt,.string xc] B F10 L10 fun w15 hk B G=>?_;replace F2:=bk F2 hk N2_10.out;replace F6:=bk F6 hk N6_10.out;replace F8:=bk F8 hk N8_10.out;replace RP6:=rk RP6 F10 (by decide) hk;replace RS6:=rk RS6 F10 (by decide) hk;replace RN6:=rk RN6 F10 (by decide) hk;replace RP9:=rk RP9 F10 (by decide) hk;replace RS9:=rk RS9 F10 (by decide) hk;replace RE12:=rk RE12 F10 (by decide) hk;replace RP13:=rk RP13 F10 (by decide) hk;replace RS13:=rk RS13 F10 (by decide) hk;replace RN13:=rk RN13 F10 (by decide) hk;replace F10:=G;clear c2_0 c2_1 c2_2 c2_3 c2_4 c2_5;obtain ⟨c2_0,c2_1,c2_2,c2_3,c2_4,c2_5⟩:=cs6 F2;clear c6_0 c6_1 c6_2 c6_3 c6_4 c6_5;obtain ⟨c6_0,c6_1,c6_2,c6_3,c6_4,c6_5⟩:=cs6 F6;clear c8_0 c8_1 c8_2 c8_3 c8_4 c8_5;obtain ⟨c8_0,c8_1,c8_2,c8_3,c8_4,c8_5⟩:=cs6 F8;clear c10_0 c10_1 c10_2 c10_3 c10_4 c10_5;obtain ⟨c10_0,c10_1,c10_2,c10_3,c10_4,c10_5⟩:=cs6 F10;clear hk y0 z0 y1 z1 y2 z2 y3 z3 y4 z4 y5 z5)
   | (go_at_call 13;with_reducible refine cl (laws_eqState.M xa xb _ _ _ _ xp _ _ _ _ xs xt xc w15 (rc RP13) (rc RP6) (rc RS13) (rc RS6)) B fun w16 hb B=>?_;replace F2:=bn F2 hb;replace F6:=bn F6 hb;replace F8:=bn F8 hb;replace F10:=bn F10 hb;replace RP6:=rn RP6 hb;replace RS6:=rn RS6 hb;replace RN6:=rn RN6 hb;replace RP9:=rn RP9 hb;replace RS9:=rn RS9 hb;replace RE12:=rn RE12 hb;replace RP13:=rn RP13 hb;replace RS13:=rn RS13 hb;replace RN13:=rn RN13 hb;clear c2_0 c2_1 c2_2 c2_3 c2_4 c2_5;obtain ⟨c2_0,c2_1,c2_2,c2_3,c2_4,c2_5⟩:=cs6 F2;clear c6_0 c6_1 c6_2 c6_3 c6_4 c6_5;obtain ⟨c6_0,c6_1,c6_2,c6_3,c6_4,c6_5⟩:=cs6 F6;clear c8_0 c8_1 c8_2 c8_3 c8_4 c8_5;obtain ⟨c8_0,c8_1,c8_2,c8_3,c8_4,c8_5⟩:=cs6 F8;clear c10_0 c10_1 c10_2 c10_3 c10_4 c10_5;obtain ⟨c10_0,c10_1,c10_2,c10_3,c10_4,c10_5⟩:=cs6 F10;clear hb)
   | (go_at_call 26;with_reducible refine cl (laws_eqIntS.M _ _ _ _ rr w16 (rc RN13) (rl RN13) (rc RN6) (rl RN6) (by assumption)) B fun w17 hb B=>?_;replace F2:=bn F2 hb;replace F6:=bn F6 hb;replace F8:=bn F8 hb;replace F10:=bn F10 hb;replace RP6:=rn RP6 hb;replace RS6:=rn RS6 hb;replace RN6:=rn RN6 hb;replace RP9:=rn RP9 hb;replace RS9:=rn RS9 hb;replace RE12:=rn RE12 hb;replace RP13:=rn RP13 hb;replace RS13:=rn RS13 hb;replace RN13:=rn RN13 hb;clear c2_0 c2_1 c2_2 c2_3 c2_4 c2_5;obtain ⟨c2_0,c2_1,c2_2,c2_3,c2_4,c2_5⟩:=cs6 F2;clear c6_0 c6_1 c6_2 c6_3 c6_4 c6_5;obtain ⟨c6_0,c6_1,c6_2,c6_3,c6_4,c6_5⟩:=cs6 F6;clear c8_0 c8_1 c8_2 c8_3 c8_4 c8_5;obtain ⟨c8_0,c8_1,c8_2,c8_3,c8_4,c8_5⟩:=cs6 F8;clear c10_0 c10_1 c10_2 c10_3 c10_4 c10_5;obtain ⟨c10_0,c10_1,c10_2,c10_3,c10_4,c10_5⟩:=cs6 F10;clear hb))
  all_goals try (go_ret;exact ⟨rfl,B.out⟩)
  all_goals (
   refine rg (n:=5) (S:=fun W=>W.heap[g8]?=some (.cells #[.string a,.string b,.slice AP9 qs.length kP9,.slice AS9 us.length kS9,.bool t,.string c] 38 (0,0))∧W.heap[g2]?=some (.cells #[.string a,.string b,.slice AP ps.length cP,.slice AS ss.length cS,.bool t,.string c] 27 (0,0))) (ds:=[]) #[false,false,false,false,false] (by kernel_rfl) rfl rfl ⟨F8.out,F2.out⟩ id B (fun w18 hb B hHeld=>?_)
   refine with_tabW laws_FnExactReplay.tab14 laws_FnExactReplay.bits14 (fun HT_ HW_=>?_)
   replace F2:=bn F2 hb
   replace F6:=bn F6 hb
   replace F8:=bn F8 hb
   replace F10:=bn F10 hb
   replace RP6:=rn RP6 hb
   replace RS6:=rn RS6 hb
   replace RN6:=rn RN6 hb
   replace RP9:=rn RP9 hb
   replace RS9:=rn RS9 hb
   replace RE12:=rn RE12 hb
   replace RP13:=rn RP13 hb
   replace RS13:=rn RS13 hb
   replace RN13:=rn RN13 hb
   clear hb
   refine tvq 0 (some 55) (bits 5 1) HT_ HW_ rfl hHeld (by intro w' hS;obtain ⟨s0,s1⟩:=hS;obtain ⟨q0,q1,q2,q3,q4,q5⟩:=cs6 (Aside0.mk s0);go_simp;with_reducible rfl) ?_
   refine tvq 1 (some 56) (bits 5 3) HT_ HW_ rfl hHeld (by intro w' hS;obtain ⟨s0,s1⟩:=hS;obtain ⟨q0,q1,q2,q3,q4,q5⟩:=cs6 (Aside0.mk s1);go_simp;with_reducible rfl) ?_
   refine nmq ?_
   refine one_ (i:=2) (N:=some 57) (bits 5 7) rfl rfl (one_of HT_.out (by kernel_rfl)) (by decide) (fun K hK=>?_)
   refine gsq Try.func10 #[.agg #[.string a,.string b,.slice AP ps.length cP,.slice AS ss.length cS,.bool t,.string c]] ?_
   with_reducible refine c2r (laws_toState.M a b _ _ ps _ _ ss t c qs us w18 (cb HRP B) (cb HRS B) ⟨by omega,by omega⟩ HQS.out HUS.out) B fun AP19 kP19 AS19 kS19 w19 hb B RP19 QP19 RS19 QS19=>?_
   have DP6_P19:=fr QP19 RP6
   have DS6_P19:=fr QP19 RS6
   have DN6_P19:=fr QP19 RN6
   have DP9_P19:=fr QP19 RP9
   have DS9_P19:=fr QP19 RS9
   have DE12_P19:=fr QP19 RE12
   have DP13_P19:=fr QP19 RP13
   have DS13_P19:=fr QP19 RS13
   have DN13_P19:=fr QP19 RN13
   have DP6_S19:=fr QS19 RP6
   have DS6_S19:=fr QS19 RS6
   have DN6_S19:=fr QS19 RN6
   have DP9_S19:=fr QS19 RP9
   have DS9_S19:=fr QS19 RS9
   have DE12_S19:=fr QS19 RE12
   have DP13_S19:=fr QS19 RP13
   have DS13_S19:=fr QS19 RS13
   have DN13_S19:=fr QS19 RN13
   replace F2:=bn F2 hb
   replace F6:=bn F6 hb
   replace F8:=bn F8 hb
   replace F10:=bn F10 hb
   replace RP6:=rn RP6 hb
   replace RS6:=rn RS6 hb
   replace RN6:=rn RN6 hb
   replace RP9:=rn RP9 hb
   replace RS9:=rn RS9 hb
   replace RE12:=rn RE12 hb
   replace RP13:=rn RP13 hb
   replace RS13:=rn RS13 hb
   replace RN13:=rn RN13 hb
   clear hb
   refine ⟨_,rfl,?_⟩
   refine hK.out _ _ ⟨F8.out,F2.out⟩ (fun hHeld=>?_)
   clear hK K
   refine npq (some 57) ?_
   clear QP19 QS19
   refine one_ (i:=3) (N:=some 58) (bits 5 15) rfl rfl (one_of HT_.out (by kernel_rfl)) (by decide) (fun K hK=>?_)
   refine gsq Try.func13 #[.agg #[.string a,.string b,.slice AP9 qs.length kP9,.slice AS9 us.length kS9,.bool t,.string c],.agg #[.string a,.string b,.slice AP19 qs.length kP19,.slice AS19 us.length kS19,.bool t,.string c]] ?_
   with_reducible refine cl (laws_eqState.M a b _ _ _ _ qs _ _ _ _ us t c w19 (rc RP9) (rc RP19) (rc RS9) (rc RS19)) B fun w20 hb B=>?_
   replace F2:=bn F2 hb
   replace F6:=bn F6 hb
   replace F8:=bn F8 hb
   replace F10:=bn F10 hb
   replace RP6:=rn RP6 hb
   replace RS6:=rn RS6 hb
   replace RN6:=rn RN6 hb
   replace RP9:=rn RP9 hb
   replace RS9:=rn RS9 hb
   replace RE12:=rn RE12 hb
   replace RP13:=rn RP13 hb
   replace RS13:=rn RS13 hb
   replace RN13:=rn RN13 hb
   clear hb
   refine ⟨_,rfl,?_⟩
   refine hK.out _ _ ⟨F8.out,F2.out⟩ (fun hHeld=>?_)
   clear hK K
   refine npq (some 58) ?_
   refine pvq 4 (some 59) (bits 5 31) HT_ ?_
   refine nmq ?_
   refine done_ (done_of HT_.out (by kernel_rfl)) ?_
   clear c2_0 c2_1 c2_2 c2_3 c2_4 c2_5
   obtain ⟨c2_0,c2_1,c2_2,c2_3,c2_4,c2_5⟩:=cs6 F2
   clear c6_0 c6_1 c6_2 c6_3 c6_4 c6_5
   obtain ⟨c6_0,c6_1,c6_2,c6_3,c6_4,c6_5⟩:=cs6 F6
   clear c8_0 c8_1 c8_2 c8_3 c8_4 c8_5
   obtain ⟨c8_0,c8_1,c8_2,c8_3,c8_4,c8_5⟩:=cs6 F8
   clear c10_0 c10_1 c10_2 c10_3 c10_4 c10_5
   obtain ⟨c10_0,c10_1,c10_2,c10_3,c10_4,c10_5⟩:=cs6 F10)
  all_goals go_wp2_with (first
   | (go_at_call 24;with_reducible refine cr (laws_toEntryS.M _ _ es vs w20 (cb HR1 B) (by assumption) HVS.out) B fun AE21 kE21 w21 hb B RE21 QE21=>?_;have DP6_E21:=fr QE21 RP6;have DS6_E21:=fr QE21 RS6;have DN6_E21:=fr QE21 RN6;have DP9_E21:=fr QE21 RP9;have DS9_E21:=fr QE21 RS9;have DE12_E21:=fr QE21 RE12;have DP13_E21:=fr QE21 RP13;have DS13_E21:=fr QE21 RS13;have DN13_E21:=fr QE21 RN13;replace F2:=bn F2 hb;replace F6:=bn F6 hb;replace F8:=bn F8 hb;replace F10:=bn F10 hb;replace RP6:=rn RP6 hb;replace RS6:=rn RS6 hb;replace RN6:=rn RN6 hb;replace RP9:=rn RP9 hb;replace RS9:=rn RS9 hb;replace RE12:=rn RE12 hb;replace RP13:=rn RP13 hb;replace RS13:=rn RS13 hb;replace RN13:=rn RN13 hb;clear QE21;clear c2_0 c2_1 c2_2 c2_3 c2_4 c2_5;obtain ⟨c2_0,c2_1,c2_2,c2_3,c2_4,c2_5⟩:=cs6 F2;clear c6_0 c6_1 c6_2 c6_3 c6_4 c6_5;obtain ⟨c6_0,c6_1,c6_2,c6_3,c6_4,c6_5⟩:=cs6 F6;clear c8_0 c8_1 c8_2 c8_3 c8_4 c8_5;obtain ⟨c8_0,c8_1,c8_2,c8_3,c8_4,c8_5⟩:=cs6 F8;clear c10_0 c10_1 c10_2 c10_3 c10_4 c10_5;obtain ⟨c10_0,c10_1,c10_2,c10_3,c10_4,c10_5⟩:=cs6 F10;clear hb)
   | (go_at_call 27;with_reducible refine cl (laws_eqEntryS.M _ _ _ _ vs w21 (rc RE12) (rc RE21)) B fun w22 hb B=>?_;replace F2:=bn F2 hb;replace F6:=bn F6 hb;replace F8:=bn F8 hb;replace F10:=bn F10 hb;replace RP6:=rn RP6 hb;replace RS6:=rn RS6 hb;replace RN6:=rn RN6 hb;replace RP9:=rn RP9 hb;replace RS9:=rn RS9 hb;replace RE12:=rn RE12 hb;replace RP13:=rn RP13 hb;replace RS13:=rn RS13 hb;replace RN13:=rn RN13 hb;clear c2_0 c2_1 c2_2 c2_3 c2_4 c2_5;obtain ⟨c2_0,c2_1,c2_2,c2_3,c2_4,c2_5⟩:=cs6 F2;clear c6_0 c6_1 c6_2 c6_3 c6_4 c6_5;obtain ⟨c6_0,c6_1,c6_2,c6_3,c6_4,c6_5⟩:=cs6 F6;clear c8_0 c8_1 c8_2 c8_3 c8_4 c8_5;obtain ⟨c8_0,c8_1,c8_2,c8_3,c8_4,c8_5⟩:=cs6 F8;clear c10_0 c10_1 c10_2 c10_3 c10_4 c10_5;obtain ⟨c10_0,c10_1,c10_2,c10_3,c10_4,c10_5⟩:=cs6 F10;clear hb)
   | (go_at_call 14;with_reducible refine cm2 (laws_markState.M a b _ _ qs _ _ us t c 1 w w22 B RP9 RS9 (by assumption) (by assumption) (by assumption) (by assumption)) fun w23 hk B RX RY=>?_;replace F2:=bkp2 F2 hk RP9 RS9 (by decide) (by decide);replace F6:=bkp2 F6 hk RP9 RS9 (by decide) (by decide);replace F10:=bkp2 F10 hk RP9 RS9 (by decide) (by decide);replace RP6:=rkp2 RP6 rfl hk (fun k p q=>DP6_P9.out k q p) (dty RS9 RP6 (by decide));replace RS6:=rkp2 RS6 rfl hk (dty RP9 RS6 (by decide)) (fun k p q=>DS6_S9.out k q p);replace RN6:=rkp2 RN6 rfl hk (dty RP9 RN6 (by decide)) (dty RS9 RN6 (by decide));replace RE12:=rkp2 RE12 rfl hk (dty RP9 RE12 (by decide)) (dty RS9 RE12 (by decide));replace RP13:=rkp2 RP13 rfl hk DP9_P13.out (dty RS9 RP13 (by decide));replace RS13:=rkp2 RS13 rfl hk (dty RP9 RS13 (by decide)) DS9_S13.out;replace RN13:=rkp2 RN13 rfl hk (dty RP9 RN13 (by decide)) (dty RS9 RN13 (by decide));clear RX;clear RY;clear hk;clear c2_0 c2_1 c2_2 c2_3 c2_4 c2_5;obtain ⟨c2_0,c2_1,c2_2,c2_3,c2_4,c2_5⟩:=cs6 F2;clear c6_0 c6_1 c6_2 c6_3 c6_4 c6_5;obtain ⟨c6_0,c6_1,c6_2,c6_3,c6_4,c6_5⟩:=cs6 F6;clear c10_0 c10_1 c10_2 c10_3 c10_4 c10_5;obtain ⟨c10_0,c10_1,c10_2,c10_3,c10_4,c10_5⟩:=cs6 F10;skip)
   | (go_at_call 28;with_reducible refine cm (laws_markEntryS.M _ vs (1 + 2 * (qs.length : Int) + 3 * (us.length : Int)) w w23 B RE12 (by assumption) (by assumption) (by assumption)) fun w24 hk B RX=>?_;replace F2:=bkp F2 hk RE12 (by decide);replace F6:=bkp F6 hk RE12 (by decide);replace F10:=bkp F10 hk RE12 (by decide);replace RP6:=rkp RP6 rfl hk (dty RE12 RP6 (by decide));replace RS6:=rkp RS6 rfl hk (dty RE12 RS6 (by decide));replace RN6:=rkp RN6 rfl hk (dty RE12 RN6 (by decide));replace RP13:=rkp RP13 rfl hk (dty RE12 RP13 (by decide));replace RS13:=rkp RS13 rfl hk (dty RE12 RS13 (by decide));replace RN13:=rkp RN13 rfl hk (dty RE12 RN13 (by decide));clear RX hk;clear c2_0 c2_1 c2_2 c2_3 c2_4 c2_5;obtain ⟨c2_0,c2_1,c2_2,c2_3,c2_4,c2_5⟩:=cs6 F2;clear c6_0 c6_1 c6_2 c6_3 c6_4 c6_5;obtain ⟨c6_0,c6_1,c6_2,c6_3,c6_4,c6_5⟩:=cs6 F6;clear c10_0 c10_1 c10_2 c10_3 c10_4 c10_5;obtain ⟨c10_0,c10_1,c10_2,c10_3,c10_4,c10_5⟩:=cs6 F10;skip)
   | (go_at_call 13;with_reducible refine cl (laws_eqState.M xa xb _ _ _ _ xp _ _ _ _ xs xt xc w24 (rc RP13) (rc RP6) (rc RS13) (rc RS6)) B fun w25 hb B=>?_;replace F2:=bn F2 hb;replace F6:=bn F6 hb;replace F10:=bn F10 hb;replace RP6:=rn RP6 hb;replace RS6:=rn RS6 hb;replace RN6:=rn RN6 hb;replace RP13:=rn RP13 hb;replace RS13:=rn RS13 hb;replace RN13:=rn RN13 hb;clear c2_0 c2_1 c2_2 c2_3 c2_4 c2_5;obtain ⟨c2_0,c2_1,c2_2,c2_3,c2_4,c2_5⟩:=cs6 F2;clear c6_0 c6_1 c6_2 c6_3 c6_4 c6_5;obtain ⟨c6_0,c6_1,c6_2,c6_3,c6_4,c6_5⟩:=cs6 F6;clear c10_0 c10_1 c10_2 c10_3 c10_4 c10_5;obtain ⟨c10_0,c10_1,c10_2,c10_3,c10_4,c10_5⟩:=cs6 F10;clear hb)
   | (go_at_call 26;with_reducible refine cl (laws_eqIntS.M _ _ _ _ rr w25 (rc RN13) (rl RN13) (rc RN6) (rl RN6) (by assumption)) B fun w26 hb B=>?_;replace F2:=bn F2 hb;replace F6:=bn F6 hb;replace F10:=bn F10 hb;replace RP6:=rn RP6 hb;replace RS6:=rn RS6 hb;replace RN6:=rn RN6 hb;replace RP13:=rn RP13 hb;replace RS13:=rn RS13 hb;replace RN13:=rn RN13 hb;clear c2_0 c2_1 c2_2 c2_3 c2_4 c2_5;obtain ⟨c2_0,c2_1,c2_2,c2_3,c2_4,c2_5⟩:=cs6 F2;clear c6_0 c6_1 c6_2 c6_3 c6_4 c6_5;obtain ⟨c6_0,c6_1,c6_2,c6_3,c6_4,c6_5⟩:=cs6 F6;clear c10_0 c10_1 c10_2 c10_3 c10_4 c10_5;obtain ⟨c10_0,c10_1,c10_2,c10_3,c10_4,c10_5⟩:=cs6 F10;clear hb)
   | (go_at_call 14;with_reducible refine cm2 (laws_markState.M xa xb _ _ xp _ _ xs xt xc 1 w w26 B RP13 RS13 (by assumption) (by assumption) (by assumption) (by assumption)) fun w27 hk B RX RY=>?_;replace F2:=bkp2 F2 hk RP13 RS13 (by decide) (by decide);replace F6:=bkp2 F6 hk RP13 RS13 (by decide) (by decide);replace F10:=bkp2 F10 hk RP13 RS13 (by decide) (by decide);replace RP6:=rkp2 RP6 rfl hk (fun k p q=>DP6_P13.out k q p) (dty RS13 RP6 (by decide));replace RS6:=rkp2 RS6 rfl hk (dty RP13 RS6 (by decide)) (fun k p q=>DS6_S13.out k q p);replace RN6:=rkp2 RN6 rfl hk (dty RP13 RN6 (by decide)) (dty RS13 RN6 (by decide));replace RN13:=rkp2 RN13 rfl hk (dty RP13 RN13 (by decide)) (dty RS13 RN13 (by decide));replace RP13:=RX;replace RS13:=RY;clear hk;clear c2_0 c2_1 c2_2 c2_3 c2_4 c2_5;obtain ⟨c2_0,c2_1,c2_2,c2_3,c2_4,c2_5⟩:=cs6 F2;clear c6_0 c6_1 c6_2 c6_3 c6_4 c6_5;obtain ⟨c6_0,c6_1,c6_2,c6_3,c6_4,c6_5⟩:=cs6 F6;clear c10_0 c10_1 c10_2 c10_3 c10_4 c10_5;obtain ⟨c10_0,c10_1,c10_2,c10_3,c10_4,c10_5⟩:=cs6 F10;skip)
   | (go_at_call 29;with_reducible refine cm (laws_markIntS.M _ rr (1 + 2 * (xp.length : Int) + 3 * (xs.length : Int)) w w27 B RN13 (by assumption) (by assumption) (by assumption)) fun w28 hk B RX=>?_;replace F2:=bkp F2 hk RN13 (by decide);replace F6:=bkp F6 hk RN13 (by decide);replace F10:=bkp F10 hk RN13 (by decide);replace RP6:=rkp RP6 rfl hk (dty RN13 RP6 (by decide));replace RS6:=rkp RS6 rfl hk (dty RN13 RS6 (by decide));replace RN6:=rkp RN6 rfl hk (fun k p q=>DN6_N13.out k q p);replace RP13:=rkp RP13 rfl hk (dty RN13 RP13 (by decide));replace RS13:=rkp RS13 rfl hk (dty RN13 RS13 (by decide));replace RN13:=RX;clear hk;clear c2_0 c2_1 c2_2 c2_3 c2_4 c2_5;obtain ⟨c2_0,c2_1,c2_2,c2_3,c2_4,c2_5⟩:=cs6 F2;clear c6_0 c6_1 c6_2 c6_3 c6_4 c6_5;obtain ⟨c6_0,c6_1,c6_2,c6_3,c6_4,c6_5⟩:=cs6 F6;clear c10_0 c10_1 c10_2 c10_3 c10_4 c10_5;obtain ⟨c10_0,c10_1,c10_2,c10_3,c10_4,c10_5⟩:=cs6 F10;skip)
   | (go_at_call 15;with_reducible refine cl (laws_heldState.M xa xb _ _ xp _ _ xs xt xc 1 w28 (rc RP13) (rl2 RP13) (rc RS13) (rl2 RS13) (by assumption) (by assumption) (by assumption) (by assumption)) B fun w29 hb B=>?_;replace F2:=bn F2 hb;replace F6:=bn F6 hb;replace F10:=bn F10 hb;replace RP6:=rn RP6 hb;replace RS6:=rn RS6 hb;replace RN6:=rn RN6 hb;replace RP13:=rn RP13 hb;replace RS13:=rn RS13 hb;replace RN13:=rn RN13 hb;clear c2_0 c2_1 c2_2 c2_3 c2_4 c2_5;obtain ⟨c2_0,c2_1,c2_2,c2_3,c2_4,c2_5⟩:=cs6 F2;clear c6_0 c6_1 c6_2 c6_3 c6_4 c6_5;obtain ⟨c6_0,c6_1,c6_2,c6_3,c6_4,c6_5⟩:=cs6 F6;clear c10_0 c10_1 c10_2 c10_3 c10_4 c10_5;obtain ⟨c10_0,c10_1,c10_2,c10_3,c10_4,c10_5⟩:=cs6 F10;clear hb)
   | (go_at_call 30;with_reducible refine cl (laws_heldIntS.M2 _ _ rr (1 + 2 * (xp.length : Int) + 3 * (xs.length : Int)) w29 (rc RN13) (rl2 RN13) (by assumption) (by assumption) (by assumption)) B fun w30 hb B=>?_;replace F2:=bn F2 hb;replace F6:=bn F6 hb;replace F10:=bn F10 hb;replace RP6:=rn RP6 hb;replace RS6:=rn RS6 hb;replace RN6:=rn RN6 hb;replace RP13:=rn RP13 hb;replace RS13:=rn RS13 hb;replace RN13:=rn RN13 hb;clear c2_0 c2_1 c2_2 c2_3 c2_4 c2_5;obtain ⟨c2_0,c2_1,c2_2,c2_3,c2_4,c2_5⟩:=cs6 F2;clear c6_0 c6_1 c6_2 c6_3 c6_4 c6_5;obtain ⟨c6_0,c6_1,c6_2,c6_3,c6_4,c6_5⟩:=cs6 F6;clear c10_0 c10_1 c10_2 c10_3 c10_4 c10_5;obtain ⟨c10_0,c10_1,c10_2,c10_3,c10_4,c10_5⟩:=cs6 F10;clear hb)
   | (go_at_call 10;with_reducible refine c2r (laws_toState.M a b _ _ ps _ _ ss t c qs us w30 (cb HRP B) (cb HRS B) ⟨by omega,by omega⟩ HQS.out HUS.out) B fun AP31 kP31 AS31 kS31 w31 hb B RP31 QP31 RS31 QS31=>?_;have DP6_P31:=fr QP31 RP6;have DS6_P31:=fr QP31 RS6;have DN6_P31:=fr QP31 RN6;have DP13_P31:=fr QP31 RP13;have DS13_P31:=fr QP31 RS13;have DN13_P31:=fr QP31 RN13;have DP6_S31:=fr QS31 RP6;have DS6_S31:=fr QS31 RS6;have DN6_S31:=fr QS31 RN6;have DP13_S31:=fr QS31 RP13;have DS13_S31:=fr QS31 RS13;have DN13_S31:=fr QS31 RN13;replace F6:=bn F6 hb;replace F10:=bn F10 hb;replace RP6:=rn RP6 hb;replace RS6:=rn RS6 hb;replace RN6:=rn RN6 hb;replace RP13:=rn RP13 hb;replace RS13:=rn RS13 hb;replace RN13:=rn RN13 hb;clear QP31 QS31;clear c6_0 c6_1 c6_2 c6_3 c6_4 c6_5;obtain ⟨c6_0,c6_1,c6_2,c6_3,c6_4,c6_5⟩:=cs6 F6;clear c10_0 c10_1 c10_2 c10_3 c10_4 c10_5;obtain ⟨c10_0,c10_1,c10_2,c10_3,c10_4,c10_5⟩:=cs6 F10;clear hb)
   | (go_at_call 24;with_reducible refine cr (laws_toEntryS.M _ _ es vs w31 (cb HR1 B) (by assumption) HVS.out) B fun AE32 kE32 w32 hb B RE32 QE32=>?_;have DP6_E32:=fr QE32 RP6;have DS6_E32:=fr QE32 RS6;have DN6_E32:=fr QE32 RN6;have DP13_E32:=fr QE32 RP13;have DS13_E32:=fr QE32 RS13;have DN13_E32:=fr QE32 RN13;have DP31_E32:=fr QE32 RP31;have DS31_E32:=fr QE32 RS31;replace F6:=bn F6 hb;replace F10:=bn F10 hb;replace RP6:=rn RP6 hb;replace RS6:=rn RS6 hb;replace RN6:=rn RN6 hb;replace RP13:=rn RP13 hb;replace RS13:=rn RS13 hb;replace RN13:=rn RN13 hb;replace RP31:=rn RP31 hb;replace RS31:=rn RS31 hb;clear QE32;clear c6_0 c6_1 c6_2 c6_3 c6_4 c6_5;obtain ⟨c6_0,c6_1,c6_2,c6_3,c6_4,c6_5⟩:=cs6 F6;clear c10_0 c10_1 c10_2 c10_3 c10_4 c10_5;obtain ⟨c10_0,c10_1,c10_2,c10_3,c10_4,c10_5⟩:=cs6 F10;clear hb)
   | (go_at_call 25;with_reducible refine c3r (impl_Replay.Mr a b _ _ qs _ _ us t c _ _ vs xa xb xp xs xt xc rr HM.out w32 (rc RP31) (rc RS31) (rl RP31) (rl RS31) (rc RE32)) B fun AP33 kP33 AS33 kS33 AN33 kN33 w33 hb B RP33 QP33 RS33 QS33 RN33 QN33=>?_;have DP6_P33:=fr QP33 RP6;have DS6_P33:=fr QP33 RS6;have DN6_P33:=fr QP33 RN6;have DP13_P33:=fr QP33 RP13;have DS13_P33:=fr QP33 RS13;have DN13_P33:=fr QP33 RN13;have DP31_P33:=fr QP33 RP31;have DS31_P33:=fr QP33 RS31;have DE32_P33:=fr QP33 RE32;have DP6_S33:=fr QS33 RP6;have DS6_S33:=fr QS33 RS6;have DN6_S33:=fr QS33 RN6;have DP13_S33:=fr QS33 RP13;have DS13_S33:=fr QS33 RS13;have DN13_S33:=fr QS33 RN13;have DP31_S33:=fr QS33 RP31;have DS31_S33:=fr QS33 RS31;have DE32_S33:=fr QS33 RE32;have DP6_N33:=fr QN33 RP6;have DS6_N33:=fr QN33 RS6;have DN6_N33:=fr QN33 RN6;have DP13_N33:=fr QN33 RP13;have DS13_N33:=fr QN33 RS13;have DN13_N33:=fr QN33 RN13;have DP31_N33:=fr QN33 RP31;have DS31_N33:=fr QN33 RS31;have DE32_N33:=fr QN33 RE32;replace F6:=bn F6 hb;replace F10:=bn F10 hb;replace RP6:=rn RP6 hb;replace RS6:=rn RS6 hb;replace RN6:=rn RN6 hb;replace RP13:=rn RP13 hb;replace RS13:=rn RS13 hb;replace RN13:=rn RN13 hb;clear QP33 QS33 QN33;clear c6_0 c6_1 c6_2 c6_3 c6_4 c6_5;obtain ⟨c6_0,c6_1,c6_2,c6_3,c6_4,c6_5⟩:=cs6 F6;clear c10_0 c10_1 c10_2 c10_3 c10_4 c10_5;obtain ⟨c10_0,c10_1,c10_2,c10_3,c10_4,c10_5⟩:=cs6 F10;clear hb)
   | ((with_reducible refine gate_dst (N:=15) rfl ?_);refine bxq 15 #[.string (⟨#[]⟩ : ByteArray),.string (⟨#[]⟩ : ByteArray),.slice none 0 0,.slice none 0 0,.bool false,.string (⟨#[]⟩ : ByteArray)] 38 B fun g15 w34 hb B F15 L15 E15=>?_;have N6_15:=ne1 E15 F6;have N10_15:=ne1 E15 F10;replace F6:=bn F6 hb;replace F10:=bn F10 hb;replace RP6:=rn RP6 hb;replace RS6:=rn RS6 hb;replace RN6:=rn RN6 hb;replace RP13:=rn RP13 hb;replace RS13:=rn RS13 hb;replace RN13:=rn RN13 hb;replace RP33:=rn RP33 hb;replace RS33:=rn RS33 hb;replace RN33:=rn RN33 hb;clear c6_0 c6_1 c6_2 c6_3 c6_4 c6_5;obtain ⟨c6_0,c6_1,c6_2,c6_3,c6_4,c6_5⟩:=cs6 F6;clear c10_0 c10_1 c10_2 c10_3 c10_4 c10_5;obtain ⟨c10_0,c10_1,c10_2,c10_3,c10_4,c10_5⟩:=cs6 F10;obtain ⟨c15_0,c15_1,c15_2,c15_3,c15_4,c15_5⟩:=cs6 F15;clear hb E15)
   | ((with_reducible refine gate_store (t:=38) (p:=15) rfl ?_);obtain ⟨y0,y1,y2,y3,y4,y5,z0,z1,z2,z3,z4,z5⟩:=cz6 F15;refine sxq 38 38 15 0 [.string xa,.string xb,.slice AP33 xp.length kP33,.slice AS33 xs.length kS33,.bool xt,.string xc] [.string xa,.string xb,.slice AP33 xp.length kP33,.slice AS33 xs.length kS33,.bool xt,.string xc] B F15 L15 fun w35 hk B G=>?_;replace F6:=bk F6 hk N6_15.out;replace F10:=bk F10 hk N10_15.out;replace RP6:=rk RP6 F15 (by decide) hk;replace RS6:=rk RS6 F15 (by decide) hk;replace RN6:=rk RN6 F15 (by decide) hk;replace RP13:=rk RP13 F15 (by decide) hk;replace RS13:=rk RS13 F15 (by decide) hk;replace RN13:=rk RN13 F15 (by decide) hk;replace RP33:=rk RP33 F15 (by decide) hk;replace RS33:=rk RS33 F15 (by decide) hk;replace RN33:=rk RN33 F15 (by decide) hk;replace F15:=G;clear c6_0 c6_1 c6_2 c6_3 c6_4 c6_5;obtain ⟨c6_0,c6_1,c6_2,c6_3,c6_4,c6_5⟩:=cs6 F6;clear c10_0 c10_1 c10_2 c10_3 c10_4 c10_5;obtain ⟨c10_0,c10_1,c10_2,c10_3,c10_4,c10_5⟩:=cs6 F10;clear c15_0 c15_1 c15_2 c15_3 c15_4 c15_5;obtain ⟨c15_0,c15_1,c15_2,c15_3,c15_4,c15_5⟩:=cs6 F15;clear hk y0 z0 y1 z1 y2 z2 y3 z3 y4 z4 y5 z5)
   | (go_at_call 13;with_reducible refine cl (laws_eqState.M xa xb _ _ _ _ xp _ _ _ _ xs xt xc w35 (rc RP33) (rc RP6) (rc RS33) (rc RS6)) B fun w36 hb B=>?_;replace F10:=bn F10 hb;replace RN6:=rn RN6 hb;replace RP13:=rn RP13 hb;replace RS13:=rn RS13 hb;replace RN13:=rn RN13 hb;replace RN33:=rn RN33 hb;clear c10_0 c10_1 c10_2 c10_3 c10_4 c10_5;obtain ⟨c10_0,c10_1,c10_2,c10_3,c10_4,c10_5⟩:=cs6 F10;clear hb)
   | (go_at_call 26;with_reducible refine cl (laws_eqIntS.M _ _ _ _ rr w36 (rc RN33) (rl RN33) (rc RN6) (rl RN6) (by assumption)) B fun w37 hb B=>?_;replace F10:=bn F10 hb;replace RP13:=rn RP13 hb;replace RS13:=rn RS13 hb;replace RN13:=rn RN13 hb;clear c10_0 c10_1 c10_2 c10_3 c10_4 c10_5;obtain ⟨c10_0,c10_1,c10_2,c10_3,c10_4,c10_5⟩:=cs6 F10;clear hb)
   | (go_at_call 15;with_reducible refine cl (laws_heldState.M xa xb _ _ xp _ _ xs xt xc 1 w37 (rc RP13) (rl2 RP13) (rc RS13) (rl2 RS13) (by assumption) (by assumption) (by assumption) (by assumption)) B fun w38 hb B=>?_;replace RN13:=rn RN13 hb;clear hb)
   | (go_at_call 30;with_reducible refine cl (laws_heldIntS.M2 _ _ rr (1 + 2 * (xp.length : Int) + 3 * (xs.length : Int)) w38 (rc RN13) (rl2 RN13) (by assumption) (by assumption) (by assumption)) B fun w39 hb B=>?_;clear hb))
  all_goals try (go_ret;exact ⟨rfl,B.out⟩)
 ·have HRP:=Aside0.mk hrp
  have HRS:=Aside0.mk hrs
  have HSA:=Aside0.mk hs
  clear hrp hrs hs
  go_enter Try.func5,Try.ntmps5
  go_wp2_with (first
   | ((with_reducible refine gate_dst (N:=2) rfl ?_);refine bxq 2 #[.string a,.string b,.slice AP ps.length cP,.slice AS ss.length cS,.bool t,.string c] 27 B fun g2 w1001 hb B F2 L2 E2=>?_;obtain ⟨c2_0,c2_1,c2_2,c2_3,c2_4,c2_5⟩:=cs6 F2;clear hb E2)
   | (go_at_call 7;with_reducible refine cx (laws_szState.M a b _ _ ps _ _ ss t c 1048576 w1001 (cb HRP B) (cb HRS B) (by omega) HSA.out) B fun v1002 hv1002 w1002 hb B=>?_;clear hb)
   | (go_at_call 22;with_reducible refine cx (laws_szEntryS.M _ _ es v1002 w1002 (cb HR1 B) (by omega) HES.out) B fun v1003 hv1003 w1003 hb B=>?_;clear hb))
  all_goals first
   | (go_ret;exact ⟨rfl,B.out⟩)
   | (exfalso;omega)
def laws_FnExactReplay.f (k : Nat) (a b : ByteArray) (ps : List S114) (ss : List S123) (t : Bool) (c : ByteArray) (es : List S31) : Option Bool:=if (a.size≤9223372036854775807∧b.size≤9223372036854775807∧c.size≤9223372036854775807∧∀ y ∈ ps,y.f0.size≤9223372036854775807)∧∀ y ∈ es,y.f2.f1.size≤9223372036854775807 then some true else none
theorem laws_FnExactReplay.calls (k : Nat) (a b : ByteArray) (AP : Option Addr) (cP : Nat) (ps : List S114) (AS : Option Addr) (cS : Nat) (ss : List S123) (t : Bool) (c : ByteArray) (A1 : Option Addr) (c1 : Nat) (es : List S31) (r : Bool) (w : World) (hrp : Kd.C k114 w AP ps.length ps) (hcp : ps.length≤cP) (hrs : Kd.C k123 w AS ss.length ss) (hcs : ss.length≤cS) (hr1 : Kd.C k31 w A1 es.length es) (hc1 : es.length≤c1) (h : laws_FnExactReplay.f k a b ps ss t c es=some r) : Calls Try.prog 5 #[.agg #[.string a,.string b,.slice AP ps.length cP,.slice AS ss.length cS,.bool t,.string c],.slice A1 es.length c1] w fun e w'=>e=.returned (.bool r)∧Below w.heap.size w w':=by
 unfold laws_FnExactReplay.f at h
 split at h
 ·rename_i hc
  obtain rfl:=Option.some.inj h
  exact laws_FnExactReplay.M a b AP cP ps AS cS ss t c A1 c1 es w hrp hrs hr1 hc
 ·cases h

end Go.Proofs.Ythofkheehldioaa.PFnExactReplay
