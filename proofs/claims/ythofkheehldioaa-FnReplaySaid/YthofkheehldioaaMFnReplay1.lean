/- Walks over models, part 1: sae aef ipplace ipairs iget replP idrop iput iapply replS isput icut istate takes iae aer srp irp c3r rpr alive same rdr. -/
import Derived.Test.YthofkheehldioaaPFnReplayx0
import Derived.Deep.RegionHeld3
import Derived.Test.YthofkheehldioaaPFnReplayx84
import Derived.Lib.Strings
import Derived.Laws.BytesArg
import Derived.Test.YthofkheehldioaaPFnReplayx4
import Derived.Test.YthofkheehldioaaPFnReplayx5
import Derived.Test.YthofkheehldioaaPFnReplayx22
import Derived.Test.YthofkheehldioaaPFnReplayx66
import Derived.Test.YthofkheehldioaaPFnReplayx67
import Derived.Test.YthofkheehldioaaPFnReplayx65
import Derived.Test.YthofkheehldioaaPFnReplayx74
import Derived.Test.YthofkheehldioaaPFnReplayx73
import Derived.Test.YthofkheehldioaaMFnReplay0
namespace Go.Proofs.Ythofkheehldioaa.PFnReplay
open Go.RowKit Go.Proofs.YthofkheehldioaaW.PrintWords Go.Proofs.YthofkheehldioaaW.PrintLast Go.Proofs.YthofkheehldioaaW.PrintMore
set_option linter.unusedVariables false
set_option linter.unusedSimpArgs false
set_option maxHeartbeats 4000000
set_option maxRecDepth 100000
attribute [local go_sem] leq_str geq_str gtr_str
def spec_ApplyEntry.T6 : Bool × List (List Nat × List Nat):=(true,[([],[]),([],[]),([1],[1]),([0,0],[0]),([2,3,0,1,2,3],[2])])
def spec_ApplyEntry.B6 : List Nat:=[0,0,2,1,15]
theorem spec_ApplyEntry.tab6 : rtab .any (opsOf Try.f9 6)=spec_ApplyEntry.T6:=by kernel_rfl
theorem spec_ApplyEntry.bits6 : waitsOk spec_ApplyEntry.T6.2 spec_ApplyEntry.B6=true:=by kernel_rfl
theorem spec_ApplyEntry.M (a b : ByteArray) (AP : Option Addr) (cP : Nat) (ps : List S105) (AS : Option Addr) (cS : Nat) (ss : List S76) (t : Bool) (c : ByteArray) (ci sq k : Int) (x : ByteArray) (v o : Int) (w : World) (hrp : Kd.C k105 w AP ps.length ps) (hrs : Kd.C k76 w AS ss.length ss) (hcp : ps.length≤cP) (hcs : ss.length≤cS) : Calls Try.prog 9 #[.agg #[.string a,.string b,.slice AP ps.length cP,.slice AS ss.length cS,.bool t,.string c],.agg #[.int .i64 ci,.int .i64 sq,.int .i64 k,.string x,.int .i64 v,.int .i64 o]] w fun e w'=>∃ v2 v3,e=.returned (.tuple #[.agg #[.string (aeM ⟨a,b,ps,ss,t,c⟩ ci sq k x v o).1.a,.string (aeM ⟨a,b,ps,ss,t,c⟩ ci sq k x v o).1.b,v2,v3,.bool (aeM ⟨a,b,ps,ss,t,c⟩ ci sq k x v o).1.t,.string (aeM ⟨a,b,ps,ss,t,c⟩ ci sq k x v o).1.c],.int .i64 (aeM ⟨a,b,ps,ss,t,c⟩ ci sq k x v o).2])∧Kd.R k105 105 w' w.heap.size (fun _=>True) v2 (aeM ⟨a,b,ps,ss,t,c⟩ ci sq k x v o).1.ps∧Kd.R k76 76 w' w.heap.size (fun _=>True) v3 (aeM ⟨a,b,ps,ss,t,c⟩ ci sq k x v o).1.ss∧Below w.heap.size w w':=by
 have B:=Aside0.mk (Below.refl w.heap.size w)
 have hu:=Try.underlying38
 have hu2:=Try.underlying34
 have HRP:=Aside0.mk hrp
 have HRS:=Aside0.mk hrs
 have HCP:=Aside0.mk hcp
 have HCS:=Aside0.mk hcs
 clear hrp hrs hcp hcs
 have hu3:=Try.underlying44
 have hu4:=Try.underlying42
 have hu5:=Try.underlying76
 cases hs : stB a b ps ss t c with
 | false =>
  rw [aeM_bad (s:=⟨a,b,ps,ss,t,c⟩) (by unfold SM.ok;rw [hs];simp)]
  go_enter Try.func9,Try.ntmps9
  go_wp2_with (first
   | ((with_reducible refine gate_dst (N:=2) rfl ?_);refine bxq 2 #[.string a,.string b,.slice AP ps.length cP,.slice AS ss.length cS,.bool t,.string c] 38 B fun g2 w1 hb B F2 L2 E2=>?_;obtain ⟨c2_0,c2_1,c2_2,c2_3,c2_4,c2_5⟩:=cs6 F2;clear hb E2)
   | ((with_reducible refine gate_dst (N:=3) rfl ?_);refine bxq 3 #[.int .i64 (ci),.int .i64 (sq),.int .i64 (k),.string x,.int .i64 (v),.int .i64 (o)] 44 B fun g3 w2 hb B F3 L3 E3=>?_;replace F2:=bn F2 hb;clear c2_0 c2_1 c2_2 c2_3 c2_4 c2_5;obtain ⟨c2_0,c2_1,c2_2,c2_3,c2_4,c2_5⟩:=cs6 F2;obtain ⟨c3_0,c3_1,c3_2,c3_3,c3_4,c3_5⟩:=cs6 F3;clear hb E3)
   | ((with_reducible refine gate_dst (N:=4) rfl ?_);refine bxq 4 #[.string (⟨#[]⟩ : ByteArray),.string (⟨#[]⟩ : ByteArray),.slice none 0 0,.slice none 0 0,.bool false,.string (⟨#[]⟩ : ByteArray)] 38 B fun g4 w3 hb B F4 L4 E4=>?_;have N2_4:=ne1 E4 F2;have N3_4:=ne1 E4 F3;replace F2:=bn F2 hb;replace F3:=bn F3 hb;clear c2_0 c2_1 c2_2 c2_3 c2_4 c2_5;obtain ⟨c2_0,c2_1,c2_2,c2_3,c2_4,c2_5⟩:=cs6 F2;clear c3_0 c3_1 c3_2 c3_3 c3_4 c3_5;obtain ⟨c3_0,c3_1,c3_2,c3_3,c3_4,c3_5⟩:=cs6 F3;clear hb E4)
   | (go_at_call 37;with_reducible refine cl (spec_StateValid.M a b _ _ ps _ _ ss t c _ (cb HRP B) (cb HRS B)) B fun w4 hb B=>?_;replace F2:=bn F2 hb;replace F3:=bn F3 hb;replace F4:=bn F4 hb;clear c3_0 c3_1 c3_2 c3_3 c3_4 c3_5;obtain ⟨c3_0,c3_1,c3_2,c3_3,c3_4,c3_5⟩:=cs6 F3;clear hb)
   | (go_at_call 38;with_reducible refine cl (spec_EntryValid.M ci sq k x v o _) B fun w5 hb B=>?_;replace F2:=bn F2 hb;replace F3:=bn F3 hb;replace F4:=bn F4 hb;clear hb)
   | ((with_reducible refine gate_store (t:=38) (p:=4) rfl ?_);obtain ⟨y0,y1,y2,y3,y4,y5,z0,z1,z2,z3,z4,z5⟩:=cz6 F4;refine sxq 38 38 4 0 [.string (⟨#[]⟩ : ByteArray),.string (⟨#[]⟩ : ByteArray),.slice none 0 0,.slice none 0 0,.bool false,.string (⟨#[]⟩ : ByteArray)] [.string (⟨#[]⟩ : ByteArray),.string (⟨#[]⟩ : ByteArray),.slice none 0 0,.slice none 0 0,.bool false,.string (⟨#[]⟩ : ByteArray)] B F4 L4 fun w6 hk B G=>?_;replace F2:=bk F2 hk N2_4.out;replace F3:=bk F3 hk N3_4.out;replace F4:=G;clear hk y0 z0 y1 z1 y2 z2 y3 z3 y4 z4 y5 z5))
  all_goals (refine bodyPost_ret (results_list (rs:=[.cell 4 38,.tmp 5]) rfl (by simp) (.cell g4 38 _ (0,0) _ rfl F4.out hu rfl (by kernel_rfl) (.tmp .nil))) rfl ?_;exact ⟨_,_,rfl,Kd.R_nil _ _ _ _ _,Kd.R_nil _ _ _ _ _,B.out⟩)
 | true =>
  cases he : entB ci sq k x v o with
  | false =>
   rw [aeM_bad (s:=⟨a,b,ps,ss,t,c⟩) (by rw [he];simp)]
   go_enter Try.func9,Try.ntmps9
   go_wp2_with (first
    | ((with_reducible refine gate_dst (N:=2) rfl ?_);refine bxq 2 #[.string a,.string b,.slice AP ps.length cP,.slice AS ss.length cS,.bool t,.string c] 38 B fun g2 w101 hb B F2 L2 E2=>?_;obtain ⟨c2_0,c2_1,c2_2,c2_3,c2_4,c2_5⟩:=cs6 F2;clear hb E2)
    | ((with_reducible refine gate_dst (N:=3) rfl ?_);refine bxq 3 #[.int .i64 (ci),.int .i64 (sq),.int .i64 (k),.string x,.int .i64 (v),.int .i64 (o)] 44 B fun g3 w102 hb B F3 L3 E3=>?_;replace F2:=bn F2 hb;clear c2_0 c2_1 c2_2 c2_3 c2_4 c2_5;obtain ⟨c2_0,c2_1,c2_2,c2_3,c2_4,c2_5⟩:=cs6 F2;obtain ⟨c3_0,c3_1,c3_2,c3_3,c3_4,c3_5⟩:=cs6 F3;clear hb E3)
    | ((with_reducible refine gate_dst (N:=4) rfl ?_);refine bxq 4 #[.string (⟨#[]⟩ : ByteArray),.string (⟨#[]⟩ : ByteArray),.slice none 0 0,.slice none 0 0,.bool false,.string (⟨#[]⟩ : ByteArray)] 38 B fun g4 w103 hb B F4 L4 E4=>?_;have N2_4:=ne1 E4 F2;have N3_4:=ne1 E4 F3;replace F2:=bn F2 hb;replace F3:=bn F3 hb;clear c2_0 c2_1 c2_2 c2_3 c2_4 c2_5;obtain ⟨c2_0,c2_1,c2_2,c2_3,c2_4,c2_5⟩:=cs6 F2;clear c3_0 c3_1 c3_2 c3_3 c3_4 c3_5;obtain ⟨c3_0,c3_1,c3_2,c3_3,c3_4,c3_5⟩:=cs6 F3;clear hb E4)
    | (go_at_call 37;with_reducible refine cl (spec_StateValid.M a b _ _ ps _ _ ss t c _ (cb HRP B) (cb HRS B)) B fun w104 hb B=>?_;replace F2:=bn F2 hb;replace F3:=bn F3 hb;replace F4:=bn F4 hb;clear c3_0 c3_1 c3_2 c3_3 c3_4 c3_5;obtain ⟨c3_0,c3_1,c3_2,c3_3,c3_4,c3_5⟩:=cs6 F3;clear hb)
    | (go_at_call 38;with_reducible refine cl (spec_EntryValid.M ci sq k x v o _) B fun w105 hb B=>?_;replace F2:=bn F2 hb;replace F3:=bn F3 hb;replace F4:=bn F4 hb;clear hb)
    | ((with_reducible refine gate_store (t:=38) (p:=4) rfl ?_);obtain ⟨y0,y1,y2,y3,y4,y5,z0,z1,z2,z3,z4,z5⟩:=cz6 F4;refine sxq 38 38 4 0 [.string (⟨#[]⟩ : ByteArray),.string (⟨#[]⟩ : ByteArray),.slice none 0 0,.slice none 0 0,.bool false,.string (⟨#[]⟩ : ByteArray)] [.string (⟨#[]⟩ : ByteArray),.string (⟨#[]⟩ : ByteArray),.slice none 0 0,.slice none 0 0,.bool false,.string (⟨#[]⟩ : ByteArray)] B F4 L4 fun w106 hk B G=>?_;replace F2:=bk F2 hk N2_4.out;replace F3:=bk F3 hk N3_4.out;replace F4:=G;clear hk y0 z0 y1 z1 y2 z2 y3 z3 y4 z4 y5 z5))
   all_goals (refine bodyPost_ret (results_list (rs:=[.cell 4 38,.tmp 5]) rfl (by simp) (.cell g4 38 _ (0,0) _ rfl F4.out hu rfl (by kernel_rfl) (.tmp .nil))) rfl ?_;exact ⟨_,_,rfl,Kd.R_nil _ _ _ _ _,Kd.R_nil _ _ _ _ _,B.out⟩)
  | true =>
   obtain ⟨hiv,hp,hss,hin,htl⟩:=stB_parts.mp hs
   have hpl : ps.length≤1000000:=by have:=prB_len hp;omega
   have hsl : ss.length≤1000000:=by have:=sesB_len hss;omega
   obtain ⟨hcl,hsq,hcm⟩:=entB_parts he
   have hh : ((SM.mk a b ps ss t c).ok && entB ci sq k x v o)=true:=by unfold SM.ok;rw [hs,he];rfl
   clear hin htl hp hss hcl
   obtain ⟨r,hr⟩ : ∃ r,aeM ⟨a,b,ps,ss,t,c⟩ ci sq k x v o=r:=⟨_,rfl⟩
   rw [hr]
   go_enter Try.func9,Try.ntmps9
   go_wp2_with (first
    | ((with_reducible refine gate_dst (N:=2) rfl ?_);refine bxq 2 #[.string a,.string b,.slice AP ps.length cP,.slice AS ss.length cS,.bool t,.string c] 38 B fun g2 w151 hb B F2 L2 E2=>?_;obtain ⟨c2_0,c2_1,c2_2,c2_3,c2_4,c2_5⟩:=cs6 F2;clear hb E2)
    | ((with_reducible refine gate_dst (N:=3) rfl ?_);refine bxq 3 #[.int .i64 (ci),.int .i64 (sq),.int .i64 (k),.string x,.int .i64 (v),.int .i64 (o)] 44 B fun g3 w152 hb B F3 L3 E3=>?_;replace F2:=bn F2 hb;clear c2_0 c2_1 c2_2 c2_3 c2_4 c2_5;obtain ⟨c2_0,c2_1,c2_2,c2_3,c2_4,c2_5⟩:=cs6 F2;obtain ⟨c3_0,c3_1,c3_2,c3_3,c3_4,c3_5⟩:=cs6 F3;clear hb E3)
    | ((with_reducible refine gate_dst (N:=4) rfl ?_);refine bxq 4 #[.string (⟨#[]⟩ : ByteArray),.string (⟨#[]⟩ : ByteArray),.slice none 0 0,.slice none 0 0,.bool false,.string (⟨#[]⟩ : ByteArray)] 38 B fun g4 w153 hb B F4 L4 E4=>?_;have N2_4:=ne1 E4 F2;have N3_4:=ne1 E4 F3;replace F2:=bn F2 hb;replace F3:=bn F3 hb;clear c2_0 c2_1 c2_2 c2_3 c2_4 c2_5;obtain ⟨c2_0,c2_1,c2_2,c2_3,c2_4,c2_5⟩:=cs6 F2;clear c3_0 c3_1 c3_2 c3_3 c3_4 c3_5;obtain ⟨c3_0,c3_1,c3_2,c3_3,c3_4,c3_5⟩:=cs6 F3;clear hb E4)
    | (go_at_call 37;with_reducible refine cl (spec_StateValid.M a b _ _ ps _ _ ss t c _ (cb HRP B) (cb HRS B)) B fun w154 hb B=>?_;replace F2:=bn F2 hb;replace F3:=bn F3 hb;replace F4:=bn F4 hb;clear c2_0 c2_1 c2_2 c2_3 c2_4 c2_5;obtain ⟨c2_0,c2_1,c2_2,c2_3,c2_4,c2_5⟩:=cs6 F2;clear c3_0 c3_1 c3_2 c3_3 c3_4 c3_5;obtain ⟨c3_0,c3_1,c3_2,c3_3,c3_4,c3_5⟩:=cs6 F3;clear hb)
    | (go_at_call 38;with_reducible refine cl (spec_EntryValid.M ci sq k x v o _) B fun w155 hb B=>?_;replace F2:=bn F2 hb;replace F3:=bn F3 hb;replace F4:=bn F4 hb;clear c2_0 c2_1 c2_2 c2_3 c2_4 c2_5;obtain ⟨c2_0,c2_1,c2_2,c2_3,c2_4,c2_5⟩:=cs6 F2;clear c3_0 c3_1 c3_2 c3_3 c3_4 c3_5;obtain ⟨c3_0,c3_1,c3_2,c3_3,c3_4,c3_5⟩:=cs6 F3;clear hb)
    | (go_at_call 39;with_reducible refine c2r (spec_l10Copy.M a b _ _ ps _ _ ss t c _ (cb HRP B) (cb HRS B) HCP.out HCS.out (by omega) (by omega)) B fun AP156 kP156 AS156 kS156 w156 hb B RP156 QP156 RS156 QS156=>?_;have DP156_S156:=Aside0.mk (dty RP156 RS156 (by decide));replace F2:=bn F2 hb;replace F3:=bn F3 hb;replace F4:=bn F4 hb;clear QP156 QS156;clear c2_0 c2_1 c2_2 c2_3 c2_4 c2_5;obtain ⟨c2_0,c2_1,c2_2,c2_3,c2_4,c2_5⟩:=cs6 F2;clear c3_0 c3_1 c3_2 c3_3 c3_4 c3_5;obtain ⟨c3_0,c3_1,c3_2,c3_3,c3_4,c3_5⟩:=cs6 F3;clear hb)
    | ((with_reducible refine gate_dst (N:=6) rfl ?_);refine bxq 6 #[.string (⟨#[]⟩ : ByteArray),.string (⟨#[]⟩ : ByteArray),.slice none 0 0,.slice none 0 0,.bool false,.string (⟨#[]⟩ : ByteArray)] 38 B fun g6 w157 hb B F6 L6 E6=>?_;have N2_6:=ne1 E6 F2;have N3_6:=ne1 E6 F3;have N4_6:=ne1 E6 F4;replace F2:=bn F2 hb;replace F3:=bn F3 hb;replace F4:=bn F4 hb;replace RP156:=rn RP156 hb;replace RS156:=rn RS156 hb;clear c2_0 c2_1 c2_2 c2_3 c2_4 c2_5;obtain ⟨c2_0,c2_1,c2_2,c2_3,c2_4,c2_5⟩:=cs6 F2;clear c3_0 c3_1 c3_2 c3_3 c3_4 c3_5;obtain ⟨c3_0,c3_1,c3_2,c3_3,c3_4,c3_5⟩:=cs6 F3;obtain ⟨c6_0,c6_1,c6_2,c6_3,c6_4,c6_5⟩:=cs6 F6;clear hb E6)
    | ((with_reducible refine gate_store (t:=38) (p:=6) rfl ?_);obtain ⟨y0,y1,y2,y3,y4,y5,z0,z1,z2,z3,z4,z5⟩:=cz6 F6;refine sxq 38 38 6 0 [.string a,.string b,.slice AP156 ps.length kP156,.slice AS156 ss.length kS156,.bool t,.string c] [.string a,.string b,.slice AP156 ps.length kP156,.slice AS156 ss.length kS156,.bool t,.string c] B F6 L6 fun w158 hk B G=>?_;replace F2:=bk F2 hk N2_6.out;replace F3:=bk F3 hk N3_6.out;replace F4:=bk F4 hk N4_6.out;replace RP156:=rk RP156 F6 (by decide) hk;replace RS156:=rk RS156 F6 (by decide) hk;replace F6:=G;clear c2_0 c2_1 c2_2 c2_3 c2_4 c2_5;obtain ⟨c2_0,c2_1,c2_2,c2_3,c2_4,c2_5⟩:=cs6 F2;clear c3_0 c3_1 c3_2 c3_3 c3_4 c3_5;obtain ⟨c3_0,c3_1,c3_2,c3_3,c3_4,c3_5⟩:=cs6 F3;clear c6_0 c6_1 c6_2 c6_3 c6_4 c6_5;obtain ⟨c6_0,c6_1,c6_2,c6_3,c6_4,c6_5⟩:=cs6 F6;clear hk y0 z0 y1 z1 y2 z2 y3 z3 y4 z4 y5 z5)
    | (go_at_call 40;with_reducible refine cl (spec_l9Find.M _ _ ss ci _ (cb HRS B)) B fun w159 hb B=>?_;replace F2:=bn F2 hb;replace F3:=bn F3 hb;replace F4:=bn F4 hb;replace F6:=bn F6 hb;replace RP156:=rn RP156 hb;replace RS156:=rn RS156 hb;clear c2_0 c2_1 c2_2 c2_3 c2_4 c2_5;obtain ⟨c2_0,c2_1,c2_2,c2_3,c2_4,c2_5⟩:=cs6 F2;clear c3_0 c3_1 c3_2 c3_3 c3_4 c3_5;obtain ⟨c3_0,c3_1,c3_2,c3_3,c3_4,c3_5⟩:=cs6 F3;clear c6_0 c6_1 c6_2 c6_3 c6_4 c6_5;obtain ⟨c6_0,c6_1,c6_2,c6_3,c6_4,c6_5⟩:=cs6 F6;clear hb)
    | ((with_reducible refine gate_dst (N:=7) rfl ?_);refine bxq 7 #[.int .i64 (0),.int .i64 (0),.int .i64 (0)] 76 B fun g7 w160 hb B F7 L7 E7=>?_;have N2_7:=ne1 E7 F2;have N3_7:=ne1 E7 F3;have N4_7:=ne1 E7 F4;have N6_7:=ne1 E7 F6;have NB7_S156:=nbx E7 RS156;replace F2:=bn F2 hb;replace F3:=bn F3 hb;replace F4:=bn F4 hb;replace F6:=bn F6 hb;replace RP156:=rn RP156 hb;replace RS156:=rn RS156 hb;clear c2_0 c2_1 c2_2 c2_3 c2_4 c2_5;obtain ⟨c2_0,c2_1,c2_2,c2_3,c2_4,c2_5⟩:=cs6 F2;clear c3_0 c3_1 c3_2 c3_3 c3_4 c3_5;obtain ⟨c3_0,c3_1,c3_2,c3_3,c3_4,c3_5⟩:=cs6 F3;clear c6_0 c6_1 c6_2 c6_3 c6_4 c6_5;obtain ⟨c6_0,c6_1,c6_2,c6_3,c6_4,c6_5⟩:=cs6 F6;obtain ⟨c7_0,c7_1,c7_2⟩:=cs3 F7;clear hb E7)
    | ((with_reducible refine gate_store (t:=76) (p:=7) rfl ?_);obtain ⟨y0,y1,y2,z0,z1,z2⟩:=cz3 F7;refine sxq 76 76 7 0 [.int .i64 ((findS ss ci).f0),.int .i64 ((findS ss ci).f1),.int .i64 ((findS ss ci).f2)] [.int .i64 ((findS ss ci).f0),.int .i64 ((findS ss ci).f1),.int .i64 ((findS ss ci).f2)] B F7 L7 fun w161 hk B G=>?_;replace F2:=bk F2 hk N2_7.out;replace F3:=bk F3 hk N3_7.out;replace F4:=bk F4 hk N4_7.out;replace F6:=bk F6 hk N6_7.out;replace RP156:=rk RP156 F7 (by decide) hk;replace RS156:=rkn RS156 hk NB7_S156;replace F7:=G;clear c2_0 c2_1 c2_2 c2_3 c2_4 c2_5;obtain ⟨c2_0,c2_1,c2_2,c2_3,c2_4,c2_5⟩:=cs6 F2;clear c3_0 c3_1 c3_2 c3_3 c3_4 c3_5;obtain ⟨c3_0,c3_1,c3_2,c3_3,c3_4,c3_5⟩:=cs6 F3;clear c6_0 c6_1 c6_2 c6_3 c6_4 c6_5;obtain ⟨c6_0,c6_1,c6_2,c6_3,c6_4,c6_5⟩:=cs6 F6;clear c7_0 c7_1 c7_2;obtain ⟨c7_0,c7_1,c7_2⟩:=cs3 F7;clear hk y0 z0 y1 z1 y2 z2;refine Stop.out ?_))
   refine ⟨?_⟩
   by_cases q1 : (findS ss ci).f1=sq
   ·have d1 : ((findS ss ci).f1 == sq)=true:=by rw [q1];simp
    rw [aeM_idle hh (by unfold idleB;rw [decide_eq_true (show sq≤(findS ss ci).f1 by omega)];rfl),show idleN ⟨a,b,ps,ss,t,c⟩ ci sq=(findS ss ci).f2 from if_pos q1] at hr
    subst hr
    clear hh hcm hsq hiv q1
    try go_wp2
    all_goals (
     refine rg (n:=5) (S:=fun W=>W.heap[g6]?=some (.cells #[.string a,.string b,.slice AP156 ps.length kP156,.slice AS156 ss.length kS156,.bool t,.string c] 38 (0,0))∧W.heap[g7]?=some (.cells #[.int .i64 ((findS ss ci).f0),.int .i64 ((findS ss ci).f1),.int .i64 ((findS ss ci).f2)] 76 (0,0))) (ds:=[]) #[false,false,false,false,false] (by kernel_rfl) rfl rfl ⟨F6.out,F7.out⟩ id B (fun w201 hb B hHeld=>?_)
     refine with_tabW spec_ApplyEntry.tab6 spec_ApplyEntry.bits6 (fun HT_ HW_=>?_)
     replace F4:=bn F4 hb
     replace F6:=bn F6 hb
     replace F7:=bn F7 hb
     replace RP156:=rn RP156 hb
     replace RS156:=rn RS156 hb
     clear hb
     refine tvq 0 (some 38) (bits 5 1) HT_ HW_ rfl hHeld (by intro w' hS;obtain ⟨s0,s1⟩:=hS;obtain ⟨q0,q1,q2,q3,q4,q5⟩:=cs6 (Aside0.mk s0);go_simp;with_reducible rfl) ?_
     refine pvq 1 (some 39) (bits 5 3) HT_ ?_
     refine tvq 2 (some 40) (bits 5 7) HT_ HW_ rfl hHeld (by intro w' hS;obtain ⟨s0,s1⟩:=hS;obtain ⟨q0,q1,q2⟩:=cs3 (Aside0.mk s1);go_simp;with_reducible rfl) ?_
     refine nmq ?_
     refine one_ (i:=3) (N:=none) (bits 5 15) rfl rfl (one_of HT_.out (by kernel_rfl)) (by decide) (fun K hK=>?_)
     obtain ⟨y0,y1,y2,y3,y4,y5,z0,z1,z2,z3,z4,z5⟩:=cz6 F4
     refine sxs (g:=g4) 0 [.string a,.string b,.slice AP156 ps.length kP156,.slice AS156 ss.length kS156,.bool t,.string c] [.string a,.string b,.slice AP156 ps.length kP156,.slice AS156 ss.length kS156,.bool t,.string c] (by rfl) rfl ?hr B F4 L4 rfl (Nat.le_of_ble_eq_true rfl) (fun w202 hk B G=>?_)
     (case hr=>go_simp;first | done | rfl)
     replace F6:=bk F6 hk N4_6.out.symm
     replace F7:=bk F7 hk N4_7.out.symm
     replace RP156:=rk RP156 F4 (by decide) hk
     replace RS156:=rk RS156 F4 (by decide) hk
     replace F4:=G
     clear hk y0 z0 y1 z1 y2 z2 y3 z3 y4 z4 y5 z5
     refine hK.out _ _ ⟨F6.out,F7.out⟩ (fun hHeld=>?_)
     clear hK K
     refine pvq 4 (some 5) (bits 5 31) HT_ ?_
     refine nmq ?_
     refine done_ (done_of HT_.out (by kernel_rfl)) ?_)
    all_goals try go_wp2
    all_goals (refine bodyPost_ret (results_list (rs:=[.cell 4 38,.tmp 5]) rfl (by simp) (.cell g4 38 _ (0,0) _ rfl F4.out hu rfl (by kernel_rfl) (.tmp .nil))) rfl ?_;exact ⟨_,_,rfl,RP156.out,RS156.out,B.out⟩)
   ·have d1 : ((findS ss ci).f1 == sq)=false:=beq_eq_false_iff_ne.mpr q1
    by_cases q2 : sq < (findS ss ci).f1
    ·have d2 : decide (sq < (findS ss ci).f1)=true:=decide_eq_true q2
     rw [aeM_idle hh (by unfold idleB;rw [decide_eq_true (show sq≤(findS ss ci).f1 by omega)];rfl),show idleN ⟨a,b,ps,ss,t,c⟩ ci sq=-4 from (if_neg q1).trans (if_pos q2)] at hr
     subst hr
     clear hh hcm hsq hiv q1 q2
     go_wp2_with (first
      | ((with_reducible refine gate_store (t:=38) (p:=4) rfl ?_);obtain ⟨y0,y1,y2,y3,y4,y5,z0,z1,z2,z3,z4,z5⟩:=cz6 F4;refine sxq 38 38 4 0 [.string a,.string b,.slice AP156 ps.length kP156,.slice AS156 ss.length kS156,.bool t,.string c] [.string a,.string b,.slice AP156 ps.length kP156,.slice AS156 ss.length kS156,.bool t,.string c] B F4 L4 fun w301 hk B G=>?_;replace F2:=bk F2 hk N2_4.out;replace F3:=bk F3 hk N3_4.out;replace RP156:=rk RP156 F4 (by decide) hk;replace RS156:=rk RS156 F4 (by decide) hk;replace F4:=G;clear hk y0 z0 y1 z1 y2 z2 y3 z3 y4 z4 y5 z5))
     all_goals (refine bodyPost_ret (results_list (rs:=[.cell 4 38,.tmp 5]) rfl (by simp) (.cell g4 38 _ (0,0) _ rfl F4.out hu rfl (by kernel_rfl) (.tmp .nil))) rfl ?_;exact ⟨_,_,rfl,RP156.out,RS156.out,B.out⟩)
    ·have d2 : decide (sq < (findS ss ci).f1)=false:=decide_eq_false q2
     have hN : idleN ⟨a,b,ps,ss,t,c⟩ ci sq=-3:=(if_neg q1).trans (if_neg q2)
     have hle : decide (sq≤(findS ss ci).f1)=false:=decide_eq_false (by omega)
     cases t with
     | true =>
      rw [aeM_idle hh (by unfold idleB;simp),hN] at hr
      subst hr
      clear hh hcm hsq hiv q1 q2 hN hle
      go_wp2_with (first
       | ((with_reducible refine gate_store (t:=38) (p:=4) rfl ?_);obtain ⟨y0,y1,y2,y3,y4,y5,z0,z1,z2,z3,z4,z5⟩:=cz6 F4;refine sxq 38 38 4 0 [.string a,.string b,.slice AP156 ps.length kP156,.slice AS156 ss.length kS156,.bool true,.string c] [.string a,.string b,.slice AP156 ps.length kP156,.slice AS156 ss.length kS156,.bool true,.string c] B F4 L4 fun w401 hk B G=>?_;replace F2:=bk F2 hk N2_4.out;replace F3:=bk F3 hk N3_4.out;replace RP156:=rk RP156 F4 (by decide) hk;replace RS156:=rk RS156 F4 (by decide) hk;replace F4:=G;clear hk y0 z0 y1 z1 y2 z2 y3 z3 y4 z4 y5 z5))
      all_goals (refine bodyPost_ret (results_list (rs:=[.cell 4 38,.tmp 5]) rfl (by simp) (.cell g4 38 _ (0,0) _ rfl F4.out hu rfl (by kernel_rfl) (.tmp .nil))) rfl ?_;exact ⟨_,_,rfl,RP156.out,RS156.out,B.out⟩)
     | false =>
      have hid : idleB ⟨a,b,ps,ss,false,c⟩ ci sq k x=!takesB a b k x:=by unfold idleB;rw [hle];rfl
      clear q1 q2 hle
      unfold takesB at hid
      by_cases h5 : k=5
      ·have d5 : (k == 5)=true:=by rw [h5];rfl
       have d5n : (k != 5)=false:=by rw [h5];rfl
       rw [if_pos h5] at hid
       by_cases hx : x.toList=([] : List UInt8)
       ·have dx : (x.toList == ([] : List UInt8))=true:=by simp [hx]
        have dxn : (x.toList != ([] : List UInt8))=false:=by simp [hx]
        rw [aeM_go hh (by rw [hid,decide_eq_true hx];rfl),show applM ⟨a,b,ps,ss,false,c⟩ ci sq k x v o=(⟨a,b,ps,(putB ss ⟨ci,sq,0⟩).1,true,x⟩,0) from if_pos h5] at hr
        subst hr
        clear hh hN hid hsq h5 hx hcm hiv
        go_wp2_with (first
         | (go_at_call 41;with_reducible refine cl (spec_IntervalCut.M a b x _) B fun w601 hb B=>?_;replace F2:=bn F2 hb;replace F3:=bn F3 hb;replace F4:=bn F4 hb;replace F6:=bn F6 hb;replace RP156:=rn RP156 hb;replace RS156:=rn RS156 hb;clear c2_0 c2_1 c2_2 c2_3 c2_4 c2_5;obtain ⟨c2_0,c2_1,c2_2,c2_3,c2_4,c2_5⟩:=cs6 F2;clear c3_0 c3_1 c3_2 c3_3 c3_4 c3_5;obtain ⟨c3_0,c3_1,c3_2,c3_3,c3_4,c3_5⟩:=cs6 F3;clear c6_0 c6_1 c6_2 c6_3 c6_4 c6_5;obtain ⟨c6_0,c6_1,c6_2,c6_3,c6_4,c6_5⟩:=cs6 F6;clear hb)
         | ((with_reducible refine gate_dst (N:=8) rfl ?_);refine bxq 8 #[.string (⟨#[]⟩ : ByteArray),.string (⟨#[]⟩ : ByteArray)] 34 B fun g8 w602 hb B F8 L8 E8=>?_;have N2_8:=ne1 E8 F2;have N3_8:=ne1 E8 F3;have N4_8:=ne1 E8 F4;have N6_8:=ne1 E8 F6;replace F2:=bn F2 hb;replace F3:=bn F3 hb;replace F4:=bn F4 hb;replace F6:=bn F6 hb;replace RP156:=rn RP156 hb;replace RS156:=rn RS156 hb;clear c2_0 c2_1 c2_2 c2_3 c2_4 c2_5;obtain ⟨c2_0,c2_1,c2_2,c2_3,c2_4,c2_5⟩:=cs6 F2;clear c3_0 c3_1 c3_2 c3_3 c3_4 c3_5;obtain ⟨c3_0,c3_1,c3_2,c3_3,c3_4,c3_5⟩:=cs6 F3;clear c6_0 c6_1 c6_2 c6_3 c6_4 c6_5;obtain ⟨c6_0,c6_1,c6_2,c6_3,c6_4,c6_5⟩:=cs6 F6;clear hb E8)
         | ((with_reducible refine gate_dst (N:=9) rfl ?_);refine bxq 9 #[.string (⟨#[]⟩ : ByteArray),.string (⟨#[]⟩ : ByteArray)] 34 B fun g9 w603 hb B F9 L9 E9=>?_;have N2_9:=ne1 E9 F2;have N3_9:=ne1 E9 F3;have N4_9:=ne1 E9 F4;have N6_9:=ne1 E9 F6;have N8_9:=ne1 E9 F8;replace F2:=bn F2 hb;replace F3:=bn F3 hb;replace F4:=bn F4 hb;replace F6:=bn F6 hb;replace F8:=bn F8 hb;replace RP156:=rn RP156 hb;replace RS156:=rn RS156 hb;clear c2_0 c2_1 c2_2 c2_3 c2_4 c2_5;obtain ⟨c2_0,c2_1,c2_2,c2_3,c2_4,c2_5⟩:=cs6 F2;clear c3_0 c3_1 c3_2 c3_3 c3_4 c3_5;obtain ⟨c3_0,c3_1,c3_2,c3_3,c3_4,c3_5⟩:=cs6 F3;clear c6_0 c6_1 c6_2 c6_3 c6_4 c6_5;obtain ⟨c6_0,c6_1,c6_2,c6_3,c6_4,c6_5⟩:=cs6 F6;clear hb E9)
         | ((with_reducible refine gate_store (t:=34) (p:=8) rfl ?_);obtain ⟨y0,y1,z0,z1⟩:=cz2 F8;refine sxq 34 34 8 0 [.string (cutV a b x).1,.string (cutV a b x).2.1] [.string (cutV a b x).1,.string (cutV a b x).2.1] B F8 L8 fun w604 hk B G=>?_;replace F2:=bk F2 hk N2_8.out;replace F3:=bk F3 hk N3_8.out;replace F4:=bk F4 hk N4_8.out;replace F6:=bk F6 hk N6_8.out;replace F9:=bk F9 hk N8_9.out.symm;replace RP156:=rk RP156 F8 (by decide) hk;replace RS156:=rk RS156 F8 (by decide) hk;replace F8:=G;clear c2_0 c2_1 c2_2 c2_3 c2_4 c2_5;obtain ⟨c2_0,c2_1,c2_2,c2_3,c2_4,c2_5⟩:=cs6 F2;clear c3_0 c3_1 c3_2 c3_3 c3_4 c3_5;obtain ⟨c3_0,c3_1,c3_2,c3_3,c3_4,c3_5⟩:=cs6 F3;clear c6_0 c6_1 c6_2 c6_3 c6_4 c6_5;obtain ⟨c6_0,c6_1,c6_2,c6_3,c6_4,c6_5⟩:=cs6 F6;clear hk y0 z0 y1 z1)
         | ((with_reducible refine gate_store (t:=34) (p:=9) rfl ?_);obtain ⟨y0,y1,z0,z1⟩:=cz2 F9;refine sxq 34 34 9 0 [.string (cutV a b x).2.2.1,.string (cutV a b x).2.2.2.1] [.string (cutV a b x).2.2.1,.string (cutV a b x).2.2.2.1] B F9 L9 fun w605 hk B G=>?_;replace F2:=bk F2 hk N2_9.out;replace F3:=bk F3 hk N3_9.out;replace F4:=bk F4 hk N4_9.out;replace F6:=bk F6 hk N6_9.out;replace RP156:=rk RP156 F9 (by decide) hk;replace RS156:=rk RS156 F9 (by decide) hk;replace F9:=G;clear c2_0 c2_1 c2_2 c2_3 c2_4 c2_5;obtain ⟨c2_0,c2_1,c2_2,c2_3,c2_4,c2_5⟩:=cs6 F2;clear c3_0 c3_1 c3_2 c3_3 c3_4 c3_5;obtain ⟨c3_0,c3_1,c3_2,c3_3,c3_4,c3_5⟩:=cs6 F3;clear c6_0 c6_1 c6_2 c6_3 c6_4 c6_5;obtain ⟨c6_0,c6_1,c6_2,c6_3,c6_4,c6_5⟩:=cs6 F6;clear hk y0 z0 y1 z1)
         | (go_at_call 42;with_reducible refine cl (spec_IntervalHas.M a b x _) B fun w606 hb B=>?_;replace F2:=bn F2 hb;replace F3:=bn F3 hb;replace F4:=bn F4 hb;replace F6:=bn F6 hb;replace RP156:=rn RP156 hb;replace RS156:=rn RS156 hb;clear c3_0 c3_1 c3_2 c3_3 c3_4 c3_5;obtain ⟨c3_0,c3_1,c3_2,c3_3,c3_4,c3_5⟩:=cs6 F3;clear c6_0 c6_1 c6_2 c6_3 c6_4 c6_5;obtain ⟨c6_0,c6_1,c6_2,c6_3,c6_4,c6_5⟩:=cs6 F6;clear hb)
         | ((with_reducible refine gate_store (t:=4) (p:=90) rfl ?_);obtain ⟨y0,y1,y2,y3,y4,y5,z0,z1,z2,z3,z4,z5⟩:=cz6 F6;refine sxq 38 4 90 4 [.bool true] [.string a,.string b,.slice AP156 ps.length kP156,.slice AS156 ss.length kS156,.bool true,.string c] B F6 L6 fun w607 hk B G=>?_;replace F2:=bk F2 hk N2_6.out;replace F3:=bk F3 hk N3_6.out;replace F4:=bk F4 hk N4_6.out;replace RP156:=rk RP156 F6 (by decide) hk;replace RS156:=rk RS156 F6 (by decide) hk;replace F6:=G;clear c3_0 c3_1 c3_2 c3_3 c3_4 c3_5;obtain ⟨c3_0,c3_1,c3_2,c3_3,c3_4,c3_5⟩:=cs6 F3;clear c6_0 c6_1 c6_2 c6_3 c6_4 c6_5;obtain ⟨c6_0,c6_1,c6_2,c6_3,c6_4,c6_5⟩:=cs6 F6;clear hk y0 z0 y1 z1 y2 z2 y3 z3 y4 z4 y5 z5)
         | ((with_reducible refine gate_store (t:=9) (p:=94) rfl ?_);obtain ⟨y0,y1,y2,y3,y4,y5,z0,z1,z2,z3,z4,z5⟩:=cz6 F6;refine sxq 38 9 94 5 [.string x] [.string a,.string b,.slice AP156 ps.length kP156,.slice AS156 ss.length kS156,.bool true,.string x] B F6 L6 fun w608 hk B G=>?_;replace F2:=bk F2 hk N2_6.out;replace F3:=bk F3 hk N3_6.out;replace F4:=bk F4 hk N4_6.out;replace RP156:=rk RP156 F6 (by decide) hk;replace RS156:=rk RS156 F6 (by decide) hk;replace F6:=G;clear c3_0 c3_1 c3_2 c3_3 c3_4 c3_5;obtain ⟨c3_0,c3_1,c3_2,c3_3,c3_4,c3_5⟩:=cs6 F3;clear c6_0 c6_1 c6_2 c6_3 c6_4 c6_5;obtain ⟨c6_0,c6_1,c6_2,c6_3,c6_4,c6_5⟩:=cs6 F6;clear hk y0 z0 y1 z1 y2 z2 y3 z3 y4 z4 y5 z5)
         | (go_at_call 44;with_reducible refine cr (spec_SessionPut.M _ _ ss ci sq 0 _ (rc RS156) (rl RS156)) B fun AU609 kU609 w609 hb B RU609 QU609=>?_;have DP156_U609:=fr QU609 RP156;have DS156_U609:=fr QU609 RS156;replace F2:=bn F2 hb;replace F3:=bn F3 hb;replace F4:=bn F4 hb;replace F6:=bn F6 hb;replace RP156:=rn RP156 hb;replace RS156:=rn RS156 hb;clear QU609;clear c6_0 c6_1 c6_2 c6_3 c6_4 c6_5;obtain ⟨c6_0,c6_1,c6_2,c6_3,c6_4,c6_5⟩:=cs6 F6;clear hb)
         | ((with_reducible refine gate_store (t:=36) (p:=119) rfl ?_);obtain ⟨y0,y1,y2,y3,y4,y5,z0,z1,z2,z3,z4,z5⟩:=cz6 F6;refine sxq 38 36 119 3 [.slice AU609 (putB ss ⟨ci,sq,0⟩).1.length kU609] [.string a,.string b,.slice AP156 ps.length kP156,.slice AU609 (putB ss ⟨ci,sq,0⟩).1.length kU609,.bool true,.string x] B F6 L6 fun w610 hk B G=>?_;replace F2:=bk F2 hk N2_6.out;replace F3:=bk F3 hk N3_6.out;replace F4:=bk F4 hk N4_6.out;replace RP156:=rk RP156 F6 (by decide) hk;replace RS156:=rk RS156 F6 (by decide) hk;replace RU609:=rk RU609 F6 (by decide) hk;replace F6:=G;clear c6_0 c6_1 c6_2 c6_3 c6_4 c6_5;obtain ⟨c6_0,c6_1,c6_2,c6_3,c6_4,c6_5⟩:=cs6 F6;clear hk y0 z0 y1 z1 y2 z2 y3 z3 y4 z4 y5 z5)
         | ((with_reducible refine gate_store (t:=38) (p:=4) rfl ?_);obtain ⟨y0,y1,y2,y3,y4,y5,z0,z1,z2,z3,z4,z5⟩:=cz6 F4;refine sxq 38 38 4 0 [.string a,.string b,.slice AP156 ps.length kP156,.slice AU609 (putB ss ⟨ci,sq,0⟩).1.length kU609,.bool true,.string x] [.string a,.string b,.slice AP156 ps.length kP156,.slice AU609 (putB ss ⟨ci,sq,0⟩).1.length kU609,.bool true,.string x] B F4 L4 fun w611 hk B G=>?_;replace F2:=bk F2 hk N2_4.out;replace F3:=bk F3 hk N3_4.out;replace RP156:=rk RP156 F4 (by decide) hk;replace RS156:=rk RS156 F4 (by decide) hk;replace RU609:=rk RU609 F4 (by decide) hk;replace F4:=G;clear hk y0 z0 y1 z1 y2 z2 y3 z3 y4 z4 y5 z5))
        all_goals (refine bodyPost_ret (results_list (rs:=[.cell 4 38,.tmp 5]) rfl (by simp) (.cell g4 38 _ (0,0) _ rfl F4.out hu rfl (by kernel_rfl) (.tmp .nil))) rfl ?_;exact ⟨_,_,rfl,RP156.out,RU609.out,B.out⟩)
       ·have dx : (x.toList == ([] : List UInt8))=false:=by simp [hx]
        have dxn : (x.toList != ([] : List UInt8))=true:=by simp [hx]
        rw [decide_eq_false hx,Bool.false_or] at hid
        cases hc : cutB a b x with
        | true =>
         have hco : (cutV a b x).2.2.2.2=true:=(cutV_ok a b x).trans hc
         rw [aeM_go hh (by rw [hid,hc];rfl),show applM ⟨a,b,ps,ss,false,c⟩ ci sq k x v o=(⟨a,b,ps,(putB ss ⟨ci,sq,0⟩).1,true,x⟩,0) from if_pos h5] at hr
         subst hr
         clear hh hN hid hsq h5 hx hcm hiv hc
         go_wp2_with (first
          | (go_at_call 41;with_reducible refine cl (spec_IntervalCut.M a b x _) B fun w601 hb B=>?_;replace F2:=bn F2 hb;replace F3:=bn F3 hb;replace F4:=bn F4 hb;replace F6:=bn F6 hb;replace RP156:=rn RP156 hb;replace RS156:=rn RS156 hb;clear c2_0 c2_1 c2_2 c2_3 c2_4 c2_5;obtain ⟨c2_0,c2_1,c2_2,c2_3,c2_4,c2_5⟩:=cs6 F2;clear c3_0 c3_1 c3_2 c3_3 c3_4 c3_5;obtain ⟨c3_0,c3_1,c3_2,c3_3,c3_4,c3_5⟩:=cs6 F3;clear c6_0 c6_1 c6_2 c6_3 c6_4 c6_5;obtain ⟨c6_0,c6_1,c6_2,c6_3,c6_4,c6_5⟩:=cs6 F6;clear hb)
          | ((with_reducible refine gate_dst (N:=8) rfl ?_);refine bxq 8 #[.string (⟨#[]⟩ : ByteArray),.string (⟨#[]⟩ : ByteArray)] 34 B fun g8 w602 hb B F8 L8 E8=>?_;have N2_8:=ne1 E8 F2;have N3_8:=ne1 E8 F3;have N4_8:=ne1 E8 F4;have N6_8:=ne1 E8 F6;replace F2:=bn F2 hb;replace F3:=bn F3 hb;replace F4:=bn F4 hb;replace F6:=bn F6 hb;replace RP156:=rn RP156 hb;replace RS156:=rn RS156 hb;clear c2_0 c2_1 c2_2 c2_3 c2_4 c2_5;obtain ⟨c2_0,c2_1,c2_2,c2_3,c2_4,c2_5⟩:=cs6 F2;clear c3_0 c3_1 c3_2 c3_3 c3_4 c3_5;obtain ⟨c3_0,c3_1,c3_2,c3_3,c3_4,c3_5⟩:=cs6 F3;clear c6_0 c6_1 c6_2 c6_3 c6_4 c6_5;obtain ⟨c6_0,c6_1,c6_2,c6_3,c6_4,c6_5⟩:=cs6 F6;clear hb E8)
          | ((with_reducible refine gate_dst (N:=9) rfl ?_);refine bxq 9 #[.string (⟨#[]⟩ : ByteArray),.string (⟨#[]⟩ : ByteArray)] 34 B fun g9 w603 hb B F9 L9 E9=>?_;have N2_9:=ne1 E9 F2;have N3_9:=ne1 E9 F3;have N4_9:=ne1 E9 F4;have N6_9:=ne1 E9 F6;have N8_9:=ne1 E9 F8;replace F2:=bn F2 hb;replace F3:=bn F3 hb;replace F4:=bn F4 hb;replace F6:=bn F6 hb;replace F8:=bn F8 hb;replace RP156:=rn RP156 hb;replace RS156:=rn RS156 hb;clear c2_0 c2_1 c2_2 c2_3 c2_4 c2_5;obtain ⟨c2_0,c2_1,c2_2,c2_3,c2_4,c2_5⟩:=cs6 F2;clear c3_0 c3_1 c3_2 c3_3 c3_4 c3_5;obtain ⟨c3_0,c3_1,c3_2,c3_3,c3_4,c3_5⟩:=cs6 F3;clear c6_0 c6_1 c6_2 c6_3 c6_4 c6_5;obtain ⟨c6_0,c6_1,c6_2,c6_3,c6_4,c6_5⟩:=cs6 F6;clear hb E9)
          | ((with_reducible refine gate_store (t:=34) (p:=8) rfl ?_);obtain ⟨y0,y1,z0,z1⟩:=cz2 F8;refine sxq 34 34 8 0 [.string (cutV a b x).1,.string (cutV a b x).2.1] [.string (cutV a b x).1,.string (cutV a b x).2.1] B F8 L8 fun w604 hk B G=>?_;replace F2:=bk F2 hk N2_8.out;replace F3:=bk F3 hk N3_8.out;replace F4:=bk F4 hk N4_8.out;replace F6:=bk F6 hk N6_8.out;replace F9:=bk F9 hk N8_9.out.symm;replace RP156:=rk RP156 F8 (by decide) hk;replace RS156:=rk RS156 F8 (by decide) hk;replace F8:=G;clear c2_0 c2_1 c2_2 c2_3 c2_4 c2_5;obtain ⟨c2_0,c2_1,c2_2,c2_3,c2_4,c2_5⟩:=cs6 F2;clear c3_0 c3_1 c3_2 c3_3 c3_4 c3_5;obtain ⟨c3_0,c3_1,c3_2,c3_3,c3_4,c3_5⟩:=cs6 F3;clear c6_0 c6_1 c6_2 c6_3 c6_4 c6_5;obtain ⟨c6_0,c6_1,c6_2,c6_3,c6_4,c6_5⟩:=cs6 F6;clear hk y0 z0 y1 z1)
          | ((with_reducible refine gate_store (t:=34) (p:=9) rfl ?_);obtain ⟨y0,y1,z0,z1⟩:=cz2 F9;refine sxq 34 34 9 0 [.string (cutV a b x).2.2.1,.string (cutV a b x).2.2.2.1] [.string (cutV a b x).2.2.1,.string (cutV a b x).2.2.2.1] B F9 L9 fun w605 hk B G=>?_;replace F2:=bk F2 hk N2_9.out;replace F3:=bk F3 hk N3_9.out;replace F4:=bk F4 hk N4_9.out;replace F6:=bk F6 hk N6_9.out;replace RP156:=rk RP156 F9 (by decide) hk;replace RS156:=rk RS156 F9 (by decide) hk;replace F9:=G;clear c2_0 c2_1 c2_2 c2_3 c2_4 c2_5;obtain ⟨c2_0,c2_1,c2_2,c2_3,c2_4,c2_5⟩:=cs6 F2;clear c3_0 c3_1 c3_2 c3_3 c3_4 c3_5;obtain ⟨c3_0,c3_1,c3_2,c3_3,c3_4,c3_5⟩:=cs6 F3;clear c6_0 c6_1 c6_2 c6_3 c6_4 c6_5;obtain ⟨c6_0,c6_1,c6_2,c6_3,c6_4,c6_5⟩:=cs6 F6;clear hk y0 z0 y1 z1)
          | (go_at_call 42;with_reducible refine cl (spec_IntervalHas.M a b x _) B fun w606 hb B=>?_;replace F2:=bn F2 hb;replace F3:=bn F3 hb;replace F4:=bn F4 hb;replace F6:=bn F6 hb;replace RP156:=rn RP156 hb;replace RS156:=rn RS156 hb;clear c3_0 c3_1 c3_2 c3_3 c3_4 c3_5;obtain ⟨c3_0,c3_1,c3_2,c3_3,c3_4,c3_5⟩:=cs6 F3;clear c6_0 c6_1 c6_2 c6_3 c6_4 c6_5;obtain ⟨c6_0,c6_1,c6_2,c6_3,c6_4,c6_5⟩:=cs6 F6;clear hb)
          | ((with_reducible refine gate_store (t:=4) (p:=90) rfl ?_);obtain ⟨y0,y1,y2,y3,y4,y5,z0,z1,z2,z3,z4,z5⟩:=cz6 F6;refine sxq 38 4 90 4 [.bool true] [.string a,.string b,.slice AP156 ps.length kP156,.slice AS156 ss.length kS156,.bool true,.string c] B F6 L6 fun w607 hk B G=>?_;replace F2:=bk F2 hk N2_6.out;replace F3:=bk F3 hk N3_6.out;replace F4:=bk F4 hk N4_6.out;replace RP156:=rk RP156 F6 (by decide) hk;replace RS156:=rk RS156 F6 (by decide) hk;replace F6:=G;clear c3_0 c3_1 c3_2 c3_3 c3_4 c3_5;obtain ⟨c3_0,c3_1,c3_2,c3_3,c3_4,c3_5⟩:=cs6 F3;clear c6_0 c6_1 c6_2 c6_3 c6_4 c6_5;obtain ⟨c6_0,c6_1,c6_2,c6_3,c6_4,c6_5⟩:=cs6 F6;clear hk y0 z0 y1 z1 y2 z2 y3 z3 y4 z4 y5 z5)
          | ((with_reducible refine gate_store (t:=9) (p:=94) rfl ?_);obtain ⟨y0,y1,y2,y3,y4,y5,z0,z1,z2,z3,z4,z5⟩:=cz6 F6;refine sxq 38 9 94 5 [.string x] [.string a,.string b,.slice AP156 ps.length kP156,.slice AS156 ss.length kS156,.bool true,.string x] B F6 L6 fun w608 hk B G=>?_;replace F2:=bk F2 hk N2_6.out;replace F3:=bk F3 hk N3_6.out;replace F4:=bk F4 hk N4_6.out;replace RP156:=rk RP156 F6 (by decide) hk;replace RS156:=rk RS156 F6 (by decide) hk;replace F6:=G;clear c3_0 c3_1 c3_2 c3_3 c3_4 c3_5;obtain ⟨c3_0,c3_1,c3_2,c3_3,c3_4,c3_5⟩:=cs6 F3;clear c6_0 c6_1 c6_2 c6_3 c6_4 c6_5;obtain ⟨c6_0,c6_1,c6_2,c6_3,c6_4,c6_5⟩:=cs6 F6;clear hk y0 z0 y1 z1 y2 z2 y3 z3 y4 z4 y5 z5)
          | (go_at_call 44;with_reducible refine cr (spec_SessionPut.M _ _ ss ci sq 0 _ (rc RS156) (rl RS156)) B fun AU609 kU609 w609 hb B RU609 QU609=>?_;have DP156_U609:=fr QU609 RP156;have DS156_U609:=fr QU609 RS156;replace F2:=bn F2 hb;replace F3:=bn F3 hb;replace F4:=bn F4 hb;replace F6:=bn F6 hb;replace RP156:=rn RP156 hb;replace RS156:=rn RS156 hb;clear QU609;clear c6_0 c6_1 c6_2 c6_3 c6_4 c6_5;obtain ⟨c6_0,c6_1,c6_2,c6_3,c6_4,c6_5⟩:=cs6 F6;clear hb)
          | ((with_reducible refine gate_store (t:=36) (p:=119) rfl ?_);obtain ⟨y0,y1,y2,y3,y4,y5,z0,z1,z2,z3,z4,z5⟩:=cz6 F6;refine sxq 38 36 119 3 [.slice AU609 (putB ss ⟨ci,sq,0⟩).1.length kU609] [.string a,.string b,.slice AP156 ps.length kP156,.slice AU609 (putB ss ⟨ci,sq,0⟩).1.length kU609,.bool true,.string x] B F6 L6 fun w610 hk B G=>?_;replace F2:=bk F2 hk N2_6.out;replace F3:=bk F3 hk N3_6.out;replace F4:=bk F4 hk N4_6.out;replace RP156:=rk RP156 F6 (by decide) hk;replace RS156:=rk RS156 F6 (by decide) hk;replace RU609:=rk RU609 F6 (by decide) hk;replace F6:=G;clear c6_0 c6_1 c6_2 c6_3 c6_4 c6_5;obtain ⟨c6_0,c6_1,c6_2,c6_3,c6_4,c6_5⟩:=cs6 F6;clear hk y0 z0 y1 z1 y2 z2 y3 z3 y4 z4 y5 z5)
          | ((with_reducible refine gate_store (t:=38) (p:=4) rfl ?_);obtain ⟨y0,y1,y2,y3,y4,y5,z0,z1,z2,z3,z4,z5⟩:=cz6 F4;refine sxq 38 38 4 0 [.string a,.string b,.slice AP156 ps.length kP156,.slice AU609 (putB ss ⟨ci,sq,0⟩).1.length kU609,.bool true,.string x] [.string a,.string b,.slice AP156 ps.length kP156,.slice AU609 (putB ss ⟨ci,sq,0⟩).1.length kU609,.bool true,.string x] B F4 L4 fun w611 hk B G=>?_;replace F2:=bk F2 hk N2_4.out;replace F3:=bk F3 hk N3_4.out;replace RP156:=rk RP156 F4 (by decide) hk;replace RS156:=rk RS156 F4 (by decide) hk;replace RU609:=rk RU609 F4 (by decide) hk;replace F4:=G;clear hk y0 z0 y1 z1 y2 z2 y3 z3 y4 z4 y5 z5))
         all_goals (refine bodyPost_ret (results_list (rs:=[.cell 4 38,.tmp 5]) rfl (by simp) (.cell g4 38 _ (0,0) _ rfl F4.out hu rfl (by kernel_rfl) (.tmp .nil))) rfl ?_;exact ⟨_,_,rfl,RP156.out,RU609.out,B.out⟩)
        | false =>
         have hco : (cutV a b x).2.2.2.2=false:=(cutV_ok a b x).trans hc
         rw [aeM_idle hh (by rw [hid,hc];rfl),hN] at hr
         subst hr
         clear hh hN hid hsq h5 hx hcm hiv hc
         go_wp2_with (first
          | (go_at_call 41;with_reducible refine cl (spec_IntervalCut.M a b x _) B fun w501 hb B=>?_;replace F2:=bn F2 hb;replace F3:=bn F3 hb;replace F4:=bn F4 hb;replace F6:=bn F6 hb;replace RP156:=rn RP156 hb;replace RS156:=rn RS156 hb;clear c2_0 c2_1 c2_2 c2_3 c2_4 c2_5;obtain ⟨c2_0,c2_1,c2_2,c2_3,c2_4,c2_5⟩:=cs6 F2;clear c3_0 c3_1 c3_2 c3_3 c3_4 c3_5;obtain ⟨c3_0,c3_1,c3_2,c3_3,c3_4,c3_5⟩:=cs6 F3;clear c6_0 c6_1 c6_2 c6_3 c6_4 c6_5;obtain ⟨c6_0,c6_1,c6_2,c6_3,c6_4,c6_5⟩:=cs6 F6;clear hb)
          | ((with_reducible refine gate_dst (N:=8) rfl ?_);refine bxq 8 #[.string (⟨#[]⟩ : ByteArray),.string (⟨#[]⟩ : ByteArray)] 34 B fun g8 w502 hb B F8 L8 E8=>?_;have N2_8:=ne1 E8 F2;have N3_8:=ne1 E8 F3;have N4_8:=ne1 E8 F4;have N6_8:=ne1 E8 F6;replace F2:=bn F2 hb;replace F3:=bn F3 hb;replace F4:=bn F4 hb;replace F6:=bn F6 hb;replace RP156:=rn RP156 hb;replace RS156:=rn RS156 hb;clear c2_0 c2_1 c2_2 c2_3 c2_4 c2_5;obtain ⟨c2_0,c2_1,c2_2,c2_3,c2_4,c2_5⟩:=cs6 F2;clear c3_0 c3_1 c3_2 c3_3 c3_4 c3_5;obtain ⟨c3_0,c3_1,c3_2,c3_3,c3_4,c3_5⟩:=cs6 F3;clear c6_0 c6_1 c6_2 c6_3 c6_4 c6_5;obtain ⟨c6_0,c6_1,c6_2,c6_3,c6_4,c6_5⟩:=cs6 F6;clear hb E8)
          | ((with_reducible refine gate_dst (N:=9) rfl ?_);refine bxq 9 #[.string (⟨#[]⟩ : ByteArray),.string (⟨#[]⟩ : ByteArray)] 34 B fun g9 w503 hb B F9 L9 E9=>?_;have N2_9:=ne1 E9 F2;have N3_9:=ne1 E9 F3;have N4_9:=ne1 E9 F4;have N6_9:=ne1 E9 F6;have N8_9:=ne1 E9 F8;replace F2:=bn F2 hb;replace F3:=bn F3 hb;replace F4:=bn F4 hb;replace F6:=bn F6 hb;replace F8:=bn F8 hb;replace RP156:=rn RP156 hb;replace RS156:=rn RS156 hb;clear c2_0 c2_1 c2_2 c2_3 c2_4 c2_5;obtain ⟨c2_0,c2_1,c2_2,c2_3,c2_4,c2_5⟩:=cs6 F2;clear c3_0 c3_1 c3_2 c3_3 c3_4 c3_5;obtain ⟨c3_0,c3_1,c3_2,c3_3,c3_4,c3_5⟩:=cs6 F3;clear c6_0 c6_1 c6_2 c6_3 c6_4 c6_5;obtain ⟨c6_0,c6_1,c6_2,c6_3,c6_4,c6_5⟩:=cs6 F6;clear hb E9)
          | ((with_reducible refine gate_store (t:=34) (p:=8) rfl ?_);obtain ⟨y0,y1,z0,z1⟩:=cz2 F8;refine sxq 34 34 8 0 [.string (cutV a b x).1,.string (cutV a b x).2.1] [.string (cutV a b x).1,.string (cutV a b x).2.1] B F8 L8 fun w504 hk B G=>?_;replace F2:=bk F2 hk N2_8.out;replace F3:=bk F3 hk N3_8.out;replace F4:=bk F4 hk N4_8.out;replace F6:=bk F6 hk N6_8.out;replace F9:=bk F9 hk N8_9.out.symm;replace RP156:=rk RP156 F8 (by decide) hk;replace RS156:=rk RS156 F8 (by decide) hk;replace F8:=G;clear c2_0 c2_1 c2_2 c2_3 c2_4 c2_5;obtain ⟨c2_0,c2_1,c2_2,c2_3,c2_4,c2_5⟩:=cs6 F2;clear c3_0 c3_1 c3_2 c3_3 c3_4 c3_5;obtain ⟨c3_0,c3_1,c3_2,c3_3,c3_4,c3_5⟩:=cs6 F3;clear c6_0 c6_1 c6_2 c6_3 c6_4 c6_5;obtain ⟨c6_0,c6_1,c6_2,c6_3,c6_4,c6_5⟩:=cs6 F6;clear hk y0 z0 y1 z1)
          | ((with_reducible refine gate_store (t:=34) (p:=9) rfl ?_);obtain ⟨y0,y1,z0,z1⟩:=cz2 F9;refine sxq 34 34 9 0 [.string (cutV a b x).2.2.1,.string (cutV a b x).2.2.2.1] [.string (cutV a b x).2.2.1,.string (cutV a b x).2.2.2.1] B F9 L9 fun w505 hk B G=>?_;replace F2:=bk F2 hk N2_9.out;replace F3:=bk F3 hk N3_9.out;replace F4:=bk F4 hk N4_9.out;replace F6:=bk F6 hk N6_9.out;replace RP156:=rk RP156 F9 (by decide) hk;replace RS156:=rk RS156 F9 (by decide) hk;replace F9:=G;clear c2_0 c2_1 c2_2 c2_3 c2_4 c2_5;obtain ⟨c2_0,c2_1,c2_2,c2_3,c2_4,c2_5⟩:=cs6 F2;clear c3_0 c3_1 c3_2 c3_3 c3_4 c3_5;obtain ⟨c3_0,c3_1,c3_2,c3_3,c3_4,c3_5⟩:=cs6 F3;clear c6_0 c6_1 c6_2 c6_3 c6_4 c6_5;obtain ⟨c6_0,c6_1,c6_2,c6_3,c6_4,c6_5⟩:=cs6 F6;clear hk y0 z0 y1 z1)
          | (go_at_call 42;with_reducible refine cl (spec_IntervalHas.M a b x _) B fun w506 hb B=>?_;replace F2:=bn F2 hb;replace F3:=bn F3 hb;replace F4:=bn F4 hb;replace F6:=bn F6 hb;replace RP156:=rn RP156 hb;replace RS156:=rn RS156 hb;clear c6_0 c6_1 c6_2 c6_3 c6_4 c6_5;obtain ⟨c6_0,c6_1,c6_2,c6_3,c6_4,c6_5⟩:=cs6 F6;clear hb)
          | ((with_reducible refine gate_store (t:=38) (p:=4) rfl ?_);obtain ⟨y0,y1,y2,y3,y4,y5,z0,z1,z2,z3,z4,z5⟩:=cz6 F4;refine sxq 38 38 4 0 [.string a,.string b,.slice AP156 ps.length kP156,.slice AS156 ss.length kS156,.bool false,.string c] [.string a,.string b,.slice AP156 ps.length kP156,.slice AS156 ss.length kS156,.bool false,.string c] B F4 L4 fun w507 hk B G=>?_;replace F2:=bk F2 hk N2_4.out;replace F3:=bk F3 hk N3_4.out;replace RP156:=rk RP156 F4 (by decide) hk;replace RS156:=rk RS156 F4 (by decide) hk;replace F4:=G;clear hk y0 z0 y1 z1 y2 z2 y3 z3 y4 z4 y5 z5))
         all_goals (refine bodyPost_ret (results_list (rs:=[.cell 4 38,.tmp 5]) rfl (by simp) (.cell g4 38 _ (0,0) _ rfl F4.out hu rfl (by kernel_rfl) (.tmp .nil))) rfl ?_;exact ⟨_,_,rfl,RP156.out,RS156.out,B.out⟩)
      ·have d5 : (k == 5)=false:=beq_eq_false_iff_ne.mpr h5
       have d5n : (k != 5)=true:=bne_iff_ne.mpr h5
       have hkx : keyB x=true:=by
        have h:=hcm
        unfold cmdB at h
        rw [decide_eq_false h5,Bool.false_and,Bool.or_false,Bool.and_eq_true] at h
        exact h.1
       rw [if_neg h5] at hid
       have hhb : hasB a b x=insB a b x:=by unfold hasB;rw [hiv,hkx];rfl
       cases hi : insB a b x with
       | true =>
        rw [hi] at hhb
        rw [aeM_go hh (by rw [hid,hi];rfl),show applM ⟨a,b,ps,ss,false,c⟩ ci sq k x v o=(⟨a,b,(apM ps k x v o).1,(putB ss ⟨ci,sq,(apM ps k x v o).2⟩).1,false,c⟩,(apM ps k x v o).2) from if_neg h5] at hr
        subst hr
        clear hh hN hid hsq h5 hcm hiv hkx hi
        go_wp2_with (first
         | (go_at_call 41;with_reducible refine cl (spec_IntervalCut.M a b x _) B fun w701 hb B=>?_;replace F2:=bn F2 hb;replace F3:=bn F3 hb;replace F4:=bn F4 hb;replace F6:=bn F6 hb;replace RP156:=rn RP156 hb;replace RS156:=rn RS156 hb;clear c2_0 c2_1 c2_2 c2_3 c2_4 c2_5;obtain ⟨c2_0,c2_1,c2_2,c2_3,c2_4,c2_5⟩:=cs6 F2;clear c3_0 c3_1 c3_2 c3_3 c3_4 c3_5;obtain ⟨c3_0,c3_1,c3_2,c3_3,c3_4,c3_5⟩:=cs6 F3;clear c6_0 c6_1 c6_2 c6_3 c6_4 c6_5;obtain ⟨c6_0,c6_1,c6_2,c6_3,c6_4,c6_5⟩:=cs6 F6;clear hb)
         | ((with_reducible refine gate_dst (N:=8) rfl ?_);refine bxq 8 #[.string (⟨#[]⟩ : ByteArray),.string (⟨#[]⟩ : ByteArray)] 34 B fun g8 w702 hb B F8 L8 E8=>?_;have N2_8:=ne1 E8 F2;have N3_8:=ne1 E8 F3;have N4_8:=ne1 E8 F4;have N6_8:=ne1 E8 F6;replace F2:=bn F2 hb;replace F3:=bn F3 hb;replace F4:=bn F4 hb;replace F6:=bn F6 hb;replace RP156:=rn RP156 hb;replace RS156:=rn RS156 hb;clear c2_0 c2_1 c2_2 c2_3 c2_4 c2_5;obtain ⟨c2_0,c2_1,c2_2,c2_3,c2_4,c2_5⟩:=cs6 F2;clear c3_0 c3_1 c3_2 c3_3 c3_4 c3_5;obtain ⟨c3_0,c3_1,c3_2,c3_3,c3_4,c3_5⟩:=cs6 F3;clear c6_0 c6_1 c6_2 c6_3 c6_4 c6_5;obtain ⟨c6_0,c6_1,c6_2,c6_3,c6_4,c6_5⟩:=cs6 F6;clear hb E8)
         | ((with_reducible refine gate_dst (N:=9) rfl ?_);refine bxq 9 #[.string (⟨#[]⟩ : ByteArray),.string (⟨#[]⟩ : ByteArray)] 34 B fun g9 w703 hb B F9 L9 E9=>?_;have N2_9:=ne1 E9 F2;have N3_9:=ne1 E9 F3;have N4_9:=ne1 E9 F4;have N6_9:=ne1 E9 F6;have N8_9:=ne1 E9 F8;replace F2:=bn F2 hb;replace F3:=bn F3 hb;replace F4:=bn F4 hb;replace F6:=bn F6 hb;replace F8:=bn F8 hb;replace RP156:=rn RP156 hb;replace RS156:=rn RS156 hb;clear c2_0 c2_1 c2_2 c2_3 c2_4 c2_5;obtain ⟨c2_0,c2_1,c2_2,c2_3,c2_4,c2_5⟩:=cs6 F2;clear c3_0 c3_1 c3_2 c3_3 c3_4 c3_5;obtain ⟨c3_0,c3_1,c3_2,c3_3,c3_4,c3_5⟩:=cs6 F3;clear c6_0 c6_1 c6_2 c6_3 c6_4 c6_5;obtain ⟨c6_0,c6_1,c6_2,c6_3,c6_4,c6_5⟩:=cs6 F6;clear hb E9)
         | ((with_reducible refine gate_store (t:=34) (p:=8) rfl ?_);obtain ⟨y0,y1,z0,z1⟩:=cz2 F8;refine sxq 34 34 8 0 [.string (cutV a b x).1,.string (cutV a b x).2.1] [.string (cutV a b x).1,.string (cutV a b x).2.1] B F8 L8 fun w704 hk B G=>?_;replace F2:=bk F2 hk N2_8.out;replace F3:=bk F3 hk N3_8.out;replace F4:=bk F4 hk N4_8.out;replace F6:=bk F6 hk N6_8.out;replace F9:=bk F9 hk N8_9.out.symm;replace RP156:=rk RP156 F8 (by decide) hk;replace RS156:=rk RS156 F8 (by decide) hk;replace F8:=G;clear c2_0 c2_1 c2_2 c2_3 c2_4 c2_5;obtain ⟨c2_0,c2_1,c2_2,c2_3,c2_4,c2_5⟩:=cs6 F2;clear c3_0 c3_1 c3_2 c3_3 c3_4 c3_5;obtain ⟨c3_0,c3_1,c3_2,c3_3,c3_4,c3_5⟩:=cs6 F3;clear c6_0 c6_1 c6_2 c6_3 c6_4 c6_5;obtain ⟨c6_0,c6_1,c6_2,c6_3,c6_4,c6_5⟩:=cs6 F6;clear hk y0 z0 y1 z1)
         | ((with_reducible refine gate_store (t:=34) (p:=9) rfl ?_);obtain ⟨y0,y1,z0,z1⟩:=cz2 F9;refine sxq 34 34 9 0 [.string (cutV a b x).2.2.1,.string (cutV a b x).2.2.2.1] [.string (cutV a b x).2.2.1,.string (cutV a b x).2.2.2.1] B F9 L9 fun w705 hk B G=>?_;replace F2:=bk F2 hk N2_9.out;replace F3:=bk F3 hk N3_9.out;replace F4:=bk F4 hk N4_9.out;replace F6:=bk F6 hk N6_9.out;replace RP156:=rk RP156 F9 (by decide) hk;replace RS156:=rk RS156 F9 (by decide) hk;replace F9:=G;clear c2_0 c2_1 c2_2 c2_3 c2_4 c2_5;obtain ⟨c2_0,c2_1,c2_2,c2_3,c2_4,c2_5⟩:=cs6 F2;clear c3_0 c3_1 c3_2 c3_3 c3_4 c3_5;obtain ⟨c3_0,c3_1,c3_2,c3_3,c3_4,c3_5⟩:=cs6 F3;clear c6_0 c6_1 c6_2 c6_3 c6_4 c6_5;obtain ⟨c6_0,c6_1,c6_2,c6_3,c6_4,c6_5⟩:=cs6 F6;clear hk y0 z0 y1 z1)
         | (go_at_call 42;with_reducible refine cl (spec_IntervalHas.M a b x _) B fun w706 hb B=>?_;replace F2:=bn F2 hb;replace F3:=bn F3 hb;replace F4:=bn F4 hb;replace F6:=bn F6 hb;replace RP156:=rn RP156 hb;replace RS156:=rn RS156 hb;clear c2_0 c2_1 c2_2 c2_3 c2_4 c2_5;obtain ⟨c2_0,c2_1,c2_2,c2_3,c2_4,c2_5⟩:=cs6 F2;clear c3_0 c3_1 c3_2 c3_3 c3_4 c3_5;obtain ⟨c3_0,c3_1,c3_2,c3_3,c3_4,c3_5⟩:=cs6 F3;clear c6_0 c6_1 c6_2 c6_3 c6_4 c6_5;obtain ⟨c6_0,c6_1,c6_2,c6_3,c6_4,c6_5⟩:=cs6 F6;clear hb)
         | (go_at_call 43;with_reducible refine cr (spec_ApplyCommand.M _ _ ps k x v o _ (cb HRP B) HCP.out) B fun AC707 kC707 w707 hb B RC707 QC707=>?_;have DP156_C707:=fr QC707 RP156;have DS156_C707:=fr QC707 RS156;replace F2:=bn F2 hb;replace F3:=bn F3 hb;replace F4:=bn F4 hb;replace F6:=bn F6 hb;replace RP156:=rn RP156 hb;replace RS156:=rn RS156 hb;clear QC707;clear c3_0 c3_1 c3_2 c3_3 c3_4 c3_5;obtain ⟨c3_0,c3_1,c3_2,c3_3,c3_4,c3_5⟩:=cs6 F3;clear c6_0 c6_1 c6_2 c6_3 c6_4 c6_5;obtain ⟨c6_0,c6_1,c6_2,c6_3,c6_4,c6_5⟩:=cs6 F6;clear hb)
         | ((with_reducible refine gate_store (t:=35) (p:=104) rfl ?_);obtain ⟨y0,y1,y2,y3,y4,y5,z0,z1,z2,z3,z4,z5⟩:=cz6 F6;refine sxq 38 35 104 2 [.slice AC707 (apM ps k x v o).1.length kC707] [.string a,.string b,.slice AC707 (apM ps k x v o).1.length kC707,.slice AS156 ss.length kS156,.bool false,.string c] B F6 L6 fun w708 hk B G=>?_;replace F2:=bk F2 hk N2_6.out;replace F3:=bk F3 hk N3_6.out;replace F4:=bk F4 hk N4_6.out;replace RP156:=rk RP156 F6 (by decide) hk;replace RS156:=rk RS156 F6 (by decide) hk;replace RC707:=rk RC707 F6 (by decide) hk;replace F6:=G;clear c3_0 c3_1 c3_2 c3_3 c3_4 c3_5;obtain ⟨c3_0,c3_1,c3_2,c3_3,c3_4,c3_5⟩:=cs6 F3;clear c6_0 c6_1 c6_2 c6_3 c6_4 c6_5;obtain ⟨c6_0,c6_1,c6_2,c6_3,c6_4,c6_5⟩:=cs6 F6;clear hk y0 z0 y1 z1 y2 z2 y3 z3 y4 z4 y5 z5)
         | (go_at_call 44;with_reducible refine cr (spec_SessionPut.M _ _ ss ci sq (apM ps k x v o).2 _ (rc RS156) (rl RS156)) B fun AU709 kU709 w709 hb B RU709 QU709=>?_;have DP156_U709:=fr QU709 RP156;have DS156_U709:=fr QU709 RS156;have DC707_U709:=fr QU709 RC707;replace F2:=bn F2 hb;replace F3:=bn F3 hb;replace F4:=bn F4 hb;replace F6:=bn F6 hb;replace RS156:=rn RS156 hb;replace RC707:=rn RC707 hb;clear QU709;clear c6_0 c6_1 c6_2 c6_3 c6_4 c6_5;obtain ⟨c6_0,c6_1,c6_2,c6_3,c6_4,c6_5⟩:=cs6 F6;clear hb)
         | ((with_reducible refine gate_store (t:=36) (p:=119) rfl ?_);obtain ⟨y0,y1,y2,y3,y4,y5,z0,z1,z2,z3,z4,z5⟩:=cz6 F6;refine sxq 38 36 119 3 [.slice AU709 (putB ss ⟨ci,sq,(apM ps k x v o).2⟩).1.length kU709] [.string a,.string b,.slice AC707 (apM ps k x v o).1.length kC707,.slice AU709 (putB ss ⟨ci,sq,(apM ps k x v o).2⟩).1.length kU709,.bool false,.string c] B F6 L6 fun w710 hk B G=>?_;replace F2:=bk F2 hk N2_6.out;replace F3:=bk F3 hk N3_6.out;replace F4:=bk F4 hk N4_6.out;replace RS156:=rk RS156 F6 (by decide) hk;replace RC707:=rk RC707 F6 (by decide) hk;replace RU709:=rk RU709 F6 (by decide) hk;replace F6:=G;clear c6_0 c6_1 c6_2 c6_3 c6_4 c6_5;obtain ⟨c6_0,c6_1,c6_2,c6_3,c6_4,c6_5⟩:=cs6 F6;clear hk y0 z0 y1 z1 y2 z2 y3 z3 y4 z4 y5 z5)
         | ((with_reducible refine gate_store (t:=38) (p:=4) rfl ?_);obtain ⟨y0,y1,y2,y3,y4,y5,z0,z1,z2,z3,z4,z5⟩:=cz6 F4;refine sxq 38 38 4 0 [.string a,.string b,.slice AC707 (apM ps k x v o).1.length kC707,.slice AU709 (putB ss ⟨ci,sq,(apM ps k x v o).2⟩).1.length kU709,.bool false,.string c] [.string a,.string b,.slice AC707 (apM ps k x v o).1.length kC707,.slice AU709 (putB ss ⟨ci,sq,(apM ps k x v o).2⟩).1.length kU709,.bool false,.string c] B F4 L4 fun w711 hk B G=>?_;replace F2:=bk F2 hk N2_4.out;replace F3:=bk F3 hk N3_4.out;replace RS156:=rk RS156 F4 (by decide) hk;replace RC707:=rk RC707 F4 (by decide) hk;replace RU709:=rk RU709 F4 (by decide) hk;replace F4:=G;clear hk y0 z0 y1 z1 y2 z2 y3 z3 y4 z4 y5 z5))
        all_goals (refine bodyPost_ret (results_list (rs:=[.cell 4 38,.tmp 5]) rfl (by simp) (.cell g4 38 _ (0,0) _ rfl F4.out hu rfl (by kernel_rfl) (.tmp .nil))) rfl ?_;exact ⟨_,_,rfl,RC707.out,RU709.out,B.out⟩)
       | false =>
        rw [hi] at hhb
        rw [aeM_idle hh (by rw [hid,hi];rfl),hN] at hr
        subst hr
        clear hh hN hid hsq h5 hcm hiv hkx hi
        go_wp2_with (first
         | (go_at_call 41;with_reducible refine cl (spec_IntervalCut.M a b x _) B fun w501 hb B=>?_;replace F2:=bn F2 hb;replace F3:=bn F3 hb;replace F4:=bn F4 hb;replace F6:=bn F6 hb;replace RP156:=rn RP156 hb;replace RS156:=rn RS156 hb;clear c2_0 c2_1 c2_2 c2_3 c2_4 c2_5;obtain ⟨c2_0,c2_1,c2_2,c2_3,c2_4,c2_5⟩:=cs6 F2;clear c3_0 c3_1 c3_2 c3_3 c3_4 c3_5;obtain ⟨c3_0,c3_1,c3_2,c3_3,c3_4,c3_5⟩:=cs6 F3;clear c6_0 c6_1 c6_2 c6_3 c6_4 c6_5;obtain ⟨c6_0,c6_1,c6_2,c6_3,c6_4,c6_5⟩:=cs6 F6;clear hb)
         | ((with_reducible refine gate_dst (N:=8) rfl ?_);refine bxq 8 #[.string (⟨#[]⟩ : ByteArray),.string (⟨#[]⟩ : ByteArray)] 34 B fun g8 w502 hb B F8 L8 E8=>?_;have N2_8:=ne1 E8 F2;have N3_8:=ne1 E8 F3;have N4_8:=ne1 E8 F4;have N6_8:=ne1 E8 F6;replace F2:=bn F2 hb;replace F3:=bn F3 hb;replace F4:=bn F4 hb;replace F6:=bn F6 hb;replace RP156:=rn RP156 hb;replace RS156:=rn RS156 hb;clear c2_0 c2_1 c2_2 c2_3 c2_4 c2_5;obtain ⟨c2_0,c2_1,c2_2,c2_3,c2_4,c2_5⟩:=cs6 F2;clear c3_0 c3_1 c3_2 c3_3 c3_4 c3_5;obtain ⟨c3_0,c3_1,c3_2,c3_3,c3_4,c3_5⟩:=cs6 F3;clear c6_0 c6_1 c6_2 c6_3 c6_4 c6_5;obtain ⟨c6_0,c6_1,c6_2,c6_3,c6_4,c6_5⟩:=cs6 F6;clear hb E8)
         | ((with_reducible refine gate_dst (N:=9) rfl ?_);refine bxq 9 #[.string (⟨#[]⟩ : ByteArray),.string (⟨#[]⟩ : ByteArray)] 34 B fun g9 w503 hb B F9 L9 E9=>?_;have N2_9:=ne1 E9 F2;have N3_9:=ne1 E9 F3;have N4_9:=ne1 E9 F4;have N6_9:=ne1 E9 F6;have N8_9:=ne1 E9 F8;replace F2:=bn F2 hb;replace F3:=bn F3 hb;replace F4:=bn F4 hb;replace F6:=bn F6 hb;replace F8:=bn F8 hb;replace RP156:=rn RP156 hb;replace RS156:=rn RS156 hb;clear c2_0 c2_1 c2_2 c2_3 c2_4 c2_5;obtain ⟨c2_0,c2_1,c2_2,c2_3,c2_4,c2_5⟩:=cs6 F2;clear c3_0 c3_1 c3_2 c3_3 c3_4 c3_5;obtain ⟨c3_0,c3_1,c3_2,c3_3,c3_4,c3_5⟩:=cs6 F3;clear c6_0 c6_1 c6_2 c6_3 c6_4 c6_5;obtain ⟨c6_0,c6_1,c6_2,c6_3,c6_4,c6_5⟩:=cs6 F6;clear hb E9)
         | ((with_reducible refine gate_store (t:=34) (p:=8) rfl ?_);obtain ⟨y0,y1,z0,z1⟩:=cz2 F8;refine sxq 34 34 8 0 [.string (cutV a b x).1,.string (cutV a b x).2.1] [.string (cutV a b x).1,.string (cutV a b x).2.1] B F8 L8 fun w504 hk B G=>?_;replace F2:=bk F2 hk N2_8.out;replace F3:=bk F3 hk N3_8.out;replace F4:=bk F4 hk N4_8.out;replace F6:=bk F6 hk N6_8.out;replace F9:=bk F9 hk N8_9.out.symm;replace RP156:=rk RP156 F8 (by decide) hk;replace RS156:=rk RS156 F8 (by decide) hk;replace F8:=G;clear c2_0 c2_1 c2_2 c2_3 c2_4 c2_5;obtain ⟨c2_0,c2_1,c2_2,c2_3,c2_4,c2_5⟩:=cs6 F2;clear c3_0 c3_1 c3_2 c3_3 c3_4 c3_5;obtain ⟨c3_0,c3_1,c3_2,c3_3,c3_4,c3_5⟩:=cs6 F3;clear c6_0 c6_1 c6_2 c6_3 c6_4 c6_5;obtain ⟨c6_0,c6_1,c6_2,c6_3,c6_4,c6_5⟩:=cs6 F6;clear hk y0 z0 y1 z1)
         | ((with_reducible refine gate_store (t:=34) (p:=9) rfl ?_);obtain ⟨y0,y1,z0,z1⟩:=cz2 F9;refine sxq 34 34 9 0 [.string (cutV a b x).2.2.1,.string (cutV a b x).2.2.2.1] [.string (cutV a b x).2.2.1,.string (cutV a b x).2.2.2.1] B F9 L9 fun w505 hk B G=>?_;replace F2:=bk F2 hk N2_9.out;replace F3:=bk F3 hk N3_9.out;replace F4:=bk F4 hk N4_9.out;replace F6:=bk F6 hk N6_9.out;replace RP156:=rk RP156 F9 (by decide) hk;replace RS156:=rk RS156 F9 (by decide) hk;replace F9:=G;clear c2_0 c2_1 c2_2 c2_3 c2_4 c2_5;obtain ⟨c2_0,c2_1,c2_2,c2_3,c2_4,c2_5⟩:=cs6 F2;clear c3_0 c3_1 c3_2 c3_3 c3_4 c3_5;obtain ⟨c3_0,c3_1,c3_2,c3_3,c3_4,c3_5⟩:=cs6 F3;clear c6_0 c6_1 c6_2 c6_3 c6_4 c6_5;obtain ⟨c6_0,c6_1,c6_2,c6_3,c6_4,c6_5⟩:=cs6 F6;clear hk y0 z0 y1 z1)
         | (go_at_call 42;with_reducible refine cl (spec_IntervalHas.M a b x _) B fun w506 hb B=>?_;replace F2:=bn F2 hb;replace F3:=bn F3 hb;replace F4:=bn F4 hb;replace F6:=bn F6 hb;replace RP156:=rn RP156 hb;replace RS156:=rn RS156 hb;clear c6_0 c6_1 c6_2 c6_3 c6_4 c6_5;obtain ⟨c6_0,c6_1,c6_2,c6_3,c6_4,c6_5⟩:=cs6 F6;clear hb)
         | ((with_reducible refine gate_store (t:=38) (p:=4) rfl ?_);obtain ⟨y0,y1,y2,y3,y4,y5,z0,z1,z2,z3,z4,z5⟩:=cz6 F4;refine sxq 38 38 4 0 [.string a,.string b,.slice AP156 ps.length kP156,.slice AS156 ss.length kS156,.bool false,.string c] [.string a,.string b,.slice AP156 ps.length kP156,.slice AS156 ss.length kS156,.bool false,.string c] B F4 L4 fun w507 hk B G=>?_;replace F2:=bk F2 hk N2_4.out;replace F3:=bk F3 hk N3_4.out;replace RP156:=rk RP156 F4 (by decide) hk;replace RS156:=rk RS156 F4 (by decide) hk;replace F4:=G;clear hk y0 z0 y1 z1 y2 z2 y3 z3 y4 z4 y5 z5))
        all_goals (refine bodyPost_ret (results_list (rs:=[.cell 4 38,.tmp 5]) rfl (by simp) (.cell g4 38 _ (0,0) _ rfl F4.out hu rfl (by kernel_rfl) (.tmp .nil))) rfl ?_;exact ⟨_,_,rfl,RP156.out,RS156.out,B.out⟩)

/-! The session that a place tells is the one that is found. -/
theorem place_full {l : List S76} (h : sesB l=true) (c : Int) : (if hitOf l c=true then (rd_T76 l ((placeOf l c l.length 0 l.length : Nat) : Int)) else z76)=findS l c:=by
  obtain ⟨h1,h2,h3⟩:=placeOf_spec (sesG_order l none h) c l.length 0 l.length (Nat.zero_le _) (Nat.le_refl _) (by omega) (fun i _ hi=>absurd hi (Nat.not_lt_zero _)) (fun i hil hi=>by omega)
  unfold hitOf
  generalize placeOf l c l.length 0 l.length=R at h1 h2 h3 ⊢
  by_cases hR : R < l.length
  · rw [decide_eq_true hR,ses_nat hR]
    by_cases hc : l[R].f0=c
    · rw [decide_eq_true hc,find_at c l R hR (fun i hi=>by have:=h2 i (by omega) hi;omega) hc]
      rfl
    · rw [decide_eq_false hc,find_none c l fun x hx=>?_]
      · rfl
      · obtain ⟨i,hi,rfl⟩:=List.getElem_of_mem hx
        by_cases hlt : i < R
        · have:=h2 i hi hlt;omega
        · have a:=h3 R hR (Nat.le_refl _)
          rcases Nat.lt_or_eq_of_le (show R≤i by omega) with h' | h'
          · have:=List.pairwise_iff_getElem.mp (sesG_order l none h) R i hR hi h'
            omega
          · subst h';exact hc
  · rw [decide_eq_false hR,find_none c l fun x hx=>?_]
    · rfl
    · obtain ⟨i,hi,rfl⟩:=List.getElem_of_mem hx
      have:=h2 i hi (by omega)
      omega
theorem hit_findS {l : List S76} (h : sesB l=true) {c : Int} (hh : hitOf l c=true) : rd_T76 l ((plOf l c : Nat) : Int)=findS l c:=by
  have:=place_full h c
  rw [if_pos hh] at this
  exact this
theorem miss_findS {l : List S76} (h : sesB l=true) {c : Int} (hh : hitOf l c=false) : (findS l c).f1=0:=by
  have:=place_full h c
  rw [if_neg (by rw [hh];simp)] at this
  rw [← this]
  rfl

def cmpS (x y : ByteArray) : Int:=if ltB x y=true then -1 else if ltB y x=true then 1 else 0
theorem cmp_isNaNs.calls (x : ByteArray) (w : World) : Calls Try.prog 131 #[.string x] w fun e w'=>e=.returned (.bool false)∧Below w.heap.size w w':=by
  go_enter Try.func131,Try.ntmps131
  go_wp2
  go_ret
  exact ⟨by simp,Below.refl _ _⟩
theorem cmp_Compares.calls (x y : ByteArray) (w : World) : Calls Try.prog 129 #[.string x,.string y] w fun e w'=>e=.returned (.int .i64 (cmpS x y))∧Below w.heap.size w w':=by
  unfold cmpS ltB
  cases h1 : Op.bytesLess x.toList y.toList with
  | true =>
    rw [if_pos rfl]
    go_enter Try.func129,Try.ntmps129
    go_wp2_with (first
      | (go_at_call 131;(with_reducible refine (cmp_isNaNs.calls x w).mono ?_);rintro e w1 ⟨rfl,hb⟩;have B1:=Aside0.mk hb;clear hb)
      | (go_at_call 131;(with_reducible refine (cmp_isNaNs.calls y w1).mono ?_);rintro e w2 ⟨rfl,hb⟩;have B2:=Aside0.mk (below_step B1.out hb);clear hb))
    go_ret
    exact ⟨rfl,B2.out⟩
  | false =>
    rw [if_neg (by simp)]
    cases h2 : Op.bytesLess y.toList x.toList with
    | true =>
      rw [if_pos rfl]
      go_enter Try.func129,Try.ntmps129
      go_wp2_with (first
        | (go_at_call 131;(with_reducible refine (cmp_isNaNs.calls x w).mono ?_);rintro e w1 ⟨rfl,hb⟩;have B1:=Aside0.mk hb;clear hb)
        | (go_at_call 131;(with_reducible refine (cmp_isNaNs.calls y w1).mono ?_);rintro e w2 ⟨rfl,hb⟩;have B2:=Aside0.mk (below_step B1.out hb);clear hb))
      go_ret
      exact ⟨rfl,B2.out⟩
    | false =>
      rw [if_neg (by simp)]
      go_enter Try.func129,Try.ntmps129
      go_wp2_with (first
        | (go_at_call 131;(with_reducible refine (cmp_isNaNs.calls x w).mono ?_);rintro e w1 ⟨rfl,hb⟩;have B1:=Aside0.mk hb;clear hb)
        | (go_at_call 131;(with_reducible refine (cmp_isNaNs.calls y w1).mono ?_);rintro e w2 ⟨rfl,hb⟩;have B2:=Aside0.mk (below_step B1.out hb);clear hb))
      go_ret
      exact ⟨rfl,B2.out⟩
theorem impl_pairPlace1.calls (s : S105) (c : ByteArray) (w : World) : Calls Try.prog 128 #[.agg #[.string s.f0,.int .i64 s.f1],.string c] w fun e w'=>e=.returned (.int .i64 (cmpS s.f0 c))∧Below w.heap.size w w':=by
  have hu:=Try.underlying105
  go_enter Try.func128,Try.ntmps128
  go_wp2_with (first
    | ((with_reducible refine gate_dst (N:=2) rfl ?_);refine box_event ?hg (N:=2) ?hd (cs:=#[.string s.f0,.int .i64 s.f1]) (t:=105) ?hr ?_;(case hd=>rfl);(case hg=>rfl);(case hr=>first | (go_simp;done) | (go_simp;rfl));intro g hg w1 hc hb;have B1:=Aside0.mk hb;have c0 : w1.cell? ⟨g,0,none⟩=some (.string s.f0):=(blk_cell hc 0).trans rfl;clear hc hb hg)
    | (go_at_call 129;(with_reducible refine (cmp_Compares.calls s.f0 c w1).mono ?_);rintro e w2 ⟨rfl,hb⟩;have B2:=Aside0.mk (below_step B1.out hb);clear hb))
  go_ret
  exact ⟨rfl,B2.out⟩
theorem cmpS_neg (x c : ByteArray) : decide (cmpS x c < 0)=ltB x c:=by
  unfold cmpS
  cases h : ltB x c with
  | true=>rfl
  | false=>cases ltB c x <;> rfl
theorem cmpS_zero (x c : ByteArray) : (cmpS x c == 0)=decide (x=c):=by
  have ht:=less_total x.toList c.toList
  unfold cmpS ltB
  by_cases e : x=c
  · subst e
    have hs : Op.bytesLess x.toList x.toList=false:=by simpa using ht
    rw [hs,decide_eq_true rfl]
    rfl
  · rw [decide_eq_false e]
    have hne : (x.toList == c.toList)=false:=beq_eq_false_iff_ne.mpr fun q=>e (ByteArray.ext (Array.toList_inj.mp (by rw [← Lib.toList_data,← Lib.toList_data];exact q)))
    rw [hne,Bool.or_false] at ht
    rw [ht]
    cases Op.bytesLess c.toList x.toList <;> rfl
def hitP (l : List S105) (c : ByteArray) : Bool:=decide (placeP l c l.length 0 l.length < l.length) && decide ((rd_T105 l ((placeP l c l.length 0 l.length : Nat) : Int)).f0=c)
theorem slices_BinarySearchP.calls (A0 : Option Addr) (c0 : Nat) (l : List S105) (c : ByteArray) (w : World) (hr0 : Kd.C k105 w A0 l.length l) (hc0 : l.length≤c0) (hsz : l.length < 4611686018427387904) :
    Calls Try.prog 127 #[.slice A0 l.length c0,.string c,.func (.func 128) #[] #[]] w fun e w' =>
      e=.returned (.tuple #[.int .i64 ((placeP l c l.length 0 l.length : Nat) : Int),.bool (hitP l c)])∧Below w.heap.size w w':=by
  have HR0:=Aside0.mk hr0
  clear hr0
  have hu:=Try.underlying105
  generalize hR : placeP l c l.length 0 l.length=R
  have HT:=Aside0.mk (show hitP l c=(decide (R < l.length) && decide ((rd_T105 l ((R : Nat) : Int)).f0=c)) by unfold hitP;rw [hR])
  have PR:=Aside0.mk hR
  clear hR
  go_enter Try.func127,Try.ntmps127
  go_wp2
  go_loopg [9,10] l.length (fun kx s9 s10 wr=>∃ lo hi : Nat,s9=.int .i64 lo∧s10=.int .i64 hi∧lo≤hi∧hi≤l.length∧hi - lo≤kx∧Aside0 (Below w.heap.size w wr)∧Aside0 (placeP l c kx lo hi=R))
  case atStart=>exact ⟨0,l.length,rfl,rfl,Nat.zero_le _,Nat.le_refl _,by omega,⟨Below.refl _ _⟩,PR⟩
  case round =>
    clear PR
    obtain ⟨lo,hi,rfl,rfl,hlh,hin,hg,BW,PW⟩:=hrel
    by_cases hlt : lo < hi
    · obtain ⟨d,rfl⟩ : ∃ d,gk=d + 1:=⟨gk - 1,by omega⟩
      have hp:=PW.out
      simp only [placeP] at hp
      rw [if_pos hlt] at hp
      obtain ⟨ad,hA,x0,x1⟩:=at_T105 (Kd.C_below HR0.out BW.out) (((lo + hi) / 2 : Nat) : Int) (by omega) (by omega)
      subst hA
      generalize hy : rd_T105 l (((lo + hi) / 2 : Nat) : Int)=y at x0 x1 hp
      rw [Int.toNat_natCast] at x0 x1
      clear hy
      by_cases hyx : ltB y.f0 c=true
      · rw [if_pos hyx] at hp
        have P2:=Aside0.mk hp
        have dc : decide (cmpS y.f0 c < 0)=true:=(cmpS_neg _ _).trans hyx
        clear PW hp hyx
        go_wp2_with (go_at_call 128;(with_reducible refine (impl_pairPlace1.calls y c wr).mono ?_);rintro e w1 ⟨rfl,hb⟩;have B1:=Aside0.mk (below_step BW.out hb);clear hb)
        go_roundg d
        case measure=>omega
        case rel=>exact ⟨(lo + hi) / 2 + 1,hi,by rw [show ((lo : Int) + (hi : Int)) / 2 + 1=(((lo + hi) / 2 + 1 : Nat) : Int) by omega],rfl,by omega,hin,by omega,B1,P2⟩
      · rw [if_neg hyx] at hp
        have P2:=Aside0.mk hp
        have dc : decide (cmpS y.f0 c < 0)=false:=(cmpS_neg _ _).trans (Bool.eq_false_iff.mpr hyx)
        clear PW hp hyx
        go_wp2_with (go_at_call 128;(with_reducible refine (impl_pairPlace1.calls y c wr).mono ?_);rintro e w1 ⟨rfl,hb⟩;have B1:=Aside0.mk (below_step BW.out hb);clear hb)
        go_roundg d
        case measure=>omega
        case rel=>exact ⟨lo,(lo + hi) / 2,rfl,by rw [show ((lo : Int) + (hi : Int)) / 2=(((lo + hi) / 2 : Nat) : Int) by omega],by omega,by omega,by omega,B1,P2⟩
    · obtain rfl : R=lo:=by
        rw [← PW.out]
        cases gk with
        | zero=>rfl
        | succ d=>simp only [placeP];rw [if_neg hlt]
      by_cases hn : R < l.length
      · obtain ⟨ad,hA,x0,x1⟩:=at_T105 (Kd.C_below HR0.out BW.out) (R : Int) (by omega) (by omega)
        subst hA
        generalize hy : rd_T105 l (R : Int)=y at x0 x1 HT
        rw [Int.toNat_natCast] at x0 x1
        clear hy PW
        go_wp2_with (go_at_call 128;(with_reducible refine (impl_pairPlace1.calls y c wr).mono ?_);rintro e w1 ⟨rfl,hb⟩;have B1:=Aside0.mk (below_step BW.out hb);clear hb)
        go_ret2
        refine ⟨?_,B1.out⟩
        rw [HT.out,decide_eq_true hn,← cmpS_zero]
        rfl
      · clear PW
        go_wp2
        go_ret2
        refine ⟨?_,BW.out⟩
        rw [HT.out,decide_eq_false hn]
        rfl
theorem impl_pairPlace.calls0 (A0 : Option Addr) (c0 : Nat) (l : List S105) (c : ByteArray) (w : World) (hr0 : Kd.C k105 w A0 l.length l) (hc0 : l.length≤c0) (hsz : l.length < 4611686018427387904) :
    Calls Try.prog 118 #[.slice A0 l.length c0,.string c] w fun e w'=>e=.returned (.tuple #[.int .i64 ((placeP l c l.length 0 l.length : Nat) : Int),.bool (hitP l c)])∧Below w.heap.size w w':=by
  have h:=slices_BinarySearchP.calls A0 c0 l c w hr0 hc0 hsz
  go_enter Try.func118,Try.ntmps118
  go_wp2_with (go_at_call 127;(with_reducible refine h.mono ?_);rintro e w1 ⟨rfl,hb⟩;have B1:=Aside0.mk hb;clear hb)
  go_ret2
  exact ⟨rfl,B1.out⟩
theorem impl_pairPlace.M (A0 : Option Addr) (c0 : Nat) (l : List S105) (c : ByteArray) (w : World) (hr0 : Kd.C k105 w A0 l.length l) (hc0 : l.length≤c0) (hv : prB l=true) :
    Calls Try.prog 118 #[.slice A0 l.length c0,.string c] w fun e w'=>e=.returned (.tuple #[.int .i64 ((atP l c : Nat) : Int),.bool (hitM l c)])∧Below w.heap.size w w':=by
  have h:=impl_pairPlace.calls0 A0 c0 l c w hr0 hc0 (by have:=prB_len hv;omega)
  unfold hitP at h
  rw [placeP_at hv] at h
  exact h

def impl_PairsValid.T8 : Bool × List (List Nat × List Nat):=(true,[([],[]),([0],[0]),([1],[1]),([2],[2]),([2],[2]),([4,2],[2,4]),([3,5,2],[2,3,5]),([6,2],[2,6]),([7,2],[2,7]),([2],[2]),([9,2],[2,9]),([8,10,2],[2,8,10]),([2,11],[2,11])])
def impl_PairsValid.B8 : List Nat:=[0,1,3,7,7,23,63,127,255,7,519,2047,4095]
theorem impl_PairsValid.tab8 : rtab .any (opsOf Try.f67 8)=impl_PairsValid.T8:=by kernel_rfl
theorem impl_PairsValid.bits8 : waitsOk impl_PairsValid.T8.2 impl_PairsValid.B8=true:=by kernel_rfl
theorem impl_PairsValid.M (A0 : Option Addr) (c0 : Nat) (l : List S105) (w : World) (hr0 : Kd.C k105 w A0 l.length l) : Calls Try.prog 67 #[.slice A0 l.length c0] w fun e w'=>e=.returned (.bool (prB l))∧Below w.heap.size w w':=by
 have hu:=Try.underlying105
 have B:=Aside0.mk (Below.refl w.heap.size w)
 have HR0:=Aside0.mk hr0
 clear hr0
 obtain ⟨r,hr⟩ : ∃ r,prB l=r:=⟨_,rfl⟩
 rw [hr]
 unfold prB at hr
 by_cases hl : l.length≤48
 ·have H:=Aside0.mk (show prJ l 0=r by unfold prJ prP;simpa [hl] using hr)
  have cl0 : decide (48 < (l.length : Int))=false:=decide_eq_false (by omega)
  have L48:=Aside0.mk (show l.length≤4611686018427387904 by omega)
  clear hl hr
  go_enter Try.func67,Try.ntmps67
  go_wp2
  go_loopg [10] (l.length + 1) (fun kx v10 wr=>∃ j : Nat,v10=.int .i64 (j : Int)∧j≤l.length∧l.length < j + kx∧Aside0 (Below w.heap.size w wr)∧Aside0 (prJ l j=r))
  case atStart=>exact ⟨0,rfl,by omega,by omega,B,H⟩
  case round =>
   clear H B
   obtain ⟨j,rfl,hj,hk,B,H⟩:=hrel
   by_cases hlt : j < l.length
   ·have HS:=Aside0.mk ((prJ_step hlt).symm.trans H.out)
    clear H
    obtain ⟨d,rfl⟩ : ∃ d,gk=d + 1:=⟨gk - 1,by omega⟩
    have h48:=L48.out
    have cj : decide ((j : Int) < (l.length : Int))=true:=decide_eq_true (by omega)
    obtain ⟨ad,hA,y0,y1⟩:=at_T105 (cb HR0 B) (j : Int) (by omega) (by omega)
    cases hA
    rw [Int.toNat_natCast] at y0 y1
    have j1:=eq_true (show (j : Int) < (l.length : Int) by omega)
    have j2:=eq_true hlt
    generalize hy : rd_T105 l (j : Int)=y at *
    go_wp2_with (first
     | ((with_reducible refine gate_dst (N:=4) rfl ?_);refine bxq 4 #[.string (⟨#[]⟩ : ByteArray),.int .i64 (0)] 105 B fun g4 w1 hb B F4 L4 E4=>?_;obtain ⟨c4_0,c4_1⟩:=cs2 F4;clear hb E4)
     | ((with_reducible refine gate_store (t:=105) (p:=4) rfl ?_);obtain ⟨y0,y1,z0,z1⟩:=cz2 F4;refine sxq 105 105 4 0 [.string y.f0,.int .i64 (y.f1)] [.string y.f0,.int .i64 (y.f1)] B F4 L4 fun w2 hk B G=>?_;replace F4:=G;clear c4_0 c4_1;obtain ⟨c4_0,c4_1⟩:=cs2 F4;clear hk y0 z0 y1 z1)
     | (go_at_call 110;with_reducible refine cl (impl_KeyValid.M y.f0 _) B fun w3 hb B=>?_;replace F4:=bn F4 hb;clear c4_0 c4_1;obtain ⟨c4_0,c4_1⟩:=cs2 F4;clear hb)
     | (go_at_call 112;with_reducible refine cl (impl_valueValid.M y.f1 _) B fun w4 hb B=>?_;replace F4:=bn F4 hb;clear c4_0 c4_1;obtain ⟨c4_0,c4_1⟩:=cs2 F4;clear hb))
    all_goals try (go_ret;exact ⟨andF HS.out (by grind [l1B,ltB]),B.out⟩)
    all_goals (
     refine rg (n:=13) (S:=fun W=>Kd.C k105 W (some ad) l.length l∧W.heap[g4]?=some (.cells #[.string y.f0,.int .i64 (y.f1)] 105 (0,0))) (ds:=[]) #[false,false,false,false,false,false,false,false,false,false,false,false,false] (by kernel_rfl) rfl rfl ⟨(cb HR0 B),F4.out⟩ id B (fun w5 hb B hHeld=>?_)
     refine with_tabW impl_PairsValid.tab8 impl_PairsValid.bits8 (fun HT_ HW_=>?_)
     replace F4:=bn F4 hb
     clear hb
     refine pvq 0 (some 25) (bits 13 1) HT_ ?_
     by_cases hz : j=0
     ·rw [if_pos hz] at HS
      have dz : decide (0 < (j : Int))=false:=decide_eq_false (by omega)
      have dz2 : decide (0 < j)=false:=decide_eq_false (by omega)
      clear hz
      refine pvq 1 (some 26) (bits 13 3) HT_ ?_
      refine pvq 2 (some 27) (bits 13 7) HT_ ?_
      refine svq 3 (some 28) (bits 13 15) HT_ ?_
      refine svq 4 (some 29) (bits 13 31) HT_ ?_
      refine svq 5 (some 30) (bits 13 63) HT_ ?_
      refine svq 6 (some 31) (bits 13 127) HT_ ?_
      refine svq 7 (some 32) (bits 13 255) HT_ ?_
      refine svq 8 (some 33) (bits 13 511) HT_ ?_
      refine svq 9 (some 34) (bits 13 1023) HT_ ?_
      refine svq 10 (some 35) (bits 13 2047) HT_ ?_
      refine svq 11 (some 36) (bits 13 4095) HT_ ?_
      refine pvq 12 (some 37) (bits 13 8191) HT_ ?_
      refine nmq ?_
      refine done_ (done_of HT_.out (by kernel_rfl)) ?_
      try go_wp2
      all_goals first
       | (go_roundg d;(case measure=>omega);(case rel=>exact ⟨j + 1,congrArg (Value.int .i64) (Int.natCast_succ _).symm,by omega,by omega,B,⟨andT HS.out (by grind [l1B,ltB])⟩⟩))
       | (go_ret;exact ⟨andF HS.out (by grind [l1B,ltB]),B.out⟩)
     ·rw [if_neg hz] at HS
      have dz : decide (0 < (j : Int))=true:=decide_eq_true (by omega)
      have dz2 : decide (0 < j)=true:=decide_eq_true (by omega)
      obtain ⟨i,hi⟩ : ∃ i,j - 1=i:=⟨_,rfl⟩
      rw [hi] at HS
      have WI:=Aside0.mk (show (j : Int) - 1=(i : Int) by omega)
      have hij : i < l.length:=by omega
      have IW:=Aside0.mk (show wrap64 (i : Int)=(i : Int) by unfold wrap64;omega)
      have i1:=eq_true (show (i : Int) < (l.length : Int) by omega)
      have i2:=eq_true hij
      generalize hx : rd_T105 l (i : Int)=x at HS
      clear hz hi
      refine pvq 1 (some 26) (bits 13 3) HT_ ?_
      refine pvq 2 (some 27) (bits 13 7) HT_ ?_
      refine pvq 3 (some 28) (bits 13 15) HT_ ?_
      refine pvq 4 (some 29) (bits 13 31) HT_ ?_
      refine pu (i:=5) (N:=some 30) (v:=.int .i64 ((i : Int))) (bits 13 63) rfl rfl (any_of HT_.out (by kernel_rfl)) (fun _ _ _ h=>h) (by kernel_rfl) ?_ ?_;(intro w';go_simp;rw [WI.out];exact (i64_w _).trans IW.out)
      refine pvq 6 (some 31) (bits 13 127) HT_ ?_
      refine pvq 7 (some 32) (bits 13 255) HT_ ?_
      refine tvq 8 (some 33) (bits 13 511) HT_ HW_ rfl hHeld (by intro w' hS;obtain ⟨s0,s1⟩:=hS;obtain ⟨_,hA,q0,q1⟩:=at_T105 s0 (i : Int) (by omega) (by omega);cases hA;rw [Int.toNat_natCast] at q0 q1;rw [hx] at q0 q1;go_simp;with_reducible rfl) ?_
      refine pvq 9 (some 34) (bits 13 1023) HT_ ?_
      refine tvq 10 (some 35) (bits 13 2047) HT_ HW_ rfl hHeld (by intro w' hS;obtain ⟨s0,s1⟩:=hS;obtain ⟨q0,q1⟩:=cs2 (Aside0.mk s1);go_simp;with_reducible rfl) ?_
      refine pvq 11 (some 36) (bits 13 4095) HT_ ?_
      refine pvq 12 (some 37) (bits 13 8191) HT_ ?_
      refine nmq ?_
      refine done_ (done_of HT_.out (by kernel_rfl)) ?_
      try go_wp2
      all_goals first
       | (go_roundg d;(case measure=>omega);(case rel=>exact ⟨j + 1,congrArg (Value.int .i64) (Int.natCast_succ _).symm,by omega,by omega,B,⟨andT HS.out (by grind [l1B,ltB])⟩⟩))
       | (go_ret;exact ⟨andF HS.out (by grind [l1B,ltB]),B.out⟩))
    all_goals try go_wp2
    all_goals try (go_ret;exact ⟨andF HS.out (by grind [l1B,ltB]),B.out⟩)
   ·have cj : decide ((j : Int) < (l.length : Int))=false:=decide_eq_false (by omega)
    have hr : r=true:=by rw [← H.out];exact prJ_end hlt
    subst hr
    go_wp2
    go_ret
    exact ⟨rfl,B.out⟩
 ·have cl0 : decide (48 < (l.length : Int))=true:=decide_eq_true (by omega)
  have hr : r=false:=by rw [← hr,decide_eq_false hl];rfl
  subst hr
  go_enter Try.func67,Try.ntmps67
  go_wp2
  go_ret
  exact ⟨rfl,B.out⟩

theorem impl_PairGet.M (A0 : Option Addr) (c0 : Nat) (l : List S105) (c : ByteArray) (w : World) (hr0 : Kd.C k105 w A0 l.length l) (hc0 : l.length≤c0) : Calls Try.prog 97 #[.slice A0 l.length c0,.string c] w fun e w'=>e=.returned (.int .i64 (getM l c))∧Below w.heap.size w w':=by
 have B:=Aside0.mk (Below.refl w.heap.size w)
 have hu:=Try.underlying105
 have HR0:=Aside0.mk hr0
 have HC0:=Aside0.mk hc0
 have L63:=Aside0.mk hr0.2.1
 clear hr0 hc0
 by_cases hv : prB l=true
 ·have h48:=prB_len hv
  cases hh : hitM l c with
  | true =>
   obtain ⟨hlt,hf0,hf⟩:=hit_true hh
   have j1:=eq_true (show ((atP l c : Nat) : Int) < (l.length : Int) by omega)
   have j2:=eq_true hlt
   go_enter Try.func97,Try.ntmps97
   go_wp2_with (first
    | (go_at_call 67;with_reducible refine cl (impl_PairsValid.M _ _ l _ (cb HR0 B)) B fun w1 hb B=>?_;clear hb)
    | (go_at_call 118;with_reducible refine cl (impl_pairPlace.M _ _ l c _ (cb HR0 B) HC0.out hv) B fun w2 hb B=>?_;clear hb;(obtain ⟨ad,hA,y0,y1⟩:=at_T105 (cb HR0 B) ((atP l c : Nat) : Int) (Int.natCast_nonneg _) (Int.ofNat_lt.mpr hlt);cases hA;rw [Int.toNat_natCast] at y0 y1)))
   all_goals (go_ret;exact ⟨by simp [getM, *],B.out⟩)
  | false =>
   go_enter Try.func97,Try.ntmps97
   go_wp2_with (first
    | (go_at_call 67;with_reducible refine cl (impl_PairsValid.M _ _ l _ (cb HR0 B)) B fun w1 hb B=>?_;clear hb)
    | (go_at_call 118;with_reducible refine cl (impl_pairPlace.M _ _ l c _ (cb HR0 B) HC0.out hv) B fun w2 hb B=>?_;clear hb))
   all_goals (go_ret;exact ⟨by simp [getM, *],B.out⟩)
 ·replace hv:=Bool.eq_false_iff.mpr hv
  go_enter Try.func97,Try.ntmps97
  go_wp2_with (first
   | (go_at_call 67;with_reducible refine cl (impl_PairsValid.M _ _ l _ (cb HR0 B)) B fun w1 hb B=>?_;clear hb)
   | (go_at_call 118;with_reducible refine cl (impl_pairPlace.M _ _ l c _ (cb HR0 B) HC0.out hv) B fun w2 hb B=>?_;clear hb))
  all_goals (go_ret;exact ⟨by simp [getM, *],B.out⟩)

theorem impl_replacedPair.M (A0 : Option Addr) (c0 : Nat) (l : List S105) (at_ many : Nat) (A1 : Option Addr) (c1 : Nat) (by_ : List S105) (w : World) (hr0 : Kd.C k105 w A0 l.length l) (hc0 : l.length≤c0) (hr1 : Kd.C k105 w A1 by_.length by_) (hc1 : by_.length≤c1)
  (hs : l.length≤1000000) (hs1 : by_.length≤1000000) (ham : at_ + many≤l.length) :
  Calls Try.prog 119 #[.slice A0 l.length c0,.int .i64 (at_ : Int),.int .i64 (many : Int),.slice A1 by_.length c1] w fun e w'=>∃ v0_ : Value,e=.returned v0_∧Kd.R k105 105 w' w.heap.size (fun _=>True) v0_ ((l.take at_ ++ by_) ++ l.drop (at_ + many))∧Below w.heap.size w w':=by
 have HR0:=Aside0.mk hr0
 have HR1:=Aside0.mk hr1
 clear hr0 hr1
 have hsum : (l.length : Int) - (many : Int) + (by_.length : Int)=((l.length - many + by_.length : Nat) : Int):=by omega
 obtain ⟨i0,hif,_,hsz,_⟩:=info_parts info105
 have hcut1:=cut_to (P:=Try.prog) 35 105 .i64 Try.underlying35 hif A0 l.length c0 (at_ : Int) (by omega) (by omega) hc0
 have hcut2:=cut_from (P:=Try.prog) 35 105 .i64 Try.underlying35 hif 2 hsz A0 l.length c0 ((at_ : Int) + (many : Int)) (by omega) (by omega)
 rw [Int.toNat_natCast] at hcut1
 rw [show ((at_ : Int) + (many : Int)).toNat=at_ + many by omega] at hcut2
 have C1:=Aside0.mk (fun {W : World} (h : Kd.C k105 W A0 l.length l)=>show Kd.C k105 W A0 at_ (l.take at_) from by
  have:=Kd.C_take h (m:=at_) (by omega)
  rwa [List.length_take,Nat.min_eq_left (by omega)] at this)
 obtain ⟨A2,hA2⟩ : ∃ A2,A2=(if c0=at_ + many then A0 else A0.map (·.add ((at_ + many) * 2))):=⟨_,rfl⟩
 rw [← hA2] at hcut2
 have C2:=Aside0.mk (fun {W : World} (h : Kd.C k105 W A0 l.length l)=>show Kd.C k105 W A2 (l.length - (at_ + many)) (l.drop (at_ + many)) from by
  have:=Kd.C_drop h (m:=at_ + many) (c:=c0) (by omega) hc0
  rw [List.length_drop] at this
  rw [hA2]
  exact this)
 have SUM:=Aside0.mk hsum
 clear hsum hif hsz hA2
 go_enter Try.func119,Try.ntmps119
 go_wp2_with (first
  | ((with_reducible refine gate_dst (N:=17) rfl ?_);refine make_cap k105 (w0:=w) w.heap.size 105 rfl (N:=17) rfl 35 _ _ rfl (l.length - many + by_.length) rfl (congrArg (Value.int .i64) SUM.out) Try.underlying35 (.agg #[.string (⟨#[]⟩ : ByteArray),.int .i64 0]) 24 info105 (by omega) (by omega) (Below.refl _ _) (Nat.le_refl _) ?_;intro v1 w1 ho hb;have O1:=Aside0.mk ho;have B1:=Aside0.mk hb;clear ho hb)
  | ((with_reducible refine gate_builtin (b:=.append) (xs:=#[.tmp 18,.tmp 21]) rfl ?_);at_builtin;refine Kd.R_append_rows k105 (w0:=w) w.heap.size rfl (.tmp 18) (.tmp 21) 35 105 (.agg #[.string (⟨#[]⟩ : ByteArray),.int .i64 0]) 24 rfl Try.underlying35 info105 rfl (by decide) (by omega) v1 [] (l.take at_) _ _ _ (fun _=>True) (fun _=>False) rfl rfl O1.out (C1.out (Kd.C_below HR0.out B1.out)) (fun x cs h=>own_Pair _ _ x cs h) (fun _ h=>h.elim) (fun _ _=>trivial) B1.out (below_size B1.out) (by simp only [List.length_nil];omega) ?_;intro v2 w2 ho hb hg hat;rw [List.nil_append] at ho;have O2:=Aside0.mk ho;have B2:=Aside0.mk hb;clear ho hb hg hat)
  | ((with_reducible refine gate_builtin (b:=.append) (xs:=#[.tmp 23,.tmp 24]) rfl ?_);at_builtin;refine Kd.R_append_rows k105 (w0:=w) w.heap.size rfl (.tmp 23) (.tmp 24) 35 105 (.agg #[.string (⟨#[]⟩ : ByteArray),.int .i64 0]) 24 rfl Try.underlying35 info105 rfl (by decide) (by omega) v2 (l.take at_) by_ _ _ _ (fun _=>True) (fun _=>False) rfl rfl O2.out (Kd.C_below HR1.out B2.out) (fun x cs h=>own_Pair _ _ x cs h) (fun _ h=>h.elim) (fun _ _=>trivial) B2.out (below_size B2.out) (by simp only [List.length_take];omega) ?_;intro v3 w3 ho hb hg hat;have O3:=Aside0.mk ho;have B3:=Aside0.mk hb;clear ho hb hg hat)
  | ((with_reducible refine gate_builtin (b:=.append) (xs:=#[.tmp 26,.tmp 31]) rfl ?_);at_builtin;refine Kd.R_append_rows k105 (w0:=w) w.heap.size rfl (.tmp 26) (.tmp 31) 35 105 (.agg #[.string (⟨#[]⟩ : ByteArray),.int .i64 0]) 24 rfl Try.underlying35 info105 rfl (by decide) (by omega) v3 (l.take at_ ++ by_) (l.drop (at_ + many)) _ _ _ (fun _=>True) (fun _=>False) rfl rfl O3.out (C2.out (Kd.C_below HR0.out B3.out)) (fun x cs h=>own_Pair _ _ x cs h) (fun _ h=>h.elim) (fun _ _=>trivial) B3.out (below_size B3.out) (by simp only [List.length_append,List.length_take];omega) ?_;intro v4 w4 ho hb hg hat;have O4:=Aside0.mk ho;have B4:=Aside0.mk hb;clear ho hb hg hat))
 go_ret
 exact ⟨_,rfl,O4.out,B4.out⟩
theorem impl_replacedPair.M0 (A0 : Option Addr) (c0 : Nat) (l : List S105) (at_ : Nat) (A1 : Option Addr) (c1 : Nat) (by_ : List S105) (w : World) (hr0 : Kd.C k105 w A0 l.length l) (hc0 : l.length≤c0) (hr1 : Kd.C k105 w A1 by_.length by_) (hc1 : by_.length≤c1) (hs : l.length≤1000000) (hs1 : by_.length≤1000000) (ham : at_≤l.length) : Calls Try.prog 119 #[.slice A0 l.length c0,.int .i64 (at_ : Int),.int .i64 0,.slice A1 by_.length c1] w fun e w'=>∃ v0_ : Value,e=.returned v0_∧Kd.R k105 105 w' w.heap.size (fun _=>True) v0_ ((l.take at_ ++ by_) ++ l.drop at_)∧Below w.heap.size w w':=impl_replacedPair.M A0 c0 l at_ 0 A1 c1 by_ w hr0 hc0 hr1 hc1 hs hs1 ham
theorem impl_replacedPair.M1 (A0 : Option Addr) (c0 : Nat) (l : List S105) (at_ : Nat) (A1 : Option Addr) (c1 : Nat) (by_ : List S105) (w : World) (hr0 : Kd.C k105 w A0 l.length l) (hc0 : l.length≤c0) (hr1 : Kd.C k105 w A1 by_.length by_) (hc1 : by_.length≤c1) (hs : l.length≤1000000) (hs1 : by_.length≤1000000) (ham : at_ + 1≤l.length) : Calls Try.prog 119 #[.slice A0 l.length c0,.int .i64 (at_ : Int),.int .i64 1,.slice A1 by_.length c1] w fun e w'=>∃ v0_ : Value,e=.returned v0_∧Kd.R k105 105 w' w.heap.size (fun _=>True) v0_ ((l.take at_ ++ by_) ++ l.drop (at_ + 1))∧Below w.heap.size w w':=impl_replacedPair.M A0 c0 l at_ 1 A1 c1 by_ w hr0 hc0 hr1 hc1 hs hs1 ham
theorem impl_replacedPair.M1n (A0 : Option Addr) (c0 : Nat) (l : List S105) (at_ : Nat) (w : World) (hr0 : Kd.C k105 w A0 l.length l) (hc0 : l.length≤c0) (hs : l.length≤1000000) (ham : at_ + 1≤l.length) : Calls Try.prog 119 #[.slice A0 l.length c0,.int .i64 (at_ : Int),.int .i64 1,.slice none 0 0] w fun e w'=>∃ v0_ : Value,e=.returned v0_∧Kd.R k105 105 w' w.heap.size (fun _=>True) v0_ (l.take at_ ++ l.drop (at_ + 1))∧Below w.heap.size w w':=by
 have h:=impl_replacedPair.M A0 c0 l at_ 1 none 0 [] w hr0 hc0 (nilC _ _) (Nat.le_refl 0) hs (by simp) ham
 rw [List.append_nil] at h
 exact h

theorem impl_PairDrop.M (A0 : Option Addr) (c0 : Nat) (l : List S105) (c : ByteArray) (w : World) (hr0 : Kd.C k105 w A0 l.length l) (hc0 : l.length≤c0) : Calls Try.prog 98 #[.slice A0 l.length c0,.string c] w fun e w'=>∃ v0,e=.returned (.tuple #[v0,.bool (dropM l c).2])∧Kd.R k105 105 w' w.heap.size (fun _=>True) v0 (dropM l c).1∧Below w.heap.size w w':=by
 have B:=Aside0.mk (Below.refl w.heap.size w)
 have hu:=Try.underlying105
 have HR0:=Aside0.mk hr0
 have HC0:=Aside0.mk hc0
 have L63:=Aside0.mk hr0.2.1
 clear hr0 hc0
 by_cases hv : prB l=true
 ·have h48:=prB_len hv
  cases hh : hitM l c with
  | true =>
   obtain ⟨hlt,hf0,hf⟩:=hit_true hh
   have j1:=eq_true (show ((atP l c : Nat) : Int) < (l.length : Int) by omega)
   have j2:=eq_true hlt
   have hM : dropM l c=(l.take (atP l c) ++ l.drop (atP l c + 1),true):=by unfold dropM;rw [if_pos hv,if_pos hh]
   go_enter Try.func98,Try.ntmps98
   go_wp2_with (first
    | (go_at_call 67;with_reducible refine cl (impl_PairsValid.M _ _ l _ (cb HR0 B)) B fun w1 hb B=>?_;clear hb)
    | (go_at_call 118;with_reducible refine cl (impl_pairPlace.M _ _ l c _ (cb HR0 B) HC0.out hv) B fun w2 hb B=>?_;clear hb)
    | (go_at_call 119;with_reducible refine crz (impl_replacedPair.M1n _ _ l (atP l c)  _ (cb HR0 B) HC0.out  (by omega) (by omega)) B fun zC3 hzC3 AC3 kC3 w3 hb B RC3 QC3=>?_;clear QC3;clear hb))
   go_ret2;exact ⟨_,by rw [hM];rfl,by rw [hM,hzC3];exact RC3.out,B.out⟩
  | false =>
   have hM : dropM l c=(l,false):=by unfold dropM;rw [if_pos hv,if_neg (by rw [hh];simp)]
   go_enter Try.func98,Try.ntmps98
   go_wp2_with (first
    | (go_at_call 67;with_reducible refine cl (impl_PairsValid.M _ _ l _ (cb HR0 B)) B fun w1 hb B=>?_;clear hb)
    | (go_at_call 118;with_reducible refine cl (impl_pairPlace.M _ _ l c _ (cb HR0 B) HC0.out hv) B fun w2 hb B=>?_;clear hb)
    | (go_at_call 92;with_reducible refine cr (impl_copyOfPair.M _ _ l _ (cb HR0 B) HC0.out (by omega)) B fun AC3 kC3 w3 hb B RC3 QC3=>?_;clear QC3;clear hb))
   go_ret2;exact ⟨_,by rw [hM];rfl,by rw [hM];exact RC3.out,B.out⟩
 ·replace hv:=Bool.eq_false_iff.mpr hv
  have hM : dropM l c=([],false):=by unfold dropM;rw [if_neg (by rw [hv];simp)]
  go_enter Try.func98,Try.ntmps98
  go_wp2_with (first
   | (go_at_call 67;with_reducible refine cl (impl_PairsValid.M _ _ l _ (cb HR0 B)) B fun w1 hb B=>?_;clear hb))
  go_ret2;exact ⟨_,by rw [hM];rfl,by rw [hM];exact Kd.R_nil _ _ _ _ _,B.out⟩

theorem impl_PairPut.M (A0 : Option Addr) (c0 : Nat) (l : List S105) (c : ByteArray) (v : Int) (w : World) (hr0 : Kd.C k105 w A0 l.length l) (hc0 : l.length≤c0) : Calls Try.prog 99 #[.slice A0 l.length c0,.string c,.int .i64 v] w fun e w'=>∃ v0,e=.returned (.tuple #[v0,.bool (putM l c v).2])∧Kd.R k105 105 w' w.heap.size (fun _=>True) v0 (putM l c v).1∧Below w.heap.size w w':=by
 have B:=Aside0.mk (Below.refl w.heap.size w)
 have hu:=Try.underlying105
 have HR0:=Aside0.mk hr0
 have HC0:=Aside0.mk hc0
 have L63:=Aside0.mk hr0.2.1
 clear hr0 hc0
 by_cases hvv : (prB l && (keyB c && l1B v 0 999))=true
 ·have hu0 : putM l c v=if hitM l c then ((l.take (atP l c) ++ [⟨c,v⟩]) ++ l.drop (atP l c + 1),true) else if 48≤l.length then (l,false) else ((l.take (atP l c) ++ [⟨c,v⟩]) ++ l.drop (atP l c),true):=if_pos hvv
  simp only [Bool.and_eq_true] at hvv
  obtain ⟨hv,hkv,hlv⟩:=hvv
  have h48:=prB_len hv
  have hat:=atP_le l c
  cases hh : hitM l c with
  | true =>
   obtain ⟨hlt,hf0,hf⟩:=hit_true hh
   have j1:=eq_true (show ((atP l c : Nat) : Int) < (l.length : Int) by omega)
   have j2:=eq_true hlt
   have hM : putM l c v=((l.take (atP l c) ++ [⟨c,v⟩]) ++ l.drop (atP l c + 1),true):=by rw [hu0,if_pos hh]
   go_enter Try.func99,Try.ntmps99
   go_wp2_with (first
    | (go_at_call 67;with_reducible refine cl (impl_PairsValid.M _ _ l _ (cb HR0 B)) B fun w1 hb B=>?_;clear hb)
    | (go_at_call 110;with_reducible refine cl (impl_KeyValid.M c _) B fun w2 hb B=>?_;clear hb)
    | (go_at_call 112;with_reducible refine cl (impl_valueValid.M v _) B fun w3 hb B=>?_;clear hb)
    | (go_at_call 118;with_reducible refine cl (impl_pairPlace.M _ _ l c _ (cb HR0 B) HC0.out hv) B fun w4 hb B=>?_;clear hb)
    | ((with_reducible refine gate_dst (N:=35) rfl ?_);refine lt k105 105 ?hg (N:=35) ?hd ([⟨c,v⟩] : List S105) [.string c,.int .i64 (v)] ?hr (Reps.c2 (k105_mkM _ _ _ ⟨c,v⟩) (Reps.none _ _)) (by simp) B ?_;(case hd | hg=>rfl);(case hr=>go_simp;first | done | rfl);intro z35 hz35 AL35 kL35 w5 hb B RL35 QL35;clear hb QL35)
    | (go_at_call 119;with_reducible refine crz (impl_replacedPair.M1 _ _ l (atP l c) _ _ z35 _ (cb HR0 B) HC0.out (rc RL35) (rl RL35) (by omega) (by rw [← hz35];simp) (by omega)) B fun zC6 hzC6 AC6 kC6 w6 hb B RC6 QC6=>?_;clear QC6;clear hb))
   go_ret2;exact ⟨_,by rw [hM];rfl,by rw [hM,hz35,hzC6];exact RC6.out,B.out⟩
  | false =>
   by_cases h8 : 48≤l.length
   ·have d8 : decide ((48 : Int)≤(l.length : Int))=true:=decide_eq_true (by omega)
    have d9:=eq_true h8
    have hM : putM l c v=(l,false):=by rw [hu0,if_neg (by rw [hh];simp),if_pos h8]
    go_enter Try.func99,Try.ntmps99
    go_wp2_with (first
     | (go_at_call 67;with_reducible refine cl (impl_PairsValid.M _ _ l _ (cb HR0 B)) B fun w1 hb B=>?_;clear hb)
     | (go_at_call 110;with_reducible refine cl (impl_KeyValid.M c _) B fun w2 hb B=>?_;clear hb)
     | (go_at_call 112;with_reducible refine cl (impl_valueValid.M v _) B fun w3 hb B=>?_;clear hb)
     | (go_at_call 118;with_reducible refine cl (impl_pairPlace.M _ _ l c _ (cb HR0 B) HC0.out hv) B fun w4 hb B=>?_;clear hb)
     | (go_at_call 92;with_reducible refine cr (impl_copyOfPair.M _ _ l _ (cb HR0 B) HC0.out (by omega)) B fun AC5 kC5 w5 hb B RC5 QC5=>?_;clear QC5;clear hb))
    go_ret2;exact ⟨_,by rw [hM];rfl,by rw [hM];exact RC5.out,B.out⟩
   ·have d8 : decide ((48 : Int)≤(l.length : Int))=false:=decide_eq_false (by omega)
    have d9:=eq_false h8
    have hM : putM l c v=((l.take (atP l c) ++ [⟨c,v⟩]) ++ l.drop (atP l c),true):=by rw [hu0,if_neg (by rw [hh];simp),if_neg h8]
    go_enter Try.func99,Try.ntmps99
    go_wp2_with (first
     | (go_at_call 67;with_reducible refine cl (impl_PairsValid.M _ _ l _ (cb HR0 B)) B fun w1 hb B=>?_;clear hb)
     | (go_at_call 110;with_reducible refine cl (impl_KeyValid.M c _) B fun w2 hb B=>?_;clear hb)
     | (go_at_call 112;with_reducible refine cl (impl_valueValid.M v _) B fun w3 hb B=>?_;clear hb)
     | (go_at_call 118;with_reducible refine cl (impl_pairPlace.M _ _ l c _ (cb HR0 B) HC0.out hv) B fun w4 hb B=>?_;clear hb)
     | ((with_reducible refine gate_dst (N:=47) rfl ?_);refine lt k105 105 ?hg (N:=47) ?hd ([⟨c,v⟩] : List S105) [.string c,.int .i64 (v)] ?hr (Reps.c2 (k105_mkM _ _ _ ⟨c,v⟩) (Reps.none _ _)) (by simp) B ?_;(case hd | hg=>rfl);(case hr=>go_simp;first | done | rfl);intro z47 hz47 AL47 kL47 w5 hb B RL47 QL47;clear hb QL47)
     | (go_at_call 119;with_reducible refine crz (impl_replacedPair.M0 _ _ l (atP l c) _ _ z47 _ (cb HR0 B) HC0.out (rc RL47) (rl RL47) (by omega) (by rw [← hz47];simp) (by omega)) B fun zC6 hzC6 AC6 kC6 w6 hb B RC6 QC6=>?_;clear QC6;clear hb))
    go_ret2;exact ⟨_,by rw [hM];rfl,by rw [hM,hz47,hzC6];exact RC6.out,B.out⟩
 ·have hM : putM l c v=([],false):=if_neg hvv
  have hvn : prB l=false ∨ keyB c=false ∨ l1B v 0 999=false:=by grind
  go_enter Try.func99,Try.ntmps99
  go_wp2_with (first
   | (go_at_call 67;with_reducible refine cl (impl_PairsValid.M _ _ l _ (cb HR0 B)) B fun w1 hb B=>?_;clear hb)
   | (go_at_call 110;with_reducible refine cl (impl_KeyValid.M c _) B fun w2 hb B=>?_;clear hb)
   | (go_at_call 112;with_reducible refine cl (impl_valueValid.M v _) B fun w3 hb B=>?_;clear hb))
  all_goals first
   | (go_ret2;exact ⟨_,by rw [hM];rfl,by rw [hM];exact Kd.R_nil _ _ _ _ _,B.out⟩)
   | (exfalso;grind)

theorem impl_ApplyCommand.M (A0 : Option Addr) (c0 : Nat) (l : List S105) (k : Int) (x : ByteArray) (v o : Int) (w : World) (hr0 : Kd.C k105 w A0 l.length l) (hc0 : l.length≤c0) : Calls Try.prog 52 #[.slice A0 l.length c0,.agg #[.int .i64 k,.string x,.int .i64 v,.int .i64 o]] w fun e w'=>∃ v0,e=.returned (.tuple #[v0,.int .i64 (apM l k x v o).2])∧Kd.R k105 105 w' w.heap.size (fun _=>True) v0 (apM l k x v o).1∧Below w.heap.size w w':=by
 have B:=Aside0.mk (Below.refl w.heap.size w)
 have hu:=Try.underlying42
 have HR0:=Aside0.mk hr0
 have HC0:=Aside0.mk hc0
 have L63:=Aside0.mk hr0.2.1
 clear hr0 hc0
 obtain ⟨r,hr⟩ : ∃ r,apM l k x v o=r:=⟨_,rfl⟩
 rw [hr]
 go_enter Try.func52,Try.ntmps52
 go_wp2_with (first
  | ((with_reducible refine gate_dst (N:=3) rfl ?_);refine bxq 3 #[.int .i64 (k),.string x,.int .i64 (v),.int .i64 (o)] 42 B fun g3 w1 hb B F3 L3 E3=>?_;obtain ⟨c3_0,c3_1,c3_2,c3_3⟩:=cs4 F3;clear hb E3)
  | (go_at_call 67;with_reducible refine cl (impl_PairsValid.M _ _ l _ (cb HR0 B)) B fun w2 hb B=>?_;replace F3:=bn F3 hb;clear c3_0 c3_1 c3_2 c3_3;obtain ⟨c3_0,c3_1,c3_2,c3_3⟩:=cs4 F3;clear hb)
  | (go_at_call 72;with_reducible refine cl (impl_CommandValid.M k x v o _) B fun w3 hb B=>?_;replace F3:=bn F3 hb;clear c3_0 c3_1 c3_2 c3_3;obtain ⟨c3_0,c3_1,c3_2,c3_3⟩:=cs4 F3;clear hb)
  | (go_at_call 97;with_reducible refine cl (impl_PairGet.M _ _ l x _ (cb HR0 B) HC0.out) B fun w4 hb B=>?_;replace F3:=bn F3 hb;clear c3_0 c3_1 c3_2 c3_3;obtain ⟨c3_0,c3_1,c3_2,c3_3⟩:=cs4 F3;clear hb)
  | (go_at_call 98;with_reducible refine crz (impl_PairDrop.M _ _ l x _ (cb HR0 B) HC0.out) B fun zC5 hzC5 AC5 kC5 w5 hb B RC5 QC5=>?_;replace F3:=bn F3 hb;clear QC5;clear hb)
  | (go_at_call 92;with_reducible refine cr (impl_copyOfPair.M _ _ l _ (cb HR0 B) HC0.out (by have:=prB_len (by assumption);omega)) B fun AC5 kC5 w5 hb B RC5 QC5=>?_;replace F3:=bn F3 hb;clear QC5;clear hb)
  | (go_at_call 92;with_reducible refine cr (impl_copyOfPair.M _ _ l _ (cb HR0 B) HC0.out (by have:=prB_len (by assumption);omega)) B fun AC5 kC5 w5 hb B RC5 QC5=>?_;replace F3:=bn F3 hb;clear QC5;clear hb)
  | (go_at_call 99;with_reducible refine crz (impl_PairPut.M _ _ l x v _ (cb HR0 B) HC0.out) B fun zC5 hzC5 AC5 kC5 w5 hb B RC5 QC5=>?_;replace F3:=bn F3 hb;clear QC5;clear hb))
 all_goals first
  | (refine useEq (a:=r) (b:=([],-3)) ?_ (fun hM=>?_);(rw [← hr];unfold apM;(try have hgb:=getM_bound l x);grind);subst hM;go_ret2;exact ⟨_,rfl,Kd.R_nil _ _ _ _ _,B.out⟩)
  | (refine useEq (a:=r) (b:=((dropM l x).1,getM l x)) ?_ (fun hM=>?_);(rw [← hr];unfold apM;(try have hgb:=getM_bound l x);grind);subst hM;subst hzC5;go_ret2;exact ⟨_,rfl,RC5.out,B.out⟩)
  | (refine useEq (a:=r) (b:=((dropM l x).1,-1)) ?_ (fun hM=>?_);(rw [← hr];unfold apM;(try have hgb:=getM_bound l x);grind);subst hM;subst hzC5;go_ret2;exact ⟨_,rfl,RC5.out,B.out⟩)
  | (refine useEq (a:=r) (b:=(l,getM l x)) ?_ (fun hM=>?_);(rw [← hr];unfold apM;(try have hgb:=getM_bound l x);grind);subst hM;go_ret2;exact ⟨_,rfl,RC5.out,B.out⟩)
  | (refine useEq (a:=r) (b:=(l,-1)) ?_ (fun hM=>?_);(rw [← hr];unfold apM;(try have hgb:=getM_bound l x);grind);subst hM;go_ret2;exact ⟨_,rfl,RC5.out,B.out⟩)
  | (refine useEq (a:=r) (b:=((putM l x v).1,getM l x)) ?_ (fun hM=>?_);(rw [← hr];unfold apM;(try have hgb:=getM_bound l x);grind);subst hM;subst hzC5;go_ret2;exact ⟨_,rfl,RC5.out,B.out⟩)
  | (refine useEq (a:=r) (b:=((putM l x v).1,-1)) ?_ (fun hM=>?_);(rw [← hr];unfold apM;(try have hgb:=getM_bound l x);grind);subst hM;subst hzC5;go_ret2;exact ⟨_,rfl,RC5.out,B.out⟩)
  | (refine useEq (a:=r) (b:=(l,-2)) ?_ (fun hM=>?_);(rw [← hr];unfold apM;(try have hgb:=getM_bound l x);grind);subst hM;go_ret2;exact ⟨_,rfl,RC5.out,B.out⟩)

theorem impl_replacedSession.M (A0 : Option Addr) (c0 : Nat) (l : List S76) (at_ many : Nat) (A1 : Option Addr) (c1 : Nat) (by_ : List S76) (w : World) (hr0 : Kd.C k76 w A0 l.length l) (hc0 : l.length≤c0) (hr1 : Kd.C k76 w A1 by_.length by_) (hc1 : by_.length≤c1)
  (hs : l.length≤1000000) (hs1 : by_.length≤1000000) (ham : at_ + many≤l.length) :
  Calls Try.prog 100 #[.slice A0 l.length c0,.int .i64 (at_ : Int),.int .i64 (many : Int),.slice A1 by_.length c1] w fun e w'=>∃ v0_ : Value,e=.returned v0_∧Kd.R k76 76 w' w.heap.size (fun _=>True) v0_ ((l.take at_ ++ by_) ++ l.drop (at_ + many))∧Below w.heap.size w w':=by
 have HR0:=Aside0.mk hr0
 have HR1:=Aside0.mk hr1
 clear hr0 hr1
 have hsum : (l.length : Int) - (many : Int) + (by_.length : Int)=((l.length - many + by_.length : Nat) : Int):=by omega
 obtain ⟨i0,hif,_,hsz,_⟩:=info_parts info76
 have hcut1:=cut_to (P:=Try.prog) 36 76 .i64 Try.underlying36 hif A0 l.length c0 (at_ : Int) (by omega) (by omega) hc0
 have hcut2:=cut_from (P:=Try.prog) 36 76 .i64 Try.underlying36 hif 3 hsz A0 l.length c0 ((at_ : Int) + (many : Int)) (by omega) (by omega)
 rw [Int.toNat_natCast] at hcut1
 rw [show ((at_ : Int) + (many : Int)).toNat=at_ + many by omega] at hcut2
 have C1:=Aside0.mk (fun {W : World} (h : Kd.C k76 W A0 l.length l)=>show Kd.C k76 W A0 at_ (l.take at_) from by
  have:=Kd.C_take h (m:=at_) (by omega)
  rwa [List.length_take,Nat.min_eq_left (by omega)] at this)
 obtain ⟨A2,hA2⟩ : ∃ A2,A2=(if c0=at_ + many then A0 else A0.map (·.add ((at_ + many) * 3))):=⟨_,rfl⟩
 rw [← hA2] at hcut2
 have C2:=Aside0.mk (fun {W : World} (h : Kd.C k76 W A0 l.length l)=>show Kd.C k76 W A2 (l.length - (at_ + many)) (l.drop (at_ + many)) from by
  have:=Kd.C_drop h (m:=at_ + many) (c:=c0) (by omega) hc0
  rw [List.length_drop] at this
  rw [hA2]
  exact this)
 have SUM:=Aside0.mk hsum
 clear hsum hif hsz hA2
 go_enter Try.func100,Try.ntmps100
 go_wp2_with (first
  | ((with_reducible refine gate_dst (N:=17) rfl ?_);refine make_cap k76 (w0:=w) w.heap.size 76 rfl (N:=17) rfl 36 _ _ rfl (l.length - many + by_.length) rfl (congrArg (Value.int .i64) SUM.out) Try.underlying36 (.agg #[.int .i64 0,.int .i64 0,.int .i64 0]) 24 info76 (by omega) (by omega) (Below.refl _ _) (Nat.le_refl _) ?_;intro v1 w1 ho hb;have O1:=Aside0.mk ho;have B1:=Aside0.mk hb;clear ho hb)
  | ((with_reducible refine gate_builtin (b:=.append) (xs:=#[.tmp 18,.tmp 21]) rfl ?_);at_builtin;refine Kd.R_append_rows k76 (w0:=w) w.heap.size rfl (.tmp 18) (.tmp 21) 36 76 (.agg #[.int .i64 0,.int .i64 0,.int .i64 0]) 24 rfl Try.underlying36 info76 rfl (by decide) (by omega) v1 [] (l.take at_) _ _ _ (fun _=>True) (fun _=>False) rfl rfl O1.out (C1.out (Kd.C_below HR0.out B1.out)) (fun x cs h=>own_Session _ _ x cs h) (fun _ h=>h.elim) (fun _ _=>trivial) B1.out (below_size B1.out) (by simp only [List.length_nil];omega) ?_;intro v2 w2 ho hb hg hat;rw [List.nil_append] at ho;have O2:=Aside0.mk ho;have B2:=Aside0.mk hb;clear ho hb hg hat)
  | ((with_reducible refine gate_builtin (b:=.append) (xs:=#[.tmp 23,.tmp 24]) rfl ?_);at_builtin;refine Kd.R_append_rows k76 (w0:=w) w.heap.size rfl (.tmp 23) (.tmp 24) 36 76 (.agg #[.int .i64 0,.int .i64 0,.int .i64 0]) 24 rfl Try.underlying36 info76 rfl (by decide) (by omega) v2 (l.take at_) by_ _ _ _ (fun _=>True) (fun _=>False) rfl rfl O2.out (Kd.C_below HR1.out B2.out) (fun x cs h=>own_Session _ _ x cs h) (fun _ h=>h.elim) (fun _ _=>trivial) B2.out (below_size B2.out) (by simp only [List.length_take];omega) ?_;intro v3 w3 ho hb hg hat;have O3:=Aside0.mk ho;have B3:=Aside0.mk hb;clear ho hb hg hat)
  | ((with_reducible refine gate_builtin (b:=.append) (xs:=#[.tmp 26,.tmp 31]) rfl ?_);at_builtin;refine Kd.R_append_rows k76 (w0:=w) w.heap.size rfl (.tmp 26) (.tmp 31) 36 76 (.agg #[.int .i64 0,.int .i64 0,.int .i64 0]) 24 rfl Try.underlying36 info76 rfl (by decide) (by omega) v3 (l.take at_ ++ by_) (l.drop (at_ + many)) _ _ _ (fun _=>True) (fun _=>False) rfl rfl O3.out (C2.out (Kd.C_below HR0.out B3.out)) (fun x cs h=>own_Session _ _ x cs h) (fun _ h=>h.elim) (fun _ _=>trivial) B3.out (below_size B3.out) (by simp only [List.length_append,List.length_take];omega) ?_;intro v4 w4 ho hb hg hat;have O4:=Aside0.mk ho;have B4:=Aside0.mk hb;clear ho hb hg hat))
 go_ret
 exact ⟨_,rfl,O4.out,B4.out⟩
theorem impl_replacedSession.M0 (A0 : Option Addr) (c0 : Nat) (l : List S76) (at_ : Nat) (A1 : Option Addr) (c1 : Nat) (by_ : List S76) (w : World) (hr0 : Kd.C k76 w A0 l.length l) (hc0 : l.length≤c0) (hr1 : Kd.C k76 w A1 by_.length by_) (hc1 : by_.length≤c1) (hs : l.length≤1000000) (hs1 : by_.length≤1000000) (ham : at_≤l.length) : Calls Try.prog 100 #[.slice A0 l.length c0,.int .i64 (at_ : Int),.int .i64 0,.slice A1 by_.length c1] w fun e w'=>∃ v0_ : Value,e=.returned v0_∧Kd.R k76 76 w' w.heap.size (fun _=>True) v0_ ((l.take at_ ++ by_) ++ l.drop at_)∧Below w.heap.size w w':=impl_replacedSession.M A0 c0 l at_ 0 A1 c1 by_ w hr0 hc0 hr1 hc1 hs hs1 ham
theorem impl_replacedSession.M1 (A0 : Option Addr) (c0 : Nat) (l : List S76) (at_ : Nat) (A1 : Option Addr) (c1 : Nat) (by_ : List S76) (w : World) (hr0 : Kd.C k76 w A0 l.length l) (hc0 : l.length≤c0) (hr1 : Kd.C k76 w A1 by_.length by_) (hc1 : by_.length≤c1) (hs : l.length≤1000000) (hs1 : by_.length≤1000000) (ham : at_ + 1≤l.length) : Calls Try.prog 100 #[.slice A0 l.length c0,.int .i64 (at_ : Int),.int .i64 1,.slice A1 by_.length c1] w fun e w'=>∃ v0_ : Value,e=.returned v0_∧Kd.R k76 76 w' w.heap.size (fun _=>True) v0_ ((l.take at_ ++ by_) ++ l.drop (at_ + 1))∧Below w.heap.size w w':=impl_replacedSession.M A0 c0 l at_ 1 A1 c1 by_ w hr0 hc0 hr1 hc1 hs hs1 ham
theorem put_hit {l : List S76} {a b c : Int} (hv : sesB l=true) (ho : okS (⟨a,b,c⟩ : S76)=true) : putB l ⟨a,b,c⟩=if hitOf l a=true then (if (rd_T76 l ((plOf l a : Nat) : Int)).f1 ≥ b then (l,false) else ((l.take (plOf l a) ++ [⟨a,b,c⟩]) ++ l.drop (plOf l a + 1),true)) else ((l.take (plOf l a) ++ [⟨a,b,c⟩]) ++ l.drop (plOf l a),true):=by
 have hs : sesB [(⟨a,b,c⟩ : S76)]=true:=by rw [sesOne];exact ho
 have hcl:=okS_client ho
 have hsq : 1≤b:=by unfold okS l1B at ho;simp only [Bool.and_eq_true,decide_eq_true_eq] at ho;omega
 have hor:=sesG_order l none hv
 obtain ⟨p1,p2,p3⟩:=placeOf_spec hor a l.length 0 l.length (Nat.zero_le _) (Nat.le_refl _) (by omega) (fun i _ hi=>absurd hi (Nat.not_lt_zero _)) (fun i hil hi=>by omega)
 have hpl:=putL_place (⟨a,b,c⟩ : S76) l (plOf l a) hor p1 p2 p3
 have hq:=seq_hit hv hcl
 have hh : hitOf l a=true ↔ ∃ h : plOf l a < l.length,l[plOf l a].f0=a:=by
  constructor
  ·intro h
   obtain ⟨h1,h2⟩:=plhit h
   rw [ses_nat h1] at h2
   exact ⟨h1,h2⟩
  ·rintro ⟨h1,h2⟩
   unfold hitOf
   rw [Bool.and_eq_true,decide_eq_true_eq,decide_eq_true_eq]
   exact ⟨h1,by rw [← ses_nat h1] at h2;exact h2⟩
 unfold putB
 rw [if_pos ⟨hv,hs⟩]
 show (if b≤seqB l a then (l,false) else (putL l ⟨a,b,c⟩ false,true))=_
 rw [hq]
 by_cases hit : hitOf l a=true
 ·rw [if_pos hit,if_pos hit]
  rw [if_pos (hh.mp hit)] at hpl
  by_cases hle : b≤(rd_T76 l ((plOf l a : Nat) : Int)).f1
  ·rw [if_pos hle,if_pos (show (rd_T76 l ((plOf l a : Nat) : Int)).f1 ≥ b from hle)]
  ·rw [if_neg hle,if_neg (show ¬ (rd_T76 l ((plOf l a : Nat) : Int)).f1 ≥ b from hle),hpl]
 ·rw [if_neg hit,if_neg hit]
  rw [if_neg (fun h=>hit (hh.mpr h))] at hpl
  rw [if_neg (by omega),hpl]
  rfl
def impl_SessionPut.T6 : Bool × List (List Nat × List Nat):=(true,[([],[]),([],[]),([0,1],[0,1]),([2],[2]),([3],[3]),([],[]),([5],[5]),([4,6],[4,6])])
def impl_SessionPut.B6 : List Nat:=[0,0,3,7,15,0,32,127]
theorem impl_SessionPut.tab6 : rtab .any (opsOf Try.f53 6)=impl_SessionPut.T6:=by kernel_rfl
theorem impl_SessionPut.bits6 : waitsOk impl_SessionPut.T6.2 impl_SessionPut.B6=true:=by kernel_rfl
theorem impl_SessionPut.M (A0 : Option Addr) (c0 : Nat) (l : List S76) (a b c : Int) (w : World) (hr0 : Kd.C k76 w A0 l.length l) (hc0 : l.length≤c0) : Calls Try.prog 53 #[.slice A0 l.length c0,.agg #[.int .i64 a,.int .i64 b,.int .i64 c]] w fun e w'=>∃ v0,e=.returned (.tuple #[v0,.bool (putB l ⟨a,b,c⟩).2])∧Kd.R k76 76 w' w.heap.size (fun _=>True) v0 (putB l ⟨a,b,c⟩).1∧Below w.heap.size w w':=by
 have B:=Aside0.mk (Below.refl w.heap.size w)
 have hu:=Try.underlying76
 have HR0:=Aside0.mk hr0
 have HC0:=Aside0.mk hc0
 have L63:=Aside0.mk hr0.2.1
 clear hr0 hc0
 by_cases hv : sesB l=true
 ·have h4:=sesB_len hv
  cases ho : okS (⟨a,b,c⟩ : S76) with
  | true =>
   have hone : sesB [(⟨a,b,c⟩ : S76)]=true:=by rw [sesOne];exact ho
   have hM:=put_hit hv ho
   cases hh : hitOf l a with
   | true =>
    rw [hh,if_pos rfl] at hM
    obtain ⟨hlt,hf0⟩:=plhit hh
    have j1:=eq_true (show ((plOf l a : Nat) : Int) < (l.length : Int) by omega)
    have j2:=eq_true hlt
    by_cases hb : (rd_T76 l ((plOf l a : Nat) : Int)).f1 ≥ b
    ·rw [if_pos hb] at hM
     have db : decide ((rd_T76 l ((plOf l a : Nat) : Int)).f1 ≥ b)=true:=decide_eq_true hb
     go_enter Try.func53,Try.ntmps53
     go_wp2_with (first
      | ((with_reducible refine gate_dst (N:=3) rfl ?_);refine bxq 3 #[.int .i64 (a),.int .i64 (b),.int .i64 (c)] 76 B fun g3 w301 hb B F3 L3 E3=>?_;obtain ⟨c3_0,c3_1,c3_2⟩:=cs3 F3;clear hb E3)
      | (go_at_call 68;with_reducible refine cl (impl_SessionsValid.M _ _ l _ (cb HR0 B)) B fun w302 hb B=>?_;replace F3:=bn F3 hb;clear c3_0 c3_1 c3_2;obtain ⟨c3_0,c3_1,c3_2⟩:=cs3 F3;clear hb)
      | ((with_reducible refine gate_dst (N:=13) rfl ?_);refine ungate ?hw ?_;(case hw=>first | (go_simp;done) | rfl);refine lt k76 76 ?hg (N:=13) ?hd ([⟨a,b,c⟩] : List S76) [.int .i64 (a),.int .i64 (b),.int .i64 (c)] ?hr (Reps.c3 (k76_mkM _ _ _ ⟨a,b,c⟩) (Reps.none _ _)) (by simp) B ?_;(case hd | hg=>rfl);(case hr=>go_simp;first | done | rfl);intro z13 hz13 AL13 kL13 w303 hb B RL13 QL13;have NB3_L13:=nb QL13 F3;replace F3:=bn F3 hb;clear c3_0 c3_1 c3_2;obtain ⟨c3_0,c3_1,c3_2⟩:=cs3 F3;clear hb QL13)
      | (go_at_call 68;with_reducible refine cl (clv (impl_SessionsValid.M _ _ z13 _ (rc RL13)) (congrArg Value.bool (show sesB z13=true by rw [← hz13];exact hone))) B fun w304 hb B=>?_;replace F3:=bn F3 hb;clear c3_0 c3_1 c3_2;obtain ⟨c3_0,c3_1,c3_2⟩:=cs3 F3;clear hb;clear hz13)
      | (go_at_call 50;with_reducible refine cl (impl_sessionPlace.M _ _ l a _ (cb HR0 B) HC0.out hv) B fun w305 hb B=>?_;replace F3:=bn F3 hb;clear c3_0 c3_1 c3_2;obtain ⟨c3_0,c3_1,c3_2⟩:=cs3 F3;clear hb;(obtain ⟨ad,hA,y0,y1,y2⟩:=at_T76 (cb HR0 B) ((plOf l a : Nat) : Int) (Int.natCast_nonneg _) (Int.ofNat_lt.mpr hlt);cases hA;rw [Int.toNat_natCast] at y0 y1 y2)))
     all_goals (
      refine rg (n:=8) (S:=fun W=>Kd.C k76 W (some ad) l.length l∧W.heap[g3]?=some (.cells #[.int .i64 (a),.int .i64 (b),.int .i64 (c)] 76 (0,0))) (ds:=[]) #[false,false,false,false,false,false,false,false] (by kernel_rfl) rfl rfl ⟨(cb HR0 B),F3.out⟩ id B (fun w306 hb B hHeld=>?_)
      refine with_tabW impl_SessionPut.tab6 impl_SessionPut.bits6 (fun HT_ HW_=>?_)
      replace F3:=bn F3 hb
      clear hb
      refine pvq 0 (some 31) (bits 8 1) HT_ ?_
      refine pvq 1 (some 32) (bits 8 3) HT_ ?_
      refine pvq 2 (some 33) (bits 8 7) HT_ ?_
      refine pvq 3 (some 34) (bits 8 15) HT_ ?_
      refine tvq 4 (some 35) (bits 8 31) HT_ HW_ rfl hHeld (by intro w' hS;obtain ⟨s0,s1⟩:=hS;obtain ⟨_,hA,q0,q1,q2⟩:=at_T76 s0 ((plOf l a : Nat) : Int) (by omega) (by omega);cases hA;rw [Int.toNat_natCast] at q0 q1 q2;go_simp;with_reducible rfl) ?_
      refine pvq 5 (some 36) (bits 8 63) HT_ ?_
      refine tvq 6 (some 37) (bits 8 127) HT_ HW_ rfl hHeld (by intro w' hS;obtain ⟨s0,s1⟩:=hS;obtain ⟨q0,q1,q2⟩:=cs3 (Aside0.mk s1);go_simp;with_reducible rfl) ?_
      refine pvq 7 (some 38) (bits 8 255) HT_ ?_
      refine nmq ?_
      refine done_ (done_of HT_.out (by kernel_rfl)) ?_)
     all_goals go_wp2_with (first
      | (go_at_call 93;with_reducible refine cr (impl_copyOfSession.M _ _ l _ (cb HR0 B) HC0.out (by omega)) B fun AC307 kC307 w307 hb B RC307 QC307=>?_;clear QC307;clear hb))
     go_ret2;exact ⟨_,by rw [hM];rfl,by rw [hM];exact RC307.out,B.out⟩
    ·rw [if_neg hb] at hM
     have db : decide ((rd_T76 l ((plOf l a : Nat) : Int)).f1 ≥ b)=false:=decide_eq_false hb
     go_enter Try.func53,Try.ntmps53
     go_wp2_with (first
      | ((with_reducible refine gate_dst (N:=3) rfl ?_);refine bxq 3 #[.int .i64 (a),.int .i64 (b),.int .i64 (c)] 76 B fun g3 w401 hb B F3 L3 E3=>?_;obtain ⟨c3_0,c3_1,c3_2⟩:=cs3 F3;clear hb E3)
      | (go_at_call 68;with_reducible refine cl (impl_SessionsValid.M _ _ l _ (cb HR0 B)) B fun w402 hb B=>?_;replace F3:=bn F3 hb;clear c3_0 c3_1 c3_2;obtain ⟨c3_0,c3_1,c3_2⟩:=cs3 F3;clear hb)
      | ((with_reducible refine gate_dst (N:=13) rfl ?_);refine ungate ?hw ?_;(case hw=>first | (go_simp;done) | rfl);refine lt k76 76 ?hg (N:=13) ?hd ([⟨a,b,c⟩] : List S76) [.int .i64 (a),.int .i64 (b),.int .i64 (c)] ?hr (Reps.c3 (k76_mkM _ _ _ ⟨a,b,c⟩) (Reps.none _ _)) (by simp) B ?_;(case hd | hg=>rfl);(case hr=>go_simp;first | done | rfl);intro z13 hz13 AL13 kL13 w403 hb B RL13 QL13;have NB3_L13:=nb QL13 F3;replace F3:=bn F3 hb;clear c3_0 c3_1 c3_2;obtain ⟨c3_0,c3_1,c3_2⟩:=cs3 F3;clear hb QL13)
      | (go_at_call 68;with_reducible refine cl (clv (impl_SessionsValid.M _ _ z13 _ (rc RL13)) (congrArg Value.bool (show sesB z13=true by rw [← hz13];exact hone))) B fun w404 hb B=>?_;replace F3:=bn F3 hb;clear c3_0 c3_1 c3_2;obtain ⟨c3_0,c3_1,c3_2⟩:=cs3 F3;clear hb;clear hz13)
      | (go_at_call 50;with_reducible refine cl (impl_sessionPlace.M _ _ l a _ (cb HR0 B) HC0.out hv) B fun w405 hb B=>?_;replace F3:=bn F3 hb;clear c3_0 c3_1 c3_2;obtain ⟨c3_0,c3_1,c3_2⟩:=cs3 F3;clear hb;(obtain ⟨ad,hA,y0,y1,y2⟩:=at_T76 (cb HR0 B) ((plOf l a : Nat) : Int) (Int.natCast_nonneg _) (Int.ofNat_lt.mpr hlt);cases hA;rw [Int.toNat_natCast] at y0 y1 y2)))
     all_goals (
      refine rg (n:=8) (S:=fun W=>Kd.C k76 W (some ad) l.length l∧W.heap[g3]?=some (.cells #[.int .i64 (a),.int .i64 (b),.int .i64 (c)] 76 (0,0))) (ds:=[]) #[false,false,false,false,false,false,false,false] (by kernel_rfl) rfl rfl ⟨(cb HR0 B),F3.out⟩ id B (fun w406 hb B hHeld=>?_)
      refine with_tabW impl_SessionPut.tab6 impl_SessionPut.bits6 (fun HT_ HW_=>?_)
      replace F3:=bn F3 hb
      clear hb
      refine pvq 0 (some 31) (bits 8 1) HT_ ?_
      refine pvq 1 (some 32) (bits 8 3) HT_ ?_
      refine pvq 2 (some 33) (bits 8 7) HT_ ?_
      refine pvq 3 (some 34) (bits 8 15) HT_ ?_
      refine tvq 4 (some 35) (bits 8 31) HT_ HW_ rfl hHeld (by intro w' hS;obtain ⟨s0,s1⟩:=hS;obtain ⟨_,hA,q0,q1,q2⟩:=at_T76 s0 ((plOf l a : Nat) : Int) (by omega) (by omega);cases hA;rw [Int.toNat_natCast] at q0 q1 q2;go_simp;with_reducible rfl) ?_
      refine pvq 5 (some 36) (bits 8 63) HT_ ?_
      refine tvq 6 (some 37) (bits 8 127) HT_ HW_ rfl hHeld (by intro w' hS;obtain ⟨s0,s1⟩:=hS;obtain ⟨q0,q1,q2⟩:=cs3 (Aside0.mk s1);go_simp;with_reducible rfl) ?_
      refine pvq 7 (some 38) (bits 8 255) HT_ ?_
      refine nmq ?_
      refine done_ (done_of HT_.out (by kernel_rfl)) ?_
      clear c3_0 c3_1 c3_2
      obtain ⟨c3_0,c3_1,c3_2⟩:=cs3 F3)
     all_goals go_wp2_with (first
      | ((with_reducible refine gate_dst (N:=44) rfl ?_);refine lt k76 76 ?hg (N:=44) ?hd ([⟨a,b,c⟩] : List S76) [.int .i64 (a),.int .i64 (b),.int .i64 (c)] ?hr (Reps.c3 (k76_mkM _ _ _ ⟨a,b,c⟩) (Reps.none _ _)) (by simp) B ?_;(case hd | hg=>rfl);(case hr=>go_simp;first | done | rfl);intro z44 hz44 AL44 kL44 w407 hb B RL44 QL44;clear hb QL44)
      | (go_at_call 100;with_reducible refine crz (impl_replacedSession.M1 _ _ l (plOf l a) _ _ z44 _ (cb HR0 B) HC0.out (rc RL44) (rl RL44) (by omega) (by rw [← hz44];simp) (by omega)) B fun zC408 hzC408 AC408 kC408 w408 hb B RC408 QC408=>?_;clear QC408;clear hb))
     go_ret2;exact ⟨_,by rw [hM];rfl,by rw [hM,hz44,hzC408];exact RC408.out,B.out⟩
   | false =>
    rw [hh,if_neg (by simp)] at hM
    have hle : plOf l a≤l.length:=(placeOf_spec (sesG_order l none hv) a l.length 0 l.length (Nat.zero_le _) (Nat.le_refl _) (by omega) (fun i _ hi=>absurd hi (Nat.not_lt_zero _)) (fun i hil hi=>by omega)).1
    go_enter Try.func53,Try.ntmps53
    go_wp2_with (first
     | ((with_reducible refine gate_dst (N:=3) rfl ?_);refine bxq 3 #[.int .i64 (a),.int .i64 (b),.int .i64 (c)] 76 B fun g3 w201 hb B F3 L3 E3=>?_;obtain ⟨c3_0,c3_1,c3_2⟩:=cs3 F3;clear hb E3)
     | (go_at_call 68;with_reducible refine cl (impl_SessionsValid.M _ _ l _ (cb HR0 B)) B fun w202 hb B=>?_;replace F3:=bn F3 hb;clear c3_0 c3_1 c3_2;obtain ⟨c3_0,c3_1,c3_2⟩:=cs3 F3;clear hb)
     | ((with_reducible refine gate_dst (N:=13) rfl ?_);refine ungate ?hw ?_;(case hw=>first | (go_simp;done) | rfl);refine lt k76 76 ?hg (N:=13) ?hd ([⟨a,b,c⟩] : List S76) [.int .i64 (a),.int .i64 (b),.int .i64 (c)] ?hr (Reps.c3 (k76_mkM _ _ _ ⟨a,b,c⟩) (Reps.none _ _)) (by simp) B ?_;(case hd | hg=>rfl);(case hr=>go_simp;first | done | rfl);intro z13 hz13 AL13 kL13 w203 hb B RL13 QL13;have NB3_L13:=nb QL13 F3;replace F3:=bn F3 hb;clear c3_0 c3_1 c3_2;obtain ⟨c3_0,c3_1,c3_2⟩:=cs3 F3;clear hb QL13)
     | (go_at_call 68;with_reducible refine cl (clv (impl_SessionsValid.M _ _ z13 _ (rc RL13)) (congrArg Value.bool (show sesB z13=true by rw [← hz13];exact hone))) B fun w204 hb B=>?_;replace F3:=bn F3 hb;clear c3_0 c3_1 c3_2;obtain ⟨c3_0,c3_1,c3_2⟩:=cs3 F3;clear hb;clear hz13)
     | (go_at_call 50;with_reducible refine cl (impl_sessionPlace.M _ _ l a _ (cb HR0 B) HC0.out hv) B fun w205 hb B=>?_;replace F3:=bn F3 hb;clear c3_0 c3_1 c3_2;obtain ⟨c3_0,c3_1,c3_2⟩:=cs3 F3;clear hb)
     | ((with_reducible refine gate_dst (N:=29) rfl ?_);refine lt k76 76 ?hg (N:=29) ?hd ([⟨a,b,c⟩] : List S76) [.int .i64 (a),.int .i64 (b),.int .i64 (c)] ?hr (Reps.c3 (k76_mkM _ _ _ ⟨a,b,c⟩) (Reps.none _ _)) (by simp) B ?_;(case hd | hg=>rfl);(case hr=>go_simp;first | done | rfl);intro z29 hz29 AL29 kL29 w206 hb B RL29 QL29;clear hb QL29)
     | (go_at_call 100;with_reducible refine crz (impl_replacedSession.M0 _ _ l (plOf l a) _ _ z29 _ (cb HR0 B) HC0.out (rc RL29) (rl RL29) (by omega) (by rw [← hz29];simp) (by omega)) B fun zC207 hzC207 AC207 kC207 w207 hb B RC207 QC207=>?_;clear QC207;clear hb))
    go_ret2;exact ⟨_,by rw [hM];rfl,by rw [hM,hz29,hzC207];exact RC207.out,B.out⟩
  | false =>
   have hone : sesB [(⟨a,b,c⟩ : S76)]=false:=by rw [sesOne];exact ho
   have hM : putB l ⟨a,b,c⟩=([],false):=put_bad (.inr hone)
   go_enter Try.func53,Try.ntmps53
   go_wp2_with (first
    | ((with_reducible refine gate_dst (N:=3) rfl ?_);refine bxq 3 #[.int .i64 (a),.int .i64 (b),.int .i64 (c)] 76 B fun g3 w101 hb B F3 L3 E3=>?_;obtain ⟨c3_0,c3_1,c3_2⟩:=cs3 F3;clear hb E3)
    | (go_at_call 68;with_reducible refine cl (impl_SessionsValid.M _ _ l _ (cb HR0 B)) B fun w102 hb B=>?_;replace F3:=bn F3 hb;clear c3_0 c3_1 c3_2;obtain ⟨c3_0,c3_1,c3_2⟩:=cs3 F3;clear hb)
    | ((with_reducible refine gate_dst (N:=13) rfl ?_);refine ungate ?hw ?_;(case hw=>first | (go_simp;done) | rfl);refine lt k76 76 ?hg (N:=13) ?hd ([⟨a,b,c⟩] : List S76) [.int .i64 (a),.int .i64 (b),.int .i64 (c)] ?hr (Reps.c3 (k76_mkM _ _ _ ⟨a,b,c⟩) (Reps.none _ _)) (by simp) B ?_;(case hd | hg=>rfl);(case hr=>go_simp;first | done | rfl);intro z13 hz13 AL13 kL13 w103 hb B RL13 QL13;clear hb QL13)
    | (go_at_call 68;with_reducible refine cl (clv (impl_SessionsValid.M _ _ z13 _ (rc RL13)) (congrArg Value.bool (show sesB z13=false by rw [← hz13];exact hone))) B fun w104 hb B=>?_;clear hb;clear hz13))
   go_ret2;exact ⟨_,by rw [hM];rfl,by rw [hM];exact Kd.R_nil _ _ _ _ _,B.out⟩
 ·replace hv:=Bool.eq_false_iff.mpr hv
  have hM : putB l ⟨a,b,c⟩=([],false):=put_bad (.inl hv)
  have hone:=hv
  go_enter Try.func53,Try.ntmps53
  go_wp2_with (first
   | ((with_reducible refine gate_dst (N:=3) rfl ?_);refine bxq 3 #[.int .i64 (a),.int .i64 (b),.int .i64 (c)] 76 B fun g3 w1 hb B F3 L3 E3=>?_;obtain ⟨c3_0,c3_1,c3_2⟩:=cs3 F3;clear hb E3)
   | (go_at_call 68;with_reducible refine cl (impl_SessionsValid.M _ _ l _ (cb HR0 B)) B fun w2 hb B=>?_;replace F3:=bn F3 hb;clear c3_0 c3_1 c3_2;obtain ⟨c3_0,c3_1,c3_2⟩:=cs3 F3;clear hb)
   | ((with_reducible refine gate_dst (N:=13) rfl ?_);refine ungate ?hw ?_;(case hw=>first | (go_simp;done) | rfl);refine lt k76 76 ?hg (N:=13) ?hd ([⟨a,b,c⟩] : List S76) [.int .i64 (a),.int .i64 (b),.int .i64 (c)] ?hr (Reps.c3 (k76_mkM _ _ _ ⟨a,b,c⟩) (Reps.none _ _)) (by simp) B ?_;(case hd | hg=>rfl);(case hr=>go_simp;first | done | rfl);intro z13 hz13 AL13 kL13 w3 hb B RL13 QL13;clear hb QL13)
   | (go_at_call 68;with_reducible refine cl (clv (impl_SessionsValid.M _ _ z13 _ (rc RL13)) (congrArg Value.bool (show sesB z13=false by rw [← hz13];exact hone))) B fun w4 hb B=>?_;clear hb;clear hz13))
  go_ret2;exact ⟨_,by rw [hM];rfl,by rw [hM];exact Kd.R_nil _ _ _ _ _,B.out⟩

def impl_IntervalCut.T7 : Bool × List (List Nat × List Nat):=(true,[([],[]),([],[]),([0,0],[0]),([1,2,0,1,2],[1]),([3,0,1,2,3],[])])
def impl_IntervalCut.B7 : List Nat:=[0,0,1,7,15]
theorem impl_IntervalCut.tab7 : rtab .any (opsOf Try.f70 7)=impl_IntervalCut.T7:=by kernel_rfl
theorem impl_IntervalCut.bits7 : waitsOk impl_IntervalCut.T7.2 impl_IntervalCut.B7=true:=by kernel_rfl
theorem impl_IntervalCut.M (a b c : ByteArray) (w : World) : Calls Try.prog 70 #[.agg #[.string a,.string b],.string c] w fun e w'=>e=.returned (.tuple #[.agg #[.string (cutV a b c).1,.string (cutV a b c).2.1],.agg #[.string (cutV a b c).2.2.1,.string (cutV a b c).2.2.2.1],.bool (cutV a b c).2.2.2.2])∧Below w.heap.size w w':=by
 have B:=Aside0.mk (Below.refl w.heap.size w)
 have hu:=Try.underlying34
 go_enter Try.func70,Try.ntmps70
 go_wp2_with (first
  | ((with_reducible refine gate_dst (N:=2) rfl ?_);refine bxq 2 #[.string a,.string b] 34 B fun g2 w1 hb B F2 L2 E2=>?_;obtain ⟨c2_0,c2_1⟩:=cs2 F2;clear hb E2)
  | ((with_reducible refine gate_dst (N:=4) rfl ?_);refine bxq 4 #[.string (⟨#[]⟩ : ByteArray),.string (⟨#[]⟩ : ByteArray)] 34 B fun g4 w2 hb B F4 L4 E4=>?_;have N2_4:=ne1 E4 F2;replace F2:=bn F2 hb;clear c2_0 c2_1;obtain ⟨c2_0,c2_1⟩:=cs2 F2;clear hb E4)
  | ((with_reducible refine gate_dst (N:=5) rfl ?_);refine bxq 5 #[.string (⟨#[]⟩ : ByteArray),.string (⟨#[]⟩ : ByteArray)] 34 B fun g5 w3 hb B F5 L5 E5=>?_;have N2_5:=ne1 E5 F2;have N4_5:=ne1 E5 F4;replace F2:=bn F2 hb;replace F4:=bn F4 hb;clear c2_0 c2_1;obtain ⟨c2_0,c2_1⟩:=cs2 F2;clear hb E5)
  | (go_at_call 66;with_reducible refine cl (impl_IntervalValid.M a b _) B fun w4 hb B=>?_;replace F2:=bn F2 hb;replace F4:=bn F4 hb;replace F5:=bn F5 hb;clear c2_0 c2_1;obtain ⟨c2_0,c2_1⟩:=cs2 F2;clear hb)
  | (go_at_call 110;with_reducible refine cl (impl_KeyValid.M c _) B fun w5 hb B=>?_;replace F2:=bn F2 hb;replace F4:=bn F4 hb;replace F5:=bn F5 hb;clear c2_0 c2_1;obtain ⟨c2_0,c2_1⟩:=cs2 F2;clear hb)
  | ((with_reducible refine gate_store (t:=34) (p:=4) rfl ?_);obtain ⟨y0,y1,z0,z1⟩:=cz2 F4;refine sxq 34 34 4 0 [.string (⟨#[]⟩ : ByteArray),.string (⟨#[]⟩ : ByteArray)] [.string (⟨#[]⟩ : ByteArray),.string (⟨#[]⟩ : ByteArray)] B F4 L4 fun w6 hk B G=>?_;replace F2:=bk F2 hk N2_4.out;replace F5:=bk F5 hk N4_5.out.symm;replace F4:=G;clear c2_0 c2_1;obtain ⟨c2_0,c2_1⟩:=cs2 F2;clear hk y0 z0 y1 z1)
  | ((with_reducible refine gate_store (t:=34) (p:=5) rfl ?_);obtain ⟨y0,y1,z0,z1⟩:=cz2 F5;refine sxq 34 34 5 0 [.string (⟨#[]⟩ : ByteArray),.string (⟨#[]⟩ : ByteArray)] [.string (⟨#[]⟩ : ByteArray),.string (⟨#[]⟩ : ByteArray)] B F5 L5 fun w7 hk B G=>?_;replace F2:=bk F2 hk N2_5.out;replace F4:=bk F4 hk N4_5.out;replace F5:=G;clear c2_0 c2_1;obtain ⟨c2_0,c2_1⟩:=cs2 F2;clear hk y0 z0 y1 z1)
  | ((with_reducible refine gate_dst (N:=7) rfl ?_);refine bxq 7 #[.string (⟨#[]⟩ : ByteArray),.string (⟨#[]⟩ : ByteArray)] 34 B fun g7 w8 hb B F7 L7 E7=>?_;have N2_7:=ne1 E7 F2;have N4_7:=ne1 E7 F4;have N5_7:=ne1 E7 F5;replace F2:=bn F2 hb;replace F4:=bn F4 hb;replace F5:=bn F5 hb;clear c2_0 c2_1;obtain ⟨c2_0,c2_1⟩:=cs2 F2;obtain ⟨c7_0,c7_1⟩:=cs2 F7;clear hb E7)
  | ((with_reducible refine gate_store (t:=34) (p:=7) rfl ?_);obtain ⟨y0,y1,z0,z1⟩:=cz2 F7;refine sxq 34 34 7 0 [.string a,.string c] [.string a,.string c] B F7 L7 fun w9 hk B G=>?_;replace F2:=bk F2 hk N2_7.out;replace F4:=bk F4 hk N4_7.out;replace F5:=bk F5 hk N5_7.out;replace F7:=G;clear c2_0 c2_1;obtain ⟨c2_0,c2_1⟩:=cs2 F2;clear c7_0 c7_1;obtain ⟨c7_0,c7_1⟩:=cs2 F7;clear hk y0 z0 y1 z1)
  | ((with_reducible refine gate_dst (N:=8) rfl ?_);refine bxq 8 #[.string (⟨#[]⟩ : ByteArray),.string (⟨#[]⟩ : ByteArray)] 34 B fun g8 w10 hb B F8 L8 E8=>?_;have N4_8:=ne1 E8 F4;have N5_8:=ne1 E8 F5;have N7_8:=ne1 E8 F7;replace F4:=bn F4 hb;replace F5:=bn F5 hb;replace F7:=bn F7 hb;clear c7_0 c7_1;obtain ⟨c7_0,c7_1⟩:=cs2 F7;obtain ⟨c8_0,c8_1⟩:=cs2 F8;clear hb E8)
  | ((with_reducible refine gate_store (t:=34) (p:=8) rfl ?_);obtain ⟨y0,y1,z0,z1⟩:=cz2 F8;refine sxq 34 34 8 0 [.string c,.string b] [.string c,.string b] B F8 L8 fun w11 hk B G=>?_;replace F4:=bk F4 hk N4_8.out;replace F5:=bk F5 hk N5_8.out;replace F7:=bk F7 hk N7_8.out;replace F8:=G;clear c7_0 c7_1;obtain ⟨c7_0,c7_1⟩:=cs2 F7;clear c8_0 c8_1;obtain ⟨c8_0,c8_1⟩:=cs2 F8;clear hk y0 z0 y1 z1)
  | (go_at_call 66;with_reducible refine cl (impl_IntervalValid.M a c _) B fun w12 hb B=>?_;replace F4:=bn F4 hb;replace F5:=bn F5 hb;replace F7:=bn F7 hb;replace F8:=bn F8 hb;clear c7_0 c7_1;obtain ⟨c7_0,c7_1⟩:=cs2 F7;clear c8_0 c8_1;obtain ⟨c8_0,c8_1⟩:=cs2 F8;clear hb)
  | (go_at_call 66;with_reducible refine cl (impl_IntervalValid.M c b _) B fun w13 hb B=>?_;replace F4:=bn F4 hb;replace F5:=bn F5 hb;replace F7:=bn F7 hb;replace F8:=bn F8 hb;clear c7_0 c7_1;obtain ⟨c7_0,c7_1⟩:=cs2 F7;clear c8_0 c8_1;obtain ⟨c8_0,c8_1⟩:=cs2 F8;clear hb)
  | ((with_reducible refine gate_store (t:=34) (p:=4) rfl ?_);obtain ⟨y0,y1,z0,z1⟩:=cz2 F4;refine sxq 34 34 4 0 [.string (⟨#[]⟩ : ByteArray),.string (⟨#[]⟩ : ByteArray)] [.string (⟨#[]⟩ : ByteArray),.string (⟨#[]⟩ : ByteArray)] B F4 L4 fun w14 hk B G=>?_;replace F5:=bk F5 hk N4_5.out.symm;replace F7:=bk F7 hk N4_7.out.symm;replace F8:=bk F8 hk N4_8.out.symm;replace F4:=G;clear c7_0 c7_1;obtain ⟨c7_0,c7_1⟩:=cs2 F7;clear c8_0 c8_1;obtain ⟨c8_0,c8_1⟩:=cs2 F8;clear hk y0 z0 y1 z1)
  | ((with_reducible refine gate_store (t:=34) (p:=5) rfl ?_);obtain ⟨y0,y1,z0,z1⟩:=cz2 F5;refine sxq 34 34 5 0 [.string (⟨#[]⟩ : ByteArray),.string (⟨#[]⟩ : ByteArray)] [.string (⟨#[]⟩ : ByteArray),.string (⟨#[]⟩ : ByteArray)] B F5 L5 fun w15 hk B G=>?_;replace F4:=bk F4 hk N4_5.out;replace F7:=bk F7 hk N5_7.out.symm;replace F8:=bk F8 hk N5_8.out.symm;replace F5:=G;clear c7_0 c7_1;obtain ⟨c7_0,c7_1⟩:=cs2 F7;clear c8_0 c8_1;obtain ⟨c8_0,c8_1⟩:=cs2 F8;clear hk y0 z0 y1 z1))
 all_goals try (refine bodyPost_ret (results_list (rs:=[.cell 4 34,.cell 5 34,.tmp 6]) rfl (by simp) (.cell g4 34 _ (0,0) _ rfl F4.out hu rfl (by kernel_rfl) (.cell g5 34 _ (0,0) _ rfl F5.out hu rfl (by kernel_rfl) (.tmp .nil)))) rfl ?_;refine ⟨?_,B.out⟩;unfold cutV cutB;simp_all;done)
 all_goals (
  refine rg (n:=5) (S:=fun W=>W.heap[g7]?=some (.cells #[.string a,.string c] 34 (0,0))∧W.heap[g8]?=some (.cells #[.string c,.string b] 34 (0,0))) (ds:=[]) #[false,false,false,false,false] (by kernel_rfl) rfl rfl ⟨F7.out,F8.out⟩ id B (fun w16 hb B hHeld=>?_)
  refine with_tabW impl_IntervalCut.tab7 impl_IntervalCut.bits7 (fun HT_ HW_=>?_)
  replace F4:=bn F4 hb
  replace F5:=bn F5 hb
  replace F7:=bn F7 hb
  replace F8:=bn F8 hb
  clear hb
  refine tvq 0 (some 37) (bits 5 1) HT_ HW_ rfl hHeld (by intro w' hS;obtain ⟨s0,s1⟩:=hS;obtain ⟨q0,q1⟩:=cs2 (Aside0.mk s0);go_simp;with_reducible rfl) ?_
  refine tvq 1 (some 38) (bits 5 3) HT_ HW_ rfl hHeld (by intro w' hS;obtain ⟨s0,s1⟩:=hS;obtain ⟨q0,q1⟩:=cs2 (Aside0.mk s1);go_simp;with_reducible rfl) ?_
  refine nmq ?_
  refine one_ (i:=2) (N:=none) (bits 5 7) rfl rfl (one_of HT_.out (by kernel_rfl)) (by decide) (fun K hK=>?_)
  obtain ⟨y0,y1,z0,z1⟩:=cz2 F4
  refine sxs (g:=g4) 0 [.string a,.string c] [.string a,.string c] (by rfl) rfl ?hr B F4 L4 rfl (Nat.le_of_ble_eq_true rfl) (fun w17 hk B G=>?_)
  (case hr=>go_simp;first | done | rfl)
  replace F5:=bk F5 hk N4_5.out.symm
  replace F7:=bk F7 hk N4_7.out.symm
  replace F8:=bk F8 hk N4_8.out.symm
  replace F4:=G
  clear hk y0 z0 y1 z1
  refine hK.out _ _ ⟨F7.out,F8.out⟩ (fun hHeld=>?_)
  clear hK K
  refine one_ (i:=3) (N:=none) (bits 5 15) rfl rfl (one_of HT_.out (by kernel_rfl)) (by decide) (fun K hK=>?_)
  obtain ⟨y0,y1,z0,z1⟩:=cz2 F5
  refine sxs (g:=g5) 0 [.string c,.string b] [.string c,.string b] (by rfl) rfl ?hr B F5 L5 rfl (Nat.le_of_ble_eq_true rfl) (fun w18 hk B G=>?_)
  (case hr=>go_simp;first | done | rfl)
  replace F4:=bk F4 hk N4_5.out
  replace F7:=bk F7 hk N5_7.out.symm
  replace F8:=bk F8 hk N5_8.out.symm
  replace F5:=G
  clear hk y0 z0 y1 z1
  refine hK.out _ _ ⟨F7.out,F8.out⟩ (fun hHeld=>?_)
  clear hK K
  refine pvq 4 (some 6) (bits 5 31) HT_ ?_
  refine nmq ?_
  refine done_ (done_of HT_.out (by kernel_rfl)) ?_)
 all_goals try go_wp2
 all_goals try (refine bodyPost_ret (results_list (rs:=[.cell 4 34,.cell 5 34,.tmp 6]) rfl (by simp) (.cell g4 34 _ (0,0) _ rfl F4.out hu rfl (by kernel_rfl) (.cell g5 34 _ (0,0) _ rfl F5.out hu rfl (by kernel_rfl) (.tmp .nil)))) rfl ?_;refine ⟨?_,B.out⟩;unfold cutV cutB;simp_all;done)

theorem impl_StateValid.M (a b : ByteArray) (AP : Option Addr) (cP : Nat) (ps : List S105) (AS : Option Addr) (cS : Nat) (ss : List S76) (t : Bool) (c : ByteArray) (w : World) (hrp : Kd.C k105 w AP ps.length ps) (hrs : Kd.C k76 w AS ss.length ss) : Calls Try.prog 18 #[.agg #[.string a,.string b,.slice AP ps.length cP,.slice AS ss.length cS,.bool t,.string c]] w fun e w'=>e=.returned (.bool (stB a b ps ss t c))∧Below w.heap.size w w':=by
 have B:=Aside0.mk (Below.refl w.heap.size w)
 have hu:=Try.underlying38
 have hu2:=Try.underlying34
 have HRP:=Aside0.mk hrp
 have HRS:=Aside0.mk hrs
 clear hrp hrs
 go_enter Try.func18,Try.ntmps18
 go_wp2_with (first
  | ((with_reducible refine gate_dst (N:=1) rfl ?_);refine bxq 1 #[.string a,.string b,.slice AP ps.length cP,.slice AS ss.length cS,.bool t,.string c] 38 B fun g1 w1 hb B F1 L1 E1=>?_;obtain ⟨c1_0,c1_1,c1_2,c1_3,c1_4,c1_5⟩:=cs6 F1;clear hb E1)
  | (go_at_call 66;with_reducible refine cl (impl_IntervalValid.M a b _) B fun w2 hb B=>?_;replace F1:=bn F1 hb;clear c1_0 c1_1 c1_2 c1_3 c1_4 c1_5;obtain ⟨c1_0,c1_1,c1_2,c1_3,c1_4,c1_5⟩:=cs6 F1;clear hb)
  | (go_at_call 67;with_reducible refine cl (impl_PairsValid.M _ _ ps _ (cb HRP B)) B fun w3 hb B=>?_;replace F1:=bn F1 hb;clear c1_0 c1_1 c1_2 c1_3 c1_4 c1_5;obtain ⟨c1_0,c1_1,c1_2,c1_3,c1_4,c1_5⟩:=cs6 F1;clear hb)
  | (go_at_call 68;with_reducible refine cl (impl_SessionsValid.M _ _ ss _ (cb HRS B)) B fun w4 hb B=>?_;replace F1:=bn F1 hb;clear c1_0 c1_1 c1_2 c1_3 c1_4 c1_5;obtain ⟨c1_0,c1_1,c1_2,c1_3,c1_4,c1_5⟩:=cs6 F1;clear hb))
 all_goals try (go_ret;exact ⟨congrArg (fun b=>Ending.returned (Value.bool b)) (by grind [stB]),B.out⟩)
 have hv : ivB a b=true∧prB ps=true∧sesB ss=true:=by grind
 have hst : stB a b ps ss t c=((ps.all fun p=>insB a b p.f0) && tailB a b t c):=by
  unfold stB
  rw [hv.1,hv.2.1,hv.2.2]
  rfl
 (try simp only [hv.1,hv.2.1,hv.2.2,Bool.not_true])
 obtain ⟨q,hq⟩ : ∃ q,(ps.all fun p=>insB a b p.f0)=q:=⟨_,rfl⟩
 rw [hq] at hst
 have H:=Aside0.mk (show ((ps.drop 0).all fun p=>insB a b p.f0)=q from hq)
 have L48:=Aside0.mk (prB_len hv.2.1)
 clear hq hv c1_0 c1_1 c1_2 c1_3 c1_4 c1_5
 have HST:=Aside0.mk hst
 clear hst
 go_loopg [27] (ps.length + 1) (fun kx v27 wr=>∃ j : Nat,v27=.int .i64 (j : Int)∧j≤ps.length∧ps.length < j + kx∧Aside0 (Below w.heap.size w wr)∧Aside0 (wr.heap[g1]?=some (.cells #[.string a,.string b,.slice AP ps.length cP,.slice AS ss.length cS,.bool t,.string c] 38 (0,0)))∧Aside0 (((ps.drop j).all fun p=>insB a b p.f0)=q))
 case atStart=>exact ⟨0,rfl,by omega,by omega,B,F1,H⟩
 case round =>
  clear H B F1
  obtain ⟨j,rfl,hj,hk,B,F1,H⟩:=hrel
  have hst:=HST.out
  obtain ⟨c1_0,c1_1,c1_2,c1_3,c1_4,c1_5⟩:=cs6 F1
  by_cases hlt : j < ps.length
  ·have HS:=H.out
   rw [pr_drop hlt,List.all_cons] at HS
   clear H
   obtain ⟨d,rfl⟩ : ∃ d,gk=d + 1:=⟨gk - 1,by omega⟩
   have h48:=L48.out
   have cj : decide ((j : Int) < (ps.length : Int))=true:=decide_eq_true (by omega)
   obtain ⟨ad,hA,y0,y1⟩:=at_T105 (cb HRP B) (j : Int) (by omega) (by omega)
   cases hA
   rw [Int.toNat_natCast] at y0 y1
   have j1:=eq_true (show (j : Int) < (ps.length : Int) by omega)
   have j2:=eq_true hlt
   generalize hy : rd_T105 ps (j : Int)=y at *
   go_wp2_with (first
    | ((with_reducible refine gate_dst (N:=4) rfl ?_);refine bxq 4 #[.string (⟨#[]⟩ : ByteArray),.int .i64 (0)] 105 B fun g4 w5 hb B F4 L4 E4=>?_;have N1_4:=ne1 E4 F1;replace F1:=bn F1 hb;clear c1_0 c1_1 c1_2 c1_3 c1_4 c1_5;obtain ⟨c1_0,c1_1,c1_2,c1_3,c1_4,c1_5⟩:=cs6 F1;obtain ⟨c4_0,c4_1⟩:=cs2 F4;clear hb E4)
    | ((with_reducible refine gate_store (t:=105) (p:=4) rfl ?_);obtain ⟨y0,y1,z0,z1⟩:=cz2 F4;refine sxq 105 105 4 0 [.string y.f0,.int .i64 (y.f1)] [.string y.f0,.int .i64 (y.f1)] B F4 L4 fun w6 hk B G=>?_;replace F1:=bk F1 hk N1_4.out;replace F4:=G;clear c1_0 c1_1 c1_2 c1_3 c1_4 c1_5;obtain ⟨c1_0,c1_1,c1_2,c1_3,c1_4,c1_5⟩:=cs6 F1;clear c4_0 c4_1;obtain ⟨c4_0,c4_1⟩:=cs2 F4;clear hk y0 z0 y1 z1)
    | (go_at_call 69;with_reducible refine cl (impl_inside.M a b y.f0 _) B fun w7 hb B=>?_;replace F1:=bn F1 hb;clear hb))
   all_goals first
    | (go_roundg d;(case measure=>omega);(case rel=>exact ⟨j + 1,congrArg (Value.int .i64) (Int.natCast_succ _).symm,by omega,by omega,B,F1,⟨andT HS (by grind)⟩⟩))
    | (go_ret;exact ⟨congrArg (fun b=>Ending.returned (Value.bool b)) (by grind),B.out⟩)
  ·have cj : decide ((j : Int) < (ps.length : Int))=false:=decide_eq_false (by omega)
   have hr : q=true:=by rw [← H.out,List.drop_of_length_le (by omega)];rfl
   clear H
   go_wp2_with (first
    | (go_at_call 70;with_reducible refine cl (impl_IntervalCut.M a b c _) B fun w1 hb B=>?_;replace F1:=bn F1 hb;clear c1_0 c1_1 c1_2 c1_3 c1_4 c1_5;obtain ⟨c1_0,c1_1,c1_2,c1_3,c1_4,c1_5⟩:=cs6 F1;clear hb)
    | ((with_reducible refine gate_dst (N:=5) rfl ?_);refine bxq 5 #[.string (⟨#[]⟩ : ByteArray),.string (⟨#[]⟩ : ByteArray)] 34 B fun g5 w2 hb B F5 L5 E5=>?_;have N1_5:=ne1 E5 F1;replace F1:=bn F1 hb;clear c1_0 c1_1 c1_2 c1_3 c1_4 c1_5;obtain ⟨c1_0,c1_1,c1_2,c1_3,c1_4,c1_5⟩:=cs6 F1;clear hb E5)
    | ((with_reducible refine gate_dst (N:=6) rfl ?_);refine bxq 6 #[.string (⟨#[]⟩ : ByteArray),.string (⟨#[]⟩ : ByteArray)] 34 B fun g6 w3 hb B F6 L6 E6=>?_;have N1_6:=ne1 E6 F1;have N5_6:=ne1 E6 F5;replace F1:=bn F1 hb;replace F5:=bn F5 hb;clear c1_0 c1_1 c1_2 c1_3 c1_4 c1_5;obtain ⟨c1_0,c1_1,c1_2,c1_3,c1_4,c1_5⟩:=cs6 F1;clear hb E6)
    | ((with_reducible refine gate_store (t:=34) (p:=5) rfl ?_);obtain ⟨y0,y1,z0,z1⟩:=cz2 F5;refine sxq 34 34 5 0 [.string (cutV a b c).1,.string (cutV a b c).2.1] [.string (cutV a b c).1,.string (cutV a b c).2.1] B F5 L5 fun w4 hk B G=>?_;replace F1:=bk F1 hk N1_5.out;replace F6:=bk F6 hk N5_6.out.symm;replace F5:=G;clear c1_0 c1_1 c1_2 c1_3 c1_4 c1_5;obtain ⟨c1_0,c1_1,c1_2,c1_3,c1_4,c1_5⟩:=cs6 F1;clear hk y0 z0 y1 z1)
    | ((with_reducible refine gate_store (t:=34) (p:=6) rfl ?_);obtain ⟨y0,y1,z0,z1⟩:=cz2 F6;refine sxq 34 34 6 0 [.string (cutV a b c).2.2.1,.string (cutV a b c).2.2.2.1] [.string (cutV a b c).2.2.1,.string (cutV a b c).2.2.2.1] B F6 L6 fun w5 hk B G=>?_;replace F1:=bk F1 hk N1_6.out;replace F6:=G;clear c1_0 c1_1 c1_2 c1_3 c1_4 c1_5;obtain ⟨c1_0,c1_1,c1_2,c1_3,c1_4,c1_5⟩:=cs6 F1;clear hk y0 z0 y1 z1))
   all_goals go_ret
   all_goals
    refine ⟨congrArg (fun b=>Ending.returned (Value.bool b)) ?_,B.out⟩
    rw [hst,hr,Bool.true_and]
    unfold tailB
    grind [cutV_ok]

theorem impl_stateTakes.M (a b : ByteArray) (AP : Option Addr) (cP : Nat) (ps : List S105) (AS : Option Addr) (cS : Nat) (ss : List S76) (t : Bool) (c : ByteArray) (k : Int) (x : ByteArray) (v o : Int) (w : World) (hrp : Kd.C k105 w AP ps.length ps) (hrs : Kd.C k76 w AS ss.length ss) : Calls Try.prog 51 #[.agg #[.string a,.string b,.slice AP ps.length cP,.slice AS ss.length cS,.bool t,.string c],.agg #[.int .i64 k,.string x,.int .i64 v,.int .i64 o]] w fun e w'=>e=.returned (.bool (takesB a b k x))∧Below w.heap.size w w':=by
 have B:=Aside0.mk (Below.refl w.heap.size w)
 have hu:=Try.underlying38
 have hu2:=Try.underlying42
 clear hrp hrs
 go_enter Try.func51,Try.ntmps51
 go_wp2_with (first
  | ((with_reducible refine gate_dst (N:=2) rfl ?_);refine bxq 2 #[.string a,.string b,.slice AP ps.length cP,.slice AS ss.length cS,.bool t,.string c] 38 B fun g2 w1 hb B F2 L2 E2=>?_;obtain ⟨c2_0,c2_1,c2_2,c2_3,c2_4,c2_5⟩:=cs6 F2;clear hb E2)
  | ((with_reducible refine gate_dst (N:=3) rfl ?_);refine bxq 3 #[.int .i64 (k),.string x,.int .i64 (v),.int .i64 (o)] 42 B fun g3 w2 hb B F3 L3 E3=>?_;replace F2:=bn F2 hb;clear c2_0 c2_1 c2_2 c2_3 c2_4 c2_5;obtain ⟨c2_0,c2_1,c2_2,c2_3,c2_4,c2_5⟩:=cs6 F2;obtain ⟨c3_0,c3_1,c3_2,c3_3⟩:=cs4 F3;clear hb E3)
  | (go_at_call 69;with_reducible refine cl (impl_inside.M a b x _) B fun w51 hb B=>?_;clear hb)
  | (go_at_call 70;with_reducible refine cl (impl_IntervalCut.M a b x _) B fun w101 hb B=>?_;clear hb)
  | ((with_reducible refine gate_dst (N:=5) rfl ?_);refine bxq 5 #[.string (⟨#[]⟩ : ByteArray),.string (⟨#[]⟩ : ByteArray)] 34 B fun g5 w102 hb B F5 L5 E5=>?_;clear hb E5)
  | ((with_reducible refine gate_dst (N:=6) rfl ?_);refine bxq 6 #[.string (⟨#[]⟩ : ByteArray),.string (⟨#[]⟩ : ByteArray)] 34 B fun g6 w103 hb B F6 L6 E6=>?_;have N5_6:=ne1 E6 F5;replace F5:=bn F5 hb;clear hb E6)
  | ((with_reducible refine gate_store (t:=34) (p:=5) rfl ?_);obtain ⟨y0,y1,z0,z1⟩:=cz2 F5;refine sxq 34 34 5 0 [.string (cutV a b x).1,.string (cutV a b x).2.1] [.string (cutV a b x).1,.string (cutV a b x).2.1] B F5 L5 fun w104 hk B G=>?_;replace F6:=bk F6 hk N5_6.out.symm;replace F5:=G;clear hk y0 z0 y1 z1)
  | ((with_reducible refine gate_store (t:=34) (p:=6) rfl ?_);obtain ⟨y0,y1,z0,z1⟩:=cz2 F6;refine sxq 34 34 6 0 [.string (cutV a b x).2.2.1,.string (cutV a b x).2.2.2.1] [.string (cutV a b x).2.2.1,.string (cutV a b x).2.2.2.1] B F6 L6 fun w105 hk B G=>?_;replace F6:=G;clear hk y0 z0 y1 z1))
 all_goals go_ret
 all_goals (refine ⟨congrArg (fun b=>Ending.returned (Value.bool b)) ?_,B.out⟩;unfold takesB;by_cases h5 : k=5 <;> by_cases hx : x.toList=([] : List UInt8) <;> simp_all [cutV_ok])

theorem impl_sessionPlace.Mb (A0 : Option Addr) (c0 : Nat) (l : List S76) (c : Int) (w : World) (hr0 : Kd.C k76 w A0 l.length l) (hc0 : l.length≤c0) (hv : sesB l=true) (bb : Bool) (hh : hitOf l c=bb) : Calls Try.prog 50 #[.slice A0 l.length c0,.int .i64 c] w fun e w'=>e=.returned (.tuple #[.int .i64 ((plOf l c : Nat) : Int),.bool bb])∧Below w.heap.size w w':=by
 subst hh
 exact impl_sessionPlace.M A0 c0 l c w hr0 hc0 hv
def impl_ApplyEntry.T5 : Bool × List (List Nat × List Nat):=(true,[([],[]),([0],[0]),([1],[1]),([2,1],[1,2]),([1],[1]),([4,1],[1,4]),([1],[1]),([5,6,1],[1,5,6]),([7,1],[1,7]),([8,1],[1,8]),([3,9,1],[1,3,9]),([1,10],[1,10])])
def impl_ApplyEntry.B5 : List Nat:=[0,1,3,7,3,19,3,115,243,499,1023,2047]
theorem impl_ApplyEntry.tab5 : rtab .any (opsOf Try.f12 5)=impl_ApplyEntry.T5:=by kernel_rfl
theorem impl_ApplyEntry.bits5 : waitsOk impl_ApplyEntry.T5.2 impl_ApplyEntry.B5=true:=by kernel_rfl
def impl_ApplyEntry.T6 : Bool × List (List Nat × List Nat):=(true,[([],[]),([0],[0]),([],[]),([2],[2]),([],[]),([3,4],[3,4]),([5],[5]),([6],[6]),([1,7],[1,7])])
def impl_ApplyEntry.B6 : List Nat:=[0,1,0,4,0,28,60,124,255]
theorem impl_ApplyEntry.tab6 : rtab .any (opsOf Try.f12 6)=impl_ApplyEntry.T6:=by kernel_rfl
theorem impl_ApplyEntry.bits6 : waitsOk impl_ApplyEntry.T6.2 impl_ApplyEntry.B6=true:=by kernel_rfl
def impl_ApplyEntry.T7 : Bool × List (List Nat × List Nat):=(true,[([],[]),([],[]),([1],[1]),([],[]),([2,3],[2,3]),([4],[4]),([5],[5]),([0,0],[0]),([6,7,0,1,2,3,4,5,6,7],[6])])
def impl_ApplyEntry.B7 : List Nat:=[0,0,2,0,14,30,62,1,255]
theorem impl_ApplyEntry.tab7 : rtab .any (opsOf Try.f12 7)=impl_ApplyEntry.T7:=by kernel_rfl
theorem impl_ApplyEntry.bits7 : waitsOk impl_ApplyEntry.T7.2 impl_ApplyEntry.B7=true:=by kernel_rfl
theorem impl_ApplyEntry.M (a b : ByteArray) (AP : Option Addr) (cP : Nat) (ps : List S105) (AS : Option Addr) (cS : Nat) (ss : List S76) (t : Bool) (c : ByteArray) (ci sq k : Int) (x : ByteArray) (v o : Int) (w : World) (hrp : Kd.C k105 w AP ps.length ps) (hrs : Kd.C k76 w AS ss.length ss) (hcp : ps.length≤cP) (hcs : ss.length≤cS) : Calls Try.prog 12 #[.agg #[.string a,.string b,.slice AP ps.length cP,.slice AS ss.length cS,.bool t,.string c],.agg #[.int .i64 ci,.int .i64 sq,.int .i64 k,.string x,.int .i64 v,.int .i64 o]] w fun e w'=>∃ v2 v3,e=.returned (.tuple #[.agg #[.string (aeM ⟨a,b,ps,ss,t,c⟩ ci sq k x v o).1.a,.string (aeM ⟨a,b,ps,ss,t,c⟩ ci sq k x v o).1.b,v2,v3,.bool (aeM ⟨a,b,ps,ss,t,c⟩ ci sq k x v o).1.t,.string (aeM ⟨a,b,ps,ss,t,c⟩ ci sq k x v o).1.c],.int .i64 (aeM ⟨a,b,ps,ss,t,c⟩ ci sq k x v o).2])∧Kd.R k105 105 w' w.heap.size (fun _=>True) v2 (aeM ⟨a,b,ps,ss,t,c⟩ ci sq k x v o).1.ps∧Kd.R k76 76 w' w.heap.size (fun _=>True) v3 (aeM ⟨a,b,ps,ss,t,c⟩ ci sq k x v o).1.ss∧Below w.heap.size w w':=by
 have B:=Aside0.mk (Below.refl w.heap.size w)
 have hu:=Try.underlying38
 have hu2:=Try.underlying34
 have HRP:=Aside0.mk hrp
 have HRS:=Aside0.mk hrs
 have HCP:=Aside0.mk hcp
 have HCS:=Aside0.mk hcs
 clear hrp hrs hcp hcs
 have hu3:=Try.underlying44
 have hu4:=Try.underlying42
 have hu5:=Try.underlying76
 cases hs : stB a b ps ss t c with
 | false =>
  rw [aeM_bad (s:=⟨a,b,ps,ss,t,c⟩) (by unfold SM.ok;rw [hs];simp)]
  go_enter Try.func12,Try.ntmps12
  go_wp2_with (first
   | ((with_reducible refine gate_dst (N:=2) rfl ?_);refine bxq 2 #[.string a,.string b,.slice AP ps.length cP,.slice AS ss.length cS,.bool t,.string c] 38 B fun g2 w1 hb B F2 L2 E2=>?_;obtain ⟨c2_0,c2_1,c2_2,c2_3,c2_4,c2_5⟩:=cs6 F2;clear hb E2)
   | ((with_reducible refine gate_dst (N:=3) rfl ?_);refine bxq 3 #[.int .i64 (ci),.int .i64 (sq),.int .i64 (k),.string x,.int .i64 (v),.int .i64 (o)] 44 B fun g3 w2 hb B F3 L3 E3=>?_;replace F2:=bn F2 hb;clear c2_0 c2_1 c2_2 c2_3 c2_4 c2_5;obtain ⟨c2_0,c2_1,c2_2,c2_3,c2_4,c2_5⟩:=cs6 F2;obtain ⟨c3_0,c3_1,c3_2,c3_3,c3_4,c3_5⟩:=cs6 F3;clear hb E3)
   | ((with_reducible refine gate_dst (N:=4) rfl ?_);refine bxq 4 #[.string (⟨#[]⟩ : ByteArray),.string (⟨#[]⟩ : ByteArray),.slice none 0 0,.slice none 0 0,.bool false,.string (⟨#[]⟩ : ByteArray)] 38 B fun g4 w3 hb B F4 L4 E4=>?_;have N2_4:=ne1 E4 F2;have N3_4:=ne1 E4 F3;replace F2:=bn F2 hb;replace F3:=bn F3 hb;clear c2_0 c2_1 c2_2 c2_3 c2_4 c2_5;obtain ⟨c2_0,c2_1,c2_2,c2_3,c2_4,c2_5⟩:=cs6 F2;clear c3_0 c3_1 c3_2 c3_3 c3_4 c3_5;obtain ⟨c3_0,c3_1,c3_2,c3_3,c3_4,c3_5⟩:=cs6 F3;clear hb E4)
   | (go_at_call 18;with_reducible refine cl (impl_StateValid.M a b _ _ ps _ _ ss t c _ (cb HRP B) (cb HRS B)) B fun w4 hb B=>?_;replace F2:=bn F2 hb;replace F3:=bn F3 hb;replace F4:=bn F4 hb;clear c3_0 c3_1 c3_2 c3_3 c3_4 c3_5;obtain ⟨c3_0,c3_1,c3_2,c3_3,c3_4,c3_5⟩:=cs6 F3;clear hb)
   | (go_at_call 19;with_reducible refine cl (impl_EntryValid.M ci sq k x v o _) B fun w5 hb B=>?_;replace F2:=bn F2 hb;replace F3:=bn F3 hb;replace F4:=bn F4 hb;clear hb)
   | ((with_reducible refine gate_store (t:=38) (p:=4) rfl ?_);obtain ⟨y0,y1,y2,y3,y4,y5,z0,z1,z2,z3,z4,z5⟩:=cz6 F4;refine sxq 38 38 4 0 [.string (⟨#[]⟩ : ByteArray),.string (⟨#[]⟩ : ByteArray),.slice none 0 0,.slice none 0 0,.bool false,.string (⟨#[]⟩ : ByteArray)] [.string (⟨#[]⟩ : ByteArray),.string (⟨#[]⟩ : ByteArray),.slice none 0 0,.slice none 0 0,.bool false,.string (⟨#[]⟩ : ByteArray)] B F4 L4 fun w6 hk B G=>?_;replace F2:=bk F2 hk N2_4.out;replace F3:=bk F3 hk N3_4.out;replace F4:=G;clear hk y0 z0 y1 z1 y2 z2 y3 z3 y4 z4 y5 z5))
  all_goals (try (refine bodyPost_ret (results_list (rs:=[.cell 4 38,.tmp 5]) rfl (by simp) (.cell g4 38 _ (0,0) _ rfl F4.out hu rfl (by kernel_rfl) (.tmp .nil))) rfl ?_);exact ⟨_,_,rfl,Kd.R_nil _ _ _ _ _,Kd.R_nil _ _ _ _ _,B.out⟩)
 | true =>
  cases he : entB ci sq k x v o with
  | false =>
   rw [aeM_bad (s:=⟨a,b,ps,ss,t,c⟩) (by rw [he];simp)]
   go_enter Try.func12,Try.ntmps12
   go_wp2_with (first
    | ((with_reducible refine gate_dst (N:=2) rfl ?_);refine bxq 2 #[.string a,.string b,.slice AP ps.length cP,.slice AS ss.length cS,.bool t,.string c] 38 B fun g2 w101 hb B F2 L2 E2=>?_;obtain ⟨c2_0,c2_1,c2_2,c2_3,c2_4,c2_5⟩:=cs6 F2;clear hb E2)
    | ((with_reducible refine gate_dst (N:=3) rfl ?_);refine bxq 3 #[.int .i64 (ci),.int .i64 (sq),.int .i64 (k),.string x,.int .i64 (v),.int .i64 (o)] 44 B fun g3 w102 hb B F3 L3 E3=>?_;replace F2:=bn F2 hb;clear c2_0 c2_1 c2_2 c2_3 c2_4 c2_5;obtain ⟨c2_0,c2_1,c2_2,c2_3,c2_4,c2_5⟩:=cs6 F2;obtain ⟨c3_0,c3_1,c3_2,c3_3,c3_4,c3_5⟩:=cs6 F3;clear hb E3)
    | ((with_reducible refine gate_dst (N:=4) rfl ?_);refine bxq 4 #[.string (⟨#[]⟩ : ByteArray),.string (⟨#[]⟩ : ByteArray),.slice none 0 0,.slice none 0 0,.bool false,.string (⟨#[]⟩ : ByteArray)] 38 B fun g4 w103 hb B F4 L4 E4=>?_;have N2_4:=ne1 E4 F2;have N3_4:=ne1 E4 F3;replace F2:=bn F2 hb;replace F3:=bn F3 hb;clear c2_0 c2_1 c2_2 c2_3 c2_4 c2_5;obtain ⟨c2_0,c2_1,c2_2,c2_3,c2_4,c2_5⟩:=cs6 F2;clear c3_0 c3_1 c3_2 c3_3 c3_4 c3_5;obtain ⟨c3_0,c3_1,c3_2,c3_3,c3_4,c3_5⟩:=cs6 F3;clear hb E4)
    | (go_at_call 18;with_reducible refine cl (impl_StateValid.M a b _ _ ps _ _ ss t c _ (cb HRP B) (cb HRS B)) B fun w104 hb B=>?_;replace F2:=bn F2 hb;replace F3:=bn F3 hb;replace F4:=bn F4 hb;clear c3_0 c3_1 c3_2 c3_3 c3_4 c3_5;obtain ⟨c3_0,c3_1,c3_2,c3_3,c3_4,c3_5⟩:=cs6 F3;clear hb)
    | (go_at_call 19;with_reducible refine cl (impl_EntryValid.M ci sq k x v o _) B fun w105 hb B=>?_;replace F2:=bn F2 hb;replace F3:=bn F3 hb;replace F4:=bn F4 hb;clear hb)
    | ((with_reducible refine gate_store (t:=38) (p:=4) rfl ?_);obtain ⟨y0,y1,y2,y3,y4,y5,z0,z1,z2,z3,z4,z5⟩:=cz6 F4;refine sxq 38 38 4 0 [.string (⟨#[]⟩ : ByteArray),.string (⟨#[]⟩ : ByteArray),.slice none 0 0,.slice none 0 0,.bool false,.string (⟨#[]⟩ : ByteArray)] [.string (⟨#[]⟩ : ByteArray),.string (⟨#[]⟩ : ByteArray),.slice none 0 0,.slice none 0 0,.bool false,.string (⟨#[]⟩ : ByteArray)] B F4 L4 fun w106 hk B G=>?_;replace F2:=bk F2 hk N2_4.out;replace F3:=bk F3 hk N3_4.out;replace F4:=G;clear hk y0 z0 y1 z1 y2 z2 y3 z3 y4 z4 y5 z5))
   all_goals (try (refine bodyPost_ret (results_list (rs:=[.cell 4 38,.tmp 5]) rfl (by simp) (.cell g4 38 _ (0,0) _ rfl F4.out hu rfl (by kernel_rfl) (.tmp .nil))) rfl ?_);exact ⟨_,_,rfl,Kd.R_nil _ _ _ _ _,Kd.R_nil _ _ _ _ _,B.out⟩)
  | true =>
   obtain ⟨hiv,hp,hv,hin,htl⟩:=stB_parts.mp hs
   have hpl : ps.length≤1000000:=by have:=prB_len hp;omega
   have hsl : ss.length≤1000000:=by have:=sesB_len hv;omega
   obtain ⟨hcl,hsq,hcm⟩:=entB_parts he
   have hh : ((SM.mk a b ps ss t c).ok && entB ci sq k x v o)=true:=by unfold SM.ok;rw [hs,he];rfl
   clear hin htl hp hiv
   obtain ⟨r,hr⟩ : ∃ r,aeM ⟨a,b,ps,ss,t,c⟩ ci sq k x v o=r:=⟨_,rfl⟩
   rw [hr]
   go_enter Try.func12,Try.ntmps12
   go_wp2_with (first
    | ((with_reducible refine gate_dst (N:=2) rfl ?_);refine bxq 2 #[.string a,.string b,.slice AP ps.length cP,.slice AS ss.length cS,.bool t,.string c] 38 B fun g2 w151 hb B F2 L2 E2=>?_;obtain ⟨c2_0,c2_1,c2_2,c2_3,c2_4,c2_5⟩:=cs6 F2;clear hb E2)
    | ((with_reducible refine gate_dst (N:=3) rfl ?_);refine bxq 3 #[.int .i64 (ci),.int .i64 (sq),.int .i64 (k),.string x,.int .i64 (v),.int .i64 (o)] 44 B fun g3 w152 hb B F3 L3 E3=>?_;replace F2:=bn F2 hb;clear c2_0 c2_1 c2_2 c2_3 c2_4 c2_5;obtain ⟨c2_0,c2_1,c2_2,c2_3,c2_4,c2_5⟩:=cs6 F2;obtain ⟨c3_0,c3_1,c3_2,c3_3,c3_4,c3_5⟩:=cs6 F3;clear hb E3)
    | ((with_reducible refine gate_dst (N:=4) rfl ?_);refine bxq 4 #[.string (⟨#[]⟩ : ByteArray),.string (⟨#[]⟩ : ByteArray),.slice none 0 0,.slice none 0 0,.bool false,.string (⟨#[]⟩ : ByteArray)] 38 B fun g4 w153 hb B F4 L4 E4=>?_;have N2_4:=ne1 E4 F2;have N3_4:=ne1 E4 F3;replace F2:=bn F2 hb;replace F3:=bn F3 hb;clear c2_0 c2_1 c2_2 c2_3 c2_4 c2_5;obtain ⟨c2_0,c2_1,c2_2,c2_3,c2_4,c2_5⟩:=cs6 F2;clear c3_0 c3_1 c3_2 c3_3 c3_4 c3_5;obtain ⟨c3_0,c3_1,c3_2,c3_3,c3_4,c3_5⟩:=cs6 F3;clear hb E4)
    | (go_at_call 18;with_reducible refine cl (impl_StateValid.M a b _ _ ps _ _ ss t c _ (cb HRP B) (cb HRS B)) B fun w154 hb B=>?_;replace F2:=bn F2 hb;replace F3:=bn F3 hb;replace F4:=bn F4 hb;clear c2_0 c2_1 c2_2 c2_3 c2_4 c2_5;obtain ⟨c2_0,c2_1,c2_2,c2_3,c2_4,c2_5⟩:=cs6 F2;clear c3_0 c3_1 c3_2 c3_3 c3_4 c3_5;obtain ⟨c3_0,c3_1,c3_2,c3_3,c3_4,c3_5⟩:=cs6 F3;clear hb)
    | (go_at_call 19;with_reducible refine cl (impl_EntryValid.M ci sq k x v o _) B fun w155 hb B=>?_;replace F2:=bn F2 hb;replace F3:=bn F3 hb;replace F4:=bn F4 hb;clear c2_0 c2_1 c2_2 c2_3 c2_4 c2_5;obtain ⟨c2_0,c2_1,c2_2,c2_3,c2_4,c2_5⟩:=cs6 F2;clear c3_0 c3_1 c3_2 c3_3 c3_4 c3_5;obtain ⟨c3_0,c3_1,c3_2,c3_3,c3_4,c3_5⟩:=cs6 F3;clear hb)
    | (go_at_call 49;with_reducible refine c2r (impl_copyState.M a b _ _ ps _ _ ss t c _ (cb HRP B) (cb HRS B) HCP.out HCS.out (by omega) (by omega)) B fun AP156 kP156 AS156 kS156 w156 hb B RP156 QP156 RS156 QS156=>?_;have DP156_S156:=Aside0.mk (dty RP156 RS156 (by decide));replace F2:=bn F2 hb;replace F3:=bn F3 hb;replace F4:=bn F4 hb;clear QP156 QS156;clear c2_0 c2_1 c2_2 c2_3 c2_4 c2_5;obtain ⟨c2_0,c2_1,c2_2,c2_3,c2_4,c2_5⟩:=cs6 F2;clear c3_0 c3_1 c3_2 c3_3 c3_4 c3_5;obtain ⟨c3_0,c3_1,c3_2,c3_3,c3_4,c3_5⟩:=cs6 F3;clear hb)
    | ((with_reducible refine gate_dst (N:=6) rfl ?_);refine bxq 6 #[.string (⟨#[]⟩ : ByteArray),.string (⟨#[]⟩ : ByteArray),.slice none 0 0,.slice none 0 0,.bool false,.string (⟨#[]⟩ : ByteArray)] 38 B fun g6 w157 hb B F6 L6 E6=>?_;have N2_6:=ne1 E6 F2;have N3_6:=ne1 E6 F3;have N4_6:=ne1 E6 F4;replace F2:=bn F2 hb;replace F3:=bn F3 hb;replace F4:=bn F4 hb;replace RP156:=rn RP156 hb;replace RS156:=rn RS156 hb;clear c2_0 c2_1 c2_2 c2_3 c2_4 c2_5;obtain ⟨c2_0,c2_1,c2_2,c2_3,c2_4,c2_5⟩:=cs6 F2;clear c3_0 c3_1 c3_2 c3_3 c3_4 c3_5;obtain ⟨c3_0,c3_1,c3_2,c3_3,c3_4,c3_5⟩:=cs6 F3;obtain ⟨c6_0,c6_1,c6_2,c6_3,c6_4,c6_5⟩:=cs6 F6;clear hb E6)
    | ((with_reducible refine gate_store (t:=38) (p:=6) rfl ?_);obtain ⟨y0,y1,y2,y3,y4,y5,z0,z1,z2,z3,z4,z5⟩:=cz6 F6;refine sxq 38 38 6 0 [.string a,.string b,.slice AP156 ps.length kP156,.slice AS156 ss.length kS156,.bool t,.string c] [.string a,.string b,.slice AP156 ps.length kP156,.slice AS156 ss.length kS156,.bool t,.string c] B F6 L6 fun w158 hk B G=>?_;replace F2:=bk F2 hk N2_6.out;replace F3:=bk F3 hk N3_6.out;replace F4:=bk F4 hk N4_6.out;replace RP156:=rk RP156 F6 (by decide) hk;replace RS156:=rk RS156 F6 (by decide) hk;replace F6:=G;clear c2_0 c2_1 c2_2 c2_3 c2_4 c2_5;obtain ⟨c2_0,c2_1,c2_2,c2_3,c2_4,c2_5⟩:=cs6 F2;clear c3_0 c3_1 c3_2 c3_3 c3_4 c3_5;obtain ⟨c3_0,c3_1,c3_2,c3_3,c3_4,c3_5⟩:=cs6 F3;clear c6_0 c6_1 c6_2 c6_3 c6_4 c6_5;obtain ⟨c6_0,c6_1,c6_2,c6_3,c6_4,c6_5⟩:=cs6 F6;clear hk y0 z0 y1 z1 y2 z2 y3 z3 y4 z4 y5 z5;refine Stop.out ?_))
   refine ⟨?_⟩
   cases hit : hitOf ss ci with
   | true =>
    have hfy:=hit_findS hv hit
    have hpo:=(plhit hit).1
    obtain ⟨ad,hA,y0,y1,y2⟩:=at_T76 HRS.out ((plOf ss ci : Nat) : Int) (by omega) (by omega)
    cases hA
    clear y0 y1 y2
    have j1:=eq_true (show ((plOf ss ci : Nat) : Int) < (ss.length : Int) by omega)
    have j2:=eq_true hpo
    generalize hy : rd_T76 ss ((plOf ss ci : Nat) : Int)=y at *
    by_cases q1 : sq≤y.f1
    ·have d1 : decide (sq≤y.f1)=true:=decide_eq_true q1
     have hi : idleB ⟨a,b,ps,ss,t,c⟩ ci sq k x=true:=by unfold idleB;rw [← hfy,decide_eq_true q1];rfl
     by_cases q2 : y.f1=sq
     ·have d2 : (sq == y.f1)=true:=by rw [q2];simp
      rw [aeM_idle hh hi,show idleN ⟨a,b,ps,ss,t,c⟩ ci sq=y.f2 from by unfold idleN;rw [← hfy];exact if_pos q2] at hr
      subst hr
      clear hh hcm hsq hi hfy hcl q1 q2
      go_wp2_with (first
       | (go_at_call 50;with_reducible refine cl (impl_sessionPlace.Mb _ _ ss ci _ (cb HRS B) HCS.out hv true hit) B fun w201 hb B=>?_;replace F2:=bn F2 hb;replace F3:=bn F3 hb;replace F4:=bn F4 hb;replace F6:=bn F6 hb;replace RP156:=rn RP156 hb;replace RS156:=rn RS156 hb;clear c2_0 c2_1 c2_2 c2_3 c2_4 c2_5;obtain ⟨c2_0,c2_1,c2_2,c2_3,c2_4,c2_5⟩:=cs6 F2;clear c3_0 c3_1 c3_2 c3_3 c3_4 c3_5;obtain ⟨c3_0,c3_1,c3_2,c3_3,c3_4,c3_5⟩:=cs6 F3;clear c6_0 c6_1 c6_2 c6_3 c6_4 c6_5;obtain ⟨c6_0,c6_1,c6_2,c6_3,c6_4,c6_5⟩:=cs6 F6;clear hb))
      all_goals (
       refine rg (n:=12) (S:=fun W=>W.heap[g3]?=some (.cells #[.int .i64 (ci),.int .i64 (sq),.int .i64 (k),.string x,.int .i64 (v),.int .i64 (o)] 44 (0,0))∧W.heap[g2]?=some (.cells #[.string a,.string b,.slice AP ps.length cP,.slice (some ad) ss.length cS,.bool t,.string c] 38 (0,0))∧Kd.C k76 W (some ad) ss.length ss) (ds:=[]) #[false,false,false,false,false,false,false,false,false,false,false,false] (by kernel_rfl) rfl rfl ⟨F3.out,F2.out,(cb HRS B)⟩ id B (fun w202 hb B hHeld=>?_)
       refine with_tabW impl_ApplyEntry.tab5 impl_ApplyEntry.bits5 (fun HT_ HW_=>?_)
       replace F2:=bn F2 hb
       replace F3:=bn F3 hb
       replace F4:=bn F4 hb
       replace F6:=bn F6 hb
       replace RP156:=rn RP156 hb
       replace RS156:=rn RS156 hb
       clear hb
       refine pvq 0 (some 29) (bits 12 1) HT_ ?_
       refine pvq 1 (some 30) (bits 12 3) HT_ ?_
       refine pvq 2 (some 31) (bits 12 7) HT_ ?_
       refine tvq 3 (some 32) (bits 12 15) HT_ HW_ rfl hHeld (by intro w' hS;obtain ⟨s0,s1,s2⟩:=hS;obtain ⟨q0,q1,q2,q3,q4,q5⟩:=cs6 (Aside0.mk s0);go_simp;with_reducible rfl) ?_
       refine pvq 4 (some 33) (bits 12 31) HT_ ?_
       refine tvq 5 (some 34) (bits 12 63) HT_ HW_ rfl hHeld (by intro w' hS;obtain ⟨s0,s1,s2⟩:=hS;obtain ⟨q0,q1,q2,q3,q4,q5⟩:=cs6 (Aside0.mk s1);go_simp;with_reducible rfl) ?_
       refine pvq 6 (some 35) (bits 12 127) HT_ ?_
       refine pvq 7 (some 36) (bits 12 255) HT_ ?_
       refine pvq 8 (some 37) (bits 12 511) HT_ ?_
       refine tvq 9 (some 38) (bits 12 1023) HT_ HW_ rfl hHeld (by intro w' hS;obtain ⟨s0,s1,s2⟩:=hS;obtain ⟨_,hA,q0,q1,q2⟩:=at_T76 s2 ((plOf ss ci : Nat) : Int) (by omega) (by omega);cases hA;rw [Int.toNat_natCast] at q0 q1 q2;rw [hy] at q0 q1 q2;go_simp;with_reducible rfl) ?_
       refine pvq 10 (some 39) (bits 12 2047) HT_ ?_
       refine pvq 11 (some 40) (bits 12 4095) HT_ ?_
       refine nmq ?_
       refine done_ (done_of HT_.out (by kernel_rfl)) ?_
       clear c2_0 c2_1 c2_2 c2_3 c2_4 c2_5
       obtain ⟨c2_0,c2_1,c2_2,c2_3,c2_4,c2_5⟩:=cs6 F2
       clear c3_0 c3_1 c3_2 c3_3 c3_4 c3_5
       obtain ⟨c3_0,c3_1,c3_2,c3_3,c3_4,c3_5⟩:=cs6 F3
       clear c6_0 c6_1 c6_2 c6_3 c6_4 c6_5
       obtain ⟨c6_0,c6_1,c6_2,c6_3,c6_4,c6_5⟩:=cs6 F6)
      all_goals try go_wp2
      all_goals (
       refine rg (n:=9) (S:=fun W=>W.heap[g3]?=some (.cells #[.int .i64 (ci),.int .i64 (sq),.int .i64 (k),.string x,.int .i64 (v),.int .i64 (o)] 44 (0,0))∧W.heap[g2]?=some (.cells #[.string a,.string b,.slice AP ps.length cP,.slice (some ad) ss.length cS,.bool t,.string c] 38 (0,0))∧Kd.C k76 W (some ad) ss.length ss) (ds:=[]) #[false,false,false,false,false,false,false,false,false] (by kernel_rfl) rfl rfl ⟨F3.out,F2.out,(cb HRS B)⟩ id B (fun w203 hb B hHeld=>?_)
       refine with_tabW impl_ApplyEntry.tab6 impl_ApplyEntry.bits6 (fun HT_ HW_=>?_)
       replace F2:=bn F2 hb
       replace F3:=bn F3 hb
       replace F4:=bn F4 hb
       replace F6:=bn F6 hb
       replace RP156:=rn RP156 hb
       replace RS156:=rn RS156 hb
       clear hb
       refine pvq 0 (some 41) (bits 9 1) HT_ ?_
       refine tvq 1 (some 42) (bits 9 3) HT_ HW_ rfl hHeld (by intro w' hS;obtain ⟨s0,s1,s2⟩:=hS;obtain ⟨q0,q1,q2,q3,q4,q5⟩:=cs6 (Aside0.mk s0);go_simp;with_reducible rfl) ?_
       refine pvq 2 (some 43) (bits 9 7) HT_ ?_
       refine tvq 3 (some 44) (bits 9 15) HT_ HW_ rfl hHeld (by intro w' hS;obtain ⟨s0,s1,s2⟩:=hS;obtain ⟨q0,q1,q2,q3,q4,q5⟩:=cs6 (Aside0.mk s1);go_simp;with_reducible rfl) ?_
       refine pvq 4 (some 45) (bits 9 31) HT_ ?_
       refine pvq 5 (some 46) (bits 9 63) HT_ ?_
       refine pvq 6 (some 47) (bits 9 127) HT_ ?_
       refine tvq 7 (some 48) (bits 9 255) HT_ HW_ rfl hHeld (by intro w' hS;obtain ⟨s0,s1,s2⟩:=hS;obtain ⟨_,hA,q0,q1,q2⟩:=at_T76 s2 ((plOf ss ci : Nat) : Int) (by omega) (by omega);cases hA;rw [Int.toNat_natCast] at q0 q1 q2;rw [hy] at q0 q1 q2;go_simp;with_reducible rfl) ?_
       refine pvq 8 (some 49) (bits 9 511) HT_ ?_
       refine nmq ?_
       refine done_ (done_of HT_.out (by kernel_rfl)) ?_
       clear c2_0 c2_1 c2_2 c2_3 c2_4 c2_5
       obtain ⟨c2_0,c2_1,c2_2,c2_3,c2_4,c2_5⟩:=cs6 F2
       clear c6_0 c6_1 c6_2 c6_3 c6_4 c6_5
       obtain ⟨c6_0,c6_1,c6_2,c6_3,c6_4,c6_5⟩:=cs6 F6)
      all_goals try go_wp2
      all_goals (
       refine rg (n:=9) (S:=fun W=>W.heap[g6]?=some (.cells #[.string a,.string b,.slice AP156 ps.length kP156,.slice AS156 ss.length kS156,.bool t,.string c] 38 (0,0))∧W.heap[g2]?=some (.cells #[.string a,.string b,.slice AP ps.length cP,.slice (some ad) ss.length cS,.bool t,.string c] 38 (0,0))∧Kd.C k76 W (some ad) ss.length ss) (ds:=[]) #[false,false,false,false,false,false,false,false,false] (by kernel_rfl) rfl rfl ⟨F6.out,F2.out,(cb HRS B)⟩ id B (fun w204 hb B hHeld=>?_)
       refine with_tabW impl_ApplyEntry.tab7 impl_ApplyEntry.bits7 (fun HT_ HW_=>?_)
       replace F2:=bn F2 hb
       replace F4:=bn F4 hb
       replace F6:=bn F6 hb
       replace RP156:=rn RP156 hb
       replace RS156:=rn RS156 hb
       clear hb
       refine tvq 0 (some 50) (bits 9 1) HT_ HW_ rfl hHeld (by intro w' hS;obtain ⟨s0,s1,s2⟩:=hS;obtain ⟨q0,q1,q2,q3,q4,q5⟩:=cs6 (Aside0.mk s0);go_simp;with_reducible rfl) ?_
       refine pvq 1 (some 51) (bits 9 3) HT_ ?_
       refine tvq 2 (some 52) (bits 9 7) HT_ HW_ rfl hHeld (by intro w' hS;obtain ⟨s0,s1,s2⟩:=hS;obtain ⟨q0,q1,q2,q3,q4,q5⟩:=cs6 (Aside0.mk s1);go_simp;with_reducible rfl) ?_
       refine pvq 3 (some 53) (bits 9 15) HT_ ?_
       refine pvq 4 (some 54) (bits 9 31) HT_ ?_
       refine pvq 5 (some 55) (bits 9 63) HT_ ?_
       refine tvq 6 (some 56) (bits 9 127) HT_ HW_ rfl hHeld (by intro w' hS;obtain ⟨s0,s1,s2⟩:=hS;obtain ⟨_,hA,q0,q1,q2⟩:=at_T76 s2 ((plOf ss ci : Nat) : Int) (by omega) (by omega);cases hA;rw [Int.toNat_natCast] at q0 q1 q2;rw [hy] at q0 q1 q2;go_simp;with_reducible rfl) ?_
       refine nmq ?_
       refine one_ (i:=7) (N:=none) (bits 9 255) rfl rfl (one_of HT_.out (by kernel_rfl)) (by decide) (fun K hK=>?_)
       obtain ⟨y0,y1,y2,y3,y4,y5,z0,z1,z2,z3,z4,z5⟩:=cz6 F4
       refine sxs (g:=g4) 0 [.string a,.string b,.slice AP156 ps.length kP156,.slice AS156 ss.length kS156,.bool t,.string c] [.string a,.string b,.slice AP156 ps.length kP156,.slice AS156 ss.length kS156,.bool t,.string c] (by rfl) rfl ?hr B F4 L4 rfl (Nat.le_of_ble_eq_true rfl) (fun w205 hk B G=>?_)
       (case hr=>go_simp;first | done | rfl)
       replace F2:=bk F2 hk N2_4.out
       replace F6:=bk F6 hk N4_6.out.symm
       replace RP156:=rk RP156 F4 (by decide) hk
       replace RS156:=rk RS156 F4 (by decide) hk
       replace F4:=G
       clear hk y0 z0 y1 z1 y2 z2 y3 z3 y4 z4 y5 z5
       refine hK.out _ _ ⟨F6.out,F2.out,(cb HRS B)⟩ (fun hHeld=>?_)
       clear hK K
       refine pvq 8 (some 5) (bits 9 511) HT_ ?_
       refine nmq ?_
       refine done_ (done_of HT_.out (by kernel_rfl)) ?_)
      all_goals try go_wp2
      all_goals (try (refine bodyPost_ret (results_list (rs:=[.cell 4 38,.tmp 5]) rfl (by simp) (.cell g4 38 _ (0,0) _ rfl F4.out hu rfl (by kernel_rfl) (.tmp .nil))) rfl ?_);exact ⟨_,_,rfl,RP156.out,RS156.out,B.out⟩)
     ·have d2 : (sq == y.f1)=false:=beq_eq_false_iff_ne.mpr (fun h=>q2 h.symm)
      rw [aeM_idle hh hi,show idleN ⟨a,b,ps,ss,t,c⟩ ci sq=-4 from by unfold idleN;rw [← hfy];exact (if_neg q2).trans (if_pos (by omega))] at hr
      subst hr
      clear hh hcm hsq hi hfy hcl q1 q2
      go_wp2_with (first
       | (go_at_call 50;with_reducible refine cl (impl_sessionPlace.Mb _ _ ss ci _ (cb HRS B) HCS.out hv true hit) B fun w301 hb B=>?_;replace F2:=bn F2 hb;replace F3:=bn F3 hb;replace F4:=bn F4 hb;replace F6:=bn F6 hb;replace RP156:=rn RP156 hb;replace RS156:=rn RS156 hb;clear c2_0 c2_1 c2_2 c2_3 c2_4 c2_5;obtain ⟨c2_0,c2_1,c2_2,c2_3,c2_4,c2_5⟩:=cs6 F2;clear c3_0 c3_1 c3_2 c3_3 c3_4 c3_5;obtain ⟨c3_0,c3_1,c3_2,c3_3,c3_4,c3_5⟩:=cs6 F3;clear c6_0 c6_1 c6_2 c6_3 c6_4 c6_5;obtain ⟨c6_0,c6_1,c6_2,c6_3,c6_4,c6_5⟩:=cs6 F6;clear hb))
      all_goals (
       refine rg (n:=12) (S:=fun W=>W.heap[g3]?=some (.cells #[.int .i64 (ci),.int .i64 (sq),.int .i64 (k),.string x,.int .i64 (v),.int .i64 (o)] 44 (0,0))∧W.heap[g2]?=some (.cells #[.string a,.string b,.slice AP ps.length cP,.slice (some ad) ss.length cS,.bool t,.string c] 38 (0,0))∧Kd.C k76 W (some ad) ss.length ss) (ds:=[]) #[false,false,false,false,false,false,false,false,false,false,false,false] (by kernel_rfl) rfl rfl ⟨F3.out,F2.out,(cb HRS B)⟩ id B (fun w302 hb B hHeld=>?_)
       refine with_tabW impl_ApplyEntry.tab5 impl_ApplyEntry.bits5 (fun HT_ HW_=>?_)
       replace F2:=bn F2 hb
       replace F3:=bn F3 hb
       replace F4:=bn F4 hb
       replace F6:=bn F6 hb
       replace RP156:=rn RP156 hb
       replace RS156:=rn RS156 hb
       clear hb
       refine pvq 0 (some 29) (bits 12 1) HT_ ?_
       refine pvq 1 (some 30) (bits 12 3) HT_ ?_
       refine pvq 2 (some 31) (bits 12 7) HT_ ?_
       refine tvq 3 (some 32) (bits 12 15) HT_ HW_ rfl hHeld (by intro w' hS;obtain ⟨s0,s1,s2⟩:=hS;obtain ⟨q0,q1,q2,q3,q4,q5⟩:=cs6 (Aside0.mk s0);go_simp;with_reducible rfl) ?_
       refine pvq 4 (some 33) (bits 12 31) HT_ ?_
       refine tvq 5 (some 34) (bits 12 63) HT_ HW_ rfl hHeld (by intro w' hS;obtain ⟨s0,s1,s2⟩:=hS;obtain ⟨q0,q1,q2,q3,q4,q5⟩:=cs6 (Aside0.mk s1);go_simp;with_reducible rfl) ?_
       refine pvq 6 (some 35) (bits 12 127) HT_ ?_
       refine pvq 7 (some 36) (bits 12 255) HT_ ?_
       refine pvq 8 (some 37) (bits 12 511) HT_ ?_
       refine tvq 9 (some 38) (bits 12 1023) HT_ HW_ rfl hHeld (by intro w' hS;obtain ⟨s0,s1,s2⟩:=hS;obtain ⟨_,hA,q0,q1,q2⟩:=at_T76 s2 ((plOf ss ci : Nat) : Int) (by omega) (by omega);cases hA;rw [Int.toNat_natCast] at q0 q1 q2;rw [hy] at q0 q1 q2;go_simp;with_reducible rfl) ?_
       refine pvq 10 (some 39) (bits 12 2047) HT_ ?_
       refine pvq 11 (some 40) (bits 12 4095) HT_ ?_
       refine nmq ?_
       refine done_ (done_of HT_.out (by kernel_rfl)) ?_
       clear c2_0 c2_1 c2_2 c2_3 c2_4 c2_5
       obtain ⟨c2_0,c2_1,c2_2,c2_3,c2_4,c2_5⟩:=cs6 F2
       clear c3_0 c3_1 c3_2 c3_3 c3_4 c3_5
       obtain ⟨c3_0,c3_1,c3_2,c3_3,c3_4,c3_5⟩:=cs6 F3
       clear c6_0 c6_1 c6_2 c6_3 c6_4 c6_5
       obtain ⟨c6_0,c6_1,c6_2,c6_3,c6_4,c6_5⟩:=cs6 F6)
      all_goals try go_wp2
      all_goals (
       refine rg (n:=9) (S:=fun W=>W.heap[g3]?=some (.cells #[.int .i64 (ci),.int .i64 (sq),.int .i64 (k),.string x,.int .i64 (v),.int .i64 (o)] 44 (0,0))∧W.heap[g2]?=some (.cells #[.string a,.string b,.slice AP ps.length cP,.slice (some ad) ss.length cS,.bool t,.string c] 38 (0,0))∧Kd.C k76 W (some ad) ss.length ss) (ds:=[]) #[false,false,false,false,false,false,false,false,false] (by kernel_rfl) rfl rfl ⟨F3.out,F2.out,(cb HRS B)⟩ id B (fun w303 hb B hHeld=>?_)
       refine with_tabW impl_ApplyEntry.tab6 impl_ApplyEntry.bits6 (fun HT_ HW_=>?_)
       replace F2:=bn F2 hb
       replace F3:=bn F3 hb
       replace F4:=bn F4 hb
       replace F6:=bn F6 hb
       replace RP156:=rn RP156 hb
       replace RS156:=rn RS156 hb
       clear hb
       refine pvq 0 (some 41) (bits 9 1) HT_ ?_
       refine tvq 1 (some 42) (bits 9 3) HT_ HW_ rfl hHeld (by intro w' hS;obtain ⟨s0,s1,s2⟩:=hS;obtain ⟨q0,q1,q2,q3,q4,q5⟩:=cs6 (Aside0.mk s0);go_simp;with_reducible rfl) ?_
       refine pvq 2 (some 43) (bits 9 7) HT_ ?_
       refine tvq 3 (some 44) (bits 9 15) HT_ HW_ rfl hHeld (by intro w' hS;obtain ⟨s0,s1,s2⟩:=hS;obtain ⟨q0,q1,q2,q3,q4,q5⟩:=cs6 (Aside0.mk s1);go_simp;with_reducible rfl) ?_
       refine pvq 4 (some 45) (bits 9 31) HT_ ?_
       refine pvq 5 (some 46) (bits 9 63) HT_ ?_
       refine pvq 6 (some 47) (bits 9 127) HT_ ?_
       refine tvq 7 (some 48) (bits 9 255) HT_ HW_ rfl hHeld (by intro w' hS;obtain ⟨s0,s1,s2⟩:=hS;obtain ⟨_,hA,q0,q1,q2⟩:=at_T76 s2 ((plOf ss ci : Nat) : Int) (by omega) (by omega);cases hA;rw [Int.toNat_natCast] at q0 q1 q2;rw [hy] at q0 q1 q2;go_simp;with_reducible rfl) ?_
       refine pvq 8 (some 49) (bits 9 511) HT_ ?_
       refine nmq ?_
       refine done_ (done_of HT_.out (by kernel_rfl)) ?_
       clear c6_0 c6_1 c6_2 c6_3 c6_4 c6_5
       obtain ⟨c6_0,c6_1,c6_2,c6_3,c6_4,c6_5⟩:=cs6 F6)
      all_goals go_wp2_with (first
       | ((with_reducible refine gate_store (t:=38) (p:=4) rfl ?_);obtain ⟨y0,y1,y2,y3,y4,y5,z0,z1,z2,z3,z4,z5⟩:=cz6 F4;refine sxq 38 38 4 0 [.string a,.string b,.slice AP156 ps.length kP156,.slice AS156 ss.length kS156,.bool t,.string c] [.string a,.string b,.slice AP156 ps.length kP156,.slice AS156 ss.length kS156,.bool t,.string c] B F4 L4 fun w304 hk B G=>?_;replace F2:=bk F2 hk N2_4.out;replace F3:=bk F3 hk N3_4.out;replace RP156:=rk RP156 F4 (by decide) hk;replace RS156:=rk RS156 F4 (by decide) hk;replace F4:=G;clear hk y0 z0 y1 z1 y2 z2 y3 z3 y4 z4 y5 z5))
      all_goals (try (refine bodyPost_ret (results_list (rs:=[.cell 4 38,.tmp 5]) rfl (by simp) (.cell g4 38 _ (0,0) _ rfl F4.out hu rfl (by kernel_rfl) (.tmp .nil))) rfl ?_);exact ⟨_,_,rfl,RP156.out,RS156.out,B.out⟩)
    ·have d1 : decide (sq≤y.f1)=false:=decide_eq_false q1
     have hN : idleN ⟨a,b,ps,ss,t,c⟩ ci sq=-3:=by unfold idleN;rw [← hfy];exact (if_neg (by omega)).trans (if_neg (by omega))
     have hle : decide (sq≤(findS ss ci).f1)=false:=by rw [← hfy];exact d1
     clear hfy hcl q1
     cases t with
     | true =>
      rw [aeM_idle hh (by unfold idleB;simp),hN] at hr
      subst hr
      clear hh hcm hsq hN hle
      go_wp2_with (first
       | (go_at_call 50;with_reducible refine cl (impl_sessionPlace.Mb _ _ ss ci _ (cb HRS B) HCS.out hv true hit) B fun w1001 hb B=>?_;replace F2:=bn F2 hb;replace F3:=bn F3 hb;replace F4:=bn F4 hb;replace F6:=bn F6 hb;replace RP156:=rn RP156 hb;replace RS156:=rn RS156 hb;clear c2_0 c2_1 c2_2 c2_3 c2_4 c2_5;obtain ⟨c2_0,c2_1,c2_2,c2_3,c2_4,c2_5⟩:=cs6 F2;clear c3_0 c3_1 c3_2 c3_3 c3_4 c3_5;obtain ⟨c3_0,c3_1,c3_2,c3_3,c3_4,c3_5⟩:=cs6 F3;clear c6_0 c6_1 c6_2 c6_3 c6_4 c6_5;obtain ⟨c6_0,c6_1,c6_2,c6_3,c6_4,c6_5⟩:=cs6 F6;clear hb))
      all_goals (
       refine rg (n:=12) (S:=fun W=>W.heap[g3]?=some (.cells #[.int .i64 (ci),.int .i64 (sq),.int .i64 (k),.string x,.int .i64 (v),.int .i64 (o)] 44 (0,0))∧W.heap[g2]?=some (.cells #[.string a,.string b,.slice AP ps.length cP,.slice (some ad) ss.length cS,.bool true,.string c] 38 (0,0))∧Kd.C k76 W (some ad) ss.length ss) (ds:=[]) #[false,false,false,false,false,false,false,false,false,false,false,false] (by kernel_rfl) rfl rfl ⟨F3.out,F2.out,(cb HRS B)⟩ id B (fun w1002 hb B hHeld=>?_)
       refine with_tabW impl_ApplyEntry.tab5 impl_ApplyEntry.bits5 (fun HT_ HW_=>?_)
       replace F2:=bn F2 hb
       replace F3:=bn F3 hb
       replace F4:=bn F4 hb
       replace F6:=bn F6 hb
       replace RP156:=rn RP156 hb
       replace RS156:=rn RS156 hb
       clear hb
       refine pvq 0 (some 29) (bits 12 1) HT_ ?_
       refine pvq 1 (some 30) (bits 12 3) HT_ ?_
       refine pvq 2 (some 31) (bits 12 7) HT_ ?_
       refine tvq 3 (some 32) (bits 12 15) HT_ HW_ rfl hHeld (by intro w' hS;obtain ⟨s0,s1,s2⟩:=hS;obtain ⟨q0,q1,q2,q3,q4,q5⟩:=cs6 (Aside0.mk s0);go_simp;with_reducible rfl) ?_
       refine pvq 4 (some 33) (bits 12 31) HT_ ?_
       refine tvq 5 (some 34) (bits 12 63) HT_ HW_ rfl hHeld (by intro w' hS;obtain ⟨s0,s1,s2⟩:=hS;obtain ⟨q0,q1,q2,q3,q4,q5⟩:=cs6 (Aside0.mk s1);go_simp;with_reducible rfl) ?_
       refine pvq 6 (some 35) (bits 12 127) HT_ ?_
       refine pvq 7 (some 36) (bits 12 255) HT_ ?_
       refine pvq 8 (some 37) (bits 12 511) HT_ ?_
       refine tvq 9 (some 38) (bits 12 1023) HT_ HW_ rfl hHeld (by intro w' hS;obtain ⟨s0,s1,s2⟩:=hS;obtain ⟨_,hA,q0,q1,q2⟩:=at_T76 s2 ((plOf ss ci : Nat) : Int) (by omega) (by omega);cases hA;rw [Int.toNat_natCast] at q0 q1 q2;rw [hy] at q0 q1 q2;go_simp;with_reducible rfl) ?_
       refine pvq 10 (some 39) (bits 12 2047) HT_ ?_
       refine pvq 11 (some 40) (bits 12 4095) HT_ ?_
       refine nmq ?_
       refine done_ (done_of HT_.out (by kernel_rfl)) ?_
       clear c2_0 c2_1 c2_2 c2_3 c2_4 c2_5
       obtain ⟨c2_0,c2_1,c2_2,c2_3,c2_4,c2_5⟩:=cs6 F2
       clear c3_0 c3_1 c3_2 c3_3 c3_4 c3_5
       obtain ⟨c3_0,c3_1,c3_2,c3_3,c3_4,c3_5⟩:=cs6 F3
       clear c6_0 c6_1 c6_2 c6_3 c6_4 c6_5
       obtain ⟨c6_0,c6_1,c6_2,c6_3,c6_4,c6_5⟩:=cs6 F6)
      all_goals go_wp2_with (first
       | (go_at_call 51;with_reducible refine cl (impl_stateTakes.M a b _ _ ps _ _ ss true c k x v o _ (cb HRP B) (cb HRS B)) B fun w1003 hb B=>?_;replace F2:=bn F2 hb;replace F3:=bn F3 hb;replace F4:=bn F4 hb;replace F6:=bn F6 hb;replace RP156:=rn RP156 hb;replace RS156:=rn RS156 hb;clear c6_0 c6_1 c6_2 c6_3 c6_4 c6_5;obtain ⟨c6_0,c6_1,c6_2,c6_3,c6_4,c6_5⟩:=cs6 F6;clear hb)
       | ((with_reducible refine gate_store (t:=38) (p:=4) rfl ?_);obtain ⟨y0,y1,y2,y3,y4,y5,z0,z1,z2,z3,z4,z5⟩:=cz6 F4;refine sxq 38 38 4 0 [.string a,.string b,.slice AP156 ps.length kP156,.slice AS156 ss.length kS156,.bool true,.string c] [.string a,.string b,.slice AP156 ps.length kP156,.slice AS156 ss.length kS156,.bool true,.string c] B F4 L4 fun w1004 hk B G=>?_;replace F2:=bk F2 hk N2_4.out;replace F3:=bk F3 hk N3_4.out;replace RP156:=rk RP156 F4 (by decide) hk;replace RS156:=rk RS156 F4 (by decide) hk;replace F4:=G;clear hk y0 z0 y1 z1 y2 z2 y3 z3 y4 z4 y5 z5))
      all_goals (try (refine bodyPost_ret (results_list (rs:=[.cell 4 38,.tmp 5]) rfl (by simp) (.cell g4 38 _ (0,0) _ rfl F4.out hu rfl (by kernel_rfl) (.tmp .nil))) rfl ?_);exact ⟨_,_,rfl,RP156.out,RS156.out,B.out⟩)
     | false =>
      have hid : idleB ⟨a,b,ps,ss,false,c⟩ ci sq k x=!takesB a b k x:=by unfold idleB;rw [hle];rfl
      clear hle
      cases htk : takesB a b k x with
      | false =>
       rw [aeM_idle hh (by rw [hid,htk];rfl),hN] at hr
       subst hr
       clear hh hcm hsq hN hid
       go_wp2_with (first
        | (go_at_call 50;with_reducible refine cl (impl_sessionPlace.Mb _ _ ss ci _ (cb HRS B) HCS.out hv true hit) B fun w1101 hb B=>?_;replace F2:=bn F2 hb;replace F3:=bn F3 hb;replace F4:=bn F4 hb;replace F6:=bn F6 hb;replace RP156:=rn RP156 hb;replace RS156:=rn RS156 hb;clear c2_0 c2_1 c2_2 c2_3 c2_4 c2_5;obtain ⟨c2_0,c2_1,c2_2,c2_3,c2_4,c2_5⟩:=cs6 F2;clear c3_0 c3_1 c3_2 c3_3 c3_4 c3_5;obtain ⟨c3_0,c3_1,c3_2,c3_3,c3_4,c3_5⟩:=cs6 F3;clear c6_0 c6_1 c6_2 c6_3 c6_4 c6_5;obtain ⟨c6_0,c6_1,c6_2,c6_3,c6_4,c6_5⟩:=cs6 F6;clear hb))
       all_goals (
        refine rg (n:=12) (S:=fun W=>W.heap[g3]?=some (.cells #[.int .i64 (ci),.int .i64 (sq),.int .i64 (k),.string x,.int .i64 (v),.int .i64 (o)] 44 (0,0))∧W.heap[g2]?=some (.cells #[.string a,.string b,.slice AP ps.length cP,.slice (some ad) ss.length cS,.bool false,.string c] 38 (0,0))∧Kd.C k76 W (some ad) ss.length ss) (ds:=[]) #[false,false,false,false,false,false,false,false,false,false,false,false] (by kernel_rfl) rfl rfl ⟨F3.out,F2.out,(cb HRS B)⟩ id B (fun w1102 hb B hHeld=>?_)
        refine with_tabW impl_ApplyEntry.tab5 impl_ApplyEntry.bits5 (fun HT_ HW_=>?_)
        replace F2:=bn F2 hb
        replace F3:=bn F3 hb
        replace F4:=bn F4 hb
        replace F6:=bn F6 hb
        replace RP156:=rn RP156 hb
        replace RS156:=rn RS156 hb
        clear hb
        refine pvq 0 (some 29) (bits 12 1) HT_ ?_
        refine pvq 1 (some 30) (bits 12 3) HT_ ?_
        refine pvq 2 (some 31) (bits 12 7) HT_ ?_
        refine tvq 3 (some 32) (bits 12 15) HT_ HW_ rfl hHeld (by intro w' hS;obtain ⟨s0,s1,s2⟩:=hS;obtain ⟨q0,q1,q2,q3,q4,q5⟩:=cs6 (Aside0.mk s0);go_simp;with_reducible rfl) ?_
        refine pvq 4 (some 33) (bits 12 31) HT_ ?_
        refine tvq 5 (some 34) (bits 12 63) HT_ HW_ rfl hHeld (by intro w' hS;obtain ⟨s0,s1,s2⟩:=hS;obtain ⟨q0,q1,q2,q3,q4,q5⟩:=cs6 (Aside0.mk s1);go_simp;with_reducible rfl) ?_
        refine pvq 6 (some 35) (bits 12 127) HT_ ?_
        refine pvq 7 (some 36) (bits 12 255) HT_ ?_
        refine pvq 8 (some 37) (bits 12 511) HT_ ?_
        refine tvq 9 (some 38) (bits 12 1023) HT_ HW_ rfl hHeld (by intro w' hS;obtain ⟨s0,s1,s2⟩:=hS;obtain ⟨_,hA,q0,q1,q2⟩:=at_T76 s2 ((plOf ss ci : Nat) : Int) (by omega) (by omega);cases hA;rw [Int.toNat_natCast] at q0 q1 q2;rw [hy] at q0 q1 q2;go_simp;with_reducible rfl) ?_
        refine pvq 10 (some 39) (bits 12 2047) HT_ ?_
        refine pvq 11 (some 40) (bits 12 4095) HT_ ?_
        refine nmq ?_
        refine done_ (done_of HT_.out (by kernel_rfl)) ?_
        clear c2_0 c2_1 c2_2 c2_3 c2_4 c2_5
        obtain ⟨c2_0,c2_1,c2_2,c2_3,c2_4,c2_5⟩:=cs6 F2
        clear c3_0 c3_1 c3_2 c3_3 c3_4 c3_5
        obtain ⟨c3_0,c3_1,c3_2,c3_3,c3_4,c3_5⟩:=cs6 F3
        clear c6_0 c6_1 c6_2 c6_3 c6_4 c6_5
        obtain ⟨c6_0,c6_1,c6_2,c6_3,c6_4,c6_5⟩:=cs6 F6)
       all_goals go_wp2_with (first
        | (go_at_call 51;with_reducible refine cl (impl_stateTakes.M a b _ _ ps _ _ ss false c k x v o _ (cb HRP B) (cb HRS B)) B fun w1103 hb B=>?_;replace F2:=bn F2 hb;replace F3:=bn F3 hb;replace F4:=bn F4 hb;replace F6:=bn F6 hb;replace RP156:=rn RP156 hb;replace RS156:=rn RS156 hb;clear c6_0 c6_1 c6_2 c6_3 c6_4 c6_5;obtain ⟨c6_0,c6_1,c6_2,c6_3,c6_4,c6_5⟩:=cs6 F6;clear hb)
        | ((with_reducible refine gate_store (t:=38) (p:=4) rfl ?_);obtain ⟨y0,y1,y2,y3,y4,y5,z0,z1,z2,z3,z4,z5⟩:=cz6 F4;refine sxq 38 38 4 0 [.string a,.string b,.slice AP156 ps.length kP156,.slice AS156 ss.length kS156,.bool false,.string c] [.string a,.string b,.slice AP156 ps.length kP156,.slice AS156 ss.length kS156,.bool false,.string c] B F4 L4 fun w1104 hk B G=>?_;replace F2:=bk F2 hk N2_4.out;replace F3:=bk F3 hk N3_4.out;replace RP156:=rk RP156 F4 (by decide) hk;replace RS156:=rk RS156 F4 (by decide) hk;replace F4:=G;clear hk y0 z0 y1 z1 y2 z2 y3 z3 y4 z4 y5 z5))
       all_goals (try (refine bodyPost_ret (results_list (rs:=[.cell 4 38,.tmp 5]) rfl (by simp) (.cell g4 38 _ (0,0) _ rfl F4.out hu rfl (by kernel_rfl) (.tmp .nil))) rfl ?_);exact ⟨_,_,rfl,RP156.out,RS156.out,B.out⟩)
      | true =>
       rw [aeM_go hh (by rw [hid,htk];rfl)] at hr
       by_cases h5 : k=5
       ·have d5 : (k == 5)=true:=by rw [h5];rfl
        rw [show applM ⟨a,b,ps,ss,false,c⟩ ci sq k x v o=(⟨a,b,ps,(putB ss ⟨ci,sq,0⟩).1,true,x⟩,0) from if_pos h5] at hr
        subst hr
        clear hh hcm hsq hN hid h5
        go_wp2_with (first
         | (go_at_call 50;with_reducible refine cl (impl_sessionPlace.Mb _ _ ss ci _ (cb HRS B) HCS.out hv true hit) B fun w1201 hb B=>?_;replace F2:=bn F2 hb;replace F3:=bn F3 hb;replace F4:=bn F4 hb;replace F6:=bn F6 hb;replace RP156:=rn RP156 hb;replace RS156:=rn RS156 hb;clear c2_0 c2_1 c2_2 c2_3 c2_4 c2_5;obtain ⟨c2_0,c2_1,c2_2,c2_3,c2_4,c2_5⟩:=cs6 F2;clear c3_0 c3_1 c3_2 c3_3 c3_4 c3_5;obtain ⟨c3_0,c3_1,c3_2,c3_3,c3_4,c3_5⟩:=cs6 F3;clear c6_0 c6_1 c6_2 c6_3 c6_4 c6_5;obtain ⟨c6_0,c6_1,c6_2,c6_3,c6_4,c6_5⟩:=cs6 F6;clear hb))
        all_goals (
         refine rg (n:=12) (S:=fun W=>W.heap[g3]?=some (.cells #[.int .i64 (ci),.int .i64 (sq),.int .i64 (k),.string x,.int .i64 (v),.int .i64 (o)] 44 (0,0))∧W.heap[g2]?=some (.cells #[.string a,.string b,.slice AP ps.length cP,.slice (some ad) ss.length cS,.bool false,.string c] 38 (0,0))∧Kd.C k76 W (some ad) ss.length ss) (ds:=[]) #[false,false,false,false,false,false,false,false,false,false,false,false] (by kernel_rfl) rfl rfl ⟨F3.out,F2.out,(cb HRS B)⟩ id B (fun w1202 hb B hHeld=>?_)
         refine with_tabW impl_ApplyEntry.tab5 impl_ApplyEntry.bits5 (fun HT_ HW_=>?_)
         replace F2:=bn F2 hb
         replace F3:=bn F3 hb
         replace F4:=bn F4 hb
         replace F6:=bn F6 hb
         replace RP156:=rn RP156 hb
         replace RS156:=rn RS156 hb
         clear hb
         refine pvq 0 (some 29) (bits 12 1) HT_ ?_
         refine pvq 1 (some 30) (bits 12 3) HT_ ?_
         refine pvq 2 (some 31) (bits 12 7) HT_ ?_
         refine tvq 3 (some 32) (bits 12 15) HT_ HW_ rfl hHeld (by intro w' hS;obtain ⟨s0,s1,s2⟩:=hS;obtain ⟨q0,q1,q2,q3,q4,q5⟩:=cs6 (Aside0.mk s0);go_simp;with_reducible rfl) ?_
         refine pvq 4 (some 33) (bits 12 31) HT_ ?_
         refine tvq 5 (some 34) (bits 12 63) HT_ HW_ rfl hHeld (by intro w' hS;obtain ⟨s0,s1,s2⟩:=hS;obtain ⟨q0,q1,q2,q3,q4,q5⟩:=cs6 (Aside0.mk s1);go_simp;with_reducible rfl) ?_
         refine pvq 6 (some 35) (bits 12 127) HT_ ?_
         refine pvq 7 (some 36) (bits 12 255) HT_ ?_
         refine pvq 8 (some 37) (bits 12 511) HT_ ?_
         refine tvq 9 (some 38) (bits 12 1023) HT_ HW_ rfl hHeld (by intro w' hS;obtain ⟨s0,s1,s2⟩:=hS;obtain ⟨_,hA,q0,q1,q2⟩:=at_T76 s2 ((plOf ss ci : Nat) : Int) (by omega) (by omega);cases hA;rw [Int.toNat_natCast] at q0 q1 q2;rw [hy] at q0 q1 q2;go_simp;with_reducible rfl) ?_
         refine pvq 10 (some 39) (bits 12 2047) HT_ ?_
         refine pvq 11 (some 40) (bits 12 4095) HT_ ?_
         refine nmq ?_
         refine done_ (done_of HT_.out (by kernel_rfl)) ?_
         clear c2_0 c2_1 c2_2 c2_3 c2_4 c2_5
         obtain ⟨c2_0,c2_1,c2_2,c2_3,c2_4,c2_5⟩:=cs6 F2
         clear c3_0 c3_1 c3_2 c3_3 c3_4 c3_5
         obtain ⟨c3_0,c3_1,c3_2,c3_3,c3_4,c3_5⟩:=cs6 F3
         clear c6_0 c6_1 c6_2 c6_3 c6_4 c6_5
         obtain ⟨c6_0,c6_1,c6_2,c6_3,c6_4,c6_5⟩:=cs6 F6)
        all_goals go_wp2_with (first
         | (go_at_call 51;with_reducible refine cl (impl_stateTakes.M a b _ _ ps _ _ ss false c k x v o _ (cb HRP B) (cb HRS B)) B fun w1203 hb B=>?_;replace F2:=bn F2 hb;replace F3:=bn F3 hb;replace F4:=bn F4 hb;replace F6:=bn F6 hb;replace RP156:=rn RP156 hb;replace RS156:=rn RS156 hb;clear c2_0 c2_1 c2_2 c2_3 c2_4 c2_5;obtain ⟨c2_0,c2_1,c2_2,c2_3,c2_4,c2_5⟩:=cs6 F2;clear c3_0 c3_1 c3_2 c3_3 c3_4 c3_5;obtain ⟨c3_0,c3_1,c3_2,c3_3,c3_4,c3_5⟩:=cs6 F3;clear c6_0 c6_1 c6_2 c6_3 c6_4 c6_5;obtain ⟨c6_0,c6_1,c6_2,c6_3,c6_4,c6_5⟩:=cs6 F6;clear hb)
         | ((with_reducible refine gate_store (t:=4) (p:=72) rfl ?_);obtain ⟨y0,y1,y2,y3,y4,y5,z0,z1,z2,z3,z4,z5⟩:=cz6 F6;refine sxq 38 4 72 4 [.bool true] [.string a,.string b,.slice AP156 ps.length kP156,.slice AS156 ss.length kS156,.bool true,.string c] B F6 L6 fun w1204 hk B G=>?_;replace F2:=bk F2 hk N2_6.out;replace F3:=bk F3 hk N3_6.out;replace F4:=bk F4 hk N4_6.out;replace RP156:=rk RP156 F6 (by decide) hk;replace RS156:=rk RS156 F6 (by decide) hk;replace F6:=G;clear c2_0 c2_1 c2_2 c2_3 c2_4 c2_5;obtain ⟨c2_0,c2_1,c2_2,c2_3,c2_4,c2_5⟩:=cs6 F2;clear c3_0 c3_1 c3_2 c3_3 c3_4 c3_5;obtain ⟨c3_0,c3_1,c3_2,c3_3,c3_4,c3_5⟩:=cs6 F3;clear c6_0 c6_1 c6_2 c6_3 c6_4 c6_5;obtain ⟨c6_0,c6_1,c6_2,c6_3,c6_4,c6_5⟩:=cs6 F6;clear hk y0 z0 y1 z1 y2 z2 y3 z3 y4 z4 y5 z5)
         | ((with_reducible refine gate_store (t:=9) (p:=76) rfl ?_);obtain ⟨y0,y1,y2,y3,y4,y5,z0,z1,z2,z3,z4,z5⟩:=cz6 F6;refine sxq 38 9 76 5 [.string x] [.string a,.string b,.slice AP156 ps.length kP156,.slice AS156 ss.length kS156,.bool true,.string x] B F6 L6 fun w1205 hk B G=>?_;replace F2:=bk F2 hk N2_6.out;replace F3:=bk F3 hk N3_6.out;replace F4:=bk F4 hk N4_6.out;replace RP156:=rk RP156 F6 (by decide) hk;replace RS156:=rk RS156 F6 (by decide) hk;replace F6:=G;clear c2_0 c2_1 c2_2 c2_3 c2_4 c2_5;obtain ⟨c2_0,c2_1,c2_2,c2_3,c2_4,c2_5⟩:=cs6 F2;clear c3_0 c3_1 c3_2 c3_3 c3_4 c3_5;obtain ⟨c3_0,c3_1,c3_2,c3_3,c3_4,c3_5⟩:=cs6 F3;clear c6_0 c6_1 c6_2 c6_3 c6_4 c6_5;obtain ⟨c6_0,c6_1,c6_2,c6_3,c6_4,c6_5⟩:=cs6 F6;clear hk y0 z0 y1 z1 y2 z2 y3 z3 y4 z4 y5 z5)
         | (go_at_call 53;with_reducible refine cr (impl_SessionPut.M _ _ ss ci sq 0 _ (cb HRS B) HCS.out) B fun AU1206 kU1206 w1206 hb B RU1206 QU1206=>?_;have DP156_U1206:=fr QU1206 RP156;have DS156_U1206:=fr QU1206 RS156;replace F2:=bn F2 hb;replace F3:=bn F3 hb;replace F4:=bn F4 hb;replace F6:=bn F6 hb;replace RP156:=rn RP156 hb;replace RS156:=rn RS156 hb;clear QU1206;clear c6_0 c6_1 c6_2 c6_3 c6_4 c6_5;obtain ⟨c6_0,c6_1,c6_2,c6_3,c6_4,c6_5⟩:=cs6 F6;clear hb)
         | ((with_reducible refine gate_store (t:=36) (p:=98) rfl ?_);obtain ⟨y0,y1,y2,y3,y4,y5,z0,z1,z2,z3,z4,z5⟩:=cz6 F6;refine sxq 38 36 98 3 [.slice AU1206 (putB ss ⟨ci,sq,0⟩).1.length kU1206] [.string a,.string b,.slice AP156 ps.length kP156,.slice AU1206 (putB ss ⟨ci,sq,0⟩).1.length kU1206,.bool true,.string x] B F6 L6 fun w1207 hk B G=>?_;replace F2:=bk F2 hk N2_6.out;replace F3:=bk F3 hk N3_6.out;replace F4:=bk F4 hk N4_6.out;replace RP156:=rk RP156 F6 (by decide) hk;replace RS156:=rk RS156 F6 (by decide) hk;replace RU1206:=rk RU1206 F6 (by decide) hk;replace F6:=G;clear c6_0 c6_1 c6_2 c6_3 c6_4 c6_5;obtain ⟨c6_0,c6_1,c6_2,c6_3,c6_4,c6_5⟩:=cs6 F6;clear hk y0 z0 y1 z1 y2 z2 y3 z3 y4 z4 y5 z5)
         | ((with_reducible refine gate_store (t:=38) (p:=4) rfl ?_);obtain ⟨y0,y1,y2,y3,y4,y5,z0,z1,z2,z3,z4,z5⟩:=cz6 F4;refine sxq 38 38 4 0 [.string a,.string b,.slice AP156 ps.length kP156,.slice AU1206 (putB ss ⟨ci,sq,0⟩).1.length kU1206,.bool true,.string x] [.string a,.string b,.slice AP156 ps.length kP156,.slice AU1206 (putB ss ⟨ci,sq,0⟩).1.length kU1206,.bool true,.string x] B F4 L4 fun w1208 hk B G=>?_;replace F2:=bk F2 hk N2_4.out;replace F3:=bk F3 hk N3_4.out;replace RP156:=rk RP156 F4 (by decide) hk;replace RS156:=rk RS156 F4 (by decide) hk;replace RU1206:=rk RU1206 F4 (by decide) hk;replace F4:=G;clear hk y0 z0 y1 z1 y2 z2 y3 z3 y4 z4 y5 z5))
        all_goals (try (refine bodyPost_ret (results_list (rs:=[.cell 4 38,.tmp 5]) rfl (by simp) (.cell g4 38 _ (0,0) _ rfl F4.out hu rfl (by kernel_rfl) (.tmp .nil))) rfl ?_);exact ⟨_,_,rfl,RP156.out,RU1206.out,B.out⟩)
       ·have d5 : (k == 5)=false:=beq_eq_false_iff_ne.mpr h5
        rw [show applM ⟨a,b,ps,ss,false,c⟩ ci sq k x v o=(⟨a,b,(apM ps k x v o).1,(putB ss ⟨ci,sq,(apM ps k x v o).2⟩).1,false,c⟩,(apM ps k x v o).2) from if_neg h5] at hr
        subst hr
        clear hh hcm hsq hN hid h5
        go_wp2_with (first
         | (go_at_call 50;with_reducible refine cl (impl_sessionPlace.Mb _ _ ss ci _ (cb HRS B) HCS.out hv true hit) B fun w1301 hb B=>?_;replace F2:=bn F2 hb;replace F3:=bn F3 hb;replace F4:=bn F4 hb;replace F6:=bn F6 hb;replace RP156:=rn RP156 hb;replace RS156:=rn RS156 hb;clear c2_0 c2_1 c2_2 c2_3 c2_4 c2_5;obtain ⟨c2_0,c2_1,c2_2,c2_3,c2_4,c2_5⟩:=cs6 F2;clear c3_0 c3_1 c3_2 c3_3 c3_4 c3_5;obtain ⟨c3_0,c3_1,c3_2,c3_3,c3_4,c3_5⟩:=cs6 F3;clear c6_0 c6_1 c6_2 c6_3 c6_4 c6_5;obtain ⟨c6_0,c6_1,c6_2,c6_3,c6_4,c6_5⟩:=cs6 F6;clear hb))
        all_goals (
         refine rg (n:=12) (S:=fun W=>W.heap[g3]?=some (.cells #[.int .i64 (ci),.int .i64 (sq),.int .i64 (k),.string x,.int .i64 (v),.int .i64 (o)] 44 (0,0))∧W.heap[g2]?=some (.cells #[.string a,.string b,.slice AP ps.length cP,.slice (some ad) ss.length cS,.bool false,.string c] 38 (0,0))∧Kd.C k76 W (some ad) ss.length ss) (ds:=[]) #[false,false,false,false,false,false,false,false,false,false,false,false] (by kernel_rfl) rfl rfl ⟨F3.out,F2.out,(cb HRS B)⟩ id B (fun w1302 hb B hHeld=>?_)
         refine with_tabW impl_ApplyEntry.tab5 impl_ApplyEntry.bits5 (fun HT_ HW_=>?_)
         replace F2:=bn F2 hb
         replace F3:=bn F3 hb
         replace F4:=bn F4 hb
         replace F6:=bn F6 hb
         replace RP156:=rn RP156 hb
         replace RS156:=rn RS156 hb
         clear hb
         refine pvq 0 (some 29) (bits 12 1) HT_ ?_
         refine pvq 1 (some 30) (bits 12 3) HT_ ?_
         refine pvq 2 (some 31) (bits 12 7) HT_ ?_
         refine tvq 3 (some 32) (bits 12 15) HT_ HW_ rfl hHeld (by intro w' hS;obtain ⟨s0,s1,s2⟩:=hS;obtain ⟨q0,q1,q2,q3,q4,q5⟩:=cs6 (Aside0.mk s0);go_simp;with_reducible rfl) ?_
         refine pvq 4 (some 33) (bits 12 31) HT_ ?_
         refine tvq 5 (some 34) (bits 12 63) HT_ HW_ rfl hHeld (by intro w' hS;obtain ⟨s0,s1,s2⟩:=hS;obtain ⟨q0,q1,q2,q3,q4,q5⟩:=cs6 (Aside0.mk s1);go_simp;with_reducible rfl) ?_
         refine pvq 6 (some 35) (bits 12 127) HT_ ?_
         refine pvq 7 (some 36) (bits 12 255) HT_ ?_
         refine pvq 8 (some 37) (bits 12 511) HT_ ?_
         refine tvq 9 (some 38) (bits 12 1023) HT_ HW_ rfl hHeld (by intro w' hS;obtain ⟨s0,s1,s2⟩:=hS;obtain ⟨_,hA,q0,q1,q2⟩:=at_T76 s2 ((plOf ss ci : Nat) : Int) (by omega) (by omega);cases hA;rw [Int.toNat_natCast] at q0 q1 q2;rw [hy] at q0 q1 q2;go_simp;with_reducible rfl) ?_
         refine pvq 10 (some 39) (bits 12 2047) HT_ ?_
         refine pvq 11 (some 40) (bits 12 4095) HT_ ?_
         refine nmq ?_
         refine done_ (done_of HT_.out (by kernel_rfl)) ?_
         clear c2_0 c2_1 c2_2 c2_3 c2_4 c2_5
         obtain ⟨c2_0,c2_1,c2_2,c2_3,c2_4,c2_5⟩:=cs6 F2
         clear c3_0 c3_1 c3_2 c3_3 c3_4 c3_5
         obtain ⟨c3_0,c3_1,c3_2,c3_3,c3_4,c3_5⟩:=cs6 F3
         clear c6_0 c6_1 c6_2 c6_3 c6_4 c6_5
         obtain ⟨c6_0,c6_1,c6_2,c6_3,c6_4,c6_5⟩:=cs6 F6)
        all_goals go_wp2_with (first
         | (go_at_call 51;with_reducible refine cl (impl_stateTakes.M a b _ _ ps _ _ ss false c k x v o _ (cb HRP B) (cb HRS B)) B fun w1303 hb B=>?_;replace F2:=bn F2 hb;replace F3:=bn F3 hb;replace F4:=bn F4 hb;replace F6:=bn F6 hb;replace RP156:=rn RP156 hb;replace RS156:=rn RS156 hb;clear c2_0 c2_1 c2_2 c2_3 c2_4 c2_5;obtain ⟨c2_0,c2_1,c2_2,c2_3,c2_4,c2_5⟩:=cs6 F2;clear c3_0 c3_1 c3_2 c3_3 c3_4 c3_5;obtain ⟨c3_0,c3_1,c3_2,c3_3,c3_4,c3_5⟩:=cs6 F3;clear c6_0 c6_1 c6_2 c6_3 c6_4 c6_5;obtain ⟨c6_0,c6_1,c6_2,c6_3,c6_4,c6_5⟩:=cs6 F6;clear hb)
         | (go_at_call 52;with_reducible refine cr (impl_ApplyCommand.M _ _ ps k x v o _ (cb HRP B) HCP.out) B fun AC1304 kC1304 w1304 hb B RC1304 QC1304=>?_;have DP156_C1304:=fr QC1304 RP156;have DS156_C1304:=fr QC1304 RS156;replace F2:=bn F2 hb;replace F3:=bn F3 hb;replace F4:=bn F4 hb;replace F6:=bn F6 hb;replace RP156:=rn RP156 hb;replace RS156:=rn RS156 hb;clear QC1304;clear c2_0 c2_1 c2_2 c2_3 c2_4 c2_5;obtain ⟨c2_0,c2_1,c2_2,c2_3,c2_4,c2_5⟩:=cs6 F2;clear c3_0 c3_1 c3_2 c3_3 c3_4 c3_5;obtain ⟨c3_0,c3_1,c3_2,c3_3,c3_4,c3_5⟩:=cs6 F3;clear c6_0 c6_1 c6_2 c6_3 c6_4 c6_5;obtain ⟨c6_0,c6_1,c6_2,c6_3,c6_4,c6_5⟩:=cs6 F6;clear hb)
         | ((with_reducible refine gate_store (t:=35) (p:=85) rfl ?_);obtain ⟨y0,y1,y2,y3,y4,y5,z0,z1,z2,z3,z4,z5⟩:=cz6 F6;refine sxq 38 35 85 2 [.slice AC1304 (apM ps k x v o).1.length kC1304] [.string a,.string b,.slice AC1304 (apM ps k x v o).1.length kC1304,.slice AS156 ss.length kS156,.bool false,.string c] B F6 L6 fun w1305 hk B G=>?_;replace F2:=bk F2 hk N2_6.out;replace F3:=bk F3 hk N3_6.out;replace F4:=bk F4 hk N4_6.out;replace RP156:=rk RP156 F6 (by decide) hk;replace RS156:=rk RS156 F6 (by decide) hk;replace RC1304:=rk RC1304 F6 (by decide) hk;replace F6:=G;clear c2_0 c2_1 c2_2 c2_3 c2_4 c2_5;obtain ⟨c2_0,c2_1,c2_2,c2_3,c2_4,c2_5⟩:=cs6 F2;clear c3_0 c3_1 c3_2 c3_3 c3_4 c3_5;obtain ⟨c3_0,c3_1,c3_2,c3_3,c3_4,c3_5⟩:=cs6 F3;clear c6_0 c6_1 c6_2 c6_3 c6_4 c6_5;obtain ⟨c6_0,c6_1,c6_2,c6_3,c6_4,c6_5⟩:=cs6 F6;clear hk y0 z0 y1 z1 y2 z2 y3 z3 y4 z4 y5 z5)
         | (go_at_call 53;with_reducible refine cr (impl_SessionPut.M _ _ ss ci sq (apM ps k x v o).2 _ (cb HRS B) HCS.out) B fun AU1306 kU1306 w1306 hb B RU1306 QU1306=>?_;have DP156_U1306:=fr QU1306 RP156;have DS156_U1306:=fr QU1306 RS156;have DC1304_U1306:=fr QU1306 RC1304;replace F2:=bn F2 hb;replace F3:=bn F3 hb;replace F4:=bn F4 hb;replace F6:=bn F6 hb;replace RS156:=rn RS156 hb;replace RC1304:=rn RC1304 hb;clear QU1306;clear c6_0 c6_1 c6_2 c6_3 c6_4 c6_5;obtain ⟨c6_0,c6_1,c6_2,c6_3,c6_4,c6_5⟩:=cs6 F6;clear hb)
         | ((with_reducible refine gate_store (t:=36) (p:=98) rfl ?_);obtain ⟨y0,y1,y2,y3,y4,y5,z0,z1,z2,z3,z4,z5⟩:=cz6 F6;refine sxq 38 36 98 3 [.slice AU1306 (putB ss ⟨ci,sq,(apM ps k x v o).2⟩).1.length kU1306] [.string a,.string b,.slice AC1304 (apM ps k x v o).1.length kC1304,.slice AU1306 (putB ss ⟨ci,sq,(apM ps k x v o).2⟩).1.length kU1306,.bool false,.string c] B F6 L6 fun w1307 hk B G=>?_;replace F2:=bk F2 hk N2_6.out;replace F3:=bk F3 hk N3_6.out;replace F4:=bk F4 hk N4_6.out;replace RS156:=rk RS156 F6 (by decide) hk;replace RC1304:=rk RC1304 F6 (by decide) hk;replace RU1306:=rk RU1306 F6 (by decide) hk;replace F6:=G;clear c6_0 c6_1 c6_2 c6_3 c6_4 c6_5;obtain ⟨c6_0,c6_1,c6_2,c6_3,c6_4,c6_5⟩:=cs6 F6;clear hk y0 z0 y1 z1 y2 z2 y3 z3 y4 z4 y5 z5)
         | ((with_reducible refine gate_store (t:=38) (p:=4) rfl ?_);obtain ⟨y0,y1,y2,y3,y4,y5,z0,z1,z2,z3,z4,z5⟩:=cz6 F4;refine sxq 38 38 4 0 [.string a,.string b,.slice AC1304 (apM ps k x v o).1.length kC1304,.slice AU1306 (putB ss ⟨ci,sq,(apM ps k x v o).2⟩).1.length kU1306,.bool false,.string c] [.string a,.string b,.slice AC1304 (apM ps k x v o).1.length kC1304,.slice AU1306 (putB ss ⟨ci,sq,(apM ps k x v o).2⟩).1.length kU1306,.bool false,.string c] B F4 L4 fun w1308 hk B G=>?_;replace F2:=bk F2 hk N2_4.out;replace F3:=bk F3 hk N3_4.out;replace RS156:=rk RS156 F4 (by decide) hk;replace RC1304:=rk RC1304 F4 (by decide) hk;replace RU1306:=rk RU1306 F4 (by decide) hk;replace F4:=G;clear hk y0 z0 y1 z1 y2 z2 y3 z3 y4 z4 y5 z5))
        all_goals (try (refine bodyPost_ret (results_list (rs:=[.cell 4 38,.tmp 5]) rfl (by simp) (.cell g4 38 _ (0,0) _ rfl F4.out hu rfl (by kernel_rfl) (.tmp .nil))) rfl ?_);exact ⟨_,_,rfl,RC1304.out,RU1306.out,B.out⟩)
   | false =>
    have hf0:=miss_findS hv hit
    have hN : idleN ⟨a,b,ps,ss,t,c⟩ ci sq=-3:=(if_neg (show ¬ (findS ss ci).f1=sq by omega)).trans (if_neg (show ¬ sq < (findS ss ci).f1 by omega))
    have hle : decide (sq≤(findS ss ci).f1)=false:=decide_eq_false (by omega)
    clear hf0 hcl
    cases t with
    | true =>
     rw [aeM_idle hh (by unfold idleB;simp),hN] at hr
     subst hr
     clear hh hcm hsq hN hle
     go_wp2_with (first
      | (go_at_call 50;with_reducible refine cl (impl_sessionPlace.Mb _ _ ss ci _ (cb HRS B) HCS.out hv false hit) B fun w2001 hb B=>?_;replace F2:=bn F2 hb;replace F3:=bn F3 hb;replace F4:=bn F4 hb;replace F6:=bn F6 hb;replace RP156:=rn RP156 hb;replace RS156:=rn RS156 hb;clear c2_0 c2_1 c2_2 c2_3 c2_4 c2_5;obtain ⟨c2_0,c2_1,c2_2,c2_3,c2_4,c2_5⟩:=cs6 F2;clear c3_0 c3_1 c3_2 c3_3 c3_4 c3_5;obtain ⟨c3_0,c3_1,c3_2,c3_3,c3_4,c3_5⟩:=cs6 F3;clear c6_0 c6_1 c6_2 c6_3 c6_4 c6_5;obtain ⟨c6_0,c6_1,c6_2,c6_3,c6_4,c6_5⟩:=cs6 F6;clear hb))
     all_goals (
      refine rg (n:=12) (S:=fun W=>W.heap[g3]?=some (.cells #[.int .i64 (ci),.int .i64 (sq),.int .i64 (k),.string x,.int .i64 (v),.int .i64 (o)] 44 (0,0))∧W.heap[g2]?=some (.cells #[.string a,.string b,.slice AP ps.length cP,.slice AS ss.length cS,.bool true,.string c] 38 (0,0))∧Kd.C k76 W AS ss.length ss) (ds:=[]) #[false,false,false,false,false,false,false,false,false,false,false,false] (by kernel_rfl) rfl rfl ⟨F3.out,F2.out,(cb HRS B)⟩ id B (fun w2002 hb B hHeld=>?_)
      refine with_tabW impl_ApplyEntry.tab5 impl_ApplyEntry.bits5 (fun HT_ HW_=>?_)
      replace F2:=bn F2 hb
      replace F3:=bn F3 hb
      replace F4:=bn F4 hb
      replace F6:=bn F6 hb
      replace RP156:=rn RP156 hb
      replace RS156:=rn RS156 hb
      clear hb
      refine pvq 0 (some 29) (bits 12 1) HT_ ?_
      refine pvq 1 (some 30) (bits 12 3) HT_ ?_
      refine svq 2 (some 31) (bits 12 7) HT_ ?_
      refine svq 3 (some 32) (bits 12 15) HT_ ?_
      refine svq 4 (some 33) (bits 12 31) HT_ ?_
      refine svq 5 (some 34) (bits 12 63) HT_ ?_
      refine svq 6 (some 35) (bits 12 127) HT_ ?_
      refine svq 7 (some 36) (bits 12 255) HT_ ?_
      refine svq 8 (some 37) (bits 12 511) HT_ ?_
      refine svq 9 (some 38) (bits 12 1023) HT_ ?_
      refine svq 10 (some 39) (bits 12 2047) HT_ ?_
      refine pvq 11 (some 40) (bits 12 4095) HT_ ?_
      refine nmq ?_
      refine done_ (done_of HT_.out (by kernel_rfl)) ?_
      clear c2_0 c2_1 c2_2 c2_3 c2_4 c2_5
      obtain ⟨c2_0,c2_1,c2_2,c2_3,c2_4,c2_5⟩:=cs6 F2
      clear c3_0 c3_1 c3_2 c3_3 c3_4 c3_5
      obtain ⟨c3_0,c3_1,c3_2,c3_3,c3_4,c3_5⟩:=cs6 F3
      clear c6_0 c6_1 c6_2 c6_3 c6_4 c6_5
      obtain ⟨c6_0,c6_1,c6_2,c6_3,c6_4,c6_5⟩:=cs6 F6)
     all_goals go_wp2_with (first
      | (go_at_call 51;with_reducible refine cl (impl_stateTakes.M a b _ _ ps _ _ ss true c k x v o _ (cb HRP B) (cb HRS B)) B fun w2003 hb B=>?_;replace F2:=bn F2 hb;replace F3:=bn F3 hb;replace F4:=bn F4 hb;replace F6:=bn F6 hb;replace RP156:=rn RP156 hb;replace RS156:=rn RS156 hb;clear c6_0 c6_1 c6_2 c6_3 c6_4 c6_5;obtain ⟨c6_0,c6_1,c6_2,c6_3,c6_4,c6_5⟩:=cs6 F6;clear hb)
      | ((with_reducible refine gate_store (t:=38) (p:=4) rfl ?_);obtain ⟨y0,y1,y2,y3,y4,y5,z0,z1,z2,z3,z4,z5⟩:=cz6 F4;refine sxq 38 38 4 0 [.string a,.string b,.slice AP156 ps.length kP156,.slice AS156 ss.length kS156,.bool true,.string c] [.string a,.string b,.slice AP156 ps.length kP156,.slice AS156 ss.length kS156,.bool true,.string c] B F4 L4 fun w2004 hk B G=>?_;replace F2:=bk F2 hk N2_4.out;replace F3:=bk F3 hk N3_4.out;replace RP156:=rk RP156 F4 (by decide) hk;replace RS156:=rk RS156 F4 (by decide) hk;replace F4:=G;clear hk y0 z0 y1 z1 y2 z2 y3 z3 y4 z4 y5 z5))
     all_goals (try (refine bodyPost_ret (results_list (rs:=[.cell 4 38,.tmp 5]) rfl (by simp) (.cell g4 38 _ (0,0) _ rfl F4.out hu rfl (by kernel_rfl) (.tmp .nil))) rfl ?_);exact ⟨_,_,rfl,RP156.out,RS156.out,B.out⟩)
    | false =>
     have hid : idleB ⟨a,b,ps,ss,false,c⟩ ci sq k x=!takesB a b k x:=by unfold idleB;rw [hle];rfl
     clear hle
     cases htk : takesB a b k x with
     | false =>
      rw [aeM_idle hh (by rw [hid,htk];rfl),hN] at hr
      subst hr
      clear hh hcm hsq hN hid
      go_wp2_with (first
       | (go_at_call 50;with_reducible refine cl (impl_sessionPlace.Mb _ _ ss ci _ (cb HRS B) HCS.out hv false hit) B fun w2101 hb B=>?_;replace F2:=bn F2 hb;replace F3:=bn F3 hb;replace F4:=bn F4 hb;replace F6:=bn F6 hb;replace RP156:=rn RP156 hb;replace RS156:=rn RS156 hb;clear c2_0 c2_1 c2_2 c2_3 c2_4 c2_5;obtain ⟨c2_0,c2_1,c2_2,c2_3,c2_4,c2_5⟩:=cs6 F2;clear c3_0 c3_1 c3_2 c3_3 c3_4 c3_5;obtain ⟨c3_0,c3_1,c3_2,c3_3,c3_4,c3_5⟩:=cs6 F3;clear c6_0 c6_1 c6_2 c6_3 c6_4 c6_5;obtain ⟨c6_0,c6_1,c6_2,c6_3,c6_4,c6_5⟩:=cs6 F6;clear hb))
      all_goals (
       refine rg (n:=12) (S:=fun W=>W.heap[g3]?=some (.cells #[.int .i64 (ci),.int .i64 (sq),.int .i64 (k),.string x,.int .i64 (v),.int .i64 (o)] 44 (0,0))∧W.heap[g2]?=some (.cells #[.string a,.string b,.slice AP ps.length cP,.slice AS ss.length cS,.bool false,.string c] 38 (0,0))∧Kd.C k76 W AS ss.length ss) (ds:=[]) #[false,false,false,false,false,false,false,false,false,false,false,false] (by kernel_rfl) rfl rfl ⟨F3.out,F2.out,(cb HRS B)⟩ id B (fun w2102 hb B hHeld=>?_)
       refine with_tabW impl_ApplyEntry.tab5 impl_ApplyEntry.bits5 (fun HT_ HW_=>?_)
       replace F2:=bn F2 hb
       replace F3:=bn F3 hb
       replace F4:=bn F4 hb
       replace F6:=bn F6 hb
       replace RP156:=rn RP156 hb
       replace RS156:=rn RS156 hb
       clear hb
       refine pvq 0 (some 29) (bits 12 1) HT_ ?_
       refine pvq 1 (some 30) (bits 12 3) HT_ ?_
       refine svq 2 (some 31) (bits 12 7) HT_ ?_
       refine svq 3 (some 32) (bits 12 15) HT_ ?_
       refine svq 4 (some 33) (bits 12 31) HT_ ?_
       refine svq 5 (some 34) (bits 12 63) HT_ ?_
       refine svq 6 (some 35) (bits 12 127) HT_ ?_
       refine svq 7 (some 36) (bits 12 255) HT_ ?_
       refine svq 8 (some 37) (bits 12 511) HT_ ?_
       refine svq 9 (some 38) (bits 12 1023) HT_ ?_
       refine svq 10 (some 39) (bits 12 2047) HT_ ?_
       refine pvq 11 (some 40) (bits 12 4095) HT_ ?_
       refine nmq ?_
       refine done_ (done_of HT_.out (by kernel_rfl)) ?_
       clear c2_0 c2_1 c2_2 c2_3 c2_4 c2_5
       obtain ⟨c2_0,c2_1,c2_2,c2_3,c2_4,c2_5⟩:=cs6 F2
       clear c3_0 c3_1 c3_2 c3_3 c3_4 c3_5
       obtain ⟨c3_0,c3_1,c3_2,c3_3,c3_4,c3_5⟩:=cs6 F3
       clear c6_0 c6_1 c6_2 c6_3 c6_4 c6_5
       obtain ⟨c6_0,c6_1,c6_2,c6_3,c6_4,c6_5⟩:=cs6 F6)
      all_goals go_wp2_with (first
       | (go_at_call 51;with_reducible refine cl (impl_stateTakes.M a b _ _ ps _ _ ss false c k x v o _ (cb HRP B) (cb HRS B)) B fun w2103 hb B=>?_;replace F2:=bn F2 hb;replace F3:=bn F3 hb;replace F4:=bn F4 hb;replace F6:=bn F6 hb;replace RP156:=rn RP156 hb;replace RS156:=rn RS156 hb;clear c6_0 c6_1 c6_2 c6_3 c6_4 c6_5;obtain ⟨c6_0,c6_1,c6_2,c6_3,c6_4,c6_5⟩:=cs6 F6;clear hb)
       | ((with_reducible refine gate_store (t:=38) (p:=4) rfl ?_);obtain ⟨y0,y1,y2,y3,y4,y5,z0,z1,z2,z3,z4,z5⟩:=cz6 F4;refine sxq 38 38 4 0 [.string a,.string b,.slice AP156 ps.length kP156,.slice AS156 ss.length kS156,.bool false,.string c] [.string a,.string b,.slice AP156 ps.length kP156,.slice AS156 ss.length kS156,.bool false,.string c] B F4 L4 fun w2104 hk B G=>?_;replace F2:=bk F2 hk N2_4.out;replace F3:=bk F3 hk N3_4.out;replace RP156:=rk RP156 F4 (by decide) hk;replace RS156:=rk RS156 F4 (by decide) hk;replace F4:=G;clear hk y0 z0 y1 z1 y2 z2 y3 z3 y4 z4 y5 z5))
      all_goals (try (refine bodyPost_ret (results_list (rs:=[.cell 4 38,.tmp 5]) rfl (by simp) (.cell g4 38 _ (0,0) _ rfl F4.out hu rfl (by kernel_rfl) (.tmp .nil))) rfl ?_);exact ⟨_,_,rfl,RP156.out,RS156.out,B.out⟩)
     | true =>
      rw [aeM_go hh (by rw [hid,htk];rfl)] at hr
      by_cases h5 : k=5
      ·have d5 : (k == 5)=true:=by rw [h5];rfl
       rw [show applM ⟨a,b,ps,ss,false,c⟩ ci sq k x v o=(⟨a,b,ps,(putB ss ⟨ci,sq,0⟩).1,true,x⟩,0) from if_pos h5] at hr
       subst hr
       clear hh hcm hsq hN hid h5
       go_wp2_with (first
        | (go_at_call 50;with_reducible refine cl (impl_sessionPlace.Mb _ _ ss ci _ (cb HRS B) HCS.out hv false hit) B fun w2201 hb B=>?_;replace F2:=bn F2 hb;replace F3:=bn F3 hb;replace F4:=bn F4 hb;replace F6:=bn F6 hb;replace RP156:=rn RP156 hb;replace RS156:=rn RS156 hb;clear c2_0 c2_1 c2_2 c2_3 c2_4 c2_5;obtain ⟨c2_0,c2_1,c2_2,c2_3,c2_4,c2_5⟩:=cs6 F2;clear c3_0 c3_1 c3_2 c3_3 c3_4 c3_5;obtain ⟨c3_0,c3_1,c3_2,c3_3,c3_4,c3_5⟩:=cs6 F3;clear c6_0 c6_1 c6_2 c6_3 c6_4 c6_5;obtain ⟨c6_0,c6_1,c6_2,c6_3,c6_4,c6_5⟩:=cs6 F6;clear hb))
       all_goals (
        refine rg (n:=12) (S:=fun W=>W.heap[g3]?=some (.cells #[.int .i64 (ci),.int .i64 (sq),.int .i64 (k),.string x,.int .i64 (v),.int .i64 (o)] 44 (0,0))∧W.heap[g2]?=some (.cells #[.string a,.string b,.slice AP ps.length cP,.slice AS ss.length cS,.bool false,.string c] 38 (0,0))∧Kd.C k76 W AS ss.length ss) (ds:=[]) #[false,false,false,false,false,false,false,false,false,false,false,false] (by kernel_rfl) rfl rfl ⟨F3.out,F2.out,(cb HRS B)⟩ id B (fun w2202 hb B hHeld=>?_)
        refine with_tabW impl_ApplyEntry.tab5 impl_ApplyEntry.bits5 (fun HT_ HW_=>?_)
        replace F2:=bn F2 hb
        replace F3:=bn F3 hb
        replace F4:=bn F4 hb
        replace F6:=bn F6 hb
        replace RP156:=rn RP156 hb
        replace RS156:=rn RS156 hb
        clear hb
        refine pvq 0 (some 29) (bits 12 1) HT_ ?_
        refine pvq 1 (some 30) (bits 12 3) HT_ ?_
        refine svq 2 (some 31) (bits 12 7) HT_ ?_
        refine svq 3 (some 32) (bits 12 15) HT_ ?_
        refine svq 4 (some 33) (bits 12 31) HT_ ?_
        refine svq 5 (some 34) (bits 12 63) HT_ ?_
        refine svq 6 (some 35) (bits 12 127) HT_ ?_
        refine svq 7 (some 36) (bits 12 255) HT_ ?_
        refine svq 8 (some 37) (bits 12 511) HT_ ?_
        refine svq 9 (some 38) (bits 12 1023) HT_ ?_
        refine svq 10 (some 39) (bits 12 2047) HT_ ?_
        refine pvq 11 (some 40) (bits 12 4095) HT_ ?_
        refine nmq ?_
        refine done_ (done_of HT_.out (by kernel_rfl)) ?_
        clear c2_0 c2_1 c2_2 c2_3 c2_4 c2_5
        obtain ⟨c2_0,c2_1,c2_2,c2_3,c2_4,c2_5⟩:=cs6 F2
        clear c3_0 c3_1 c3_2 c3_3 c3_4 c3_5
        obtain ⟨c3_0,c3_1,c3_2,c3_3,c3_4,c3_5⟩:=cs6 F3
        clear c6_0 c6_1 c6_2 c6_3 c6_4 c6_5
        obtain ⟨c6_0,c6_1,c6_2,c6_3,c6_4,c6_5⟩:=cs6 F6)
       all_goals go_wp2_with (first
        | (go_at_call 51;with_reducible refine cl (impl_stateTakes.M a b _ _ ps _ _ ss false c k x v o _ (cb HRP B) (cb HRS B)) B fun w2203 hb B=>?_;replace F2:=bn F2 hb;replace F3:=bn F3 hb;replace F4:=bn F4 hb;replace F6:=bn F6 hb;replace RP156:=rn RP156 hb;replace RS156:=rn RS156 hb;clear c2_0 c2_1 c2_2 c2_3 c2_4 c2_5;obtain ⟨c2_0,c2_1,c2_2,c2_3,c2_4,c2_5⟩:=cs6 F2;clear c3_0 c3_1 c3_2 c3_3 c3_4 c3_5;obtain ⟨c3_0,c3_1,c3_2,c3_3,c3_4,c3_5⟩:=cs6 F3;clear c6_0 c6_1 c6_2 c6_3 c6_4 c6_5;obtain ⟨c6_0,c6_1,c6_2,c6_3,c6_4,c6_5⟩:=cs6 F6;clear hb)
        | ((with_reducible refine gate_store (t:=4) (p:=72) rfl ?_);obtain ⟨y0,y1,y2,y3,y4,y5,z0,z1,z2,z3,z4,z5⟩:=cz6 F6;refine sxq 38 4 72 4 [.bool true] [.string a,.string b,.slice AP156 ps.length kP156,.slice AS156 ss.length kS156,.bool true,.string c] B F6 L6 fun w2204 hk B G=>?_;replace F2:=bk F2 hk N2_6.out;replace F3:=bk F3 hk N3_6.out;replace F4:=bk F4 hk N4_6.out;replace RP156:=rk RP156 F6 (by decide) hk;replace RS156:=rk RS156 F6 (by decide) hk;replace F6:=G;clear c2_0 c2_1 c2_2 c2_3 c2_4 c2_5;obtain ⟨c2_0,c2_1,c2_2,c2_3,c2_4,c2_5⟩:=cs6 F2;clear c3_0 c3_1 c3_2 c3_3 c3_4 c3_5;obtain ⟨c3_0,c3_1,c3_2,c3_3,c3_4,c3_5⟩:=cs6 F3;clear c6_0 c6_1 c6_2 c6_3 c6_4 c6_5;obtain ⟨c6_0,c6_1,c6_2,c6_3,c6_4,c6_5⟩:=cs6 F6;clear hk y0 z0 y1 z1 y2 z2 y3 z3 y4 z4 y5 z5)
        | ((with_reducible refine gate_store (t:=9) (p:=76) rfl ?_);obtain ⟨y0,y1,y2,y3,y4,y5,z0,z1,z2,z3,z4,z5⟩:=cz6 F6;refine sxq 38 9 76 5 [.string x] [.string a,.string b,.slice AP156 ps.length kP156,.slice AS156 ss.length kS156,.bool true,.string x] B F6 L6 fun w2205 hk B G=>?_;replace F2:=bk F2 hk N2_6.out;replace F3:=bk F3 hk N3_6.out;replace F4:=bk F4 hk N4_6.out;replace RP156:=rk RP156 F6 (by decide) hk;replace RS156:=rk RS156 F6 (by decide) hk;replace F6:=G;clear c2_0 c2_1 c2_2 c2_3 c2_4 c2_5;obtain ⟨c2_0,c2_1,c2_2,c2_3,c2_4,c2_5⟩:=cs6 F2;clear c3_0 c3_1 c3_2 c3_3 c3_4 c3_5;obtain ⟨c3_0,c3_1,c3_2,c3_3,c3_4,c3_5⟩:=cs6 F3;clear c6_0 c6_1 c6_2 c6_3 c6_4 c6_5;obtain ⟨c6_0,c6_1,c6_2,c6_3,c6_4,c6_5⟩:=cs6 F6;clear hk y0 z0 y1 z1 y2 z2 y3 z3 y4 z4 y5 z5)
        | (go_at_call 53;with_reducible refine cr (impl_SessionPut.M _ _ ss ci sq 0 _ (cb HRS B) HCS.out) B fun AU2206 kU2206 w2206 hb B RU2206 QU2206=>?_;have DP156_U2206:=fr QU2206 RP156;have DS156_U2206:=fr QU2206 RS156;replace F2:=bn F2 hb;replace F3:=bn F3 hb;replace F4:=bn F4 hb;replace F6:=bn F6 hb;replace RP156:=rn RP156 hb;replace RS156:=rn RS156 hb;clear QU2206;clear c6_0 c6_1 c6_2 c6_3 c6_4 c6_5;obtain ⟨c6_0,c6_1,c6_2,c6_3,c6_4,c6_5⟩:=cs6 F6;clear hb)
        | ((with_reducible refine gate_store (t:=36) (p:=98) rfl ?_);obtain ⟨y0,y1,y2,y3,y4,y5,z0,z1,z2,z3,z4,z5⟩:=cz6 F6;refine sxq 38 36 98 3 [.slice AU2206 (putB ss ⟨ci,sq,0⟩).1.length kU2206] [.string a,.string b,.slice AP156 ps.length kP156,.slice AU2206 (putB ss ⟨ci,sq,0⟩).1.length kU2206,.bool true,.string x] B F6 L6 fun w2207 hk B G=>?_;replace F2:=bk F2 hk N2_6.out;replace F3:=bk F3 hk N3_6.out;replace F4:=bk F4 hk N4_6.out;replace RP156:=rk RP156 F6 (by decide) hk;replace RS156:=rk RS156 F6 (by decide) hk;replace RU2206:=rk RU2206 F6 (by decide) hk;replace F6:=G;clear c6_0 c6_1 c6_2 c6_3 c6_4 c6_5;obtain ⟨c6_0,c6_1,c6_2,c6_3,c6_4,c6_5⟩:=cs6 F6;clear hk y0 z0 y1 z1 y2 z2 y3 z3 y4 z4 y5 z5)
        | ((with_reducible refine gate_store (t:=38) (p:=4) rfl ?_);obtain ⟨y0,y1,y2,y3,y4,y5,z0,z1,z2,z3,z4,z5⟩:=cz6 F4;refine sxq 38 38 4 0 [.string a,.string b,.slice AP156 ps.length kP156,.slice AU2206 (putB ss ⟨ci,sq,0⟩).1.length kU2206,.bool true,.string x] [.string a,.string b,.slice AP156 ps.length kP156,.slice AU2206 (putB ss ⟨ci,sq,0⟩).1.length kU2206,.bool true,.string x] B F4 L4 fun w2208 hk B G=>?_;replace F2:=bk F2 hk N2_4.out;replace F3:=bk F3 hk N3_4.out;replace RP156:=rk RP156 F4 (by decide) hk;replace RS156:=rk RS156 F4 (by decide) hk;replace RU2206:=rk RU2206 F4 (by decide) hk;replace F4:=G;clear hk y0 z0 y1 z1 y2 z2 y3 z3 y4 z4 y5 z5))
       all_goals (try (refine bodyPost_ret (results_list (rs:=[.cell 4 38,.tmp 5]) rfl (by simp) (.cell g4 38 _ (0,0) _ rfl F4.out hu rfl (by kernel_rfl) (.tmp .nil))) rfl ?_);exact ⟨_,_,rfl,RP156.out,RU2206.out,B.out⟩)
      ·have d5 : (k == 5)=false:=beq_eq_false_iff_ne.mpr h5
       rw [show applM ⟨a,b,ps,ss,false,c⟩ ci sq k x v o=(⟨a,b,(apM ps k x v o).1,(putB ss ⟨ci,sq,(apM ps k x v o).2⟩).1,false,c⟩,(apM ps k x v o).2) from if_neg h5] at hr
       subst hr
       clear hh hcm hsq hN hid h5
       go_wp2_with (first
        | (go_at_call 50;with_reducible refine cl (impl_sessionPlace.Mb _ _ ss ci _ (cb HRS B) HCS.out hv false hit) B fun w2301 hb B=>?_;replace F2:=bn F2 hb;replace F3:=bn F3 hb;replace F4:=bn F4 hb;replace F6:=bn F6 hb;replace RP156:=rn RP156 hb;replace RS156:=rn RS156 hb;clear c2_0 c2_1 c2_2 c2_3 c2_4 c2_5;obtain ⟨c2_0,c2_1,c2_2,c2_3,c2_4,c2_5⟩:=cs6 F2;clear c3_0 c3_1 c3_2 c3_3 c3_4 c3_5;obtain ⟨c3_0,c3_1,c3_2,c3_3,c3_4,c3_5⟩:=cs6 F3;clear c6_0 c6_1 c6_2 c6_3 c6_4 c6_5;obtain ⟨c6_0,c6_1,c6_2,c6_3,c6_4,c6_5⟩:=cs6 F6;clear hb))
       all_goals (
        refine rg (n:=12) (S:=fun W=>W.heap[g3]?=some (.cells #[.int .i64 (ci),.int .i64 (sq),.int .i64 (k),.string x,.int .i64 (v),.int .i64 (o)] 44 (0,0))∧W.heap[g2]?=some (.cells #[.string a,.string b,.slice AP ps.length cP,.slice AS ss.length cS,.bool false,.string c] 38 (0,0))∧Kd.C k76 W AS ss.length ss) (ds:=[]) #[false,false,false,false,false,false,false,false,false,false,false,false] (by kernel_rfl) rfl rfl ⟨F3.out,F2.out,(cb HRS B)⟩ id B (fun w2302 hb B hHeld=>?_)
        refine with_tabW impl_ApplyEntry.tab5 impl_ApplyEntry.bits5 (fun HT_ HW_=>?_)
        replace F2:=bn F2 hb
        replace F3:=bn F3 hb
        replace F4:=bn F4 hb
        replace F6:=bn F6 hb
        replace RP156:=rn RP156 hb
        replace RS156:=rn RS156 hb
        clear hb
        refine pvq 0 (some 29) (bits 12 1) HT_ ?_
        refine pvq 1 (some 30) (bits 12 3) HT_ ?_
        refine svq 2 (some 31) (bits 12 7) HT_ ?_
        refine svq 3 (some 32) (bits 12 15) HT_ ?_
        refine svq 4 (some 33) (bits 12 31) HT_ ?_
        refine svq 5 (some 34) (bits 12 63) HT_ ?_
        refine svq 6 (some 35) (bits 12 127) HT_ ?_
        refine svq 7 (some 36) (bits 12 255) HT_ ?_
        refine svq 8 (some 37) (bits 12 511) HT_ ?_
        refine svq 9 (some 38) (bits 12 1023) HT_ ?_
        refine svq 10 (some 39) (bits 12 2047) HT_ ?_
        refine pvq 11 (some 40) (bits 12 4095) HT_ ?_
        refine nmq ?_
        refine done_ (done_of HT_.out (by kernel_rfl)) ?_
        clear c2_0 c2_1 c2_2 c2_3 c2_4 c2_5
        obtain ⟨c2_0,c2_1,c2_2,c2_3,c2_4,c2_5⟩:=cs6 F2
        clear c3_0 c3_1 c3_2 c3_3 c3_4 c3_5
        obtain ⟨c3_0,c3_1,c3_2,c3_3,c3_4,c3_5⟩:=cs6 F3
        clear c6_0 c6_1 c6_2 c6_3 c6_4 c6_5
        obtain ⟨c6_0,c6_1,c6_2,c6_3,c6_4,c6_5⟩:=cs6 F6)
       all_goals go_wp2_with (first
        | (go_at_call 51;with_reducible refine cl (impl_stateTakes.M a b _ _ ps _ _ ss false c k x v o _ (cb HRP B) (cb HRS B)) B fun w2303 hb B=>?_;replace F2:=bn F2 hb;replace F3:=bn F3 hb;replace F4:=bn F4 hb;replace F6:=bn F6 hb;replace RP156:=rn RP156 hb;replace RS156:=rn RS156 hb;clear c2_0 c2_1 c2_2 c2_3 c2_4 c2_5;obtain ⟨c2_0,c2_1,c2_2,c2_3,c2_4,c2_5⟩:=cs6 F2;clear c3_0 c3_1 c3_2 c3_3 c3_4 c3_5;obtain ⟨c3_0,c3_1,c3_2,c3_3,c3_4,c3_5⟩:=cs6 F3;clear c6_0 c6_1 c6_2 c6_3 c6_4 c6_5;obtain ⟨c6_0,c6_1,c6_2,c6_3,c6_4,c6_5⟩:=cs6 F6;clear hb)
        | (go_at_call 52;with_reducible refine cr (impl_ApplyCommand.M _ _ ps k x v o _ (cb HRP B) HCP.out) B fun AC2304 kC2304 w2304 hb B RC2304 QC2304=>?_;have DP156_C2304:=fr QC2304 RP156;have DS156_C2304:=fr QC2304 RS156;replace F2:=bn F2 hb;replace F3:=bn F3 hb;replace F4:=bn F4 hb;replace F6:=bn F6 hb;replace RP156:=rn RP156 hb;replace RS156:=rn RS156 hb;clear QC2304;clear c2_0 c2_1 c2_2 c2_3 c2_4 c2_5;obtain ⟨c2_0,c2_1,c2_2,c2_3,c2_4,c2_5⟩:=cs6 F2;clear c3_0 c3_1 c3_2 c3_3 c3_4 c3_5;obtain ⟨c3_0,c3_1,c3_2,c3_3,c3_4,c3_5⟩:=cs6 F3;clear c6_0 c6_1 c6_2 c6_3 c6_4 c6_5;obtain ⟨c6_0,c6_1,c6_2,c6_3,c6_4,c6_5⟩:=cs6 F6;clear hb)
        | ((with_reducible refine gate_store (t:=35) (p:=85) rfl ?_);obtain ⟨y0,y1,y2,y3,y4,y5,z0,z1,z2,z3,z4,z5⟩:=cz6 F6;refine sxq 38 35 85 2 [.slice AC2304 (apM ps k x v o).1.length kC2304] [.string a,.string b,.slice AC2304 (apM ps k x v o).1.length kC2304,.slice AS156 ss.length kS156,.bool false,.string c] B F6 L6 fun w2305 hk B G=>?_;replace F2:=bk F2 hk N2_6.out;replace F3:=bk F3 hk N3_6.out;replace F4:=bk F4 hk N4_6.out;replace RP156:=rk RP156 F6 (by decide) hk;replace RS156:=rk RS156 F6 (by decide) hk;replace RC2304:=rk RC2304 F6 (by decide) hk;replace F6:=G;clear c2_0 c2_1 c2_2 c2_3 c2_4 c2_5;obtain ⟨c2_0,c2_1,c2_2,c2_3,c2_4,c2_5⟩:=cs6 F2;clear c3_0 c3_1 c3_2 c3_3 c3_4 c3_5;obtain ⟨c3_0,c3_1,c3_2,c3_3,c3_4,c3_5⟩:=cs6 F3;clear c6_0 c6_1 c6_2 c6_3 c6_4 c6_5;obtain ⟨c6_0,c6_1,c6_2,c6_3,c6_4,c6_5⟩:=cs6 F6;clear hk y0 z0 y1 z1 y2 z2 y3 z3 y4 z4 y5 z5)
        | (go_at_call 53;with_reducible refine cr (impl_SessionPut.M _ _ ss ci sq (apM ps k x v o).2 _ (cb HRS B) HCS.out) B fun AU2306 kU2306 w2306 hb B RU2306 QU2306=>?_;have DP156_U2306:=fr QU2306 RP156;have DS156_U2306:=fr QU2306 RS156;have DC2304_U2306:=fr QU2306 RC2304;replace F2:=bn F2 hb;replace F3:=bn F3 hb;replace F4:=bn F4 hb;replace F6:=bn F6 hb;replace RS156:=rn RS156 hb;replace RC2304:=rn RC2304 hb;clear QU2306;clear c6_0 c6_1 c6_2 c6_3 c6_4 c6_5;obtain ⟨c6_0,c6_1,c6_2,c6_3,c6_4,c6_5⟩:=cs6 F6;clear hb)
        | ((with_reducible refine gate_store (t:=36) (p:=98) rfl ?_);obtain ⟨y0,y1,y2,y3,y4,y5,z0,z1,z2,z3,z4,z5⟩:=cz6 F6;refine sxq 38 36 98 3 [.slice AU2306 (putB ss ⟨ci,sq,(apM ps k x v o).2⟩).1.length kU2306] [.string a,.string b,.slice AC2304 (apM ps k x v o).1.length kC2304,.slice AU2306 (putB ss ⟨ci,sq,(apM ps k x v o).2⟩).1.length kU2306,.bool false,.string c] B F6 L6 fun w2307 hk B G=>?_;replace F2:=bk F2 hk N2_6.out;replace F3:=bk F3 hk N3_6.out;replace F4:=bk F4 hk N4_6.out;replace RS156:=rk RS156 F6 (by decide) hk;replace RC2304:=rk RC2304 F6 (by decide) hk;replace RU2306:=rk RU2306 F6 (by decide) hk;replace F6:=G;clear c6_0 c6_1 c6_2 c6_3 c6_4 c6_5;obtain ⟨c6_0,c6_1,c6_2,c6_3,c6_4,c6_5⟩:=cs6 F6;clear hk y0 z0 y1 z1 y2 z2 y3 z3 y4 z4 y5 z5)
        | ((with_reducible refine gate_store (t:=38) (p:=4) rfl ?_);obtain ⟨y0,y1,y2,y3,y4,y5,z0,z1,z2,z3,z4,z5⟩:=cz6 F4;refine sxq 38 38 4 0 [.string a,.string b,.slice AC2304 (apM ps k x v o).1.length kC2304,.slice AU2306 (putB ss ⟨ci,sq,(apM ps k x v o).2⟩).1.length kU2306,.bool false,.string c] [.string a,.string b,.slice AC2304 (apM ps k x v o).1.length kC2304,.slice AU2306 (putB ss ⟨ci,sq,(apM ps k x v o).2⟩).1.length kU2306,.bool false,.string c] B F4 L4 fun w2308 hk B G=>?_;replace F2:=bk F2 hk N2_4.out;replace F3:=bk F3 hk N3_4.out;replace RS156:=rk RS156 F4 (by decide) hk;replace RC2304:=rk RC2304 F4 (by decide) hk;replace RU2306:=rk RU2306 F4 (by decide) hk;replace F4:=G;clear hk y0 z0 y1 z1 y2 z2 y3 z3 y4 z4 y5 z5))
       all_goals (try (refine bodyPost_ret (results_list (rs:=[.cell 4 38,.tmp 5]) rfl (by simp) (.cell g4 38 _ (0,0) _ rfl F4.out hu rfl (by kernel_rfl) (.tmp .nil))) rfl ?_);exact ⟨_,_,rfl,RC2304.out,RU2306.out,B.out⟩)

theorem spec_ApplyEntry.Mr (a b : ByteArray) (AP : Option Addr) (cP : Nat) (ps : List S105) (AS : Option Addr) (cS : Nat) (ss : List S76) (t : Bool) (c : ByteArray) (ci sq k : Int) (x : ByteArray) (v o : Int) (xa xb : ByteArray) (xp : List S105) (xs : List S76) (xt : Bool) (xc : ByteArray) (nn : Int) (hm : aeM ⟨a,b,ps,ss,t,c⟩ ci sq k x v o=(⟨xa,xb,xp,xs,xt,xc⟩,nn)) (w : World) (hrp : Kd.C k105 w AP ps.length ps) (hrs : Kd.C k76 w AS ss.length ss) (hcp : ps.length≤cP) (hcs : ss.length≤cS) : Calls Try.prog 9 #[.agg #[.string a,.string b,.slice AP ps.length cP,.slice AS ss.length cS,.bool t,.string c],.agg #[.int .i64 ci,.int .i64 sq,.int .i64 k,.string x,.int .i64 v,.int .i64 o]] w fun e w'=>∃ v2 v3,e=.returned (.tuple #[.agg #[.string xa,.string xb,v2,v3,.bool xt,.string xc],.int .i64 nn])∧Kd.R k105 105 w' w.heap.size (fun _=>True) v2 xp∧Kd.R k76 76 w' w.heap.size (fun _=>True) v3 xs∧Below w.heap.size w w':=by
 have h:=spec_ApplyEntry.M a b AP cP ps AS cS ss t c ci sq k x v o w hrp hrs hcp hcs
 rw [hm] at h
 exact h
theorem impl_ApplyEntry.Mr (a b : ByteArray) (AP : Option Addr) (cP : Nat) (ps : List S105) (AS : Option Addr) (cS : Nat) (ss : List S76) (t : Bool) (c : ByteArray) (ci sq k : Int) (x : ByteArray) (v o : Int) (xa xb : ByteArray) (xp : List S105) (xs : List S76) (xt : Bool) (xc : ByteArray) (nn : Int) (hm : aeM ⟨a,b,ps,ss,t,c⟩ ci sq k x v o=(⟨xa,xb,xp,xs,xt,xc⟩,nn)) (w : World) (hrp : Kd.C k105 w AP ps.length ps) (hrs : Kd.C k76 w AS ss.length ss) (hcp : ps.length≤cP) (hcs : ss.length≤cS) : Calls Try.prog 12 #[.agg #[.string a,.string b,.slice AP ps.length cP,.slice AS ss.length cS,.bool t,.string c],.agg #[.int .i64 ci,.int .i64 sq,.int .i64 k,.string x,.int .i64 v,.int .i64 o]] w fun e w'=>∃ v2 v3,e=.returned (.tuple #[.agg #[.string xa,.string xb,v2,v3,.bool xt,.string xc],.int .i64 nn])∧Kd.R k105 105 w' w.heap.size (fun _=>True) v2 xp∧Kd.R k76 76 w' w.heap.size (fun _=>True) v3 xs∧Below w.heap.size w w':=by
 have h:=impl_ApplyEntry.M a b AP cP ps AS cS ss t c ci sq k x v o w hrp hrs hcp hcs
 rw [hm] at h
 exact h
def spec_Replay.T8 : Bool × List (List Nat × List Nat):=(true,[([],[]),([],[]),([],[]),([1,2],[1,2]),([3],[3]),([0,4],[0,4]),([5],[5]),([6],[6]),([6],[6]),([],[]),([9,7,5,0,1,2,3,4,5,6,7,9],[7,9]),([8,10,0,1,2,3,4,5,6,7,8,9,10],[8])])
def spec_Replay.B8 : List Nat:=[0,0,0,6,14,31,63,127,127,0,767,2047]
theorem spec_Replay.tab8 : rtab .any (opsOf Try.f23 8)=spec_Replay.T8:=by kernel_rfl
theorem spec_Replay.bits8 : waitsOk spec_Replay.T8.2 spec_Replay.B8=true:=by kernel_rfl
theorem spec_Replay.M (a b : ByteArray) (AP : Option Addr) (cP : Nat) (ps : List S105) (AS : Option Addr) (cS : Nat) (ss : List S76) (t : Bool) (c : ByteArray) (A1 : Option Addr) (c1 : Nat) (es : List S44) (w : World) (hrp : Kd.C k105 w AP ps.length ps) (hrs : Kd.C k76 w AS ss.length ss) (hcp : ps.length≤cP) (hcs : ss.length≤cS) (hr1 : Kd.C k44 w A1 es.length es) : Calls Try.prog 23 #[.agg #[.string a,.string b,.slice AP ps.length cP,.slice AS ss.length cS,.bool t,.string c],.slice A1 es.length c1] w fun e w'=>∃ v2 v3 v4,e=.returned (.tuple #[.agg #[.string (rpM ⟨a,b,ps,ss,t,c⟩ es).1.a,.string (rpM ⟨a,b,ps,ss,t,c⟩ es).1.b,v2,v3,.bool (rpM ⟨a,b,ps,ss,t,c⟩ es).1.t,.string (rpM ⟨a,b,ps,ss,t,c⟩ es).1.c],v4])∧Kd.R k105 105 w' w.heap.size (fun _=>True) v2 (rpM ⟨a,b,ps,ss,t,c⟩ es).1.ps∧Kd.R k76 76 w' w.heap.size (fun _=>True) v3 (rpM ⟨a,b,ps,ss,t,c⟩ es).1.ss∧Kd.R (Kd.int .i64) 3 w' w.heap.size (fun _=>True) v4 (rpM ⟨a,b,ps,ss,t,c⟩ es).2∧Below w.heap.size w w':=by
 have B:=Aside0.mk (Below.refl w.heap.size w)
 have hu:=Try.underlying38
 have hu2:=Try.underlying34
 have HRP:=Aside0.mk hrp
 have HRS:=Aside0.mk hrs
 have HCP:=Aside0.mk hcp
 have HCS:=Aside0.mk hcs
 clear hrp hrs hcp hcs
 have HR1:=Aside0.mk hr1
 have h63:=hr1.2.1
 clear hr1
 have hu3:=Try.underlying44
 cases hs : stB a b ps ss t c with
 | false =>
  rw [rpM_bad (s:=⟨a,b,ps,ss,t,c⟩) (l:=es) (by unfold SM.ok;rw [hs];simp)]
  go_enter Try.func23,Try.ntmps23
  go_wp2_with (first
   | ((with_reducible refine gate_dst (N:=2) rfl ?_);refine bxq 2 #[.string a,.string b,.slice AP ps.length cP,.slice AS ss.length cS,.bool t,.string c] 38 B fun g2 w1 hb B F2 L2 E2=>?_;obtain ⟨c2_0,c2_1,c2_2,c2_3,c2_4,c2_5⟩:=cs6 F2;clear hb E2)
   | ((with_reducible refine gate_dst (N:=4) rfl ?_);refine bxq 4 #[.string (⟨#[]⟩ : ByteArray),.string (⟨#[]⟩ : ByteArray),.slice none 0 0,.slice none 0 0,.bool false,.string (⟨#[]⟩ : ByteArray)] 38 B fun g4 w2 hb B F4 L4 E4=>?_;have N2_4:=ne1 E4 F2;replace F2:=bn F2 hb;clear c2_0 c2_1 c2_2 c2_3 c2_4 c2_5;obtain ⟨c2_0,c2_1,c2_2,c2_3,c2_4,c2_5⟩:=cs6 F2;clear hb E4)
   | ((with_reducible refine gate_dst (N:=11) rfl ?_);refine lt (Kd.int .i64) 3 ?hg (N:=11) ?hd ([] : List Int) [] ?hr (Reps.none _ _) (by simp) B ?_;(case hd | hg=>rfl);(case hr=>go_simp;first | done | rfl);intro z11 hz11 AL11 kL11 w3 hb B RL11 QL11;replace F2:=bn F2 hb;replace F4:=bn F4 hb;clear c2_0 c2_1 c2_2 c2_3 c2_4 c2_5;obtain ⟨c2_0,c2_1,c2_2,c2_3,c2_4,c2_5⟩:=cs6 F2;clear hb QL11)
   | (go_at_call 37;with_reducible refine cl (spec_StateValid.M a b _ _ ps _ _ ss t c _ (cb HRP B) (cb HRS B)) B fun w4 hb B=>?_;replace F2:=bn F2 hb;replace F4:=bn F4 hb;replace RL11:=rn RL11 hb;clear hb)
   | (go_at_call 74;with_reducible refine cl (spec_l10Log.M _ _ es _ (cb HR1 B)) B fun w5 hb B=>?_;replace F2:=bn F2 hb;replace F4:=bn F4 hb;replace RL11:=rn RL11 hb;clear hb)
   | ((with_reducible refine gate_store (t:=38) (p:=4) rfl ?_);obtain ⟨y0,y1,y2,y3,y4,y5,z0,z1,z2,z3,z4,z5⟩:=cz6 F4;refine sxq 38 38 4 0 [.string (⟨#[]⟩ : ByteArray),.string (⟨#[]⟩ : ByteArray),.slice none 0 0,.slice none 0 0,.bool false,.string (⟨#[]⟩ : ByteArray)] [.string (⟨#[]⟩ : ByteArray),.string (⟨#[]⟩ : ByteArray),.slice none 0 0,.slice none 0 0,.bool false,.string (⟨#[]⟩ : ByteArray)] B F4 L4 fun w6 hk B G=>?_;replace F2:=bk F2 hk N2_4.out;replace RL11:=rk RL11 F4 (by decide) hk;replace F4:=G;clear hk y0 z0 y1 z1 y2 z2 y3 z3 y4 z4 y5 z5))
  all_goals (refine bodyPost_ret (results_list (rs:=[.cell 4 38,.tmp 5]) rfl (by simp) (.cell g4 38 _ (0,0) _ rfl F4.out hu rfl (by kernel_rfl) (.tmp .nil))) rfl ?_;subst hz11;exact ⟨_,_,_,rfl,Kd.R_nil _ _ _ _ _,Kd.R_nil _ _ _ _ _,RL11.out,B.out⟩)
 | true =>
  cases hl : logB es with
  | false =>
   rw [rpM_bad (s:=⟨a,b,ps,ss,t,c⟩) (l:=es) (by rw [hl];simp)]
   go_enter Try.func23,Try.ntmps23
   go_wp2_with (first
    | ((with_reducible refine gate_dst (N:=2) rfl ?_);refine bxq 2 #[.string a,.string b,.slice AP ps.length cP,.slice AS ss.length cS,.bool t,.string c] 38 B fun g2 w101 hb B F2 L2 E2=>?_;obtain ⟨c2_0,c2_1,c2_2,c2_3,c2_4,c2_5⟩:=cs6 F2;clear hb E2)
    | ((with_reducible refine gate_dst (N:=4) rfl ?_);refine bxq 4 #[.string (⟨#[]⟩ : ByteArray),.string (⟨#[]⟩ : ByteArray),.slice none 0 0,.slice none 0 0,.bool false,.string (⟨#[]⟩ : ByteArray)] 38 B fun g4 w102 hb B F4 L4 E4=>?_;have N2_4:=ne1 E4 F2;replace F2:=bn F2 hb;clear c2_0 c2_1 c2_2 c2_3 c2_4 c2_5;obtain ⟨c2_0,c2_1,c2_2,c2_3,c2_4,c2_5⟩:=cs6 F2;clear hb E4)
    | ((with_reducible refine gate_dst (N:=11) rfl ?_);refine lt (Kd.int .i64) 3 ?hg (N:=11) ?hd ([] : List Int) [] ?hr (Reps.none _ _) (by simp) B ?_;(case hd | hg=>rfl);(case hr=>go_simp;first | done | rfl);intro z11 hz11 AL11 kL11 w103 hb B RL11 QL11;replace F2:=bn F2 hb;replace F4:=bn F4 hb;clear c2_0 c2_1 c2_2 c2_3 c2_4 c2_5;obtain ⟨c2_0,c2_1,c2_2,c2_3,c2_4,c2_5⟩:=cs6 F2;clear hb QL11)
    | (go_at_call 37;with_reducible refine cl (spec_StateValid.M a b _ _ ps _ _ ss t c _ (cb HRP B) (cb HRS B)) B fun w104 hb B=>?_;replace F2:=bn F2 hb;replace F4:=bn F4 hb;replace RL11:=rn RL11 hb;clear hb)
    | (go_at_call 74;with_reducible refine cl (spec_l10Log.M _ _ es _ (cb HR1 B)) B fun w105 hb B=>?_;replace F2:=bn F2 hb;replace F4:=bn F4 hb;replace RL11:=rn RL11 hb;clear hb)
    | ((with_reducible refine gate_store (t:=38) (p:=4) rfl ?_);obtain ⟨y0,y1,y2,y3,y4,y5,z0,z1,z2,z3,z4,z5⟩:=cz6 F4;refine sxq 38 38 4 0 [.string (⟨#[]⟩ : ByteArray),.string (⟨#[]⟩ : ByteArray),.slice none 0 0,.slice none 0 0,.bool false,.string (⟨#[]⟩ : ByteArray)] [.string (⟨#[]⟩ : ByteArray),.string (⟨#[]⟩ : ByteArray),.slice none 0 0,.slice none 0 0,.bool false,.string (⟨#[]⟩ : ByteArray)] B F4 L4 fun w106 hk B G=>?_;replace F2:=bk F2 hk N2_4.out;replace RL11:=rk RL11 F4 (by decide) hk;replace F4:=G;clear hk y0 z0 y1 z1 y2 z2 y3 z3 y4 z4 y5 z5))
   all_goals (refine bodyPost_ret (results_list (rs:=[.cell 4 38,.tmp 5]) rfl (by simp) (.cell g4 38 _ (0,0) _ rfl F4.out hu rfl (by kernel_rfl) (.tmp .nil))) rfl ?_;subst hz11;exact ⟨_,_,_,rfl,Kd.R_nil _ _ _ _ _,Kd.R_nil _ _ _ _ _,RL11.out,B.out⟩)
  | true =>
   have hok : (SM.mk a b ps ss t c).ok=true:=hs
   obtain ⟨hpl0,hsl0⟩:=ok_len hok
   have hpl : ps.length≤1000000:=Nat.le_trans hpl0 (by decide)
   have hsl : ss.length≤1000000:=Nat.le_trans hsl0 (by decide)
   clear hpl0 hsl0
   obtain ⟨hes,hal⟩:=logB_parts hl
   have HAL:=Aside0.mk (List.all_eq_true.mp hal)
   obtain ⟨r,hr⟩ : ∃ r,es.foldl stepE (⟨a,b,ps,ss,t,c⟩,[])=r:=⟨_,rfl⟩
   rw [rpM_go hok hl,hr]
   have H:=Aside0.mk (show (es.drop 0).foldl stepE (⟨a,b,ps,ss,t,c⟩,[])=r from hr)
   have HOK:=Aside0.mk hok
   clear hr hal hok
   go_enter Try.func23,Try.ntmps23
   go_wp2_with (first
    | ((with_reducible refine gate_dst (N:=2) rfl ?_);refine bxq 2 #[.string a,.string b,.slice AP ps.length cP,.slice AS ss.length cS,.bool t,.string c] 38 B fun g2 w201 hb B F2 L2 E2=>?_;obtain ⟨c2_0,c2_1,c2_2,c2_3,c2_4,c2_5⟩:=cs6 F2;clear hb E2)
    | ((with_reducible refine gate_dst (N:=4) rfl ?_);refine bxq 4 #[.string (⟨#[]⟩ : ByteArray),.string (⟨#[]⟩ : ByteArray),.slice none 0 0,.slice none 0 0,.bool false,.string (⟨#[]⟩ : ByteArray)] 38 B fun g4 w202 hb B F4 L4 E4=>?_;replace F2:=bn F2 hb;clear c2_0 c2_1 c2_2 c2_3 c2_4 c2_5;obtain ⟨c2_0,c2_1,c2_2,c2_3,c2_4,c2_5⟩:=cs6 F2;clear hb E4)
    | ((with_reducible refine gate_dst (N:=11) rfl ?_);refine lt (Kd.int .i64) 3 ?hg (N:=11) ?hd ([] : List Int) [] ?hr (Reps.none _ _) (by simp) B ?_;(case hd | hg=>rfl);(case hr=>go_simp;first | done | rfl);intro z11 hz11 AL11 kL11 w203 hb B RL11 QL11;replace F2:=bn F2 hb;replace F4:=bn F4 hb;clear c2_0 c2_1 c2_2 c2_3 c2_4 c2_5;obtain ⟨c2_0,c2_1,c2_2,c2_3,c2_4,c2_5⟩:=cs6 F2;clear hb QL11)
    | (go_at_call 37;with_reducible refine cl (spec_StateValid.M a b _ _ ps _ _ ss t c _ (cb HRP B) (cb HRS B)) B fun w204 hb B=>?_;replace F2:=bn F2 hb;replace F4:=bn F4 hb;replace RL11:=rn RL11 hb;clear c2_0 c2_1 c2_2 c2_3 c2_4 c2_5;obtain ⟨c2_0,c2_1,c2_2,c2_3,c2_4,c2_5⟩:=cs6 F2;clear hb)
    | (go_at_call 74;with_reducible refine cl (spec_l10Log.M _ _ es _ (cb HR1 B)) B fun w205 hb B=>?_;replace F2:=bn F2 hb;replace F4:=bn F4 hb;replace RL11:=rn RL11 hb;clear c2_0 c2_1 c2_2 c2_3 c2_4 c2_5;obtain ⟨c2_0,c2_1,c2_2,c2_3,c2_4,c2_5⟩:=cs6 F2;clear hb)
    | (go_at_call 39;with_reducible refine c2r (spec_l10Copy.M a b _ _ ps _ _ ss t c _ (cb HRP B) (cb HRS B) HCP.out HCS.out (by omega) (by omega)) B fun AP206 kP206 AS206 kS206 w206 hb B RP206 QP206 RS206 QS206=>?_;have DL11_P206:=fr QP206 RL11;have DL11_S206:=fr QS206 RL11;have DP206_S206:=Aside0.mk (dty RP206 RS206 (by decide));replace F4:=bn F4 hb;replace RL11:=rn RL11 hb;clear QP206 QS206;clear hb)
    | ((with_reducible refine gate_dst (N:=7) rfl ?_);refine bxq 7 #[.string (⟨#[]⟩ : ByteArray),.string (⟨#[]⟩ : ByteArray),.slice none 0 0,.slice none 0 0,.bool false,.string (⟨#[]⟩ : ByteArray)] 38 B fun g7 w207 hb B F7 L7 E7=>?_;have N4_7:=ne1 E7 F4;replace F4:=bn F4 hb;replace RL11:=rn RL11 hb;replace RP206:=rn RP206 hb;replace RS206:=rn RS206 hb;clear hb E7)
    | ((with_reducible refine gate_store (t:=38) (p:=7) rfl ?_);obtain ⟨y0,y1,y2,y3,y4,y5,z0,z1,z2,z3,z4,z5⟩:=cz6 F7;refine sxq 38 38 7 0 [.string a,.string b,.slice AP206 ps.length kP206,.slice AS206 ss.length kS206,.bool t,.string c] [.string a,.string b,.slice AP206 ps.length kP206,.slice AS206 ss.length kS206,.bool t,.string c] B F7 L7 fun w208 hk B G=>?_;replace F4:=bk F4 hk N4_7.out;replace RL11:=rk RL11 F7 (by decide) hk;replace RP206:=rk RP206 F7 (by decide) hk;replace RS206:=rk RS206 F7 (by decide) hk;replace F7:=G;clear hk y0 z0 y1 z1 y2 z2 y3 z3 y4 z4 y5 z5))
   clear hs hl
   subst hz11
   go_loopg [6,8] (es.length + 1) (fun kx v6 v8 wr=>∃ (j : Nat) (va vb : ByteArray) (v2 v3 : Value) (qs : List S105) (us : List S76) (vt : Bool) (vc : ByteArray) (vs : List Int),v8=.int .i64 (j : Int)∧j≤es.length∧es.length < j + kx∧vs.length≤j∧Aside0 ((SM.mk va vb qs us vt vc).ok=true)∧Aside0 (Below w.heap.size w wr)∧Aside0 (wr.heap[g4]?=some (.cells #[.string (⟨#[]⟩ : ByteArray),.string (⟨#[]⟩ : ByteArray),.slice none 0 0,.slice none 0 0,.bool false,.string (⟨#[]⟩ : ByteArray)] 38 (0,0)))∧Aside0 (wr.heap[g7]?=some (.cells #[.string va,.string vb,v2,v3,.bool vt,.string vc] 38 (0,0)))∧Aside0 (Ow k105 105 wr w.heap.size v2 qs)∧Aside0 (Ow k76 76 wr w.heap.size v3 us)∧Aside0 (Ow (Kd.int .i64) 3 wr w.heap.size v6 vs)∧Aside0 ((es.drop j).foldl stepE (⟨va,vb,qs,us,vt,vc⟩,vs)=r))
   case atStart=>exact ⟨0,_,_,_,_,_,_,_,_,[],rfl,by omega,by omega,by simp,HOK,B,F4,F7,RP206,RS206,RL11,H⟩
   case round =>
    clear H B F4 F7 RP206 RS206 HOK RL11
    obtain ⟨j,va,vb,v2,v3,qs,us,vt,vc,vs,rfl,hj,hk,hvl,HOK,B,F4,F7,Rp,Rs,Rv,H⟩:=hrel
    obtain ⟨Ap,kp,rfl⟩:=Kd.R_slice Rp.out
    obtain ⟨As,ks,rfl⟩:=Kd.R_slice Rs.out
    obtain ⟨Av,kv,rfl⟩:=Kd.R_slice Rv.out
    obtain ⟨c4_0,c4_1,c4_2,c4_3,c4_4,c4_5⟩:=cs6 F4
    obtain ⟨c7_0,c7_1,c7_2,c7_3,c7_4,c7_5⟩:=cs6 F7
    by_cases hlt : j < es.length
    ·have HS:=H.out
     rw [en_drop hlt,List.foldl_cons] at HS
     have hen:=HAL.out (rd_T44 es (j : Int)) (by rw [en_nat hlt];exact List.getElem_mem hlt)
     clear H
     obtain ⟨d,rfl⟩ : ∃ d,gk=d + 1:=⟨gk - 1,by omega⟩
     have cj : decide ((j : Int) < (es.length : Int))=true:=decide_eq_true (by omega)
     obtain ⟨ad,hA,y0,y1,y2,y3,y4,y5⟩:=at_T44 (cb HR1 B) (j : Int) (by omega) (by omega)
     cases hA
     rw [Int.toNat_natCast] at y0 y1 y2 y3 y4 y5
     have j1:=eq_true (show (j : Int) < (es.length : Int) by omega)
     have j2:=eq_true hlt
     generalize hy : rd_T44 es (j : Int)=y at *
     obtain ⟨hk1,-,-,-⟩:=aeM_after HOK.out hen
     obtain ⟨⟨⟨xa,xb,xp,xs,xt,xc⟩,nn⟩,hm⟩ : ∃ r,aeM ⟨va,vb,qs,us,vt,vc⟩ y.f0 y.f1 y.f2.f0 y.f2.f1 y.f2.f2 y.f2.f3=r:=⟨_,rfl⟩
     rw [hm] at hk1
     rw [show stepE (⟨va,vb,qs,us,vt,vc⟩,vs) y=(⟨xa,xb,xp,xs,xt,xc⟩,vs ++ [nn]) by unfold stepE aeE;rw [hm]] at HS
     have HM:=Aside0.mk hm
     have HT:=Aside0.mk HS
     have HK:=Aside0.mk hk1
     clear hm HS hk1 hen HOK
     try go_wp2
     all_goals (
      refine rg (n:=12) (S:=fun W=>W.heap[g7]?=some (.cells #[.string va,.string vb,.slice Ap qs.length kp,.slice As us.length ks,.bool vt,.string vc] 38 (0,0))∧Kd.C k44 W (some ad) es.length es) (ds:=[]) #[false,false,false,false,false,false,false,false,false,false,false,false] (by kernel_rfl) rfl rfl ⟨F7.out,(cb HR1 B)⟩ id B (fun w301 hb B hHeld=>?_)
      refine with_tabW spec_Replay.tab8 spec_Replay.bits8 (fun HT_ HW_=>?_)
      replace F4:=bn F4 hb
      replace F7:=bn F7 hb
      replace Rp:=rn Rp hb
      replace Rs:=rn Rs hb
      replace Rv:=rn Rv hb
      clear hb
      refine join_ 2 (bits 12 1023) (σ:=Option Addr × Nat × Option Addr × Nat × Nat) (fun (APs36,kPs36,ASs36,kSs36,g9)=>[(31,.agg #[.string va,.string vb,.slice Ap qs.length kp,.slice As us.length ks,.bool vt,.string vc]),(32,.slice (some ad) es.length c1),(33,.int .i64 ((j : Int))),(34,.pointer (some (ad.add (j * 6)))),(35,.agg #[.int .i64 (y.f0),.int .i64 (y.f1),.int .i64 (y.f2.f0),.string y.f2.f1,.int .i64 (y.f2.f2),.int .i64 (y.f2.f3)]),(36,.tuple #[.agg #[.string xa,.string xb,.slice APs36 xp.length kPs36,.slice ASs36 xs.length kSs36,.bool xt,.string xc],.int .i64 (nn)]),(30,.tuple #[.agg #[.string xa,.string xb,.slice APs36 xp.length kPs36,.slice ASs36 xs.length kSs36,.bool xt,.string xc],.int .i64 (nn)]),(37,.agg #[.string xa,.string xb,.slice APs36 xp.length kPs36,.slice ASs36 xs.length kSs36,.bool xt,.string xc]),(38,.int .i64 (nn)),(9,.pointer (some ⟨g9,0,none⟩))]) (fun (APs36,kPs36,ASs36,kSs36,g9) W=>Aside0 (Below w.heap.size w W)∧Aside0 (W.heap[g4]?=some (.cells #[.string (⟨#[]⟩ : ByteArray),.string (⟨#[]⟩ : ByteArray),.slice none 0 0,.slice none 0 0,.bool false,.string (⟨#[]⟩ : ByteArray)] 38 (0,0)))∧Aside0 (W.heap[g7]?=some (.cells #[.string va,.string vb,.slice Ap qs.length kp,.slice As us.length ks,.bool vt,.string vc] 38 (0,0)))∧Aside0 (W.heap[g9]?=some (.cells #[.string (⟨#[]⟩ : ByteArray),.string (⟨#[]⟩ : ByteArray),.slice none 0 0,.slice none 0 0,.bool false,.string (⟨#[]⟩ : ByteArray)] 38 (0,0)))∧Aside0 (w.heap.size≤g9)∧Aside0 (g4 ≠ g9)∧Aside0 (g7 ≠ g9)∧Aside0 (Ow k105 105 W w.heap.size (.slice Ap qs.length kp) qs)∧Aside0 (Ow k76 76 W w.heap.size (.slice As us.length ks) us)∧Aside0 (Ow (Kd.int .i64) 3 W w.heap.size (.slice Av vs.length kv) vs)∧Aside0 (Ow k105 105 W w.heap.size (.slice APs36 xp.length kPs36) xp)∧Aside0 (Ow k76 76 W w.heap.size (.slice ASs36 xs.length kSs36) xs)∧Aside0 (∀ k_,(.slice APs36 xp.length kPs36 : Value).ownBlock=some k_→(.slice Ap qs.length kp : Value).ownBlock=some k_→False)∧Aside0 (∀ k_,(.slice ASs36 xs.length kSs36 : Value).ownBlock=some k_→(.slice As us.length ks : Value).ownBlock=some k_→False)) ?_ (fun J=>?_)
      rotate_left
      ·refine tvq 0 (some 31) (bits 12 1) HT_ HW_ rfl hHeld (by intro w' hS;obtain ⟨s0,s1⟩:=hS;obtain ⟨q0,q1,q2,q3,q4,q5⟩:=cs6 (Aside0.mk s0);go_simp;with_reducible rfl) ?_
       refine pvq 1 (some 32) (bits 12 3) HT_ ?_
       refine pvq 2 (some 33) (bits 12 7) HT_ ?_
       refine pvq 3 (some 34) (bits 12 15) HT_ ?_
       refine tvq 4 (some 35) (bits 12 31) HT_ HW_ rfl hHeld (by intro w' hS;obtain ⟨s0,s1⟩:=hS;obtain ⟨_,hA,q0,q1,q2,q3,q4,q5⟩:=at_T44 s1 (j : Int) (by omega) (by omega);cases hA;rw [Int.toNat_natCast] at q0 q1 q2 q3 q4 q5;rw [hy] at q0 q1 q2 q3 q4 q5;go_simp;with_reducible rfl) ?_
       refine nmq ?_
       refine two_ (i:=5) (j:=9) (Ni:=some 36) (Nj:=some 9) (bits 12 63) (bits 12 543) rfl rfl rfl rfl (two_of HT_.out (by kernel_rfl)) (by decide) (by decide) (fun K hK=>?_) (fun K hK=>?_)
       ·refine gsq Try.func9 #[.agg #[.string va,.string vb,.slice Ap qs.length kp,.slice As us.length ks,.bool vt,.string vc],.agg #[.int .i64 (y.f0),.int .i64 (y.f1),.int .i64 (y.f2.f0),.string y.f2.f1,.int .i64 (y.f2.f2),.int .i64 (y.f2.f3)]] ?_
        with_reducible refine c2r (spec_ApplyEntry.Mr va vb _ _ qs _ _ us vt vc y.f0 y.f1 y.f2.f0 y.f2.f1 y.f2.f2 y.f2.f3 xa xb xp xs xt xc nn HM.out _ (rc Rp) (rc Rs) (rl Rp) (rl Rs)) B fun APs36 kPs36 ASs36 kSs36 w302 hb B RPs36 QPs36 RSs36 QSs36=>?_
        have Dp_Ps36:=fr QPs36 Rp
        have Ds_Ps36:=fr QPs36 Rs
        have Dv_Ps36:=fr QPs36 Rv
        have Dp_Ss36:=fr QSs36 Rp
        have Ds_Ss36:=fr QSs36 Rs
        have Dv_Ss36:=fr QSs36 Rv
        replace F4:=bn F4 hb
        replace F7:=bn F7 hb
        replace Rp:=rn Rp hb
        replace Rs:=rn Rs hb
        replace Rv:=rn Rv hb
        clear hb
        refine ⟨_,rfl,?_⟩
        refine hK.out _ _ ⟨F7.out,(cb HR1 B)⟩ (fun hHeld=>?_)
        clear hK K
        refine npq (some 36) ?_
        clear QPs36 QSs36
        refine pvq 6 (some 30) (bits 12 127) HT_ ?_
        refine pvq 7 (some 37) (bits 12 255) HT_ ?_
        refine pvq 8 (some 38) (bits 12 511) HT_ ?_
        refine nmq ?_
        refine one_ (i:=9) (N:=some 9) (bits 12 1023) rfl rfl (one_of HT_.out (by kernel_rfl)) (by decide) (fun K hK=>?_)
        refine bxs (cs:=#[.string (⟨#[]⟩ : ByteArray),.string (⟨#[]⟩ : ByteArray),.slice none 0 0,.slice none 0 0,.bool false,.string (⟨#[]⟩ : ByteArray)]) (t:=38) (by rfl) rfl ?hr B (fun g9 w303 hb B F9 L9 E9=>?_)
        (case hr=>go_simp;first | done | rfl)
        have N4_9:=ne1 E9 F4
        have N7_9:=ne1 E9 F7
        replace F4:=bn F4 hb
        replace F7:=bn F7 hb
        replace Rp:=rn Rp hb
        replace Rs:=rn Rs hb
        replace Rv:=rn Rv hb
        replace RPs36:=rn RPs36 hb
        replace RSs36:=rn RSs36 hb
        clear hb E9
        refine hK.out _ _ ⟨F7.out,(cb HR1 B)⟩ (fun hHeld=>?_)
        clear hK K
        refine npq (some 9) ?_
        refine norm_ (a':=_) ?_ (J ⟨APs36,kPs36,ASs36,kSs36,g9⟩ _ ⟨B,F4,F7,F9,L9,N4_9,N7_9,Rp,Rs,Rv,RPs36,RSs36,Dp_Ps36,Ds_Ss36⟩)
        simp only [putAll,Act.put,za,zb,zc]
        try rfl
       ·refine bxs (cs:=#[.string (⟨#[]⟩ : ByteArray),.string (⟨#[]⟩ : ByteArray),.slice none 0 0,.slice none 0 0,.bool false,.string (⟨#[]⟩ : ByteArray)]) (t:=38) (by rfl) rfl ?hr B (fun g9 w302 hb B F9 L9 E9=>?_)
        (case hr=>go_simp;first | done | rfl)
        have N4_9:=ne1 E9 F4
        have N7_9:=ne1 E9 F7
        replace F4:=bn F4 hb
        replace F7:=bn F7 hb
        replace Rp:=rn Rp hb
        replace Rs:=rn Rs hb
        replace Rv:=rn Rv hb
        clear hb E9
        refine hK.out _ _ ⟨F7.out,(cb HR1 B)⟩ (fun hHeld=>?_)
        clear hK K
        refine npq (some 9) ?_
        refine one_ (i:=5) (N:=some 36) (bits 12 575) rfl rfl (one_of HT_.out (by kernel_rfl)) (by decide) (fun K hK=>?_)
        refine gsq Try.func9 #[.agg #[.string va,.string vb,.slice Ap qs.length kp,.slice As us.length ks,.bool vt,.string vc],.agg #[.int .i64 (y.f0),.int .i64 (y.f1),.int .i64 (y.f2.f0),.string y.f2.f1,.int .i64 (y.f2.f2),.int .i64 (y.f2.f3)]] ?_
        with_reducible refine c2r (spec_ApplyEntry.Mr va vb _ _ qs _ _ us vt vc y.f0 y.f1 y.f2.f0 y.f2.f1 y.f2.f2 y.f2.f3 xa xb xp xs xt xc nn HM.out _ (rc Rp) (rc Rs) (rl Rp) (rl Rs)) B fun APs36 kPs36 ASs36 kSs36 w303 hb B RPs36 QPs36 RSs36 QSs36=>?_
        have Dp_Ps36:=fr QPs36 Rp
        have Ds_Ps36:=fr QPs36 Rs
        have Dv_Ps36:=fr QPs36 Rv
        have Dp_Ss36:=fr QSs36 Rp
        have Ds_Ss36:=fr QSs36 Rs
        have Dv_Ss36:=fr QSs36 Rv
        replace F4:=bn F4 hb
        replace F7:=bn F7 hb
        replace F9:=bn F9 hb
        replace Rp:=rn Rp hb
        replace Rs:=rn Rs hb
        replace Rv:=rn Rv hb
        clear hb
        refine ⟨_,rfl,?_⟩
        refine hK.out _ _ ⟨F7.out,(cb HR1 B)⟩ (fun hHeld=>?_)
        clear hK K
        refine npq (some 36) ?_
        clear QPs36 QSs36
        refine pvq 6 (some 30) (bits 12 639) HT_ ?_
        refine pvq 7 (some 37) (bits 12 767) HT_ ?_
        refine pvq 8 (some 38) (bits 12 1023) HT_ ?_
        refine nmq ?_
        refine norm_ (a':=_) ?_ (J ⟨APs36,kPs36,ASs36,kSs36,g9⟩ _ ⟨B,F4,F7,F9,L9,N4_9,N7_9,Rp,Rs,Rv,RPs36,RSs36,Dp_Ps36,Ds_Ss36⟩)
        simp only [putAll,Act.put,za,zb,zc]
        try rfl
      rintro ⟨APs36,kPs36,ASs36,kSs36,g9⟩ w304 ⟨B,F4,F7,F9,L9,N4_9,N7_9,Rp,Rs,Rv,RPs36,RSs36,Dp_Ps36,Ds_Ss36⟩
      refine norm_ (a':=?_) ?_ ?_
      rotate_left
      ·simp only [putAll,Act.put,za,zb,zc]
       rfl
      refine one_ (i:=10) (N:=none) (bits 12 2047) rfl rfl (one_of HT_.out (by kernel_rfl)) (by decide) (fun K hK=>?_)
      obtain ⟨y0,y1,y2,y3,y4,y5,z0,z1,z2,z3,z4,z5⟩:=cz6 F9
      refine sxs (g:=g9) 0 [.string xa,.string xb,.slice APs36 xp.length kPs36,.slice ASs36 xs.length kSs36,.bool xt,.string xc] [.string xa,.string xb,.slice APs36 xp.length kPs36,.slice ASs36 xs.length kSs36,.bool xt,.string xc] (by rfl) rfl ?hr B F9 L9 rfl (Nat.le_of_ble_eq_true rfl) (fun w305 hk B G=>?_)
      (case hr=>go_simp;first | done | rfl)
      replace F4:=bk F4 hk N4_9.out
      replace F7:=bk F7 hk N7_9.out
      replace Rp:=rk Rp F9 (by decide) hk
      replace Rs:=rk Rs F9 (by decide) hk
      replace Rv:=rk Rv F9 (by decide) hk
      replace RPs36:=rk RPs36 F9 (by decide) hk
      replace RSs36:=rk RSs36 F9 (by decide) hk
      replace F9:=G
      clear hk y0 z0 y1 z1 y2 z2 y3 z3 y4 z4 y5 z5
      refine hK.out _ _ ⟨F7.out,(cb HR1 B)⟩ (fun hHeld=>?_)
      clear hK K
      refine pvq 11 (some 10) (bits 12 4095) HT_ ?_
      refine nmq ?_
      refine done_ (done_of HT_.out (by kernel_rfl)) ?_
      obtain ⟨c9_0,c9_1,c9_2,c9_3,c9_4,c9_5⟩:=cs6 F9)
     all_goals go_wp2_with (first
      | ((with_reducible refine gate_store (t:=38) (p:=7) rfl ?_);obtain ⟨y0,y1,y2,y3,y4,y5,z0,z1,z2,z3,z4,z5⟩:=cz6 F7;refine sxq 38 38 7 0 [.string xa,.string xb,.slice APs36 xp.length kPs36,.slice ASs36 xs.length kSs36,.bool xt,.string xc] [.string xa,.string xb,.slice APs36 xp.length kPs36,.slice ASs36 xs.length kSs36,.bool xt,.string xc] B F7 L7 fun w306 hk B G=>?_;replace F4:=bk F4 hk N4_7.out;replace Rp:=rk Rp F7 (by decide) hk;replace Rs:=rk Rs F7 (by decide) hk;replace Rv:=rk Rv F7 (by decide) hk;replace RPs36:=rk RPs36 F7 (by decide) hk;replace RSs36:=rk RSs36 F7 (by decide) hk;replace F7:=G;clear hk y0 z0 y1 z1 y2 z2 y3 z3 y4 z4 y5 z5)
      | ((with_reducible refine gate_dst (N:=42) rfl ?_);refine lt (Kd.int .i64) 3 ?hg (N:=42) ?hd ([(nn)] : List Int) [.int .i64 (nn)] ?hr (Reps.one (show Kd.M (Kd.int .i64) _ _ _ (nn) [.int .i64 (nn)] from rfl) (Reps.none _ _)) (by simp) B ?_;(case hd | hg=>rfl);(case hr=>go_simp;first | done | rfl);intro z42 hz42 AL42 kL42 w307 hb B RL42 QL42;have Dp_L42:=fr QL42 Rp;have Ds_L42:=fr QL42 Rs;have Dv_L42:=fr QL42 Rv;have DPs36_L42:=fr QL42 RPs36;have DSs36_L42:=fr QL42 RSs36;replace F4:=bn F4 hb;replace F7:=bn F7 hb;replace Rv:=rn Rv hb;replace RPs36:=rn RPs36 hb;replace RSs36:=rn RSs36 hb;clear hb QL42)
      | ((with_reducible refine gate_builtin (b:=.append) (xs:=#[.tmp 40,.tmp 42]) rfl ?_);at_builtin;refine apx (Kd.int .i64) 3 rfl (.tmp 40) (.tmp 42) 58 (.int .i64 0) 8 rfl Try.underlying58 info3 rfl (by decide) (by omega) rfl rfl Rv (rc RL42) (fun _ _ h=>h) (by rw [← hz42];simp only [List.length_cons,List.length_nil];omega) B ?_;intro z43 hz43 AL43 kL43 w308 hg B RL43 hat;replace F4:=bga F4 hg Rv (by decide);replace F7:=bga F7 hg Rv (by decide);replace RPs36:=rga RPs36 rfl hg (dty Rv RPs36 (by decide));replace RSs36:=rga RSs36 rfl hg (dty Rv RSs36 (by decide));clear hg hat))
     go_roundg d
     case measure=>omega
     case rel=>exact ⟨j + 1,xa,xb,_,_,xp,xs,xt,xc,z43,congrArg (Value.int .i64) (Int.natCast_succ _).symm,by omega,by omega,(by rw [← hz43,← hz42];simp only [List.length_append,List.length_cons,List.length_nil];omega),HK,B,F4,F7,RPs36,RSs36,RL43,⟨by rw [← hz43,← hz42];exact HT.out⟩⟩
    ·have cj : decide ((j : Int) < (es.length : Int))=false:=decide_eq_false (by omega)
     have hr:=H.out
     rw [List.drop_of_length_le (by omega)] at hr
     have hr2 : (SM.mk va vb qs us vt vc,vs)=r:=hr
     subst hr2
     clear hr H
     go_wp2_with (first
      | ((with_reducible refine gate_store (t:=38) (p:=4) rfl ?_);obtain ⟨y0,y1,y2,y3,y4,y5,z0,z1,z2,z3,z4,z5⟩:=cz6 F4;refine sxq 38 38 4 0 [.string va,.string vb,.slice Ap qs.length kp,.slice As us.length ks,.bool vt,.string vc] [.string va,.string vb,.slice Ap qs.length kp,.slice As us.length ks,.bool vt,.string vc] B F4 L4 fun w601 hk B G=>?_;replace Rp:=rk Rp F4 (by decide) hk;replace Rs:=rk Rs F4 (by decide) hk;replace Rv:=rk Rv F4 (by decide) hk;replace F4:=G;clear hk y0 z0 y1 z1 y2 z2 y3 z3 y4 z4 y5 z5))
     refine bodyPost_ret (results_list (rs:=[.cell 4 38,.tmp 5]) rfl (by simp) (.cell g4 38 _ (0,0) _ rfl F4.out hu rfl (by kernel_rfl) (.tmp .nil))) rfl ?_
     exact ⟨_,_,_,rfl,Rp.out,Rs.out,Rv.out,B.out⟩


theorem impl_Replay.M (a b : ByteArray) (AP : Option Addr) (cP : Nat) (ps : List S105) (AS : Option Addr) (cS : Nat) (ss : List S76) (t : Bool) (c : ByteArray) (A1 : Option Addr) (c1 : Nat) (es : List S44) (w : World) (hrp : Kd.C k105 w AP ps.length ps) (hrs : Kd.C k76 w AS ss.length ss) (hcp : ps.length≤cP) (hcs : ss.length≤cS) (hr1 : Kd.C k44 w A1 es.length es) : Calls Try.prog 25 #[.agg #[.string a,.string b,.slice AP ps.length cP,.slice AS ss.length cS,.bool t,.string c],.slice A1 es.length c1] w fun e w'=>∃ v2 v3 v4,e=.returned (.tuple #[.agg #[.string (rpM ⟨a,b,ps,ss,t,c⟩ es).1.a,.string (rpM ⟨a,b,ps,ss,t,c⟩ es).1.b,v2,v3,.bool (rpM ⟨a,b,ps,ss,t,c⟩ es).1.t,.string (rpM ⟨a,b,ps,ss,t,c⟩ es).1.c],v4])∧Kd.R k105 105 w' w.heap.size (fun _=>True) v2 (rpM ⟨a,b,ps,ss,t,c⟩ es).1.ps∧Kd.R k76 76 w' w.heap.size (fun _=>True) v3 (rpM ⟨a,b,ps,ss,t,c⟩ es).1.ss∧Kd.R (Kd.int .i64) 3 w' w.heap.size (fun _=>True) v4 (rpM ⟨a,b,ps,ss,t,c⟩ es).2∧Below w.heap.size w w':=by
 have B:=Aside0.mk (Below.refl w.heap.size w)
 have hu:=Try.underlying38
 have hu2:=Try.underlying34
 have HRP:=Aside0.mk hrp
 have HRS:=Aside0.mk hrs
 have HCP:=Aside0.mk hcp
 have HCS:=Aside0.mk hcs
 clear hrp hrs hcp hcs
 have HR1:=Aside0.mk hr1
 have h63:=hr1.2.1
 clear hr1
 have hu3:=Try.underlying44
 cases hs : stB a b ps ss t c with
 | false =>
  rw [rpM_bad (s:=⟨a,b,ps,ss,t,c⟩) (l:=es) (by unfold SM.ok;rw [hs];simp)]
  go_enter Try.func25,Try.ntmps25
  go_wp2_with (first
   | ((with_reducible refine gate_dst (N:=2) rfl ?_);refine bxq 2 #[.string a,.string b,.slice AP ps.length cP,.slice AS ss.length cS,.bool t,.string c] 38 B fun g2 w1 hb B F2 L2 E2=>?_;obtain ⟨c2_0,c2_1,c2_2,c2_3,c2_4,c2_5⟩:=cs6 F2;clear hb E2)
   | ((with_reducible refine gate_dst (N:=4) rfl ?_);refine bxq 4 #[.string (⟨#[]⟩ : ByteArray),.string (⟨#[]⟩ : ByteArray),.slice none 0 0,.slice none 0 0,.bool false,.string (⟨#[]⟩ : ByteArray)] 38 B fun g4 w2 hb B F4 L4 E4=>?_;have N2_4:=ne1 E4 F2;replace F2:=bn F2 hb;clear c2_0 c2_1 c2_2 c2_3 c2_4 c2_5;obtain ⟨c2_0,c2_1,c2_2,c2_3,c2_4,c2_5⟩:=cs6 F2;clear hb E4)
   | (go_at_call 18;with_reducible refine cl (impl_StateValid.M a b _ _ ps _ _ ss t c _ (cb HRP B) (cb HRS B)) B fun w3 hb B=>?_;replace F2:=bn F2 hb;replace F4:=bn F4 hb;clear hb)
   | (go_at_call 75;with_reducible refine cl (impl_entriesValid.M _ _ es _ (cb HR1 B)) B fun w4 hb B=>?_;replace F2:=bn F2 hb;replace F4:=bn F4 hb;clear hb)
   | ((with_reducible refine gate_store (t:=38) (p:=4) rfl ?_);obtain ⟨y0,y1,y2,y3,y4,y5,z0,z1,z2,z3,z4,z5⟩:=cz6 F4;refine sxq 38 38 4 0 [.string (⟨#[]⟩ : ByteArray),.string (⟨#[]⟩ : ByteArray),.slice none 0 0,.slice none 0 0,.bool false,.string (⟨#[]⟩ : ByteArray)] [.string (⟨#[]⟩ : ByteArray),.string (⟨#[]⟩ : ByteArray),.slice none 0 0,.slice none 0 0,.bool false,.string (⟨#[]⟩ : ByteArray)] B F4 L4 fun w5 hk B G=>?_;replace F2:=bk F2 hk N2_4.out;replace F4:=G;clear hk y0 z0 y1 z1 y2 z2 y3 z3 y4 z4 y5 z5))
  all_goals (refine bodyPost_ret (results_list (rs:=[.cell 4 38,.tmp 5]) rfl (by simp) (.cell g4 38 _ (0,0) _ rfl F4.out hu rfl (by kernel_rfl) (.tmp .nil))) rfl ?_;exact ⟨_,_,_,rfl,Kd.R_nil _ _ _ _ _,Kd.R_nil _ _ _ _ _,Kd.R_nil _ _ _ _ _,B.out⟩)
 | true =>
  cases hl : logB es with
  | false =>
   rw [rpM_bad (s:=⟨a,b,ps,ss,t,c⟩) (l:=es) (by rw [hl];simp)]
   go_enter Try.func25,Try.ntmps25
   go_wp2_with (first
    | ((with_reducible refine gate_dst (N:=2) rfl ?_);refine bxq 2 #[.string a,.string b,.slice AP ps.length cP,.slice AS ss.length cS,.bool t,.string c] 38 B fun g2 w101 hb B F2 L2 E2=>?_;obtain ⟨c2_0,c2_1,c2_2,c2_3,c2_4,c2_5⟩:=cs6 F2;clear hb E2)
    | ((with_reducible refine gate_dst (N:=4) rfl ?_);refine bxq 4 #[.string (⟨#[]⟩ : ByteArray),.string (⟨#[]⟩ : ByteArray),.slice none 0 0,.slice none 0 0,.bool false,.string (⟨#[]⟩ : ByteArray)] 38 B fun g4 w102 hb B F4 L4 E4=>?_;have N2_4:=ne1 E4 F2;replace F2:=bn F2 hb;clear c2_0 c2_1 c2_2 c2_3 c2_4 c2_5;obtain ⟨c2_0,c2_1,c2_2,c2_3,c2_4,c2_5⟩:=cs6 F2;clear hb E4)
    | (go_at_call 18;with_reducible refine cl (impl_StateValid.M a b _ _ ps _ _ ss t c _ (cb HRP B) (cb HRS B)) B fun w103 hb B=>?_;replace F2:=bn F2 hb;replace F4:=bn F4 hb;clear hb)
    | (go_at_call 75;with_reducible refine cl (impl_entriesValid.M _ _ es _ (cb HR1 B)) B fun w104 hb B=>?_;replace F2:=bn F2 hb;replace F4:=bn F4 hb;clear hb)
    | ((with_reducible refine gate_store (t:=38) (p:=4) rfl ?_);obtain ⟨y0,y1,y2,y3,y4,y5,z0,z1,z2,z3,z4,z5⟩:=cz6 F4;refine sxq 38 38 4 0 [.string (⟨#[]⟩ : ByteArray),.string (⟨#[]⟩ : ByteArray),.slice none 0 0,.slice none 0 0,.bool false,.string (⟨#[]⟩ : ByteArray)] [.string (⟨#[]⟩ : ByteArray),.string (⟨#[]⟩ : ByteArray),.slice none 0 0,.slice none 0 0,.bool false,.string (⟨#[]⟩ : ByteArray)] B F4 L4 fun w105 hk B G=>?_;replace F2:=bk F2 hk N2_4.out;replace F4:=G;clear hk y0 z0 y1 z1 y2 z2 y3 z3 y4 z4 y5 z5))
   all_goals (refine bodyPost_ret (results_list (rs:=[.cell 4 38,.tmp 5]) rfl (by simp) (.cell g4 38 _ (0,0) _ rfl F4.out hu rfl (by kernel_rfl) (.tmp .nil))) rfl ?_;exact ⟨_,_,_,rfl,Kd.R_nil _ _ _ _ _,Kd.R_nil _ _ _ _ _,Kd.R_nil _ _ _ _ _,B.out⟩)
  | true =>
   have hok : (SM.mk a b ps ss t c).ok=true:=hs
   obtain ⟨hpl0,hsl0⟩:=ok_len hok
   have hpl : ps.length≤1000000:=Nat.le_trans hpl0 (by decide)
   have hsl : ss.length≤1000000:=Nat.le_trans hsl0 (by decide)
   clear hpl0 hsl0
   obtain ⟨hes,hal⟩:=logB_parts hl
   have HAL:=Aside0.mk (List.all_eq_true.mp hal)
   obtain ⟨r,hr⟩ : ∃ r,es.foldl stepE (⟨a,b,ps,ss,t,c⟩,[])=r:=⟨_,rfl⟩
   rw [rpM_go hok hl,hr]
   have H:=Aside0.mk (show (es.drop 0).foldl stepE (⟨a,b,ps,ss,t,c⟩,[])=r from hr)
   have HOK:=Aside0.mk hok
   clear hr hal hok
   go_enter Try.func25,Try.ntmps25
   go_wp2_with (first
    | ((with_reducible refine gate_dst (N:=2) rfl ?_);refine bxq 2 #[.string a,.string b,.slice AP ps.length cP,.slice AS ss.length cS,.bool t,.string c] 38 B fun g2 w201 hb B F2 L2 E2=>?_;obtain ⟨c2_0,c2_1,c2_2,c2_3,c2_4,c2_5⟩:=cs6 F2;clear hb E2)
    | ((with_reducible refine gate_dst (N:=4) rfl ?_);refine bxq 4 #[.string (⟨#[]⟩ : ByteArray),.string (⟨#[]⟩ : ByteArray),.slice none 0 0,.slice none 0 0,.bool false,.string (⟨#[]⟩ : ByteArray)] 38 B fun g4 w202 hb B F4 L4 E4=>?_;replace F2:=bn F2 hb;clear c2_0 c2_1 c2_2 c2_3 c2_4 c2_5;obtain ⟨c2_0,c2_1,c2_2,c2_3,c2_4,c2_5⟩:=cs6 F2;clear hb E4)
    | (go_at_call 18;with_reducible refine cl (impl_StateValid.M a b _ _ ps _ _ ss t c _ (cb HRP B) (cb HRS B)) B fun w203 hb B=>?_;replace F2:=bn F2 hb;replace F4:=bn F4 hb;clear c2_0 c2_1 c2_2 c2_3 c2_4 c2_5;obtain ⟨c2_0,c2_1,c2_2,c2_3,c2_4,c2_5⟩:=cs6 F2;clear hb)
    | (go_at_call 75;with_reducible refine cl (impl_entriesValid.M _ _ es _ (cb HR1 B)) B fun w204 hb B=>?_;replace F2:=bn F2 hb;replace F4:=bn F4 hb;clear c2_0 c2_1 c2_2 c2_3 c2_4 c2_5;obtain ⟨c2_0,c2_1,c2_2,c2_3,c2_4,c2_5⟩:=cs6 F2;clear hb)
    | (go_at_call 49;with_reducible refine c2r (impl_copyState.M a b _ _ ps _ _ ss t c _ (cb HRP B) (cb HRS B) HCP.out HCS.out (by omega) (by omega)) B fun AP205 kP205 AS205 kS205 w205 hb B RP205 QP205 RS205 QS205=>?_;have DP205_S205:=Aside0.mk (dty RP205 RS205 (by decide));replace F4:=bn F4 hb;clear QP205 QS205;clear hb)
    | ((with_reducible refine gate_dst (N:=6) rfl ?_);refine bxq 6 #[.string (⟨#[]⟩ : ByteArray),.string (⟨#[]⟩ : ByteArray),.slice none 0 0,.slice none 0 0,.bool false,.string (⟨#[]⟩ : ByteArray)] 38 B fun g6 w206 hb B F6 L6 E6=>?_;have N4_6:=ne1 E6 F4;replace F4:=bn F4 hb;replace RP205:=rn RP205 hb;replace RS205:=rn RS205 hb;clear hb E6)
    | ((with_reducible refine gate_store (t:=38) (p:=6) rfl ?_);obtain ⟨y0,y1,y2,y3,y4,y5,z0,z1,z2,z3,z4,z5⟩:=cz6 F6;refine sxq 38 38 6 0 [.string a,.string b,.slice AP205 ps.length kP205,.slice AS205 ss.length kS205,.bool t,.string c] [.string a,.string b,.slice AP205 ps.length kP205,.slice AS205 ss.length kS205,.bool t,.string c] B F6 L6 fun w207 hk B G=>?_;replace F4:=bk F4 hk N4_6.out;replace RP205:=rk RP205 F6 (by decide) hk;replace RS205:=rk RS205 F6 (by decide) hk;replace F6:=G;clear hk y0 z0 y1 z1 y2 z2 y3 z3 y4 z4 y5 z5))
   clear hs hl
   go_loopg [7,24] (es.length + 1) (fun kx v7 v24 wr=>∃ (j : Nat) (va vb : ByteArray) (v2 v3 : Value) (qs : List S105) (us : List S76) (vt : Bool) (vc : ByteArray) (vs : List Int),v24=.int .i64 (j : Int)∧j≤es.length∧es.length < j + kx∧vs.length≤j∧Aside0 ((SM.mk va vb qs us vt vc).ok=true)∧Aside0 (Below w.heap.size w wr)∧Aside0 (wr.heap[g4]?=some (.cells #[.string (⟨#[]⟩ : ByteArray),.string (⟨#[]⟩ : ByteArray),.slice none 0 0,.slice none 0 0,.bool false,.string (⟨#[]⟩ : ByteArray)] 38 (0,0)))∧Aside0 (wr.heap[g6]?=some (.cells #[.string va,.string vb,v2,v3,.bool vt,.string vc] 38 (0,0)))∧Aside0 (Ow k105 105 wr w.heap.size v2 qs)∧Aside0 (Ow k76 76 wr w.heap.size v3 us)∧Aside0 (Ow (Kd.int .i64) 3 wr w.heap.size v7 vs)∧Aside0 ((es.drop j).foldl stepE (⟨va,vb,qs,us,vt,vc⟩,vs)=r))
   case atStart=>exact ⟨0,_,_,_,_,_,_,_,_,[],rfl,by omega,by omega,by simp,HOK,B,F4,F6,RP205,RS205,⟨Kd.R_nil _ _ _ _ _⟩,H⟩
   case round =>
    clear H B F4 F6 RP205 RS205 HOK
    obtain ⟨j,va,vb,v2,v3,qs,us,vt,vc,vs,rfl,hj,hk,hvl,HOK,B,F4,F6,Rp,Rs,Rv,H⟩:=hrel
    obtain ⟨Ap,kp,rfl⟩:=Kd.R_slice Rp.out
    obtain ⟨As,ks,rfl⟩:=Kd.R_slice Rs.out
    obtain ⟨Av,kv,rfl⟩:=Kd.R_slice Rv.out
    obtain ⟨c4_0,c4_1,c4_2,c4_3,c4_4,c4_5⟩:=cs6 F4
    obtain ⟨c6_0,c6_1,c6_2,c6_3,c6_4,c6_5⟩:=cs6 F6
    by_cases hlt : j < es.length
    ·have HS:=H.out
     rw [en_drop hlt,List.foldl_cons] at HS
     have hen:=HAL.out (rd_T44 es (j : Int)) (by rw [en_nat hlt];exact List.getElem_mem hlt)
     clear H
     obtain ⟨d,rfl⟩ : ∃ d,gk=d + 1:=⟨gk - 1,by omega⟩
     have cj : decide ((j : Int) < (es.length : Int))=true:=decide_eq_true (by omega)
     obtain ⟨ad,hA,y0,y1,y2,y3,y4,y5⟩:=at_T44 (cb HR1 B) (j : Int) (by omega) (by omega)
     cases hA
     rw [Int.toNat_natCast] at y0 y1 y2 y3 y4 y5
     have j1:=eq_true (show (j : Int) < (es.length : Int) by omega)
     have j2:=eq_true hlt
     generalize hy : rd_T44 es (j : Int)=y at *
     obtain ⟨hk1,-,-,-⟩:=aeM_after HOK.out hen
     obtain ⟨⟨⟨xa,xb,xp,xs,xt,xc⟩,nn⟩,hm⟩ : ∃ r,aeM ⟨va,vb,qs,us,vt,vc⟩ y.f0 y.f1 y.f2.f0 y.f2.f1 y.f2.f2 y.f2.f3=r:=⟨_,rfl⟩
     rw [hm] at hk1
     rw [show stepE (⟨va,vb,qs,us,vt,vc⟩,vs) y=(⟨xa,xb,xp,xs,xt,xc⟩,vs ++ [nn]) by unfold stepE aeE;rw [hm]] at HS
     have HM:=Aside0.mk hm
     have HT:=Aside0.mk HS
     have HK:=Aside0.mk hk1
     clear hm HS hk1 hen HOK
     go_wp2_with (first
      | ((with_reducible refine gate_dst (N:=9) rfl ?_);refine bxq 9 #[.int .i64 (0),.int .i64 (0),.int .i64 (0),.string (⟨#[]⟩ : ByteArray),.int .i64 (0),.int .i64 (0)] 44 B fun g9 w301 hb B F9 L9 E9=>?_;have N4_9:=ne1 E9 F4;have N6_9:=ne1 E9 F6;replace F4:=bn F4 hb;replace F6:=bn F6 hb;replace Rp:=rn Rp hb;replace Rs:=rn Rs hb;replace Rv:=rn Rv hb;clear c6_0 c6_1 c6_2 c6_3 c6_4 c6_5;obtain ⟨c6_0,c6_1,c6_2,c6_3,c6_4,c6_5⟩:=cs6 F6;obtain ⟨c9_0,c9_1,c9_2,c9_3,c9_4,c9_5⟩:=cs6 F9;clear hb E9)
      | ((with_reducible refine gate_store (t:=44) (p:=9) rfl ?_);obtain ⟨y0,y1,y2,y3,y4,y5,z0,z1,z2,z3,z4,z5⟩:=cz6 F9;refine sxq 44 44 9 0 [.int .i64 (y.f0),.int .i64 (y.f1),.int .i64 (y.f2.f0),.string y.f2.f1,.int .i64 (y.f2.f2),.int .i64 (y.f2.f3)] [.int .i64 (y.f0),.int .i64 (y.f1),.int .i64 (y.f2.f0),.string y.f2.f1,.int .i64 (y.f2.f2),.int .i64 (y.f2.f3)] B F9 L9 fun w302 hk B G=>?_;replace F4:=bk F4 hk N4_9.out;replace F6:=bk F6 hk N6_9.out;replace Rp:=rk Rp F9 (by decide) hk;replace Rs:=rk Rs F9 (by decide) hk;replace Rv:=rk Rv F9 (by decide) hk;replace F9:=G;clear c6_0 c6_1 c6_2 c6_3 c6_4 c6_5;obtain ⟨c6_0,c6_1,c6_2,c6_3,c6_4,c6_5⟩:=cs6 F6;clear c9_0 c9_1 c9_2 c9_3 c9_4 c9_5;obtain ⟨c9_0,c9_1,c9_2,c9_3,c9_4,c9_5⟩:=cs6 F9;clear hk y0 z0 y1 z1 y2 z2 y3 z3 y4 z4 y5 z5)
      | (go_at_call 12;with_reducible refine c2r (impl_ApplyEntry.Mr va vb _ _ qs _ _ us vt vc y.f0 y.f1 y.f2.f0 y.f2.f1 y.f2.f2 y.f2.f3 xa xb xp xs xt xc nn HM.out _ (rc Rp) (rc Rs) (rl Rp) (rl Rs)) B fun AP303 kP303 AS303 kS303 w303 hb B RP303 QP303 RS303 QS303=>?_;have Dp_P303:=fr QP303 Rp;have Ds_P303:=fr QP303 Rs;have Dv_P303:=fr QP303 Rv;have Dp_S303:=fr QS303 Rp;have Ds_S303:=fr QS303 Rs;have Dv_S303:=fr QS303 Rv;replace F4:=bn F4 hb;replace F6:=bn F6 hb;replace Rp:=rn Rp hb;replace Rs:=rn Rs hb;replace Rv:=rn Rv hb;clear QP303 QS303;clear hb)
      | ((with_reducible refine gate_store (t:=38) (p:=6) rfl ?_);obtain ⟨y0,y1,y2,y3,y4,y5,z0,z1,z2,z3,z4,z5⟩:=cz6 F6;refine sxq 38 38 6 0 [.string xa,.string xb,.slice AP303 xp.length kP303,.slice AS303 xs.length kS303,.bool xt,.string xc] [.string xa,.string xb,.slice AP303 xp.length kP303,.slice AS303 xs.length kS303,.bool xt,.string xc] B F6 L6 fun w304 hk B G=>?_;replace F4:=bk F4 hk N4_6.out;replace Rp:=rk Rp F6 (by decide) hk;replace Rs:=rk Rs F6 (by decide) hk;replace Rv:=rk Rv F6 (by decide) hk;replace RP303:=rk RP303 F6 (by decide) hk;replace RS303:=rk RS303 F6 (by decide) hk;replace F6:=G;clear hk y0 z0 y1 z1 y2 z2 y3 z3 y4 z4 y5 z5)
      | ((with_reducible refine gate_dst (N:=36) rfl ?_);refine lt (Kd.int .i64) 3 ?hg (N:=36) ?hd ([(nn)] : List Int) [.int .i64 (nn)] ?hr (Reps.one (show Kd.M (Kd.int .i64) _ _ _ (nn) [.int .i64 (nn)] from rfl) (Reps.none _ _)) (by simp) B ?_;(case hd | hg=>rfl);(case hr=>go_simp;first | done | rfl);intro z36 hz36 AL36 kL36 w305 hb B RL36 QL36;have Dp_L36:=fr QL36 Rp;have Ds_L36:=fr QL36 Rs;have Dv_L36:=fr QL36 Rv;have DP303_L36:=fr QL36 RP303;have DS303_L36:=fr QL36 RS303;replace F4:=bn F4 hb;replace F6:=bn F6 hb;replace Rv:=rn Rv hb;replace RP303:=rn RP303 hb;replace RS303:=rn RS303 hb;clear hb QL36)
      | ((with_reducible refine gate_builtin (b:=.append) (xs:=#[.tmp 34,.tmp 36]) rfl ?_);at_builtin;refine apx (Kd.int .i64) 3 rfl (.tmp 34) (.tmp 36) 58 (.int .i64 0) 8 rfl Try.underlying58 info3 rfl (by decide) (by omega) rfl rfl Rv (rc RL36) (fun _ _ h=>h) (by rw [← hz36];simp only [List.length_cons,List.length_nil];omega) B ?_;intro z37 hz37 AL37 kL37 w306 hg B RL37 hat;replace F4:=bga F4 hg Rv (by decide);replace F6:=bga F6 hg Rv (by decide);replace RP303:=rga RP303 rfl hg (dty Rv RP303 (by decide));replace RS303:=rga RS303 rfl hg (dty Rv RS303 (by decide));clear hg hat))
     go_roundg d
     case measure=>omega
     case rel=>exact ⟨j + 1,xa,xb,_,_,xp,xs,xt,xc,z37,congrArg (Value.int .i64) (Int.natCast_succ _).symm,by omega,by omega,(by rw [← hz37,← hz36];simp only [List.length_append,List.length_cons,List.length_nil];omega),HK,B,F4,F6,RP303,RS303,RL37,⟨by rw [← hz37,← hz36];exact HT.out⟩⟩
    ·have cj : decide ((j : Int) < (es.length : Int))=false:=decide_eq_false (by omega)
     have hr:=H.out
     rw [List.drop_of_length_le (by omega)] at hr
     have hr2 : (SM.mk va vb qs us vt vc,vs)=r:=hr
     subst hr2
     clear hr H
     go_wp2_with (first
      | ((with_reducible refine gate_store (t:=38) (p:=4) rfl ?_);obtain ⟨y0,y1,y2,y3,y4,y5,z0,z1,z2,z3,z4,z5⟩:=cz6 F4;refine sxq 38 38 4 0 [.string va,.string vb,.slice Ap qs.length kp,.slice As us.length ks,.bool vt,.string vc] [.string va,.string vb,.slice Ap qs.length kp,.slice As us.length ks,.bool vt,.string vc] B F4 L4 fun w601 hk B G=>?_;replace Rp:=rk Rp F4 (by decide) hk;replace Rs:=rk Rs F4 (by decide) hk;replace Rv:=rk Rv F4 (by decide) hk;replace F4:=G;clear hk y0 z0 y1 z1 y2 z2 y3 z3 y4 z4 y5 z5))
     refine bodyPost_ret (results_list (rs:=[.cell 4 38,.tmp 5]) rfl (by simp) (.cell g4 38 _ (0,0) _ rfl F4.out hu rfl (by kernel_rfl) (.tmp .nil))) rfl ?_
     exact ⟨_,_,_,rfl,Rp.out,Rs.out,Rv.out,B.out⟩

/-- a call that gives three rows -/
theorem c3r {P : Program} {F : FuncId} {args : Array Value} {w W : World} {Q : Ending→World→Prop} {α β γ : Type} {d : Kd α} {d' : Kd β} {d2 : Kd γ} {e e' e2 : Nat} {xs : List α} {ys : List β} {zs : List γ} {f : Value→Value→Value→Value} (c : Calls P F args W fun r w'=>∃ v1 v2 v3,r=.returned (f v1 v2 v3)∧Kd.R d e w' W.heap.size (fun _=>True) v1 xs∧Kd.R d' e' w' W.heap.size (fun _=>True) v2 ys∧Kd.R d2 e2 w' W.heap.size (fun _=>True) v3 zs∧Below W.heap.size W w') (B : Aside0 (Below w.heap.size w W))
    (h : ∀ A kk A' kk' A2 kk2 W',Below W.heap.size W W'→Aside0 (Below w.heap.size w W')→Aside0 (Ow d e W' w.heap.size (.slice A xs.length kk) xs)→Aside0 (Fr W (.slice A xs.length kk))→Aside0 (Ow d' e' W' w.heap.size (.slice A' ys.length kk') ys)→Aside0 (Fr W (.slice A' ys.length kk'))→Aside0 (Ow d2 e2 W' w.heap.size (.slice A2 zs.length kk2) zs)→Aside0 (Fr W (.slice A2 zs.length kk2)) →
      Q (.returned (f (.slice A xs.length kk) (.slice A' ys.length kk') (.slice A2 zs.length kk2))) W') : Calls P F args W Q :=
  c.mono (by
    rintro r W' ⟨v1,v2,v3,rfl,ho,ho',ho2,hb⟩
    obtain ⟨A,kk,rfl⟩:=Kd.R_slice ho
    obtain ⟨A',kk',rfl⟩:=Kd.R_slice ho'
    obtain ⟨A2,kk2,rfl⟩:=Kd.R_slice ho2
    exact h A kk A' kk' A2 kk2 W' hb ⟨below_step B.out hb⟩ ⟨Kd.R_lower ho (below_size B.out)⟩ ⟨fun k hk=>Kd.R_base ho k hk⟩ ⟨Kd.R_lower ho' (below_size B.out)⟩ ⟨fun k hk=>Kd.R_base ho' k hk⟩ ⟨Kd.R_lower ho2 (below_size B.out)⟩ ⟨fun k hk=>Kd.R_base ho2 k hk⟩)

theorem spec_Replay.Mr (a b : ByteArray) (AP : Option Addr) (cP : Nat) (ps : List S105) (AS : Option Addr) (cS : Nat) (ss : List S76) (t : Bool) (c : ByteArray) (A1 : Option Addr) (c1 : Nat) (es : List S44) (xa xb : ByteArray) (xp : List S105) (xs : List S76) (xt : Bool) (xc : ByteArray) (rr : List Int) (hm : rpM ⟨a,b,ps,ss,t,c⟩ es=(⟨xa,xb,xp,xs,xt,xc⟩,rr)) (w : World) (hrp : Kd.C k105 w AP ps.length ps) (hrs : Kd.C k76 w AS ss.length ss) (hcp : ps.length≤cP) (hcs : ss.length≤cS) (hr1 : Kd.C k44 w A1 es.length es) : Calls Try.prog 23 #[.agg #[.string a,.string b,.slice AP ps.length cP,.slice AS ss.length cS,.bool t,.string c],.slice A1 es.length c1] w fun e w'=>∃ v2 v3 v4,e=.returned (.tuple #[.agg #[.string xa,.string xb,v2,v3,.bool xt,.string xc],v4])∧Kd.R k105 105 w' w.heap.size (fun _=>True) v2 xp∧Kd.R k76 76 w' w.heap.size (fun _=>True) v3 xs∧Kd.R (Kd.int .i64) 3 w' w.heap.size (fun _=>True) v4 rr∧Below w.heap.size w w':=by
 have h:=spec_Replay.M a b AP cP ps AS cS ss t c A1 c1 es w hrp hrs hcp hcs hr1
 rw [hm] at h
 exact h
theorem impl_Replay.Mr (a b : ByteArray) (AP : Option Addr) (cP : Nat) (ps : List S105) (AS : Option Addr) (cS : Nat) (ss : List S76) (t : Bool) (c : ByteArray) (A1 : Option Addr) (c1 : Nat) (es : List S44) (xa xb : ByteArray) (xp : List S105) (xs : List S76) (xt : Bool) (xc : ByteArray) (rr : List Int) (hm : rpM ⟨a,b,ps,ss,t,c⟩ es=(⟨xa,xb,xp,xs,xt,xc⟩,rr)) (w : World) (hrp : Kd.C k105 w AP ps.length ps) (hrs : Kd.C k76 w AS ss.length ss) (hcp : ps.length≤cP) (hcs : ss.length≤cS) (hr1 : Kd.C k44 w A1 es.length es) : Calls Try.prog 25 #[.agg #[.string a,.string b,.slice AP ps.length cP,.slice AS ss.length cS,.bool t,.string c],.slice A1 es.length c1] w fun e w'=>∃ v2 v3 v4,e=.returned (.tuple #[.agg #[.string xa,.string xb,v2,v3,.bool xt,.string xc],v4])∧Kd.R k105 105 w' w.heap.size (fun _=>True) v2 xp∧Kd.R k76 76 w' w.heap.size (fun _=>True) v3 xs∧Kd.R (Kd.int .i64) 3 w' w.heap.size (fun _=>True) v4 rr∧Below w.heap.size w w':=by
 have h:=impl_Replay.M a b AP cP ps AS cS ss t c A1 c1 es w hrp hrs hcp hcs hr1
 rw [hm] at h
 exact h
theorem rpM_len (s : SM) (l : List S44) : (rpM s l).1.ps.length≤48∧(rpM s l).1.ss.length≤4∧(rpM s l).2.length≤24:=by
 by_cases h : s.ok=true∧logB l=true
 ·obtain ⟨h1,h2,-⟩:=rpM_ok h.1 h.2
  obtain ⟨h3,h4⟩:=ok_len h1
  exact ⟨h3,h4,by rw [h2];exact (logB_parts h.2).1⟩
 ·rw [rpM_bad h]
  exact ⟨Nat.zero_le _,Nat.zero_le _,Nat.zero_le _⟩

theorem laws_alive.M (w : World) : Calls Try.prog 21 #[] w fun e w'=>e=.returned (.bool true)∧Below w.heap.size w w':=laws_alive.calls 12 true w (by decide +kernel)

theorem sameP_loop (xs : List S105) (hn : xs.length≤2097152) (d : Nat) : ∀ (j : Nat),j + d=xs.length→∀ k,d + 1≤k→laws_samePairs.l0 k xs xs (j : Int)=some true:=by
 induction d with
 | zero =>
  intro j hj k hk
  obtain ⟨k,rfl⟩ : ∃ i,k=i + 1:=⟨k - 1,by omega⟩
  simp only [laws_samePairs.l0]
  rw [if_neg (by omega)]
 | succ d ih =>
  intro j hj k hk
  obtain ⟨k,rfl⟩ : ∃ i,k=i + 1:=⟨k - 1,by omega⟩
  have e:=ih (j + 1) (by omega) k (by omega)
  simp only [laws_samePairs.l0]
  rw [if_pos (by omega),if_pos (by omega),if_pos (by omega),if_neg (by simp),w64 (by omega) (by omega)]
  simpa using e
theorem laws_samePairs.M (A0 : Option Addr) (c0 : Nat) (A1 : Option Addr) (c1 : Nat) (l m : List S105) (he : l=m) (W : World) (h0 : Kd.C k105 W A0 l.length l) (hc0 : l.length≤c0) (h1 : Kd.C k105 W A1 m.length m) (hc1 : m.length≤c1) (hn : m.length≤2097152) :
  Calls Try.prog 64 #[.slice A0 l.length c0,.slice A1 m.length c1] W fun e w'=>e=.returned (.bool true)∧Below W.heap.size W w':=by
 subst he
 refine (laws_samePairs.calls (l.length + 21) A0 c0 l A1 c1 l true W h0 hc0 h1 hc1 ?_).mono (fun _ _ h=>⟨h.1,h.2.below⟩)
 unfold laws_samePairs.f
 rw [if_pos rfl]
 simpa using sameP_loop l hn l.length 0 (by omega) (l.length + 21) (by omega)
theorem sameS_loop (xs : List S76) (hn : xs.length≤2097152) (d : Nat) : ∀ (j : Nat),j + d=xs.length→∀ k,d + 1≤k→laws_sameSessions.l0 k xs xs (j : Int)=some true:=by
 induction d with
 | zero =>
  intro j hj k hk
  obtain ⟨k,rfl⟩ : ∃ i,k=i + 1:=⟨k - 1,by omega⟩
  simp only [laws_sameSessions.l0]
  rw [if_neg (by omega)]
 | succ d ih =>
  intro j hj k hk
  obtain ⟨k,rfl⟩ : ∃ i,k=i + 1:=⟨k - 1,by omega⟩
  have e:=ih (j + 1) (by omega) k (by omega)
  simp only [laws_sameSessions.l0]
  rw [if_pos (by omega),if_pos (by omega),if_pos (by omega),if_neg (by simp),w64 (by omega) (by omega)]
  simpa using e
theorem laws_sameSessions.M (A0 : Option Addr) (c0 : Nat) (A1 : Option Addr) (c1 : Nat) (l m : List S76) (he : l=m) (W : World) (h0 : Kd.C k76 W A0 l.length l) (hc0 : l.length≤c0) (h1 : Kd.C k76 W A1 m.length m) (hc1 : m.length≤c1) (hn : m.length≤2097152) :
  Calls Try.prog 65 #[.slice A0 l.length c0,.slice A1 m.length c1] W fun e w'=>e=.returned (.bool true)∧Below W.heap.size W w':=by
 subst he
 refine (laws_sameSessions.calls (l.length + 21) A0 c0 l A1 c1 l true W h0 hc0 h1 hc1 ?_).mono (fun _ _ h=>⟨h.1,h.2.below⟩)
 unfold laws_sameSessions.f
 rw [if_pos rfl]
 simpa using sameS_loop l hn l.length 0 (by omega) (l.length + 21) (by omega)
theorem laws_sameState.M (a b : ByteArray) (AP : Option Addr) (cP : Nat) (AQ : Option Addr) (cQ : Nat) (ps : List S105) (AS : Option Addr) (cS : Nat) (AU : Option Addr) (cU : Nat) (ss : List S76) (t : Bool) (c : ByteArray) (w : World) (hrp : Kd.C k105 w AP ps.length ps) (hrq : Kd.C k105 w AQ ps.length ps) (hrs : Kd.C k76 w AS ss.length ss) (hru : Kd.C k76 w AU ss.length ss) (hcp : ps.length≤cP) (hcq : ps.length≤cQ) (hcs : ss.length≤cS) (hcu : ss.length≤cU) (hpl : ps.length≤2097152) (hsl : ss.length≤2097152) : Calls Try.prog 17 #[.agg #[.string a,.string b,.slice AP ps.length cP,.slice AS ss.length cS,.bool t,.string c],.agg #[.string a,.string b,.slice AQ ps.length cQ,.slice AU ss.length cU,.bool t,.string c]] w fun e w'=>e=.returned (.bool true)∧Below w.heap.size w w':=by
 have B:=Aside0.mk (Below.refl w.heap.size w)
 have hu:=Try.underlying38
 have HRP:=Aside0.mk hrp
 have HRQ:=Aside0.mk hrq
 have HRS:=Aside0.mk hrs
 have HRU:=Aside0.mk hru
 clear hrp hrq hrs hru
 have HCP:=Aside0.mk hcp
 have HCQ:=Aside0.mk hcq
 have HCS:=Aside0.mk hcs
 have HCU:=Aside0.mk hcu
 clear hcp hcq hcs hcu
 go_enter Try.func17,Try.ntmps17
 go_wp2_with (first
  | ((with_reducible refine gate_dst (N:=2) rfl ?_);refine bxq 2 #[.string a,.string b,.slice AP ps.length cP,.slice AS ss.length cS,.bool t,.string c] 38 B fun g2 w1 hb B F2 L2 E2=>?_;obtain ⟨c2_0,c2_1,c2_2,c2_3,c2_4,c2_5⟩:=cs6 F2;clear hb E2)
  | ((with_reducible refine gate_dst (N:=3) rfl ?_);refine bxq 3 #[.string a,.string b,.slice AQ ps.length cQ,.slice AU ss.length cU,.bool t,.string c] 38 B fun g3 w2 hb B F3 L3 E3=>?_;replace F2:=bn F2 hb;clear c2_0 c2_1 c2_2 c2_3 c2_4 c2_5;obtain ⟨c2_0,c2_1,c2_2,c2_3,c2_4,c2_5⟩:=cs6 F2;obtain ⟨c3_0,c3_1,c3_2,c3_3,c3_4,c3_5⟩:=cs6 F3;clear hb E3)
  | (go_at_call 64;with_reducible refine cl (laws_samePairs.M _ _ _ _ ps ps rfl _ (cb HRP B) HCP.out (cb HRQ B) HCQ.out (by assumption)) B fun w3 hb B=>?_;replace F2:=bn F2 hb;replace F3:=bn F3 hb;clear c2_0 c2_1 c2_2 c2_3 c2_4 c2_5;obtain ⟨c2_0,c2_1,c2_2,c2_3,c2_4,c2_5⟩:=cs6 F2;clear c3_0 c3_1 c3_2 c3_3 c3_4 c3_5;obtain ⟨c3_0,c3_1,c3_2,c3_3,c3_4,c3_5⟩:=cs6 F3;clear hb)
  | (go_at_call 65;with_reducible refine cl (laws_sameSessions.M _ _ _ _ ss ss rfl _ (cb HRS B) HCS.out (cb HRU B) HCU.out (by assumption)) B fun w4 hb B=>?_;replace F2:=bn F2 hb;replace F3:=bn F3 hb;clear c2_0 c2_1 c2_2 c2_3 c2_4 c2_5;obtain ⟨c2_0,c2_1,c2_2,c2_3,c2_4,c2_5⟩:=cs6 F2;clear c3_0 c3_1 c3_2 c3_3 c3_4 c3_5;obtain ⟨c3_0,c3_1,c3_2,c3_3,c3_4,c3_5⟩:=cs6 F3;clear hb))
 all_goals go_ret
 all_goals exact ⟨by simp_all,B.out⟩
theorem laws_sameState.Z (AP : Option Addr) (cP : Nat) (AS : Option Addr) (cS : Nat) (w : World) (hrp : Kd.C k105 w AP 0 []) (hrs : Kd.C k76 w AS 0 []) : Calls Try.prog 17 #[.agg #[.string (⟨#[]⟩ : ByteArray),.string (⟨#[]⟩ : ByteArray),.slice AP 0 cP,.slice AS 0 cS,.bool false,.string (⟨#[]⟩ : ByteArray)],.agg #[.string (⟨#[]⟩ : ByteArray),.string (⟨#[]⟩ : ByteArray),.slice none 0 0,.slice none 0 0,.bool false,.string (⟨#[]⟩ : ByteArray)]] w fun e w'=>e=.returned (.bool true)∧Below w.heap.size w w' :=
 laws_sameState.M (⟨#[]⟩ : ByteArray) (⟨#[]⟩ : ByteArray) AP cP none 0 [] AS cS none 0 [] false (⟨#[]⟩ : ByteArray) w hrp (nilC _ _) hrs (nilC _ _) (Nat.zero_le _) (Nat.le_refl 0) (Nat.zero_le _) (Nat.le_refl 0) (Nat.zero_le _) (Nat.zero_le _)
theorem laws_noState.M (AP : Option Addr) (cP : Nat) (AS : Option Addr) (cS : Nat) (w : World) (hrp : Kd.C k105 w AP 0 []) (hrs : Kd.C k76 w AS 0 []) : Calls Try.prog 20 #[.agg #[.string (⟨#[]⟩ : ByteArray),.string (⟨#[]⟩ : ByteArray),.slice AP 0 cP,.slice AS 0 cS,.bool false,.string (⟨#[]⟩ : ByteArray)]] w fun e w'=>e=.returned (.bool true)∧Below w.heap.size w w':=by
 have B:=Aside0.mk (Below.refl w.heap.size w)
 have hu:=Try.underlying38
 have HRP:=Aside0.mk hrp
 have HRS:=Aside0.mk hrs
 clear hrp hrs
 go_enter Try.func20,Try.ntmps20
 go_wp2_with (first
  | ((with_reducible refine gate_dst (N:=1) rfl ?_);refine bxq 1 #[.string (⟨#[]⟩ : ByteArray),.string (⟨#[]⟩ : ByteArray),.slice AP ([] : List S105).length cP,.slice AS ([] : List S76).length cS,.bool false,.string (⟨#[]⟩ : ByteArray)] 38 B fun g1 w1 hb B F1 L1 E1=>?_;obtain ⟨c1_0,c1_1,c1_2,c1_3,c1_4,c1_5⟩:=cs6 F1;clear hb E1)
  | (go_at_call 17;with_reducible refine cl (laws_sameState.Z AP cP AS cS _ (cb HRP B) (cb HRS B)) B fun w2 hb B=>?_;clear hb))
 all_goals go_ret
 all_goals exact ⟨rfl,B.out⟩

/-! A reader of a code that functions share: what their calls keep. -/
section
variable {w W W' W0 : World} {g gb t p2 : Nat} {bs : List Int} {p p' : Int} {cs : Array Value} {α : Type} {d : Kd α} {e b : Nat} {v v1 : Value} {xs : List α}
def RB (g : Nat) : Nat→Prop:=fun k=>k=g
theorem bkr (F : Aside0 (W.heap[gb]?=some (.cells cs t (0,0)))) (HI : Aside0 (IsS133 w W g bs p)) (ht : t ≠ 133) (hk : Kept W W' (RB g)) : Aside0 (W'.heap[gb]?=some (.cells cs t (0,0))):=⟨blk_kept F.out hk (fun h=>HI.out.ne_blk F.out ht h.symm)⟩
theorem rkr (R : Aside0 (Ow d e W b v xs)) (HI : Aside0 (IsS133 w W g bs p)) (ht : ∀ q,q ∈ e :: d.E→q ≠ 133) (hk : Kept W W' (RB g)) : Aside0 (Ow d e W' b v xs):=⟨Kd.R_mono (Kd.R_kept (HI.out.apart R.out ht) hk (fun _ h=>h.2)) (fun _ _=>trivial)⟩
theorem hib (HI : Aside0 (IsS133 w W g bs p)) (hb : Below W.heap.size W W') : Aside0 (IsS133 w W' g bs p):=⟨HI.out.below hb⟩
theorem his (HI : Aside0 (IsS133 w W g bs p)) (F : Aside0 (W.heap[gb]?=some (.cells cs t (0,0)))) (ht : t ≠ 133) (hk : KeepBut W W' gb none) : Aside0 (IsS133 w W' g bs p):=⟨HI.out.kept (Kept.of_keep (Kept.refl W (RB gb)) hk (.inl rfl)) (fun h=>HI.out.ne_blk F.out ht h)⟩
theorem hig (HI : Aside0 (IsS133 w W g bs p)) (R : Aside0 (Ow d e W b v xs)) (ht : e ≠ 133) (hg : W.grownBy W' v.ownBlock) : Aside0 (IsS133 w W' g bs p):=⟨HI.out.grown hg (HI.out.own_ne R.out ht)⟩
theorem kkb (K : Aside0 (Kept W0 W (RB g))) (hb : Below W.heap.size W W') : Aside0 (Kept W0 W' (RB g)):=⟨K.out.below hb⟩
theorem kks (K : Aside0 (Kept W0 W (RB g))) (M : Aside0 (W0.heap.size≤gb)) (hk : KeepBut W W' gb none) : Aside0 (Kept W0 W' (RB g)):=⟨K.out.of_keep hk (.inr M.out)⟩
theorem kkr (K : Aside0 (Kept W0 W (RB g))) (hk : Kept W W' (RB g)) : Aside0 (Kept W0 W' (RB g)):=⟨K.out.then_ hk (fun _ h=>.inl h)⟩
theorem kkg (K : Aside0 (Kept W0 W (RB g))) (M : Aside0 (Fr W0 v)) (hg : W.grownBy W' v.ownBlock) : Aside0 (Kept W0 W' (RB g)):=⟨Kept.of_grown hg K.out (fun k h=>.inr (M.out k h))⟩
theorem mbx (E : Aside0 (gb=W.heap.size)) (K : Aside0 (Kept W0 W (RB g))) : Aside0 (W0.heap.size≤gb):=⟨E.out ▸ K.out.1⟩
theorem mrf (Q : Aside0 (Fr W v)) (K : Aside0 (Kept W0 W (RB g))) : Aside0 (Fr W0 v):=⟨fun k h=>Nat.le_trans K.out.1 (Q.out k h)⟩
theorem mra (hat : Aside0 (v1.ownBlock=v.ownBlock ∨ ∃ b,v1.ownBlock=some b∧W.heap.size≤b)) (M : Aside0 (Fr W0 v)) (K : Aside0 (Kept W0 W (RB g))) : Aside0 (Fr W0 v1):=⟨fun k h=>by
  rcases hat.out with h1 | ⟨b,h1,hb⟩
  · exact M.out k (h1 ▸ h)
  · rw [h1] at h
    cases h
    exact Nat.le_trans K.out.1 hb⟩
end
section
variable {P : Program} {F : FuncId} {args : Array Value} {w W : World} {Q : Ending→World→Prop} {g : Nat} {bs : List Int} {p N : Int} {α β τ σ : Type}
/-- what a call with a reader leaves -/
def Left (w W : World) (g : Nat) (bs : List Int) (p N : Int) (p' : Int) (w' : World) : Prop:=(p≤p'∧p'≤p + N)∧IsS133 w w' g bs p'∧Below w.heap.size w w'∧Kept W w' (RB g)
theorem cg1 {f : α→Value} {q : α→Prop} (c : Calls P F args W fun e w'=>∃ x p',e=.returned (f x)∧q x∧Left w W g bs p N p' w')
    (h : ∀ x p',q x→(p≤p'∧p'≤p + N)→∀ W',Kept W W' (RB g)→Aside0 (Below w.heap.size w W')→Aside0 (IsS133 w W' g bs p')→Q (.returned (f x)) W') : Calls P F args W Q :=
  c.mono (by rintro e W' ⟨x,p',rfl,hq,hp,hi,hb,hk⟩;exact h x p' hq hp W' hk ⟨hb⟩ ⟨hi⟩)
theorem cg2 {f : α→β→Value} {q : α→β→Prop} (c : Calls P F args W fun e w'=>∃ x y p',e=.returned (f x y)∧q x y∧Left w W g bs p N p' w')
    (h : ∀ x y p',q x y→(p≤p'∧p'≤p + N)→∀ W',Kept W W' (RB g)→Aside0 (Below w.heap.size w W')→Aside0 (IsS133 w W' g bs p')→Q (.returned (f x y)) W') : Calls P F args W Q :=
  c.mono (by rintro e W' ⟨x,y,p',rfl,hq,hp,hi,hb,hk⟩;exact h x y p' hq hp W' hk ⟨hb⟩ ⟨hi⟩)
theorem cg3 {f : α→β→τ→Value} {q : α→β→τ→Prop} (c : Calls P F args W fun e w'=>∃ x y z p',e=.returned (f x y z)∧q x y z∧Left w W g bs p N p' w')
    (h : ∀ x y z p',q x y z→(p≤p'∧p'≤p + N)→∀ W',Kept W W' (RB g)→Aside0 (Below w.heap.size w W')→Aside0 (IsS133 w W' g bs p')→Q (.returned (f x y z)) W') : Calls P F args W Q :=
  c.mono (by rintro e W' ⟨x,y,z,p',rfl,hq,hp,hi,hb,hk⟩;exact h x y z p' hq hp W' hk ⟨hb⟩ ⟨hi⟩)
theorem cgr {d : Kd α} {e : Nat} {f : Value→Value} {q : List α→Prop} (c : Calls P F args W fun r w'=>∃ v0 xs p',r=.returned (f v0)∧q xs∧Kd.R d e w' w.heap.size (fun _=>True) v0 xs∧Fr W v0∧Left w W g bs p N p' w')
    (h : ∀ xs A kk p',q xs→(p≤p'∧p'≤p + N)→∀ W',Kept W W' (RB g)→Aside0 (Below w.heap.size w W')→Aside0 (IsS133 w W' g bs p')→Aside0 (Ow d e W' w.heap.size (.slice A xs.length kk) xs)→Aside0 (Fr W (.slice A xs.length kk))→Q (.returned (f (.slice A xs.length kk))) W') : Calls P F args W Q :=
  c.mono (by
    rintro r W' ⟨v0,xs,p',rfl,hq,ho,hf,hp,hi,hb,hk⟩
    obtain ⟨A,kk,rfl⟩:=Kd.R_slice ho
    exact h xs A kk p' hq hp W' hk ⟨hb⟩ ⟨hi⟩ ⟨ho⟩ ⟨hf⟩)
/-- a state -/
theorem cgs {d : Kd α} {d' : Kd β} {e e' : Nat} {f : ByteArray→ByteArray→Value→Value→Bool→ByteArray→Value} {q : List α→List β→Prop} (c : Calls P F args W fun r w'=>∃ a b v0 v1 t c xs ys p',r=.returned (f a b v0 v1 t c)∧q xs ys∧(Kd.R d e w' w.heap.size (fun _=>True) v0 xs∧Fr W v0)∧(Kd.R d' e' w' w.heap.size (fun _=>True) v1 ys∧Fr W v1)∧Left w W g bs p N p' w')
    (h : ∀ a b t c xs ys A kk A' kk' p',q xs ys→(p≤p'∧p'≤p + N)→∀ W',Kept W W' (RB g)→Aside0 (Below w.heap.size w W')→Aside0 (IsS133 w W' g bs p')→Aside0 (Ow d e W' w.heap.size (.slice A xs.length kk) xs)→Aside0 (Fr W (.slice A xs.length kk))→Aside0 (Ow d' e' W' w.heap.size (.slice A' ys.length kk') ys)→Aside0 (Fr W (.slice A' ys.length kk')) →
      Q (.returned (f a b (.slice A xs.length kk) (.slice A' ys.length kk') t c)) W') : Calls P F args W Q :=
  c.mono (by
    rintro r W' ⟨a,b,v0,v1,t,c,xs,ys,p',rfl,hq,⟨ho,hf⟩,⟨ho',hf'⟩,hp,hi,hb,hk⟩
    obtain ⟨A,kk,rfl⟩:=Kd.R_slice ho
    obtain ⟨A',kk',rfl⟩:=Kd.R_slice ho'
    exact h a b t c xs ys A kk A' kk' p' hq hp W' hk ⟨hb⟩ ⟨hi⟩ ⟨ho⟩ ⟨hf⟩ ⟨ho'⟩ ⟨hf'⟩)
theorem copen {w W : World} {P : Program} {F : FuncId} {args : Array Value} {Q : Ending→World→Prop} {bs : List Int} {p : Int} (c : Calls P F args W fun e w'=>∃ g,e=.returned (.pointer (some ⟨g,0,none⟩))∧IsS133 w w' g bs p∧Below w.heap.size w w'∧Below W.heap.size W w')
    (h : ∀ g W',Below W.heap.size W W'→Aside0 (Below w.heap.size w W')→Aside0 (IsS133 w W' g bs p)→Q (.returned (.pointer (some ⟨g,0,none⟩))) W') : Calls P F args W Q :=
  c.mono (by rintro e W' ⟨g,rfl,hi,hb,hb'⟩;exact h g W' hb' ⟨hb⟩ ⟨hi⟩)
theorem kept_keep {W W' : World} {g : Nat} (h : KeepBut W W' g none) : Kept W W' (RB g):=Kept.of_keep (Kept.refl W _) h (.inl rfl)
end

end Go.Proofs.Ythofkheehldioaa.PFnReplay
