/- Walks over models, part 2: iae aer szst tost entl tostate eqst markp marks markst lawFnExactApplyEntry. -/
import Derived.Test.YthofkheehldioaaPFnExactApplyEntryx0
import Derived.Deep.RegionHeld3
import Derived.Lib.Strings
import Derived.Laws.BytesArg
import Derived.Test.YthofkheehldioaaPFnExactApplyEntryx72
import Derived.Test.YthofkheehldioaaPFnExactApplyEntryx75
import Derived.Test.YthofkheehldioaaPFnExactApplyEntryx73
import Derived.Test.YthofkheehldioaaPFnExactApplyEntryx76
import Derived.Test.YthofkheehldioaaMFnExactApplyEntry0
import Derived.Test.YthofkheehldioaaMFnExactApplyEntry1
namespace Go.Proofs.Ythofkheehldioaa.PFnExactApplyEntry
open Go.RowKit Go.Proofs.YthofkheehldioaaW.PrintWords Go.Proofs.YthofkheehldioaaW.PrintLast Go.Proofs.YthofkheehldioaaW.PrintMore
set_option linter.unusedVariables false
set_option linter.unusedSimpArgs false
set_option maxHeartbeats 4000000
set_option maxRecDepth 100000
attribute [local go_sem] leq_str geq_str gtr_str
theorem impl_sessionPlace.Mb (A0 : Option Addr) (c0 : Nat) (l : List S76) (c : Int) (w : World) (hr0 : Kd.C k76 w A0 l.length l) (hc0 : l.length≤c0) (hv : sesB l=true) (bb : Bool) (hh : hitOf l c=bb) : Calls Try.prog 50 #[.slice A0 l.length c0,.int .i64 c] w fun e w'=>e=.returned (.tuple #[.int .i64 ((plOf l c : Nat) : Int),.bool bb])∧Below w.heap.size w w':=by
 subst hh
 exact impl_sessionPlace.M A0 c0 l c w hr0 hc0 hv
def impl_ApplyEntry.T5 : Bool × List (List Nat × List Nat):=(true,[([],[]),([0],[0]),([1],[1]),([2,1],[1,2]),([1],[1]),([4,1],[1,4]),([1],[1]),([5,6,1],[1,5,6]),([7,1],[1,7]),([8,1],[1,8]),([3,9,1],[1,3,9]),([1,10],[1,10])])
def impl_ApplyEntry.B5 : List Nat:=[0,1,3,7,3,19,3,115,243,499,1023,2047]
theorem impl_ApplyEntry.tab5 : rtab .any (opsOf Try.f12 5)=impl_ApplyEntry.T5:=by kernel_rfl
theorem impl_ApplyEntry.bits5 : waitsOk impl_ApplyEntry.T5.2 impl_ApplyEntry.B5=true:=by kernel_rfl
def impl_ApplyEntry.T6 : Bool × List (List Nat × List Nat):=(true,[([],[]),([0],[0]),([],[]),([2],[2]),([],[]),([3,4],[3,4]),([5],[5]),([6],[6]),([1,7],[1,7])])
def impl_ApplyEntry.B6 : List Nat:=[0,1,0,4,0,28,60,124,255]
theorem impl_ApplyEntry.tab6 : rtab .any (opsOf Try.f12 6)=impl_ApplyEntry.T6:=by kernel_rfl
theorem impl_ApplyEntry.bits6 : waitsOk impl_ApplyEntry.T6.2 impl_ApplyEntry.B6=true:=by kernel_rfl
def impl_ApplyEntry.T7 : Bool × List (List Nat × List Nat):=(true,[([],[]),([],[]),([1],[1]),([],[]),([2,3],[2,3]),([4],[4]),([5],[5]),([0,0],[0]),([6,7,0,1,2,3,4,5,6,7],[6])])
def impl_ApplyEntry.B7 : List Nat:=[0,0,2,0,14,30,62,1,255]
theorem impl_ApplyEntry.tab7 : rtab .any (opsOf Try.f12 7)=impl_ApplyEntry.T7:=by kernel_rfl
theorem impl_ApplyEntry.bits7 : waitsOk impl_ApplyEntry.T7.2 impl_ApplyEntry.B7=true:=by kernel_rfl
theorem impl_ApplyEntry.M (a b : ByteArray) (AP : Option Addr) (cP : Nat) (ps : List S105) (AS : Option Addr) (cS : Nat) (ss : List S76) (t : Bool) (c : ByteArray) (ci sq k : Int) (x : ByteArray) (v o : Int) (w : World) (hrp : Kd.C k105 w AP ps.length ps) (hrs : Kd.C k76 w AS ss.length ss) (hcp : ps.length≤cP) (hcs : ss.length≤cS) : Calls Try.prog 12 #[.agg #[.string a,.string b,.slice AP ps.length cP,.slice AS ss.length cS,.bool t,.string c],.agg #[.int .i64 ci,.int .i64 sq,.int .i64 k,.string x,.int .i64 v,.int .i64 o]] w fun e w'=>∃ v2 v3,e=.returned (.tuple #[.agg #[.string (aeM ⟨a,b,ps,ss,t,c⟩ ci sq k x v o).1.a,.string (aeM ⟨a,b,ps,ss,t,c⟩ ci sq k x v o).1.b,v2,v3,.bool (aeM ⟨a,b,ps,ss,t,c⟩ ci sq k x v o).1.t,.string (aeM ⟨a,b,ps,ss,t,c⟩ ci sq k x v o).1.c],.int .i64 (aeM ⟨a,b,ps,ss,t,c⟩ ci sq k x v o).2])∧Kd.R k105 105 w' w.heap.size (fun _=>True) v2 (aeM ⟨a,b,ps,ss,t,c⟩ ci sq k x v o).1.ps∧Kd.R k76 76 w' w.heap.size (fun _=>True) v3 (aeM ⟨a,b,ps,ss,t,c⟩ ci sq k x v o).1.ss∧Below w.heap.size w w':=by
 have B:=Aside0.mk (Below.refl w.heap.size w)
 have hu:=Try.underlying38
 have hu2:=Try.underlying34
 have HRP:=Aside0.mk hrp
 have HRS:=Aside0.mk hrs
 have HCP:=Aside0.mk hcp
 have HCS:=Aside0.mk hcs
 clear hrp hrs hcp hcs
 have hu3:=Try.underlying44
 have hu4:=Try.underlying42
 have hu5:=Try.underlying76
 cases hs : stB a b ps ss t c with
 | false =>
  rw [aeM_bad (s:=⟨a,b,ps,ss,t,c⟩) (by unfold SM.ok;rw [hs];simp)]
  go_enter Try.func12,Try.ntmps12
  go_wp2_with (first
   | ((with_reducible refine gate_dst (N:=2) rfl ?_);refine bxq 2 #[.string a,.string b,.slice AP ps.length cP,.slice AS ss.length cS,.bool t,.string c] 38 B fun g2 w1 hb B F2 L2 E2=>?_;obtain ⟨c2_0,c2_1,c2_2,c2_3,c2_4,c2_5⟩:=cs6 F2;clear hb E2)
   | ((with_reducible refine gate_dst (N:=3) rfl ?_);refine bxq 3 #[.int .i64 (ci),.int .i64 (sq),.int .i64 (k),.string x,.int .i64 (v),.int .i64 (o)] 44 B fun g3 w2 hb B F3 L3 E3=>?_;replace F2:=bn F2 hb;clear c2_0 c2_1 c2_2 c2_3 c2_4 c2_5;obtain ⟨c2_0,c2_1,c2_2,c2_3,c2_4,c2_5⟩:=cs6 F2;obtain ⟨c3_0,c3_1,c3_2,c3_3,c3_4,c3_5⟩:=cs6 F3;clear hb E3)
   | ((with_reducible refine gate_dst (N:=4) rfl ?_);refine bxq 4 #[.string (⟨#[]⟩ : ByteArray),.string (⟨#[]⟩ : ByteArray),.slice none 0 0,.slice none 0 0,.bool false,.string (⟨#[]⟩ : ByteArray)] 38 B fun g4 w3 hb B F4 L4 E4=>?_;have N2_4:=ne1 E4 F2;have N3_4:=ne1 E4 F3;replace F2:=bn F2 hb;replace F3:=bn F3 hb;clear c2_0 c2_1 c2_2 c2_3 c2_4 c2_5;obtain ⟨c2_0,c2_1,c2_2,c2_3,c2_4,c2_5⟩:=cs6 F2;clear c3_0 c3_1 c3_2 c3_3 c3_4 c3_5;obtain ⟨c3_0,c3_1,c3_2,c3_3,c3_4,c3_5⟩:=cs6 F3;clear hb E4)
   | (go_at_call 18;with_reducible refine cl (impl_StateValid.M a b _ _ ps _ _ ss t c _ (cb HRP B) (cb HRS B)) B fun w4 hb B=>?_;replace F2:=bn F2 hb;replace F3:=bn F3 hb;replace F4:=bn F4 hb;clear c3_0 c3_1 c3_2 c3_3 c3_4 c3_5;obtain ⟨c3_0,c3_1,c3_2,c3_3,c3_4,c3_5⟩:=cs6 F3;clear hb)
   | (go_at_call 19;with_reducible refine cl (impl_EntryValid.M ci sq k x v o _) B fun w5 hb B=>?_;replace F2:=bn F2 hb;replace F3:=bn F3 hb;replace F4:=bn F4 hb;clear hb)
   | ((with_reducible refine gate_store (t:=38) (p:=4) rfl ?_);obtain ⟨y0,y1,y2,y3,y4,y5,z0,z1,z2,z3,z4,z5⟩:=cz6 F4;refine sxq 38 38 4 0 [.string (⟨#[]⟩ : ByteArray),.string (⟨#[]⟩ : ByteArray),.slice none 0 0,.slice none 0 0,.bool false,.string (⟨#[]⟩ : ByteArray)] [.string (⟨#[]⟩ : ByteArray),.string (⟨#[]⟩ : ByteArray),.slice none 0 0,.slice none 0 0,.bool false,.string (⟨#[]⟩ : ByteArray)] B F4 L4 fun w6 hk B G=>?_;replace F2:=bk F2 hk N2_4.out;replace F3:=bk F3 hk N3_4.out;replace F4:=G;clear hk y0 z0 y1 z1 y2 z2 y3 z3 y4 z4 y5 z5))
  all_goals (try (refine bodyPost_ret (results_list (rs:=[.cell 4 38,.tmp 5]) rfl (by simp) (.cell g4 38 _ (0,0) _ rfl F4.out hu rfl (by kernel_rfl) (.tmp .nil))) rfl ?_);exact ⟨_,_,rfl,Kd.R_nil _ _ _ _ _,Kd.R_nil _ _ _ _ _,B.out⟩)
 | true =>
  cases he : entB ci sq k x v o with
  | false =>
   rw [aeM_bad (s:=⟨a,b,ps,ss,t,c⟩) (by rw [he];simp)]
   go_enter Try.func12,Try.ntmps12
   go_wp2_with (first
    | ((with_reducible refine gate_dst (N:=2) rfl ?_);refine bxq 2 #[.string a,.string b,.slice AP ps.length cP,.slice AS ss.length cS,.bool t,.string c] 38 B fun g2 w101 hb B F2 L2 E2=>?_;obtain ⟨c2_0,c2_1,c2_2,c2_3,c2_4,c2_5⟩:=cs6 F2;clear hb E2)
    | ((with_reducible refine gate_dst (N:=3) rfl ?_);refine bxq 3 #[.int .i64 (ci),.int .i64 (sq),.int .i64 (k),.string x,.int .i64 (v),.int .i64 (o)] 44 B fun g3 w102 hb B F3 L3 E3=>?_;replace F2:=bn F2 hb;clear c2_0 c2_1 c2_2 c2_3 c2_4 c2_5;obtain ⟨c2_0,c2_1,c2_2,c2_3,c2_4,c2_5⟩:=cs6 F2;obtain ⟨c3_0,c3_1,c3_2,c3_3,c3_4,c3_5⟩:=cs6 F3;clear hb E3)
    | ((with_reducible refine gate_dst (N:=4) rfl ?_);refine bxq 4 #[.string (⟨#[]⟩ : ByteArray),.string (⟨#[]⟩ : ByteArray),.slice none 0 0,.slice none 0 0,.bool false,.string (⟨#[]⟩ : ByteArray)] 38 B fun g4 w103 hb B F4 L4 E4=>?_;have N2_4:=ne1 E4 F2;have N3_4:=ne1 E4 F3;replace F2:=bn F2 hb;replace F3:=bn F3 hb;clear c2_0 c2_1 c2_2 c2_3 c2_4 c2_5;obtain ⟨c2_0,c2_1,c2_2,c2_3,c2_4,c2_5⟩:=cs6 F2;clear c3_0 c3_1 c3_2 c3_3 c3_4 c3_5;obtain ⟨c3_0,c3_1,c3_2,c3_3,c3_4,c3_5⟩:=cs6 F3;clear hb E4)
    | (go_at_call 18;with_reducible refine cl (impl_StateValid.M a b _ _ ps _ _ ss t c _ (cb HRP B) (cb HRS B)) B fun w104 hb B=>?_;replace F2:=bn F2 hb;replace F3:=bn F3 hb;replace F4:=bn F4 hb;clear c3_0 c3_1 c3_2 c3_3 c3_4 c3_5;obtain ⟨c3_0,c3_1,c3_2,c3_3,c3_4,c3_5⟩:=cs6 F3;clear hb)
    | (go_at_call 19;with_reducible refine cl (impl_EntryValid.M ci sq k x v o _) B fun w105 hb B=>?_;replace F2:=bn F2 hb;replace F3:=bn F3 hb;replace F4:=bn F4 hb;clear hb)
    | ((with_reducible refine gate_store (t:=38) (p:=4) rfl ?_);obtain ⟨y0,y1,y2,y3,y4,y5,z0,z1,z2,z3,z4,z5⟩:=cz6 F4;refine sxq 38 38 4 0 [.string (⟨#[]⟩ : ByteArray),.string (⟨#[]⟩ : ByteArray),.slice none 0 0,.slice none 0 0,.bool false,.string (⟨#[]⟩ : ByteArray)] [.string (⟨#[]⟩ : ByteArray),.string (⟨#[]⟩ : ByteArray),.slice none 0 0,.slice none 0 0,.bool false,.string (⟨#[]⟩ : ByteArray)] B F4 L4 fun w106 hk B G=>?_;replace F2:=bk F2 hk N2_4.out;replace F3:=bk F3 hk N3_4.out;replace F4:=G;clear hk y0 z0 y1 z1 y2 z2 y3 z3 y4 z4 y5 z5))
   all_goals (try (refine bodyPost_ret (results_list (rs:=[.cell 4 38,.tmp 5]) rfl (by simp) (.cell g4 38 _ (0,0) _ rfl F4.out hu rfl (by kernel_rfl) (.tmp .nil))) rfl ?_);exact ⟨_,_,rfl,Kd.R_nil _ _ _ _ _,Kd.R_nil _ _ _ _ _,B.out⟩)
  | true =>
   obtain ⟨hiv,hp,hv,hin,htl⟩:=stB_parts.mp hs
   have hpl : ps.length≤1000000:=by have:=prB_len hp;omega
   have hsl : ss.length≤1000000:=by have:=sesB_len hv;omega
   obtain ⟨hcl,hsq,hcm⟩:=entB_parts he
   have hh : ((SM.mk a b ps ss t c).ok && entB ci sq k x v o)=true:=by unfold SM.ok;rw [hs,he];rfl
   clear hin htl hp hiv
   cases hit : hitOf ss ci with
   | true =>
    have hfy:=hit_findS hv hit
    have hpo:=(plhit hit).1
    obtain ⟨ad,hA,y0,y1,y2⟩:=at_T76 HRS.out ((plOf ss ci : Nat) : Int) (by omega) (by omega)
    cases hA
    clear y0 y1 y2
    have j1:=eq_true (show ((plOf ss ci : Nat) : Int) < (ss.length : Int) by omega)
    have j2:=eq_true hpo
    generalize hy : rd_T76 ss ((plOf ss ci : Nat) : Int)=y at *
    by_cases q1 : sq≤y.f1
    ·have d1 : decide (sq≤y.f1)=true:=decide_eq_true q1
     have hi : idleB ⟨a,b,ps,ss,t,c⟩ ci sq k x=true:=by unfold idleB;rw [← hfy,decide_eq_true q1];rfl
     by_cases q2 : y.f1=sq
     ·have d2 : (sq == y.f1)=true:=by rw [q2];simp
      rw [aeM_idle hh hi,show idleN ⟨a,b,ps,ss,t,c⟩ ci sq=y.f2 from by unfold idleN;rw [← hfy];exact if_pos q2]
      clear hh hcm hsq hi hfy hcl q1 q2
      go_enter Try.func12,Try.ntmps12
      go_wp2_with (first
       | ((with_reducible refine gate_dst (N:=2) rfl ?_);refine bxq 2 #[.string a,.string b,.slice AP ps.length cP,.slice (some ad) ss.length cS,.bool t,.string c] 38 B fun g2 w201 hb B F2 L2 E2=>?_;obtain ⟨c2_0,c2_1,c2_2,c2_3,c2_4,c2_5⟩:=cs6 F2;clear hb E2)
       | ((with_reducible refine gate_dst (N:=3) rfl ?_);refine bxq 3 #[.int .i64 (ci),.int .i64 (sq),.int .i64 (k),.string x,.int .i64 (v),.int .i64 (o)] 44 B fun g3 w202 hb B F3 L3 E3=>?_;replace F2:=bn F2 hb;clear c2_0 c2_1 c2_2 c2_3 c2_4 c2_5;obtain ⟨c2_0,c2_1,c2_2,c2_3,c2_4,c2_5⟩:=cs6 F2;obtain ⟨c3_0,c3_1,c3_2,c3_3,c3_4,c3_5⟩:=cs6 F3;clear hb E3)
       | ((with_reducible refine gate_dst (N:=4) rfl ?_);refine bxq 4 #[.string (⟨#[]⟩ : ByteArray),.string (⟨#[]⟩ : ByteArray),.slice none 0 0,.slice none 0 0,.bool false,.string (⟨#[]⟩ : ByteArray)] 38 B fun g4 w203 hb B F4 L4 E4=>?_;have N2_4:=ne1 E4 F2;have N3_4:=ne1 E4 F3;replace F2:=bn F2 hb;replace F3:=bn F3 hb;clear c2_0 c2_1 c2_2 c2_3 c2_4 c2_5;obtain ⟨c2_0,c2_1,c2_2,c2_3,c2_4,c2_5⟩:=cs6 F2;clear c3_0 c3_1 c3_2 c3_3 c3_4 c3_5;obtain ⟨c3_0,c3_1,c3_2,c3_3,c3_4,c3_5⟩:=cs6 F3;clear hb E4)
       | (go_at_call 18;with_reducible refine cl (impl_StateValid.M a b _ _ ps _ _ ss t c _ (cb HRP B) (cb HRS B)) B fun w204 hb B=>?_;replace F2:=bn F2 hb;replace F3:=bn F3 hb;replace F4:=bn F4 hb;clear c2_0 c2_1 c2_2 c2_3 c2_4 c2_5;obtain ⟨c2_0,c2_1,c2_2,c2_3,c2_4,c2_5⟩:=cs6 F2;clear c3_0 c3_1 c3_2 c3_3 c3_4 c3_5;obtain ⟨c3_0,c3_1,c3_2,c3_3,c3_4,c3_5⟩:=cs6 F3;clear hb)
       | (go_at_call 19;with_reducible refine cl (impl_EntryValid.M ci sq k x v o _) B fun w205 hb B=>?_;replace F2:=bn F2 hb;replace F3:=bn F3 hb;replace F4:=bn F4 hb;clear c2_0 c2_1 c2_2 c2_3 c2_4 c2_5;obtain ⟨c2_0,c2_1,c2_2,c2_3,c2_4,c2_5⟩:=cs6 F2;clear c3_0 c3_1 c3_2 c3_3 c3_4 c3_5;obtain ⟨c3_0,c3_1,c3_2,c3_3,c3_4,c3_5⟩:=cs6 F3;clear hb)
       | (go_at_call 49;with_reducible refine c2r (impl_copyState.M a b _ _ ps _ _ ss t c _ (cb HRP B) (cb HRS B) HCP.out HCS.out (by omega) (by omega)) B fun AP206 kP206 AS206 kS206 w206 hb B RP206 QP206 RS206 QS206=>?_;have DP206_S206:=Aside0.mk (dty RP206 RS206 (by decide));replace F2:=bn F2 hb;replace F3:=bn F3 hb;replace F4:=bn F4 hb;clear QP206 QS206;clear c2_0 c2_1 c2_2 c2_3 c2_4 c2_5;obtain ⟨c2_0,c2_1,c2_2,c2_3,c2_4,c2_5⟩:=cs6 F2;clear c3_0 c3_1 c3_2 c3_3 c3_4 c3_5;obtain ⟨c3_0,c3_1,c3_2,c3_3,c3_4,c3_5⟩:=cs6 F3;clear hb)
       | ((with_reducible refine gate_dst (N:=6) rfl ?_);refine bxq 6 #[.string (⟨#[]⟩ : ByteArray),.string (⟨#[]⟩ : ByteArray),.slice none 0 0,.slice none 0 0,.bool false,.string (⟨#[]⟩ : ByteArray)] 38 B fun g6 w207 hb B F6 L6 E6=>?_;have N2_6:=ne1 E6 F2;have N3_6:=ne1 E6 F3;have N4_6:=ne1 E6 F4;replace F2:=bn F2 hb;replace F3:=bn F3 hb;replace F4:=bn F4 hb;replace RP206:=rn RP206 hb;replace RS206:=rn RS206 hb;clear c2_0 c2_1 c2_2 c2_3 c2_4 c2_5;obtain ⟨c2_0,c2_1,c2_2,c2_3,c2_4,c2_5⟩:=cs6 F2;clear c3_0 c3_1 c3_2 c3_3 c3_4 c3_5;obtain ⟨c3_0,c3_1,c3_2,c3_3,c3_4,c3_5⟩:=cs6 F3;obtain ⟨c6_0,c6_1,c6_2,c6_3,c6_4,c6_5⟩:=cs6 F6;clear hb E6)
       | ((with_reducible refine gate_store (t:=38) (p:=6) rfl ?_);obtain ⟨y0,y1,y2,y3,y4,y5,z0,z1,z2,z3,z4,z5⟩:=cz6 F6;refine sxq 38 38 6 0 [.string a,.string b,.slice AP206 ps.length kP206,.slice AS206 ss.length kS206,.bool t,.string c] [.string a,.string b,.slice AP206 ps.length kP206,.slice AS206 ss.length kS206,.bool t,.string c] B F6 L6 fun w208 hk B G=>?_;replace F2:=bk F2 hk N2_6.out;replace F3:=bk F3 hk N3_6.out;replace F4:=bk F4 hk N4_6.out;replace RP206:=rk RP206 F6 (by decide) hk;replace RS206:=rk RS206 F6 (by decide) hk;replace F6:=G;clear c2_0 c2_1 c2_2 c2_3 c2_4 c2_5;obtain ⟨c2_0,c2_1,c2_2,c2_3,c2_4,c2_5⟩:=cs6 F2;clear c3_0 c3_1 c3_2 c3_3 c3_4 c3_5;obtain ⟨c3_0,c3_1,c3_2,c3_3,c3_4,c3_5⟩:=cs6 F3;clear c6_0 c6_1 c6_2 c6_3 c6_4 c6_5;obtain ⟨c6_0,c6_1,c6_2,c6_3,c6_4,c6_5⟩:=cs6 F6;clear hk y0 z0 y1 z1 y2 z2 y3 z3 y4 z4 y5 z5)
       | (go_at_call 50;with_reducible refine cl (impl_sessionPlace.Mb _ _ ss ci _ (cb HRS B) HCS.out hv true hit) B fun w209 hb B=>?_;replace F2:=bn F2 hb;replace F3:=bn F3 hb;replace F4:=bn F4 hb;replace F6:=bn F6 hb;replace RP206:=rn RP206 hb;replace RS206:=rn RS206 hb;clear c2_0 c2_1 c2_2 c2_3 c2_4 c2_5;obtain ⟨c2_0,c2_1,c2_2,c2_3,c2_4,c2_5⟩:=cs6 F2;clear c3_0 c3_1 c3_2 c3_3 c3_4 c3_5;obtain ⟨c3_0,c3_1,c3_2,c3_3,c3_4,c3_5⟩:=cs6 F3;clear c6_0 c6_1 c6_2 c6_3 c6_4 c6_5;obtain ⟨c6_0,c6_1,c6_2,c6_3,c6_4,c6_5⟩:=cs6 F6;clear hb))
      all_goals (
       refine rg (n:=12) (S:=fun W=>W.heap[g3]?=some (.cells #[.int .i64 (ci),.int .i64 (sq),.int .i64 (k),.string x,.int .i64 (v),.int .i64 (o)] 44 (0,0))∧W.heap[g2]?=some (.cells #[.string a,.string b,.slice AP ps.length cP,.slice (some ad) ss.length cS,.bool t,.string c] 38 (0,0))∧Kd.C k76 W (some ad) ss.length ss) (ds:=[]) #[false,false,false,false,false,false,false,false,false,false,false,false] (by kernel_rfl) rfl rfl ⟨F3.out,F2.out,(cb HRS B)⟩ id B (fun w210 hb B hHeld=>?_)
       refine with_tabW impl_ApplyEntry.tab5 impl_ApplyEntry.bits5 (fun HT_ HW_=>?_)
       replace F2:=bn F2 hb
       replace F3:=bn F3 hb
       replace F4:=bn F4 hb
       replace F6:=bn F6 hb
       replace RP206:=rn RP206 hb
       replace RS206:=rn RS206 hb
       clear hb
       refine pvq 0 (some 29) (bits 12 1) HT_ ?_
       refine pvq 1 (some 30) (bits 12 3) HT_ ?_
       refine pvq 2 (some 31) (bits 12 7) HT_ ?_
       refine tvq 3 (some 32) (bits 12 15) HT_ HW_ rfl hHeld (by intro w' hS;obtain ⟨s0,s1,s2⟩:=hS;obtain ⟨q0,q1,q2,q3,q4,q5⟩:=cs6 (Aside0.mk s0);go_simp;with_reducible rfl) ?_
       refine pvq 4 (some 33) (bits 12 31) HT_ ?_
       refine tvq 5 (some 34) (bits 12 63) HT_ HW_ rfl hHeld (by intro w' hS;obtain ⟨s0,s1,s2⟩:=hS;obtain ⟨q0,q1,q2,q3,q4,q5⟩:=cs6 (Aside0.mk s1);go_simp;with_reducible rfl) ?_
       refine pvq 6 (some 35) (bits 12 127) HT_ ?_
       refine pvq 7 (some 36) (bits 12 255) HT_ ?_
       refine pvq 8 (some 37) (bits 12 511) HT_ ?_
       refine tvq 9 (some 38) (bits 12 1023) HT_ HW_ rfl hHeld (by intro w' hS;obtain ⟨s0,s1,s2⟩:=hS;obtain ⟨_,hA,q0,q1,q2⟩:=at_T76 s2 ((plOf ss ci : Nat) : Int) (by omega) (by omega);cases hA;rw [Int.toNat_natCast] at q0 q1 q2;rw [hy] at q0 q1 q2;go_simp;with_reducible rfl) ?_
       refine pvq 10 (some 39) (bits 12 2047) HT_ ?_
       refine pvq 11 (some 40) (bits 12 4095) HT_ ?_
       refine nmq ?_
       refine done_ (done_of HT_.out (by kernel_rfl)) ?_
       clear c2_0 c2_1 c2_2 c2_3 c2_4 c2_5
       obtain ⟨c2_0,c2_1,c2_2,c2_3,c2_4,c2_5⟩:=cs6 F2
       clear c3_0 c3_1 c3_2 c3_3 c3_4 c3_5
       obtain ⟨c3_0,c3_1,c3_2,c3_3,c3_4,c3_5⟩:=cs6 F3
       clear c6_0 c6_1 c6_2 c6_3 c6_4 c6_5
       obtain ⟨c6_0,c6_1,c6_2,c6_3,c6_4,c6_5⟩:=cs6 F6)
      all_goals try go_wp2
      all_goals (
       refine rg (n:=9) (S:=fun W=>W.heap[g3]?=some (.cells #[.int .i64 (ci),.int .i64 (sq),.int .i64 (k),.string x,.int .i64 (v),.int .i64 (o)] 44 (0,0))∧W.heap[g2]?=some (.cells #[.string a,.string b,.slice AP ps.length cP,.slice (some ad) ss.length cS,.bool t,.string c] 38 (0,0))∧Kd.C k76 W (some ad) ss.length ss) (ds:=[]) #[false,false,false,false,false,false,false,false,false] (by kernel_rfl) rfl rfl ⟨F3.out,F2.out,(cb HRS B)⟩ id B (fun w211 hb B hHeld=>?_)
       refine with_tabW impl_ApplyEntry.tab6 impl_ApplyEntry.bits6 (fun HT_ HW_=>?_)
       replace F2:=bn F2 hb
       replace F3:=bn F3 hb
       replace F4:=bn F4 hb
       replace F6:=bn F6 hb
       replace RP206:=rn RP206 hb
       replace RS206:=rn RS206 hb
       clear hb
       refine pvq 0 (some 41) (bits 9 1) HT_ ?_
       refine tvq 1 (some 42) (bits 9 3) HT_ HW_ rfl hHeld (by intro w' hS;obtain ⟨s0,s1,s2⟩:=hS;obtain ⟨q0,q1,q2,q3,q4,q5⟩:=cs6 (Aside0.mk s0);go_simp;with_reducible rfl) ?_
       refine pvq 2 (some 43) (bits 9 7) HT_ ?_
       refine tvq 3 (some 44) (bits 9 15) HT_ HW_ rfl hHeld (by intro w' hS;obtain ⟨s0,s1,s2⟩:=hS;obtain ⟨q0,q1,q2,q3,q4,q5⟩:=cs6 (Aside0.mk s1);go_simp;with_reducible rfl) ?_
       refine pvq 4 (some 45) (bits 9 31) HT_ ?_
       refine pvq 5 (some 46) (bits 9 63) HT_ ?_
       refine pvq 6 (some 47) (bits 9 127) HT_ ?_
       refine tvq 7 (some 48) (bits 9 255) HT_ HW_ rfl hHeld (by intro w' hS;obtain ⟨s0,s1,s2⟩:=hS;obtain ⟨_,hA,q0,q1,q2⟩:=at_T76 s2 ((plOf ss ci : Nat) : Int) (by omega) (by omega);cases hA;rw [Int.toNat_natCast] at q0 q1 q2;rw [hy] at q0 q1 q2;go_simp;with_reducible rfl) ?_
       refine pvq 8 (some 49) (bits 9 511) HT_ ?_
       refine nmq ?_
       refine done_ (done_of HT_.out (by kernel_rfl)) ?_
       clear c2_0 c2_1 c2_2 c2_3 c2_4 c2_5
       obtain ⟨c2_0,c2_1,c2_2,c2_3,c2_4,c2_5⟩:=cs6 F2
       clear c6_0 c6_1 c6_2 c6_3 c6_4 c6_5
       obtain ⟨c6_0,c6_1,c6_2,c6_3,c6_4,c6_5⟩:=cs6 F6)
      all_goals try go_wp2
      all_goals (
       refine rg (n:=9) (S:=fun W=>W.heap[g6]?=some (.cells #[.string a,.string b,.slice AP206 ps.length kP206,.slice AS206 ss.length kS206,.bool t,.string c] 38 (0,0))∧W.heap[g2]?=some (.cells #[.string a,.string b,.slice AP ps.length cP,.slice (some ad) ss.length cS,.bool t,.string c] 38 (0,0))∧Kd.C k76 W (some ad) ss.length ss) (ds:=[]) #[false,false,false,false,false,false,false,false,false] (by kernel_rfl) rfl rfl ⟨F6.out,F2.out,(cb HRS B)⟩ id B (fun w212 hb B hHeld=>?_)
       refine with_tabW impl_ApplyEntry.tab7 impl_ApplyEntry.bits7 (fun HT_ HW_=>?_)
       replace F2:=bn F2 hb
       replace F4:=bn F4 hb
       replace F6:=bn F6 hb
       replace RP206:=rn RP206 hb
       replace RS206:=rn RS206 hb
       clear hb
       refine tvq 0 (some 50) (bits 9 1) HT_ HW_ rfl hHeld (by intro w' hS;obtain ⟨s0,s1,s2⟩:=hS;obtain ⟨q0,q1,q2,q3,q4,q5⟩:=cs6 (Aside0.mk s0);go_simp;with_reducible rfl) ?_
       refine pvq 1 (some 51) (bits 9 3) HT_ ?_
       refine tvq 2 (some 52) (bits 9 7) HT_ HW_ rfl hHeld (by intro w' hS;obtain ⟨s0,s1,s2⟩:=hS;obtain ⟨q0,q1,q2,q3,q4,q5⟩:=cs6 (Aside0.mk s1);go_simp;with_reducible rfl) ?_
       refine pvq 3 (some 53) (bits 9 15) HT_ ?_
       refine pvq 4 (some 54) (bits 9 31) HT_ ?_
       refine pvq 5 (some 55) (bits 9 63) HT_ ?_
       refine tvq 6 (some 56) (bits 9 127) HT_ HW_ rfl hHeld (by intro w' hS;obtain ⟨s0,s1,s2⟩:=hS;obtain ⟨_,hA,q0,q1,q2⟩:=at_T76 s2 ((plOf ss ci : Nat) : Int) (by omega) (by omega);cases hA;rw [Int.toNat_natCast] at q0 q1 q2;rw [hy] at q0 q1 q2;go_simp;with_reducible rfl) ?_
       refine nmq ?_
       refine one_ (i:=7) (N:=none) (bits 9 255) rfl rfl (one_of HT_.out (by kernel_rfl)) (by decide) (fun K hK=>?_)
       obtain ⟨y0,y1,y2,y3,y4,y5,z0,z1,z2,z3,z4,z5⟩:=cz6 F4
       refine sxs (g:=g4) 0 [.string a,.string b,.slice AP206 ps.length kP206,.slice AS206 ss.length kS206,.bool t,.string c] [.string a,.string b,.slice AP206 ps.length kP206,.slice AS206 ss.length kS206,.bool t,.string c] (by rfl) rfl ?hr B F4 L4 rfl (Nat.le_of_ble_eq_true rfl) (fun w213 hk B G=>?_)
       (case hr=>go_simp;first | done | rfl)
       replace F2:=bk F2 hk N2_4.out
       replace F6:=bk F6 hk N4_6.out.symm
       replace RP206:=rk RP206 F4 (by decide) hk
       replace RS206:=rk RS206 F4 (by decide) hk
       replace F4:=G
       clear hk y0 z0 y1 z1 y2 z2 y3 z3 y4 z4 y5 z5
       refine hK.out _ _ ⟨F6.out,F2.out,(cb HRS B)⟩ (fun hHeld=>?_)
       clear hK K
       refine pvq 8 (some 5) (bits 9 511) HT_ ?_
       refine nmq ?_
       refine done_ (done_of HT_.out (by kernel_rfl)) ?_)
      all_goals try go_wp2
      all_goals (try (refine bodyPost_ret (results_list (rs:=[.cell 4 38,.tmp 5]) rfl (by simp) (.cell g4 38 _ (0,0) _ rfl F4.out hu rfl (by kernel_rfl) (.tmp .nil))) rfl ?_);exact ⟨_,_,rfl,RP206.out,RS206.out,B.out⟩)
     ·have d2 : (sq == y.f1)=false:=beq_eq_false_iff_ne.mpr (fun h=>q2 h.symm)
      rw [aeM_idle hh hi,show idleN ⟨a,b,ps,ss,t,c⟩ ci sq=-4 from by unfold idleN;rw [← hfy];exact (if_neg q2).trans (if_pos (by omega))]
      clear hh hcm hsq hi hfy hcl q1 q2
      go_enter Try.func12,Try.ntmps12
      go_wp2_with (first
       | ((with_reducible refine gate_dst (N:=2) rfl ?_);refine bxq 2 #[.string a,.string b,.slice AP ps.length cP,.slice (some ad) ss.length cS,.bool t,.string c] 38 B fun g2 w301 hb B F2 L2 E2=>?_;obtain ⟨c2_0,c2_1,c2_2,c2_3,c2_4,c2_5⟩:=cs6 F2;clear hb E2)
       | ((with_reducible refine gate_dst (N:=3) rfl ?_);refine bxq 3 #[.int .i64 (ci),.int .i64 (sq),.int .i64 (k),.string x,.int .i64 (v),.int .i64 (o)] 44 B fun g3 w302 hb B F3 L3 E3=>?_;replace F2:=bn F2 hb;clear c2_0 c2_1 c2_2 c2_3 c2_4 c2_5;obtain ⟨c2_0,c2_1,c2_2,c2_3,c2_4,c2_5⟩:=cs6 F2;obtain ⟨c3_0,c3_1,c3_2,c3_3,c3_4,c3_5⟩:=cs6 F3;clear hb E3)
       | ((with_reducible refine gate_dst (N:=4) rfl ?_);refine bxq 4 #[.string (⟨#[]⟩ : ByteArray),.string (⟨#[]⟩ : ByteArray),.slice none 0 0,.slice none 0 0,.bool false,.string (⟨#[]⟩ : ByteArray)] 38 B fun g4 w303 hb B F4 L4 E4=>?_;have N2_4:=ne1 E4 F2;have N3_4:=ne1 E4 F3;replace F2:=bn F2 hb;replace F3:=bn F3 hb;clear c2_0 c2_1 c2_2 c2_3 c2_4 c2_5;obtain ⟨c2_0,c2_1,c2_2,c2_3,c2_4,c2_5⟩:=cs6 F2;clear c3_0 c3_1 c3_2 c3_3 c3_4 c3_5;obtain ⟨c3_0,c3_1,c3_2,c3_3,c3_4,c3_5⟩:=cs6 F3;clear hb E4)
       | (go_at_call 18;with_reducible refine cl (impl_StateValid.M a b _ _ ps _ _ ss t c _ (cb HRP B) (cb HRS B)) B fun w304 hb B=>?_;replace F2:=bn F2 hb;replace F3:=bn F3 hb;replace F4:=bn F4 hb;clear c2_0 c2_1 c2_2 c2_3 c2_4 c2_5;obtain ⟨c2_0,c2_1,c2_2,c2_3,c2_4,c2_5⟩:=cs6 F2;clear c3_0 c3_1 c3_2 c3_3 c3_4 c3_5;obtain ⟨c3_0,c3_1,c3_2,c3_3,c3_4,c3_5⟩:=cs6 F3;clear hb)
       | (go_at_call 19;with_reducible refine cl (impl_EntryValid.M ci sq k x v o _) B fun w305 hb B=>?_;replace F2:=bn F2 hb;replace F3:=bn F3 hb;replace F4:=bn F4 hb;clear c2_0 c2_1 c2_2 c2_3 c2_4 c2_5;obtain ⟨c2_0,c2_1,c2_2,c2_3,c2_4,c2_5⟩:=cs6 F2;clear c3_0 c3_1 c3_2 c3_3 c3_4 c3_5;obtain ⟨c3_0,c3_1,c3_2,c3_3,c3_4,c3_5⟩:=cs6 F3;clear hb)
       | (go_at_call 49;with_reducible refine c2r (impl_copyState.M a b _ _ ps _ _ ss t c _ (cb HRP B) (cb HRS B) HCP.out HCS.out (by omega) (by omega)) B fun AP306 kP306 AS306 kS306 w306 hb B RP306 QP306 RS306 QS306=>?_;have DP306_S306:=Aside0.mk (dty RP306 RS306 (by decide));replace F2:=bn F2 hb;replace F3:=bn F3 hb;replace F4:=bn F4 hb;clear QP306 QS306;clear c2_0 c2_1 c2_2 c2_3 c2_4 c2_5;obtain ⟨c2_0,c2_1,c2_2,c2_3,c2_4,c2_5⟩:=cs6 F2;clear c3_0 c3_1 c3_2 c3_3 c3_4 c3_5;obtain ⟨c3_0,c3_1,c3_2,c3_3,c3_4,c3_5⟩:=cs6 F3;clear hb)
       | ((with_reducible refine gate_dst (N:=6) rfl ?_);refine bxq 6 #[.string (⟨#[]⟩ : ByteArray),.string (⟨#[]⟩ : ByteArray),.slice none 0 0,.slice none 0 0,.bool false,.string (⟨#[]⟩ : ByteArray)] 38 B fun g6 w307 hb B F6 L6 E6=>?_;have N2_6:=ne1 E6 F2;have N3_6:=ne1 E6 F3;have N4_6:=ne1 E6 F4;replace F2:=bn F2 hb;replace F3:=bn F3 hb;replace F4:=bn F4 hb;replace RP306:=rn RP306 hb;replace RS306:=rn RS306 hb;clear c2_0 c2_1 c2_2 c2_3 c2_4 c2_5;obtain ⟨c2_0,c2_1,c2_2,c2_3,c2_4,c2_5⟩:=cs6 F2;clear c3_0 c3_1 c3_2 c3_3 c3_4 c3_5;obtain ⟨c3_0,c3_1,c3_2,c3_3,c3_4,c3_5⟩:=cs6 F3;obtain ⟨c6_0,c6_1,c6_2,c6_3,c6_4,c6_5⟩:=cs6 F6;clear hb E6)
       | ((with_reducible refine gate_store (t:=38) (p:=6) rfl ?_);obtain ⟨y0,y1,y2,y3,y4,y5,z0,z1,z2,z3,z4,z5⟩:=cz6 F6;refine sxq 38 38 6 0 [.string a,.string b,.slice AP306 ps.length kP306,.slice AS306 ss.length kS306,.bool t,.string c] [.string a,.string b,.slice AP306 ps.length kP306,.slice AS306 ss.length kS306,.bool t,.string c] B F6 L6 fun w308 hk B G=>?_;replace F2:=bk F2 hk N2_6.out;replace F3:=bk F3 hk N3_6.out;replace F4:=bk F4 hk N4_6.out;replace RP306:=rk RP306 F6 (by decide) hk;replace RS306:=rk RS306 F6 (by decide) hk;replace F6:=G;clear c2_0 c2_1 c2_2 c2_3 c2_4 c2_5;obtain ⟨c2_0,c2_1,c2_2,c2_3,c2_4,c2_5⟩:=cs6 F2;clear c3_0 c3_1 c3_2 c3_3 c3_4 c3_5;obtain ⟨c3_0,c3_1,c3_2,c3_3,c3_4,c3_5⟩:=cs6 F3;clear c6_0 c6_1 c6_2 c6_3 c6_4 c6_5;obtain ⟨c6_0,c6_1,c6_2,c6_3,c6_4,c6_5⟩:=cs6 F6;clear hk y0 z0 y1 z1 y2 z2 y3 z3 y4 z4 y5 z5)
       | (go_at_call 50;with_reducible refine cl (impl_sessionPlace.Mb _ _ ss ci _ (cb HRS B) HCS.out hv true hit) B fun w309 hb B=>?_;replace F2:=bn F2 hb;replace F3:=bn F3 hb;replace F4:=bn F4 hb;replace F6:=bn F6 hb;replace RP306:=rn RP306 hb;replace RS306:=rn RS306 hb;clear c2_0 c2_1 c2_2 c2_3 c2_4 c2_5;obtain ⟨c2_0,c2_1,c2_2,c2_3,c2_4,c2_5⟩:=cs6 F2;clear c3_0 c3_1 c3_2 c3_3 c3_4 c3_5;obtain ⟨c3_0,c3_1,c3_2,c3_3,c3_4,c3_5⟩:=cs6 F3;clear c6_0 c6_1 c6_2 c6_3 c6_4 c6_5;obtain ⟨c6_0,c6_1,c6_2,c6_3,c6_4,c6_5⟩:=cs6 F6;clear hb))
      all_goals (
       refine rg (n:=12) (S:=fun W=>W.heap[g3]?=some (.cells #[.int .i64 (ci),.int .i64 (sq),.int .i64 (k),.string x,.int .i64 (v),.int .i64 (o)] 44 (0,0))∧W.heap[g2]?=some (.cells #[.string a,.string b,.slice AP ps.length cP,.slice (some ad) ss.length cS,.bool t,.string c] 38 (0,0))∧Kd.C k76 W (some ad) ss.length ss) (ds:=[]) #[false,false,false,false,false,false,false,false,false,false,false,false] (by kernel_rfl) rfl rfl ⟨F3.out,F2.out,(cb HRS B)⟩ id B (fun w310 hb B hHeld=>?_)
       refine with_tabW impl_ApplyEntry.tab5 impl_ApplyEntry.bits5 (fun HT_ HW_=>?_)
       replace F2:=bn F2 hb
       replace F3:=bn F3 hb
       replace F4:=bn F4 hb
       replace F6:=bn F6 hb
       replace RP306:=rn RP306 hb
       replace RS306:=rn RS306 hb
       clear hb
       refine pvq 0 (some 29) (bits 12 1) HT_ ?_
       refine pvq 1 (some 30) (bits 12 3) HT_ ?_
       refine pvq 2 (some 31) (bits 12 7) HT_ ?_
       refine tvq 3 (some 32) (bits 12 15) HT_ HW_ rfl hHeld (by intro w' hS;obtain ⟨s0,s1,s2⟩:=hS;obtain ⟨q0,q1,q2,q3,q4,q5⟩:=cs6 (Aside0.mk s0);go_simp;with_reducible rfl) ?_
       refine pvq 4 (some 33) (bits 12 31) HT_ ?_
       refine tvq 5 (some 34) (bits 12 63) HT_ HW_ rfl hHeld (by intro w' hS;obtain ⟨s0,s1,s2⟩:=hS;obtain ⟨q0,q1,q2,q3,q4,q5⟩:=cs6 (Aside0.mk s1);go_simp;with_reducible rfl) ?_
       refine pvq 6 (some 35) (bits 12 127) HT_ ?_
       refine pvq 7 (some 36) (bits 12 255) HT_ ?_
       refine pvq 8 (some 37) (bits 12 511) HT_ ?_
       refine tvq 9 (some 38) (bits 12 1023) HT_ HW_ rfl hHeld (by intro w' hS;obtain ⟨s0,s1,s2⟩:=hS;obtain ⟨_,hA,q0,q1,q2⟩:=at_T76 s2 ((plOf ss ci : Nat) : Int) (by omega) (by omega);cases hA;rw [Int.toNat_natCast] at q0 q1 q2;rw [hy] at q0 q1 q2;go_simp;with_reducible rfl) ?_
       refine pvq 10 (some 39) (bits 12 2047) HT_ ?_
       refine pvq 11 (some 40) (bits 12 4095) HT_ ?_
       refine nmq ?_
       refine done_ (done_of HT_.out (by kernel_rfl)) ?_
       clear c2_0 c2_1 c2_2 c2_3 c2_4 c2_5
       obtain ⟨c2_0,c2_1,c2_2,c2_3,c2_4,c2_5⟩:=cs6 F2
       clear c3_0 c3_1 c3_2 c3_3 c3_4 c3_5
       obtain ⟨c3_0,c3_1,c3_2,c3_3,c3_4,c3_5⟩:=cs6 F3
       clear c6_0 c6_1 c6_2 c6_3 c6_4 c6_5
       obtain ⟨c6_0,c6_1,c6_2,c6_3,c6_4,c6_5⟩:=cs6 F6)
      all_goals try go_wp2
      all_goals (
       refine rg (n:=9) (S:=fun W=>W.heap[g3]?=some (.cells #[.int .i64 (ci),.int .i64 (sq),.int .i64 (k),.string x,.int .i64 (v),.int .i64 (o)] 44 (0,0))∧W.heap[g2]?=some (.cells #[.string a,.string b,.slice AP ps.length cP,.slice (some ad) ss.length cS,.bool t,.string c] 38 (0,0))∧Kd.C k76 W (some ad) ss.length ss) (ds:=[]) #[false,false,false,false,false,false,false,false,false] (by kernel_rfl) rfl rfl ⟨F3.out,F2.out,(cb HRS B)⟩ id B (fun w311 hb B hHeld=>?_)
       refine with_tabW impl_ApplyEntry.tab6 impl_ApplyEntry.bits6 (fun HT_ HW_=>?_)
       replace F2:=bn F2 hb
       replace F3:=bn F3 hb
       replace F4:=bn F4 hb
       replace F6:=bn F6 hb
       replace RP306:=rn RP306 hb
       replace RS306:=rn RS306 hb
       clear hb
       refine pvq 0 (some 41) (bits 9 1) HT_ ?_
       refine tvq 1 (some 42) (bits 9 3) HT_ HW_ rfl hHeld (by intro w' hS;obtain ⟨s0,s1,s2⟩:=hS;obtain ⟨q0,q1,q2,q3,q4,q5⟩:=cs6 (Aside0.mk s0);go_simp;with_reducible rfl) ?_
       refine pvq 2 (some 43) (bits 9 7) HT_ ?_
       refine tvq 3 (some 44) (bits 9 15) HT_ HW_ rfl hHeld (by intro w' hS;obtain ⟨s0,s1,s2⟩:=hS;obtain ⟨q0,q1,q2,q3,q4,q5⟩:=cs6 (Aside0.mk s1);go_simp;with_reducible rfl) ?_
       refine pvq 4 (some 45) (bits 9 31) HT_ ?_
       refine pvq 5 (some 46) (bits 9 63) HT_ ?_
       refine pvq 6 (some 47) (bits 9 127) HT_ ?_
       refine tvq 7 (some 48) (bits 9 255) HT_ HW_ rfl hHeld (by intro w' hS;obtain ⟨s0,s1,s2⟩:=hS;obtain ⟨_,hA,q0,q1,q2⟩:=at_T76 s2 ((plOf ss ci : Nat) : Int) (by omega) (by omega);cases hA;rw [Int.toNat_natCast] at q0 q1 q2;rw [hy] at q0 q1 q2;go_simp;with_reducible rfl) ?_
       refine pvq 8 (some 49) (bits 9 511) HT_ ?_
       refine nmq ?_
       refine done_ (done_of HT_.out (by kernel_rfl)) ?_
       clear c6_0 c6_1 c6_2 c6_3 c6_4 c6_5
       obtain ⟨c6_0,c6_1,c6_2,c6_3,c6_4,c6_5⟩:=cs6 F6)
      all_goals go_wp2_with (first
       | ((with_reducible refine gate_store (t:=38) (p:=4) rfl ?_);obtain ⟨y0,y1,y2,y3,y4,y5,z0,z1,z2,z3,z4,z5⟩:=cz6 F4;refine sxq 38 38 4 0 [.string a,.string b,.slice AP306 ps.length kP306,.slice AS306 ss.length kS306,.bool t,.string c] [.string a,.string b,.slice AP306 ps.length kP306,.slice AS306 ss.length kS306,.bool t,.string c] B F4 L4 fun w312 hk B G=>?_;replace F2:=bk F2 hk N2_4.out;replace F3:=bk F3 hk N3_4.out;replace RP306:=rk RP306 F4 (by decide) hk;replace RS306:=rk RS306 F4 (by decide) hk;replace F4:=G;clear hk y0 z0 y1 z1 y2 z2 y3 z3 y4 z4 y5 z5))
      all_goals (try (refine bodyPost_ret (results_list (rs:=[.cell 4 38,.tmp 5]) rfl (by simp) (.cell g4 38 _ (0,0) _ rfl F4.out hu rfl (by kernel_rfl) (.tmp .nil))) rfl ?_);exact ⟨_,_,rfl,RP306.out,RS306.out,B.out⟩)
    ·have d1 : decide (sq≤y.f1)=false:=decide_eq_false q1
     have hN : idleN ⟨a,b,ps,ss,t,c⟩ ci sq=-3:=by unfold idleN;rw [← hfy];exact (if_neg (by omega)).trans (if_neg (by omega))
     have hle : decide (sq≤(findS ss ci).f1)=false:=by rw [← hfy];exact d1
     clear hfy hcl q1
     cases t with
     | true =>
      rw [aeM_idle hh (by unfold idleB;simp),hN]
      clear hh hcm hsq hN hle
      go_enter Try.func12,Try.ntmps12
      go_wp2_with (first
       | ((with_reducible refine gate_dst (N:=2) rfl ?_);refine bxq 2 #[.string a,.string b,.slice AP ps.length cP,.slice (some ad) ss.length cS,.bool true,.string c] 38 B fun g2 w1001 hb B F2 L2 E2=>?_;obtain ⟨c2_0,c2_1,c2_2,c2_3,c2_4,c2_5⟩:=cs6 F2;clear hb E2)
       | ((with_reducible refine gate_dst (N:=3) rfl ?_);refine bxq 3 #[.int .i64 (ci),.int .i64 (sq),.int .i64 (k),.string x,.int .i64 (v),.int .i64 (o)] 44 B fun g3 w1002 hb B F3 L3 E3=>?_;replace F2:=bn F2 hb;clear c2_0 c2_1 c2_2 c2_3 c2_4 c2_5;obtain ⟨c2_0,c2_1,c2_2,c2_3,c2_4,c2_5⟩:=cs6 F2;obtain ⟨c3_0,c3_1,c3_2,c3_3,c3_4,c3_5⟩:=cs6 F3;clear hb E3)
       | ((with_reducible refine gate_dst (N:=4) rfl ?_);refine bxq 4 #[.string (⟨#[]⟩ : ByteArray),.string (⟨#[]⟩ : ByteArray),.slice none 0 0,.slice none 0 0,.bool false,.string (⟨#[]⟩ : ByteArray)] 38 B fun g4 w1003 hb B F4 L4 E4=>?_;have N2_4:=ne1 E4 F2;have N3_4:=ne1 E4 F3;replace F2:=bn F2 hb;replace F3:=bn F3 hb;clear c2_0 c2_1 c2_2 c2_3 c2_4 c2_5;obtain ⟨c2_0,c2_1,c2_2,c2_3,c2_4,c2_5⟩:=cs6 F2;clear c3_0 c3_1 c3_2 c3_3 c3_4 c3_5;obtain ⟨c3_0,c3_1,c3_2,c3_3,c3_4,c3_5⟩:=cs6 F3;clear hb E4)
       | (go_at_call 18;with_reducible refine cl (impl_StateValid.M a b _ _ ps _ _ ss true c _ (cb HRP B) (cb HRS B)) B fun w1004 hb B=>?_;replace F2:=bn F2 hb;replace F3:=bn F3 hb;replace F4:=bn F4 hb;clear c2_0 c2_1 c2_2 c2_3 c2_4 c2_5;obtain ⟨c2_0,c2_1,c2_2,c2_3,c2_4,c2_5⟩:=cs6 F2;clear c3_0 c3_1 c3_2 c3_3 c3_4 c3_5;obtain ⟨c3_0,c3_1,c3_2,c3_3,c3_4,c3_5⟩:=cs6 F3;clear hb)
       | (go_at_call 19;with_reducible refine cl (impl_EntryValid.M ci sq k x v o _) B fun w1005 hb B=>?_;replace F2:=bn F2 hb;replace F3:=bn F3 hb;replace F4:=bn F4 hb;clear c2_0 c2_1 c2_2 c2_3 c2_4 c2_5;obtain ⟨c2_0,c2_1,c2_2,c2_3,c2_4,c2_5⟩:=cs6 F2;clear c3_0 c3_1 c3_2 c3_3 c3_4 c3_5;obtain ⟨c3_0,c3_1,c3_2,c3_3,c3_4,c3_5⟩:=cs6 F3;clear hb)
       | (go_at_call 49;with_reducible refine c2r (impl_copyState.M a b _ _ ps _ _ ss true c _ (cb HRP B) (cb HRS B) HCP.out HCS.out (by omega) (by omega)) B fun AP1006 kP1006 AS1006 kS1006 w1006 hb B RP1006 QP1006 RS1006 QS1006=>?_;have DP1006_S1006:=Aside0.mk (dty RP1006 RS1006 (by decide));replace F2:=bn F2 hb;replace F3:=bn F3 hb;replace F4:=bn F4 hb;clear QP1006 QS1006;clear c2_0 c2_1 c2_2 c2_3 c2_4 c2_5;obtain ⟨c2_0,c2_1,c2_2,c2_3,c2_4,c2_5⟩:=cs6 F2;clear c3_0 c3_1 c3_2 c3_3 c3_4 c3_5;obtain ⟨c3_0,c3_1,c3_2,c3_3,c3_4,c3_5⟩:=cs6 F3;clear hb)
       | ((with_reducible refine gate_dst (N:=6) rfl ?_);refine bxq 6 #[.string (⟨#[]⟩ : ByteArray),.string (⟨#[]⟩ : ByteArray),.slice none 0 0,.slice none 0 0,.bool false,.string (⟨#[]⟩ : ByteArray)] 38 B fun g6 w1007 hb B F6 L6 E6=>?_;have N2_6:=ne1 E6 F2;have N3_6:=ne1 E6 F3;have N4_6:=ne1 E6 F4;replace F2:=bn F2 hb;replace F3:=bn F3 hb;replace F4:=bn F4 hb;replace RP1006:=rn RP1006 hb;replace RS1006:=rn RS1006 hb;clear c2_0 c2_1 c2_2 c2_3 c2_4 c2_5;obtain ⟨c2_0,c2_1,c2_2,c2_3,c2_4,c2_5⟩:=cs6 F2;clear c3_0 c3_1 c3_2 c3_3 c3_4 c3_5;obtain ⟨c3_0,c3_1,c3_2,c3_3,c3_4,c3_5⟩:=cs6 F3;obtain ⟨c6_0,c6_1,c6_2,c6_3,c6_4,c6_5⟩:=cs6 F6;clear hb E6)
       | ((with_reducible refine gate_store (t:=38) (p:=6) rfl ?_);obtain ⟨y0,y1,y2,y3,y4,y5,z0,z1,z2,z3,z4,z5⟩:=cz6 F6;refine sxq 38 38 6 0 [.string a,.string b,.slice AP1006 ps.length kP1006,.slice AS1006 ss.length kS1006,.bool true,.string c] [.string a,.string b,.slice AP1006 ps.length kP1006,.slice AS1006 ss.length kS1006,.bool true,.string c] B F6 L6 fun w1008 hk B G=>?_;replace F2:=bk F2 hk N2_6.out;replace F3:=bk F3 hk N3_6.out;replace F4:=bk F4 hk N4_6.out;replace RP1006:=rk RP1006 F6 (by decide) hk;replace RS1006:=rk RS1006 F6 (by decide) hk;replace F6:=G;clear c2_0 c2_1 c2_2 c2_3 c2_4 c2_5;obtain ⟨c2_0,c2_1,c2_2,c2_3,c2_4,c2_5⟩:=cs6 F2;clear c3_0 c3_1 c3_2 c3_3 c3_4 c3_5;obtain ⟨c3_0,c3_1,c3_2,c3_3,c3_4,c3_5⟩:=cs6 F3;clear c6_0 c6_1 c6_2 c6_3 c6_4 c6_5;obtain ⟨c6_0,c6_1,c6_2,c6_3,c6_4,c6_5⟩:=cs6 F6;clear hk y0 z0 y1 z1 y2 z2 y3 z3 y4 z4 y5 z5)
       | (go_at_call 50;with_reducible refine cl (impl_sessionPlace.Mb _ _ ss ci _ (cb HRS B) HCS.out hv true hit) B fun w1009 hb B=>?_;replace F2:=bn F2 hb;replace F3:=bn F3 hb;replace F4:=bn F4 hb;replace F6:=bn F6 hb;replace RP1006:=rn RP1006 hb;replace RS1006:=rn RS1006 hb;clear c2_0 c2_1 c2_2 c2_3 c2_4 c2_5;obtain ⟨c2_0,c2_1,c2_2,c2_3,c2_4,c2_5⟩:=cs6 F2;clear c3_0 c3_1 c3_2 c3_3 c3_4 c3_5;obtain ⟨c3_0,c3_1,c3_2,c3_3,c3_4,c3_5⟩:=cs6 F3;clear c6_0 c6_1 c6_2 c6_3 c6_4 c6_5;obtain ⟨c6_0,c6_1,c6_2,c6_3,c6_4,c6_5⟩:=cs6 F6;clear hb))
      all_goals (
       refine rg (n:=12) (S:=fun W=>W.heap[g3]?=some (.cells #[.int .i64 (ci),.int .i64 (sq),.int .i64 (k),.string x,.int .i64 (v),.int .i64 (o)] 44 (0,0))∧W.heap[g2]?=some (.cells #[.string a,.string b,.slice AP ps.length cP,.slice (some ad) ss.length cS,.bool true,.string c] 38 (0,0))∧Kd.C k76 W (some ad) ss.length ss) (ds:=[]) #[false,false,false,false,false,false,false,false,false,false,false,false] (by kernel_rfl) rfl rfl ⟨F3.out,F2.out,(cb HRS B)⟩ id B (fun w1010 hb B hHeld=>?_)
       refine with_tabW impl_ApplyEntry.tab5 impl_ApplyEntry.bits5 (fun HT_ HW_=>?_)
       replace F2:=bn F2 hb
       replace F3:=bn F3 hb
       replace F4:=bn F4 hb
       replace F6:=bn F6 hb
       replace RP1006:=rn RP1006 hb
       replace RS1006:=rn RS1006 hb
       clear hb
       refine pvq 0 (some 29) (bits 12 1) HT_ ?_
       refine pvq 1 (some 30) (bits 12 3) HT_ ?_
       refine pvq 2 (some 31) (bits 12 7) HT_ ?_
       refine tvq 3 (some 32) (bits 12 15) HT_ HW_ rfl hHeld (by intro w' hS;obtain ⟨s0,s1,s2⟩:=hS;obtain ⟨q0,q1,q2,q3,q4,q5⟩:=cs6 (Aside0.mk s0);go_simp;with_reducible rfl) ?_
       refine pvq 4 (some 33) (bits 12 31) HT_ ?_
       refine tvq 5 (some 34) (bits 12 63) HT_ HW_ rfl hHeld (by intro w' hS;obtain ⟨s0,s1,s2⟩:=hS;obtain ⟨q0,q1,q2,q3,q4,q5⟩:=cs6 (Aside0.mk s1);go_simp;with_reducible rfl) ?_
       refine pvq 6 (some 35) (bits 12 127) HT_ ?_
       refine pvq 7 (some 36) (bits 12 255) HT_ ?_
       refine pvq 8 (some 37) (bits 12 511) HT_ ?_
       refine tvq 9 (some 38) (bits 12 1023) HT_ HW_ rfl hHeld (by intro w' hS;obtain ⟨s0,s1,s2⟩:=hS;obtain ⟨_,hA,q0,q1,q2⟩:=at_T76 s2 ((plOf ss ci : Nat) : Int) (by omega) (by omega);cases hA;rw [Int.toNat_natCast] at q0 q1 q2;rw [hy] at q0 q1 q2;go_simp;with_reducible rfl) ?_
       refine pvq 10 (some 39) (bits 12 2047) HT_ ?_
       refine pvq 11 (some 40) (bits 12 4095) HT_ ?_
       refine nmq ?_
       refine done_ (done_of HT_.out (by kernel_rfl)) ?_
       clear c2_0 c2_1 c2_2 c2_3 c2_4 c2_5
       obtain ⟨c2_0,c2_1,c2_2,c2_3,c2_4,c2_5⟩:=cs6 F2
       clear c3_0 c3_1 c3_2 c3_3 c3_4 c3_5
       obtain ⟨c3_0,c3_1,c3_2,c3_3,c3_4,c3_5⟩:=cs6 F3
       clear c6_0 c6_1 c6_2 c6_3 c6_4 c6_5
       obtain ⟨c6_0,c6_1,c6_2,c6_3,c6_4,c6_5⟩:=cs6 F6)
      all_goals go_wp2_with (first
       | (go_at_call 51;with_reducible refine cl (impl_stateTakes.M a b _ _ ps _ _ ss true c k x v o _ (cb HRP B) (cb HRS B)) B fun w1011 hb B=>?_;replace F2:=bn F2 hb;replace F3:=bn F3 hb;replace F4:=bn F4 hb;replace F6:=bn F6 hb;replace RP1006:=rn RP1006 hb;replace RS1006:=rn RS1006 hb;clear c6_0 c6_1 c6_2 c6_3 c6_4 c6_5;obtain ⟨c6_0,c6_1,c6_2,c6_3,c6_4,c6_5⟩:=cs6 F6;clear hb)
       | ((with_reducible refine gate_store (t:=38) (p:=4) rfl ?_);obtain ⟨y0,y1,y2,y3,y4,y5,z0,z1,z2,z3,z4,z5⟩:=cz6 F4;refine sxq 38 38 4 0 [.string a,.string b,.slice AP1006 ps.length kP1006,.slice AS1006 ss.length kS1006,.bool true,.string c] [.string a,.string b,.slice AP1006 ps.length kP1006,.slice AS1006 ss.length kS1006,.bool true,.string c] B F4 L4 fun w1012 hk B G=>?_;replace F2:=bk F2 hk N2_4.out;replace F3:=bk F3 hk N3_4.out;replace RP1006:=rk RP1006 F4 (by decide) hk;replace RS1006:=rk RS1006 F4 (by decide) hk;replace F4:=G;clear hk y0 z0 y1 z1 y2 z2 y3 z3 y4 z4 y5 z5))
      all_goals (try (refine bodyPost_ret (results_list (rs:=[.cell 4 38,.tmp 5]) rfl (by simp) (.cell g4 38 _ (0,0) _ rfl F4.out hu rfl (by kernel_rfl) (.tmp .nil))) rfl ?_);exact ⟨_,_,rfl,RP1006.out,RS1006.out,B.out⟩)
     | false =>
      have hid : idleB ⟨a,b,ps,ss,false,c⟩ ci sq k x=!takesB a b k x:=by unfold idleB;rw [hle];rfl
      clear hle
      cases htk : takesB a b k x with
      | false =>
       rw [aeM_idle hh (by rw [hid,htk];rfl),hN]
       clear hh hcm hsq hN hid
       go_enter Try.func12,Try.ntmps12
       go_wp2_with (first
        | ((with_reducible refine gate_dst (N:=2) rfl ?_);refine bxq 2 #[.string a,.string b,.slice AP ps.length cP,.slice (some ad) ss.length cS,.bool false,.string c] 38 B fun g2 w1101 hb B F2 L2 E2=>?_;obtain ⟨c2_0,c2_1,c2_2,c2_3,c2_4,c2_5⟩:=cs6 F2;clear hb E2)
        | ((with_reducible refine gate_dst (N:=3) rfl ?_);refine bxq 3 #[.int .i64 (ci),.int .i64 (sq),.int .i64 (k),.string x,.int .i64 (v),.int .i64 (o)] 44 B fun g3 w1102 hb B F3 L3 E3=>?_;replace F2:=bn F2 hb;clear c2_0 c2_1 c2_2 c2_3 c2_4 c2_5;obtain ⟨c2_0,c2_1,c2_2,c2_3,c2_4,c2_5⟩:=cs6 F2;obtain ⟨c3_0,c3_1,c3_2,c3_3,c3_4,c3_5⟩:=cs6 F3;clear hb E3)
        | ((with_reducible refine gate_dst (N:=4) rfl ?_);refine bxq 4 #[.string (⟨#[]⟩ : ByteArray),.string (⟨#[]⟩ : ByteArray),.slice none 0 0,.slice none 0 0,.bool false,.string (⟨#[]⟩ : ByteArray)] 38 B fun g4 w1103 hb B F4 L4 E4=>?_;have N2_4:=ne1 E4 F2;have N3_4:=ne1 E4 F3;replace F2:=bn F2 hb;replace F3:=bn F3 hb;clear c2_0 c2_1 c2_2 c2_3 c2_4 c2_5;obtain ⟨c2_0,c2_1,c2_2,c2_3,c2_4,c2_5⟩:=cs6 F2;clear c3_0 c3_1 c3_2 c3_3 c3_4 c3_5;obtain ⟨c3_0,c3_1,c3_2,c3_3,c3_4,c3_5⟩:=cs6 F3;clear hb E4)
        | (go_at_call 18;with_reducible refine cl (impl_StateValid.M a b _ _ ps _ _ ss false c _ (cb HRP B) (cb HRS B)) B fun w1104 hb B=>?_;replace F2:=bn F2 hb;replace F3:=bn F3 hb;replace F4:=bn F4 hb;clear c2_0 c2_1 c2_2 c2_3 c2_4 c2_5;obtain ⟨c2_0,c2_1,c2_2,c2_3,c2_4,c2_5⟩:=cs6 F2;clear c3_0 c3_1 c3_2 c3_3 c3_4 c3_5;obtain ⟨c3_0,c3_1,c3_2,c3_3,c3_4,c3_5⟩:=cs6 F3;clear hb)
        | (go_at_call 19;with_reducible refine cl (impl_EntryValid.M ci sq k x v o _) B fun w1105 hb B=>?_;replace F2:=bn F2 hb;replace F3:=bn F3 hb;replace F4:=bn F4 hb;clear c2_0 c2_1 c2_2 c2_3 c2_4 c2_5;obtain ⟨c2_0,c2_1,c2_2,c2_3,c2_4,c2_5⟩:=cs6 F2;clear c3_0 c3_1 c3_2 c3_3 c3_4 c3_5;obtain ⟨c3_0,c3_1,c3_2,c3_3,c3_4,c3_5⟩:=cs6 F3;clear hb)
        | (go_at_call 49;with_reducible refine c2r (impl_copyState.M a b _ _ ps _ _ ss false c _ (cb HRP B) (cb HRS B) HCP.out HCS.out (by omega) (by omega)) B fun AP1106 kP1106 AS1106 kS1106 w1106 hb B RP1106 QP1106 RS1106 QS1106=>?_;have DP1106_S1106:=Aside0.mk (dty RP1106 RS1106 (by decide));replace F2:=bn F2 hb;replace F3:=bn F3 hb;replace F4:=bn F4 hb;clear QP1106 QS1106;clear c2_0 c2_1 c2_2 c2_3 c2_4 c2_5;obtain ⟨c2_0,c2_1,c2_2,c2_3,c2_4,c2_5⟩:=cs6 F2;clear c3_0 c3_1 c3_2 c3_3 c3_4 c3_5;obtain ⟨c3_0,c3_1,c3_2,c3_3,c3_4,c3_5⟩:=cs6 F3;clear hb)
        | ((with_reducible refine gate_dst (N:=6) rfl ?_);refine bxq 6 #[.string (⟨#[]⟩ : ByteArray),.string (⟨#[]⟩ : ByteArray),.slice none 0 0,.slice none 0 0,.bool false,.string (⟨#[]⟩ : ByteArray)] 38 B fun g6 w1107 hb B F6 L6 E6=>?_;have N2_6:=ne1 E6 F2;have N3_6:=ne1 E6 F3;have N4_6:=ne1 E6 F4;replace F2:=bn F2 hb;replace F3:=bn F3 hb;replace F4:=bn F4 hb;replace RP1106:=rn RP1106 hb;replace RS1106:=rn RS1106 hb;clear c2_0 c2_1 c2_2 c2_3 c2_4 c2_5;obtain ⟨c2_0,c2_1,c2_2,c2_3,c2_4,c2_5⟩:=cs6 F2;clear c3_0 c3_1 c3_2 c3_3 c3_4 c3_5;obtain ⟨c3_0,c3_1,c3_2,c3_3,c3_4,c3_5⟩:=cs6 F3;obtain ⟨c6_0,c6_1,c6_2,c6_3,c6_4,c6_5⟩:=cs6 F6;clear hb E6)
        | ((with_reducible refine gate_store (t:=38) (p:=6) rfl ?_);obtain ⟨y0,y1,y2,y3,y4,y5,z0,z1,z2,z3,z4,z5⟩:=cz6 F6;refine sxq 38 38 6 0 [.string a,.string b,.slice AP1106 ps.length kP1106,.slice AS1106 ss.length kS1106,.bool false,.string c] [.string a,.string b,.slice AP1106 ps.length kP1106,.slice AS1106 ss.length kS1106,.bool false,.string c] B F6 L6 fun w1108 hk B G=>?_;replace F2:=bk F2 hk N2_6.out;replace F3:=bk F3 hk N3_6.out;replace F4:=bk F4 hk N4_6.out;replace RP1106:=rk RP1106 F6 (by decide) hk;replace RS1106:=rk RS1106 F6 (by decide) hk;replace F6:=G;clear c2_0 c2_1 c2_2 c2_3 c2_4 c2_5;obtain ⟨c2_0,c2_1,c2_2,c2_3,c2_4,c2_5⟩:=cs6 F2;clear c3_0 c3_1 c3_2 c3_3 c3_4 c3_5;obtain ⟨c3_0,c3_1,c3_2,c3_3,c3_4,c3_5⟩:=cs6 F3;clear c6_0 c6_1 c6_2 c6_3 c6_4 c6_5;obtain ⟨c6_0,c6_1,c6_2,c6_3,c6_4,c6_5⟩:=cs6 F6;clear hk y0 z0 y1 z1 y2 z2 y3 z3 y4 z4 y5 z5)
        | (go_at_call 50;with_reducible refine cl (impl_sessionPlace.Mb _ _ ss ci _ (cb HRS B) HCS.out hv true hit) B fun w1109 hb B=>?_;replace F2:=bn F2 hb;replace F3:=bn F3 hb;replace F4:=bn F4 hb;replace F6:=bn F6 hb;replace RP1106:=rn RP1106 hb;replace RS1106:=rn RS1106 hb;clear c2_0 c2_1 c2_2 c2_3 c2_4 c2_5;obtain ⟨c2_0,c2_1,c2_2,c2_3,c2_4,c2_5⟩:=cs6 F2;clear c3_0 c3_1 c3_2 c3_3 c3_4 c3_5;obtain ⟨c3_0,c3_1,c3_2,c3_3,c3_4,c3_5⟩:=cs6 F3;clear c6_0 c6_1 c6_2 c6_3 c6_4 c6_5;obtain ⟨c6_0,c6_1,c6_2,c6_3,c6_4,c6_5⟩:=cs6 F6;clear hb))
       all_goals (
        refine rg (n:=12) (S:=fun W=>W.heap[g3]?=some (.cells #[.int .i64 (ci),.int .i64 (sq),.int .i64 (k),.string x,.int .i64 (v),.int .i64 (o)] 44 (0,0))∧W.heap[g2]?=some (.cells #[.string a,.string b,.slice AP ps.length cP,.slice (some ad) ss.length cS,.bool false,.string c] 38 (0,0))∧Kd.C k76 W (some ad) ss.length ss) (ds:=[]) #[false,false,false,false,false,false,false,false,false,false,false,false] (by kernel_rfl) rfl rfl ⟨F3.out,F2.out,(cb HRS B)⟩ id B (fun w1110 hb B hHeld=>?_)
        refine with_tabW impl_ApplyEntry.tab5 impl_ApplyEntry.bits5 (fun HT_ HW_=>?_)
        replace F2:=bn F2 hb
        replace F3:=bn F3 hb
        replace F4:=bn F4 hb
        replace F6:=bn F6 hb
        replace RP1106:=rn RP1106 hb
        replace RS1106:=rn RS1106 hb
        clear hb
        refine pvq 0 (some 29) (bits 12 1) HT_ ?_
        refine pvq 1 (some 30) (bits 12 3) HT_ ?_
        refine pvq 2 (some 31) (bits 12 7) HT_ ?_
        refine tvq 3 (some 32) (bits 12 15) HT_ HW_ rfl hHeld (by intro w' hS;obtain ⟨s0,s1,s2⟩:=hS;obtain ⟨q0,q1,q2,q3,q4,q5⟩:=cs6 (Aside0.mk s0);go_simp;with_reducible rfl) ?_
        refine pvq 4 (some 33) (bits 12 31) HT_ ?_
        refine tvq 5 (some 34) (bits 12 63) HT_ HW_ rfl hHeld (by intro w' hS;obtain ⟨s0,s1,s2⟩:=hS;obtain ⟨q0,q1,q2,q3,q4,q5⟩:=cs6 (Aside0.mk s1);go_simp;with_reducible rfl) ?_
        refine pvq 6 (some 35) (bits 12 127) HT_ ?_
        refine pvq 7 (some 36) (bits 12 255) HT_ ?_
        refine pvq 8 (some 37) (bits 12 511) HT_ ?_
        refine tvq 9 (some 38) (bits 12 1023) HT_ HW_ rfl hHeld (by intro w' hS;obtain ⟨s0,s1,s2⟩:=hS;obtain ⟨_,hA,q0,q1,q2⟩:=at_T76 s2 ((plOf ss ci : Nat) : Int) (by omega) (by omega);cases hA;rw [Int.toNat_natCast] at q0 q1 q2;rw [hy] at q0 q1 q2;go_simp;with_reducible rfl) ?_
        refine pvq 10 (some 39) (bits 12 2047) HT_ ?_
        refine pvq 11 (some 40) (bits 12 4095) HT_ ?_
        refine nmq ?_
        refine done_ (done_of HT_.out (by kernel_rfl)) ?_
        clear c2_0 c2_1 c2_2 c2_3 c2_4 c2_5
        obtain ⟨c2_0,c2_1,c2_2,c2_3,c2_4,c2_5⟩:=cs6 F2
        clear c3_0 c3_1 c3_2 c3_3 c3_4 c3_5
        obtain ⟨c3_0,c3_1,c3_2,c3_3,c3_4,c3_5⟩:=cs6 F3
        clear c6_0 c6_1 c6_2 c6_3 c6_4 c6_5
        obtain ⟨c6_0,c6_1,c6_2,c6_3,c6_4,c6_5⟩:=cs6 F6)
       all_goals go_wp2_with (first
        | (go_at_call 51;with_reducible refine cl (impl_stateTakes.M a b _ _ ps _ _ ss false c k x v o _ (cb HRP B) (cb HRS B)) B fun w1111 hb B=>?_;replace F2:=bn F2 hb;replace F3:=bn F3 hb;replace F4:=bn F4 hb;replace F6:=bn F6 hb;replace RP1106:=rn RP1106 hb;replace RS1106:=rn RS1106 hb;clear c6_0 c6_1 c6_2 c6_3 c6_4 c6_5;obtain ⟨c6_0,c6_1,c6_2,c6_3,c6_4,c6_5⟩:=cs6 F6;clear hb)
        | ((with_reducible refine gate_store (t:=38) (p:=4) rfl ?_);obtain ⟨y0,y1,y2,y3,y4,y5,z0,z1,z2,z3,z4,z5⟩:=cz6 F4;refine sxq 38 38 4 0 [.string a,.string b,.slice AP1106 ps.length kP1106,.slice AS1106 ss.length kS1106,.bool false,.string c] [.string a,.string b,.slice AP1106 ps.length kP1106,.slice AS1106 ss.length kS1106,.bool false,.string c] B F4 L4 fun w1112 hk B G=>?_;replace F2:=bk F2 hk N2_4.out;replace F3:=bk F3 hk N3_4.out;replace RP1106:=rk RP1106 F4 (by decide) hk;replace RS1106:=rk RS1106 F4 (by decide) hk;replace F4:=G;clear hk y0 z0 y1 z1 y2 z2 y3 z3 y4 z4 y5 z5))
       all_goals (try (refine bodyPost_ret (results_list (rs:=[.cell 4 38,.tmp 5]) rfl (by simp) (.cell g4 38 _ (0,0) _ rfl F4.out hu rfl (by kernel_rfl) (.tmp .nil))) rfl ?_);exact ⟨_,_,rfl,RP1106.out,RS1106.out,B.out⟩)
      | true =>
       rw [aeM_go hh (by rw [hid,htk];rfl)]
       by_cases h5 : k=5
       ·have d5 : (k == 5)=true:=by rw [h5];rfl
        rw [show applM ⟨a,b,ps,ss,false,c⟩ ci sq k x v o=(⟨a,b,ps,(putB ss ⟨ci,sq,0⟩).1,true,x⟩,0) from if_pos h5]
        clear hh hcm hsq hN hid h5
        go_enter Try.func12,Try.ntmps12
        go_wp2_with (first
         | ((with_reducible refine gate_dst (N:=2) rfl ?_);refine bxq 2 #[.string a,.string b,.slice AP ps.length cP,.slice (some ad) ss.length cS,.bool false,.string c] 38 B fun g2 w1201 hb B F2 L2 E2=>?_;obtain ⟨c2_0,c2_1,c2_2,c2_3,c2_4,c2_5⟩:=cs6 F2;clear hb E2)
         | ((with_reducible refine gate_dst (N:=3) rfl ?_);refine bxq 3 #[.int .i64 (ci),.int .i64 (sq),.int .i64 (k),.string x,.int .i64 (v),.int .i64 (o)] 44 B fun g3 w1202 hb B F3 L3 E3=>?_;replace F2:=bn F2 hb;clear c2_0 c2_1 c2_2 c2_3 c2_4 c2_5;obtain ⟨c2_0,c2_1,c2_2,c2_3,c2_4,c2_5⟩:=cs6 F2;obtain ⟨c3_0,c3_1,c3_2,c3_3,c3_4,c3_5⟩:=cs6 F3;clear hb E3)
         | ((with_reducible refine gate_dst (N:=4) rfl ?_);refine bxq 4 #[.string (⟨#[]⟩ : ByteArray),.string (⟨#[]⟩ : ByteArray),.slice none 0 0,.slice none 0 0,.bool false,.string (⟨#[]⟩ : ByteArray)] 38 B fun g4 w1203 hb B F4 L4 E4=>?_;have N2_4:=ne1 E4 F2;have N3_4:=ne1 E4 F3;replace F2:=bn F2 hb;replace F3:=bn F3 hb;clear c2_0 c2_1 c2_2 c2_3 c2_4 c2_5;obtain ⟨c2_0,c2_1,c2_2,c2_3,c2_4,c2_5⟩:=cs6 F2;clear c3_0 c3_1 c3_2 c3_3 c3_4 c3_5;obtain ⟨c3_0,c3_1,c3_2,c3_3,c3_4,c3_5⟩:=cs6 F3;clear hb E4)
         | (go_at_call 18;with_reducible refine cl (impl_StateValid.M a b _ _ ps _ _ ss false c _ (cb HRP B) (cb HRS B)) B fun w1204 hb B=>?_;replace F2:=bn F2 hb;replace F3:=bn F3 hb;replace F4:=bn F4 hb;clear c2_0 c2_1 c2_2 c2_3 c2_4 c2_5;obtain ⟨c2_0,c2_1,c2_2,c2_3,c2_4,c2_5⟩:=cs6 F2;clear c3_0 c3_1 c3_2 c3_3 c3_4 c3_5;obtain ⟨c3_0,c3_1,c3_2,c3_3,c3_4,c3_5⟩:=cs6 F3;clear hb)
         | (go_at_call 19;with_reducible refine cl (impl_EntryValid.M ci sq k x v o _) B fun w1205 hb B=>?_;replace F2:=bn F2 hb;replace F3:=bn F3 hb;replace F4:=bn F4 hb;clear c2_0 c2_1 c2_2 c2_3 c2_4 c2_5;obtain ⟨c2_0,c2_1,c2_2,c2_3,c2_4,c2_5⟩:=cs6 F2;clear c3_0 c3_1 c3_2 c3_3 c3_4 c3_5;obtain ⟨c3_0,c3_1,c3_2,c3_3,c3_4,c3_5⟩:=cs6 F3;clear hb)
         | (go_at_call 49;with_reducible refine c2r (impl_copyState.M a b _ _ ps _ _ ss false c _ (cb HRP B) (cb HRS B) HCP.out HCS.out (by omega) (by omega)) B fun AP1206 kP1206 AS1206 kS1206 w1206 hb B RP1206 QP1206 RS1206 QS1206=>?_;have DP1206_S1206:=Aside0.mk (dty RP1206 RS1206 (by decide));replace F2:=bn F2 hb;replace F3:=bn F3 hb;replace F4:=bn F4 hb;clear QP1206 QS1206;clear c2_0 c2_1 c2_2 c2_3 c2_4 c2_5;obtain ⟨c2_0,c2_1,c2_2,c2_3,c2_4,c2_5⟩:=cs6 F2;clear c3_0 c3_1 c3_2 c3_3 c3_4 c3_5;obtain ⟨c3_0,c3_1,c3_2,c3_3,c3_4,c3_5⟩:=cs6 F3;clear hb)
         | ((with_reducible refine gate_dst (N:=6) rfl ?_);refine bxq 6 #[.string (⟨#[]⟩ : ByteArray),.string (⟨#[]⟩ : ByteArray),.slice none 0 0,.slice none 0 0,.bool false,.string (⟨#[]⟩ : ByteArray)] 38 B fun g6 w1207 hb B F6 L6 E6=>?_;have N2_6:=ne1 E6 F2;have N3_6:=ne1 E6 F3;have N4_6:=ne1 E6 F4;replace F2:=bn F2 hb;replace F3:=bn F3 hb;replace F4:=bn F4 hb;replace RP1206:=rn RP1206 hb;replace RS1206:=rn RS1206 hb;clear c2_0 c2_1 c2_2 c2_3 c2_4 c2_5;obtain ⟨c2_0,c2_1,c2_2,c2_3,c2_4,c2_5⟩:=cs6 F2;clear c3_0 c3_1 c3_2 c3_3 c3_4 c3_5;obtain ⟨c3_0,c3_1,c3_2,c3_3,c3_4,c3_5⟩:=cs6 F3;obtain ⟨c6_0,c6_1,c6_2,c6_3,c6_4,c6_5⟩:=cs6 F6;clear hb E6)
         | ((with_reducible refine gate_store (t:=38) (p:=6) rfl ?_);obtain ⟨y0,y1,y2,y3,y4,y5,z0,z1,z2,z3,z4,z5⟩:=cz6 F6;refine sxq 38 38 6 0 [.string a,.string b,.slice AP1206 ps.length kP1206,.slice AS1206 ss.length kS1206,.bool false,.string c] [.string a,.string b,.slice AP1206 ps.length kP1206,.slice AS1206 ss.length kS1206,.bool false,.string c] B F6 L6 fun w1208 hk B G=>?_;replace F2:=bk F2 hk N2_6.out;replace F3:=bk F3 hk N3_6.out;replace F4:=bk F4 hk N4_6.out;replace RP1206:=rk RP1206 F6 (by decide) hk;replace RS1206:=rk RS1206 F6 (by decide) hk;replace F6:=G;clear c2_0 c2_1 c2_2 c2_3 c2_4 c2_5;obtain ⟨c2_0,c2_1,c2_2,c2_3,c2_4,c2_5⟩:=cs6 F2;clear c3_0 c3_1 c3_2 c3_3 c3_4 c3_5;obtain ⟨c3_0,c3_1,c3_2,c3_3,c3_4,c3_5⟩:=cs6 F3;clear c6_0 c6_1 c6_2 c6_3 c6_4 c6_5;obtain ⟨c6_0,c6_1,c6_2,c6_3,c6_4,c6_5⟩:=cs6 F6;clear hk y0 z0 y1 z1 y2 z2 y3 z3 y4 z4 y5 z5)
         | (go_at_call 50;with_reducible refine cl (impl_sessionPlace.Mb _ _ ss ci _ (cb HRS B) HCS.out hv true hit) B fun w1209 hb B=>?_;replace F2:=bn F2 hb;replace F3:=bn F3 hb;replace F4:=bn F4 hb;replace F6:=bn F6 hb;replace RP1206:=rn RP1206 hb;replace RS1206:=rn RS1206 hb;clear c2_0 c2_1 c2_2 c2_3 c2_4 c2_5;obtain ⟨c2_0,c2_1,c2_2,c2_3,c2_4,c2_5⟩:=cs6 F2;clear c3_0 c3_1 c3_2 c3_3 c3_4 c3_5;obtain ⟨c3_0,c3_1,c3_2,c3_3,c3_4,c3_5⟩:=cs6 F3;clear c6_0 c6_1 c6_2 c6_3 c6_4 c6_5;obtain ⟨c6_0,c6_1,c6_2,c6_3,c6_4,c6_5⟩:=cs6 F6;clear hb))
        all_goals (
         refine rg (n:=12) (S:=fun W=>W.heap[g3]?=some (.cells #[.int .i64 (ci),.int .i64 (sq),.int .i64 (k),.string x,.int .i64 (v),.int .i64 (o)] 44 (0,0))∧W.heap[g2]?=some (.cells #[.string a,.string b,.slice AP ps.length cP,.slice (some ad) ss.length cS,.bool false,.string c] 38 (0,0))∧Kd.C k76 W (some ad) ss.length ss) (ds:=[]) #[false,false,false,false,false,false,false,false,false,false,false,false] (by kernel_rfl) rfl rfl ⟨F3.out,F2.out,(cb HRS B)⟩ id B (fun w1210 hb B hHeld=>?_)
         refine with_tabW impl_ApplyEntry.tab5 impl_ApplyEntry.bits5 (fun HT_ HW_=>?_)
         replace F2:=bn F2 hb
         replace F3:=bn F3 hb
         replace F4:=bn F4 hb
         replace F6:=bn F6 hb
         replace RP1206:=rn RP1206 hb
         replace RS1206:=rn RS1206 hb
         clear hb
         refine pvq 0 (some 29) (bits 12 1) HT_ ?_
         refine pvq 1 (some 30) (bits 12 3) HT_ ?_
         refine pvq 2 (some 31) (bits 12 7) HT_ ?_
         refine tvq 3 (some 32) (bits 12 15) HT_ HW_ rfl hHeld (by intro w' hS;obtain ⟨s0,s1,s2⟩:=hS;obtain ⟨q0,q1,q2,q3,q4,q5⟩:=cs6 (Aside0.mk s0);go_simp;with_reducible rfl) ?_
         refine pvq 4 (some 33) (bits 12 31) HT_ ?_
         refine tvq 5 (some 34) (bits 12 63) HT_ HW_ rfl hHeld (by intro w' hS;obtain ⟨s0,s1,s2⟩:=hS;obtain ⟨q0,q1,q2,q3,q4,q5⟩:=cs6 (Aside0.mk s1);go_simp;with_reducible rfl) ?_
         refine pvq 6 (some 35) (bits 12 127) HT_ ?_
         refine pvq 7 (some 36) (bits 12 255) HT_ ?_
         refine pvq 8 (some 37) (bits 12 511) HT_ ?_
         refine tvq 9 (some 38) (bits 12 1023) HT_ HW_ rfl hHeld (by intro w' hS;obtain ⟨s0,s1,s2⟩:=hS;obtain ⟨_,hA,q0,q1,q2⟩:=at_T76 s2 ((plOf ss ci : Nat) : Int) (by omega) (by omega);cases hA;rw [Int.toNat_natCast] at q0 q1 q2;rw [hy] at q0 q1 q2;go_simp;with_reducible rfl) ?_
         refine pvq 10 (some 39) (bits 12 2047) HT_ ?_
         refine pvq 11 (some 40) (bits 12 4095) HT_ ?_
         refine nmq ?_
         refine done_ (done_of HT_.out (by kernel_rfl)) ?_
         clear c2_0 c2_1 c2_2 c2_3 c2_4 c2_5
         obtain ⟨c2_0,c2_1,c2_2,c2_3,c2_4,c2_5⟩:=cs6 F2
         clear c3_0 c3_1 c3_2 c3_3 c3_4 c3_5
         obtain ⟨c3_0,c3_1,c3_2,c3_3,c3_4,c3_5⟩:=cs6 F3
         clear c6_0 c6_1 c6_2 c6_3 c6_4 c6_5
         obtain ⟨c6_0,c6_1,c6_2,c6_3,c6_4,c6_5⟩:=cs6 F6)
        all_goals go_wp2_with (first
         | (go_at_call 51;with_reducible refine cl (impl_stateTakes.M a b _ _ ps _ _ ss false c k x v o _ (cb HRP B) (cb HRS B)) B fun w1211 hb B=>?_;replace F2:=bn F2 hb;replace F3:=bn F3 hb;replace F4:=bn F4 hb;replace F6:=bn F6 hb;replace RP1206:=rn RP1206 hb;replace RS1206:=rn RS1206 hb;clear c2_0 c2_1 c2_2 c2_3 c2_4 c2_5;obtain ⟨c2_0,c2_1,c2_2,c2_3,c2_4,c2_5⟩:=cs6 F2;clear c3_0 c3_1 c3_2 c3_3 c3_4 c3_5;obtain ⟨c3_0,c3_1,c3_2,c3_3,c3_4,c3_5⟩:=cs6 F3;clear c6_0 c6_1 c6_2 c6_3 c6_4 c6_5;obtain ⟨c6_0,c6_1,c6_2,c6_3,c6_4,c6_5⟩:=cs6 F6;clear hb)
         | ((with_reducible refine gate_store (t:=4) (p:=72) rfl ?_);obtain ⟨y0,y1,y2,y3,y4,y5,z0,z1,z2,z3,z4,z5⟩:=cz6 F6;refine sxq 38 4 72 4 [.bool true] [.string a,.string b,.slice AP1206 ps.length kP1206,.slice AS1206 ss.length kS1206,.bool true,.string c] B F6 L6 fun w1212 hk B G=>?_;replace F2:=bk F2 hk N2_6.out;replace F3:=bk F3 hk N3_6.out;replace F4:=bk F4 hk N4_6.out;replace RP1206:=rk RP1206 F6 (by decide) hk;replace RS1206:=rk RS1206 F6 (by decide) hk;replace F6:=G;clear c2_0 c2_1 c2_2 c2_3 c2_4 c2_5;obtain ⟨c2_0,c2_1,c2_2,c2_3,c2_4,c2_5⟩:=cs6 F2;clear c3_0 c3_1 c3_2 c3_3 c3_4 c3_5;obtain ⟨c3_0,c3_1,c3_2,c3_3,c3_4,c3_5⟩:=cs6 F3;clear c6_0 c6_1 c6_2 c6_3 c6_4 c6_5;obtain ⟨c6_0,c6_1,c6_2,c6_3,c6_4,c6_5⟩:=cs6 F6;clear hk y0 z0 y1 z1 y2 z2 y3 z3 y4 z4 y5 z5)
         | ((with_reducible refine gate_store (t:=9) (p:=76) rfl ?_);obtain ⟨y0,y1,y2,y3,y4,y5,z0,z1,z2,z3,z4,z5⟩:=cz6 F6;refine sxq 38 9 76 5 [.string x] [.string a,.string b,.slice AP1206 ps.length kP1206,.slice AS1206 ss.length kS1206,.bool true,.string x] B F6 L6 fun w1213 hk B G=>?_;replace F2:=bk F2 hk N2_6.out;replace F3:=bk F3 hk N3_6.out;replace F4:=bk F4 hk N4_6.out;replace RP1206:=rk RP1206 F6 (by decide) hk;replace RS1206:=rk RS1206 F6 (by decide) hk;replace F6:=G;clear c2_0 c2_1 c2_2 c2_3 c2_4 c2_5;obtain ⟨c2_0,c2_1,c2_2,c2_3,c2_4,c2_5⟩:=cs6 F2;clear c3_0 c3_1 c3_2 c3_3 c3_4 c3_5;obtain ⟨c3_0,c3_1,c3_2,c3_3,c3_4,c3_5⟩:=cs6 F3;clear c6_0 c6_1 c6_2 c6_3 c6_4 c6_5;obtain ⟨c6_0,c6_1,c6_2,c6_3,c6_4,c6_5⟩:=cs6 F6;clear hk y0 z0 y1 z1 y2 z2 y3 z3 y4 z4 y5 z5)
         | (go_at_call 53;with_reducible refine cr (impl_SessionPut.M _ _ ss ci sq 0 _ (cb HRS B) HCS.out) B fun AU1214 kU1214 w1214 hb B RU1214 QU1214=>?_;have DP1206_U1214:=fr QU1214 RP1206;have DS1206_U1214:=fr QU1214 RS1206;replace F2:=bn F2 hb;replace F3:=bn F3 hb;replace F4:=bn F4 hb;replace F6:=bn F6 hb;replace RP1206:=rn RP1206 hb;replace RS1206:=rn RS1206 hb;clear QU1214;clear c6_0 c6_1 c6_2 c6_3 c6_4 c6_5;obtain ⟨c6_0,c6_1,c6_2,c6_3,c6_4,c6_5⟩:=cs6 F6;clear hb)
         | ((with_reducible refine gate_store (t:=36) (p:=98) rfl ?_);obtain ⟨y0,y1,y2,y3,y4,y5,z0,z1,z2,z3,z4,z5⟩:=cz6 F6;refine sxq 38 36 98 3 [.slice AU1214 (putB ss ⟨ci,sq,0⟩).1.length kU1214] [.string a,.string b,.slice AP1206 ps.length kP1206,.slice AU1214 (putB ss ⟨ci,sq,0⟩).1.length kU1214,.bool true,.string x] B F6 L6 fun w1215 hk B G=>?_;replace F2:=bk F2 hk N2_6.out;replace F3:=bk F3 hk N3_6.out;replace F4:=bk F4 hk N4_6.out;replace RP1206:=rk RP1206 F6 (by decide) hk;replace RS1206:=rk RS1206 F6 (by decide) hk;replace RU1214:=rk RU1214 F6 (by decide) hk;replace F6:=G;clear c6_0 c6_1 c6_2 c6_3 c6_4 c6_5;obtain ⟨c6_0,c6_1,c6_2,c6_3,c6_4,c6_5⟩:=cs6 F6;clear hk y0 z0 y1 z1 y2 z2 y3 z3 y4 z4 y5 z5)
         | ((with_reducible refine gate_store (t:=38) (p:=4) rfl ?_);obtain ⟨y0,y1,y2,y3,y4,y5,z0,z1,z2,z3,z4,z5⟩:=cz6 F4;refine sxq 38 38 4 0 [.string a,.string b,.slice AP1206 ps.length kP1206,.slice AU1214 (putB ss ⟨ci,sq,0⟩).1.length kU1214,.bool true,.string x] [.string a,.string b,.slice AP1206 ps.length kP1206,.slice AU1214 (putB ss ⟨ci,sq,0⟩).1.length kU1214,.bool true,.string x] B F4 L4 fun w1216 hk B G=>?_;replace F2:=bk F2 hk N2_4.out;replace F3:=bk F3 hk N3_4.out;replace RP1206:=rk RP1206 F4 (by decide) hk;replace RS1206:=rk RS1206 F4 (by decide) hk;replace RU1214:=rk RU1214 F4 (by decide) hk;replace F4:=G;clear hk y0 z0 y1 z1 y2 z2 y3 z3 y4 z4 y5 z5))
        all_goals (try (refine bodyPost_ret (results_list (rs:=[.cell 4 38,.tmp 5]) rfl (by simp) (.cell g4 38 _ (0,0) _ rfl F4.out hu rfl (by kernel_rfl) (.tmp .nil))) rfl ?_);exact ⟨_,_,rfl,RP1206.out,RU1214.out,B.out⟩)
       ·have d5 : (k == 5)=false:=beq_eq_false_iff_ne.mpr h5
        rw [show applM ⟨a,b,ps,ss,false,c⟩ ci sq k x v o=(⟨a,b,(apM ps k x v o).1,(putB ss ⟨ci,sq,(apM ps k x v o).2⟩).1,false,c⟩,(apM ps k x v o).2) from if_neg h5]
        clear hh hcm hsq hN hid h5
        go_enter Try.func12,Try.ntmps12
        go_wp2_with (first
         | ((with_reducible refine gate_dst (N:=2) rfl ?_);refine bxq 2 #[.string a,.string b,.slice AP ps.length cP,.slice (some ad) ss.length cS,.bool false,.string c] 38 B fun g2 w1301 hb B F2 L2 E2=>?_;obtain ⟨c2_0,c2_1,c2_2,c2_3,c2_4,c2_5⟩:=cs6 F2;clear hb E2)
         | ((with_reducible refine gate_dst (N:=3) rfl ?_);refine bxq 3 #[.int .i64 (ci),.int .i64 (sq),.int .i64 (k),.string x,.int .i64 (v),.int .i64 (o)] 44 B fun g3 w1302 hb B F3 L3 E3=>?_;replace F2:=bn F2 hb;clear c2_0 c2_1 c2_2 c2_3 c2_4 c2_5;obtain ⟨c2_0,c2_1,c2_2,c2_3,c2_4,c2_5⟩:=cs6 F2;obtain ⟨c3_0,c3_1,c3_2,c3_3,c3_4,c3_5⟩:=cs6 F3;clear hb E3)
         | ((with_reducible refine gate_dst (N:=4) rfl ?_);refine bxq 4 #[.string (⟨#[]⟩ : ByteArray),.string (⟨#[]⟩ : ByteArray),.slice none 0 0,.slice none 0 0,.bool false,.string (⟨#[]⟩ : ByteArray)] 38 B fun g4 w1303 hb B F4 L4 E4=>?_;have N2_4:=ne1 E4 F2;have N3_4:=ne1 E4 F3;replace F2:=bn F2 hb;replace F3:=bn F3 hb;clear c2_0 c2_1 c2_2 c2_3 c2_4 c2_5;obtain ⟨c2_0,c2_1,c2_2,c2_3,c2_4,c2_5⟩:=cs6 F2;clear c3_0 c3_1 c3_2 c3_3 c3_4 c3_5;obtain ⟨c3_0,c3_1,c3_2,c3_3,c3_4,c3_5⟩:=cs6 F3;clear hb E4)
         | (go_at_call 18;with_reducible refine cl (impl_StateValid.M a b _ _ ps _ _ ss false c _ (cb HRP B) (cb HRS B)) B fun w1304 hb B=>?_;replace F2:=bn F2 hb;replace F3:=bn F3 hb;replace F4:=bn F4 hb;clear c2_0 c2_1 c2_2 c2_3 c2_4 c2_5;obtain ⟨c2_0,c2_1,c2_2,c2_3,c2_4,c2_5⟩:=cs6 F2;clear c3_0 c3_1 c3_2 c3_3 c3_4 c3_5;obtain ⟨c3_0,c3_1,c3_2,c3_3,c3_4,c3_5⟩:=cs6 F3;clear hb)
         | (go_at_call 19;with_reducible refine cl (impl_EntryValid.M ci sq k x v o _) B fun w1305 hb B=>?_;replace F2:=bn F2 hb;replace F3:=bn F3 hb;replace F4:=bn F4 hb;clear c2_0 c2_1 c2_2 c2_3 c2_4 c2_5;obtain ⟨c2_0,c2_1,c2_2,c2_3,c2_4,c2_5⟩:=cs6 F2;clear c3_0 c3_1 c3_2 c3_3 c3_4 c3_5;obtain ⟨c3_0,c3_1,c3_2,c3_3,c3_4,c3_5⟩:=cs6 F3;clear hb)
         | (go_at_call 49;with_reducible refine c2r (impl_copyState.M a b _ _ ps _ _ ss false c _ (cb HRP B) (cb HRS B) HCP.out HCS.out (by omega) (by omega)) B fun AP1306 kP1306 AS1306 kS1306 w1306 hb B RP1306 QP1306 RS1306 QS1306=>?_;have DP1306_S1306:=Aside0.mk (dty RP1306 RS1306 (by decide));replace F2:=bn F2 hb;replace F3:=bn F3 hb;replace F4:=bn F4 hb;clear QP1306 QS1306;clear c2_0 c2_1 c2_2 c2_3 c2_4 c2_5;obtain ⟨c2_0,c2_1,c2_2,c2_3,c2_4,c2_5⟩:=cs6 F2;clear c3_0 c3_1 c3_2 c3_3 c3_4 c3_5;obtain ⟨c3_0,c3_1,c3_2,c3_3,c3_4,c3_5⟩:=cs6 F3;clear hb)
         | ((with_reducible refine gate_dst (N:=6) rfl ?_);refine bxq 6 #[.string (⟨#[]⟩ : ByteArray),.string (⟨#[]⟩ : ByteArray),.slice none 0 0,.slice none 0 0,.bool false,.string (⟨#[]⟩ : ByteArray)] 38 B fun g6 w1307 hb B F6 L6 E6=>?_;have N2_6:=ne1 E6 F2;have N3_6:=ne1 E6 F3;have N4_6:=ne1 E6 F4;replace F2:=bn F2 hb;replace F3:=bn F3 hb;replace F4:=bn F4 hb;replace RP1306:=rn RP1306 hb;replace RS1306:=rn RS1306 hb;clear c2_0 c2_1 c2_2 c2_3 c2_4 c2_5;obtain ⟨c2_0,c2_1,c2_2,c2_3,c2_4,c2_5⟩:=cs6 F2;clear c3_0 c3_1 c3_2 c3_3 c3_4 c3_5;obtain ⟨c3_0,c3_1,c3_2,c3_3,c3_4,c3_5⟩:=cs6 F3;obtain ⟨c6_0,c6_1,c6_2,c6_3,c6_4,c6_5⟩:=cs6 F6;clear hb E6)
         | ((with_reducible refine gate_store (t:=38) (p:=6) rfl ?_);obtain ⟨y0,y1,y2,y3,y4,y5,z0,z1,z2,z3,z4,z5⟩:=cz6 F6;refine sxq 38 38 6 0 [.string a,.string b,.slice AP1306 ps.length kP1306,.slice AS1306 ss.length kS1306,.bool false,.string c] [.string a,.string b,.slice AP1306 ps.length kP1306,.slice AS1306 ss.length kS1306,.bool false,.string c] B F6 L6 fun w1308 hk B G=>?_;replace F2:=bk F2 hk N2_6.out;replace F3:=bk F3 hk N3_6.out;replace F4:=bk F4 hk N4_6.out;replace RP1306:=rk RP1306 F6 (by decide) hk;replace RS1306:=rk RS1306 F6 (by decide) hk;replace F6:=G;clear c2_0 c2_1 c2_2 c2_3 c2_4 c2_5;obtain ⟨c2_0,c2_1,c2_2,c2_3,c2_4,c2_5⟩:=cs6 F2;clear c3_0 c3_1 c3_2 c3_3 c3_4 c3_5;obtain ⟨c3_0,c3_1,c3_2,c3_3,c3_4,c3_5⟩:=cs6 F3;clear c6_0 c6_1 c6_2 c6_3 c6_4 c6_5;obtain ⟨c6_0,c6_1,c6_2,c6_3,c6_4,c6_5⟩:=cs6 F6;clear hk y0 z0 y1 z1 y2 z2 y3 z3 y4 z4 y5 z5)
         | (go_at_call 50;with_reducible refine cl (impl_sessionPlace.Mb _ _ ss ci _ (cb HRS B) HCS.out hv true hit) B fun w1309 hb B=>?_;replace F2:=bn F2 hb;replace F3:=bn F3 hb;replace F4:=bn F4 hb;replace F6:=bn F6 hb;replace RP1306:=rn RP1306 hb;replace RS1306:=rn RS1306 hb;clear c2_0 c2_1 c2_2 c2_3 c2_4 c2_5;obtain ⟨c2_0,c2_1,c2_2,c2_3,c2_4,c2_5⟩:=cs6 F2;clear c3_0 c3_1 c3_2 c3_3 c3_4 c3_5;obtain ⟨c3_0,c3_1,c3_2,c3_3,c3_4,c3_5⟩:=cs6 F3;clear c6_0 c6_1 c6_2 c6_3 c6_4 c6_5;obtain ⟨c6_0,c6_1,c6_2,c6_3,c6_4,c6_5⟩:=cs6 F6;clear hb))
        all_goals (
         refine rg (n:=12) (S:=fun W=>W.heap[g3]?=some (.cells #[.int .i64 (ci),.int .i64 (sq),.int .i64 (k),.string x,.int .i64 (v),.int .i64 (o)] 44 (0,0))∧W.heap[g2]?=some (.cells #[.string a,.string b,.slice AP ps.length cP,.slice (some ad) ss.length cS,.bool false,.string c] 38 (0,0))∧Kd.C k76 W (some ad) ss.length ss) (ds:=[]) #[false,false,false,false,false,false,false,false,false,false,false,false] (by kernel_rfl) rfl rfl ⟨F3.out,F2.out,(cb HRS B)⟩ id B (fun w1310 hb B hHeld=>?_)
         refine with_tabW impl_ApplyEntry.tab5 impl_ApplyEntry.bits5 (fun HT_ HW_=>?_)
         replace F2:=bn F2 hb
         replace F3:=bn F3 hb
         replace F4:=bn F4 hb
         replace F6:=bn F6 hb
         replace RP1306:=rn RP1306 hb
         replace RS1306:=rn RS1306 hb
         clear hb
         refine pvq 0 (some 29) (bits 12 1) HT_ ?_
         refine pvq 1 (some 30) (bits 12 3) HT_ ?_
         refine pvq 2 (some 31) (bits 12 7) HT_ ?_
         refine tvq 3 (some 32) (bits 12 15) HT_ HW_ rfl hHeld (by intro w' hS;obtain ⟨s0,s1,s2⟩:=hS;obtain ⟨q0,q1,q2,q3,q4,q5⟩:=cs6 (Aside0.mk s0);go_simp;with_reducible rfl) ?_
         refine pvq 4 (some 33) (bits 12 31) HT_ ?_
         refine tvq 5 (some 34) (bits 12 63) HT_ HW_ rfl hHeld (by intro w' hS;obtain ⟨s0,s1,s2⟩:=hS;obtain ⟨q0,q1,q2,q3,q4,q5⟩:=cs6 (Aside0.mk s1);go_simp;with_reducible rfl) ?_
         refine pvq 6 (some 35) (bits 12 127) HT_ ?_
         refine pvq 7 (some 36) (bits 12 255) HT_ ?_
         refine pvq 8 (some 37) (bits 12 511) HT_ ?_
         refine tvq 9 (some 38) (bits 12 1023) HT_ HW_ rfl hHeld (by intro w' hS;obtain ⟨s0,s1,s2⟩:=hS;obtain ⟨_,hA,q0,q1,q2⟩:=at_T76 s2 ((plOf ss ci : Nat) : Int) (by omega) (by omega);cases hA;rw [Int.toNat_natCast] at q0 q1 q2;rw [hy] at q0 q1 q2;go_simp;with_reducible rfl) ?_
         refine pvq 10 (some 39) (bits 12 2047) HT_ ?_
         refine pvq 11 (some 40) (bits 12 4095) HT_ ?_
         refine nmq ?_
         refine done_ (done_of HT_.out (by kernel_rfl)) ?_
         clear c2_0 c2_1 c2_2 c2_3 c2_4 c2_5
         obtain ⟨c2_0,c2_1,c2_2,c2_3,c2_4,c2_5⟩:=cs6 F2
         clear c3_0 c3_1 c3_2 c3_3 c3_4 c3_5
         obtain ⟨c3_0,c3_1,c3_2,c3_3,c3_4,c3_5⟩:=cs6 F3
         clear c6_0 c6_1 c6_2 c6_3 c6_4 c6_5
         obtain ⟨c6_0,c6_1,c6_2,c6_3,c6_4,c6_5⟩:=cs6 F6)
        all_goals go_wp2_with (first
         | (go_at_call 51;with_reducible refine cl (impl_stateTakes.M a b _ _ ps _ _ ss false c k x v o _ (cb HRP B) (cb HRS B)) B fun w1311 hb B=>?_;replace F2:=bn F2 hb;replace F3:=bn F3 hb;replace F4:=bn F4 hb;replace F6:=bn F6 hb;replace RP1306:=rn RP1306 hb;replace RS1306:=rn RS1306 hb;clear c2_0 c2_1 c2_2 c2_3 c2_4 c2_5;obtain ⟨c2_0,c2_1,c2_2,c2_3,c2_4,c2_5⟩:=cs6 F2;clear c3_0 c3_1 c3_2 c3_3 c3_4 c3_5;obtain ⟨c3_0,c3_1,c3_2,c3_3,c3_4,c3_5⟩:=cs6 F3;clear c6_0 c6_1 c6_2 c6_3 c6_4 c6_5;obtain ⟨c6_0,c6_1,c6_2,c6_3,c6_4,c6_5⟩:=cs6 F6;clear hb)
         | (go_at_call 52;with_reducible refine cr (impl_ApplyCommand.M _ _ ps k x v o _ (cb HRP B) HCP.out) B fun AC1312 kC1312 w1312 hb B RC1312 QC1312=>?_;have DP1306_C1312:=fr QC1312 RP1306;have DS1306_C1312:=fr QC1312 RS1306;replace F2:=bn F2 hb;replace F3:=bn F3 hb;replace F4:=bn F4 hb;replace F6:=bn F6 hb;replace RP1306:=rn RP1306 hb;replace RS1306:=rn RS1306 hb;clear QC1312;clear c2_0 c2_1 c2_2 c2_3 c2_4 c2_5;obtain ⟨c2_0,c2_1,c2_2,c2_3,c2_4,c2_5⟩:=cs6 F2;clear c3_0 c3_1 c3_2 c3_3 c3_4 c3_5;obtain ⟨c3_0,c3_1,c3_2,c3_3,c3_4,c3_5⟩:=cs6 F3;clear c6_0 c6_1 c6_2 c6_3 c6_4 c6_5;obtain ⟨c6_0,c6_1,c6_2,c6_3,c6_4,c6_5⟩:=cs6 F6;clear hb)
         | ((with_reducible refine gate_store (t:=35) (p:=85) rfl ?_);obtain ⟨y0,y1,y2,y3,y4,y5,z0,z1,z2,z3,z4,z5⟩:=cz6 F6;refine sxq 38 35 85 2 [.slice AC1312 (apM ps k x v o).1.length kC1312] [.string a,.string b,.slice AC1312 (apM ps k x v o).1.length kC1312,.slice AS1306 ss.length kS1306,.bool false,.string c] B F6 L6 fun w1313 hk B G=>?_;replace F2:=bk F2 hk N2_6.out;replace F3:=bk F3 hk N3_6.out;replace F4:=bk F4 hk N4_6.out;replace RP1306:=rk RP1306 F6 (by decide) hk;replace RS1306:=rk RS1306 F6 (by decide) hk;replace RC1312:=rk RC1312 F6 (by decide) hk;replace F6:=G;clear c2_0 c2_1 c2_2 c2_3 c2_4 c2_5;obtain ⟨c2_0,c2_1,c2_2,c2_3,c2_4,c2_5⟩:=cs6 F2;clear c3_0 c3_1 c3_2 c3_3 c3_4 c3_5;obtain ⟨c3_0,c3_1,c3_2,c3_3,c3_4,c3_5⟩:=cs6 F3;clear c6_0 c6_1 c6_2 c6_3 c6_4 c6_5;obtain ⟨c6_0,c6_1,c6_2,c6_3,c6_4,c6_5⟩:=cs6 F6;clear hk y0 z0 y1 z1 y2 z2 y3 z3 y4 z4 y5 z5)
         | (go_at_call 53;with_reducible refine cr (impl_SessionPut.M _ _ ss ci sq (apM ps k x v o).2 _ (cb HRS B) HCS.out) B fun AU1314 kU1314 w1314 hb B RU1314 QU1314=>?_;have DP1306_U1314:=fr QU1314 RP1306;have DS1306_U1314:=fr QU1314 RS1306;have DC1312_U1314:=fr QU1314 RC1312;replace F2:=bn F2 hb;replace F3:=bn F3 hb;replace F4:=bn F4 hb;replace F6:=bn F6 hb;replace RS1306:=rn RS1306 hb;replace RC1312:=rn RC1312 hb;clear QU1314;clear c6_0 c6_1 c6_2 c6_3 c6_4 c6_5;obtain ⟨c6_0,c6_1,c6_2,c6_3,c6_4,c6_5⟩:=cs6 F6;clear hb)
         | ((with_reducible refine gate_store (t:=36) (p:=98) rfl ?_);obtain ⟨y0,y1,y2,y3,y4,y5,z0,z1,z2,z3,z4,z5⟩:=cz6 F6;refine sxq 38 36 98 3 [.slice AU1314 (putB ss ⟨ci,sq,(apM ps k x v o).2⟩).1.length kU1314] [.string a,.string b,.slice AC1312 (apM ps k x v o).1.length kC1312,.slice AU1314 (putB ss ⟨ci,sq,(apM ps k x v o).2⟩).1.length kU1314,.bool false,.string c] B F6 L6 fun w1315 hk B G=>?_;replace F2:=bk F2 hk N2_6.out;replace F3:=bk F3 hk N3_6.out;replace F4:=bk F4 hk N4_6.out;replace RS1306:=rk RS1306 F6 (by decide) hk;replace RC1312:=rk RC1312 F6 (by decide) hk;replace RU1314:=rk RU1314 F6 (by decide) hk;replace F6:=G;clear c6_0 c6_1 c6_2 c6_3 c6_4 c6_5;obtain ⟨c6_0,c6_1,c6_2,c6_3,c6_4,c6_5⟩:=cs6 F6;clear hk y0 z0 y1 z1 y2 z2 y3 z3 y4 z4 y5 z5)
         | ((with_reducible refine gate_store (t:=38) (p:=4) rfl ?_);obtain ⟨y0,y1,y2,y3,y4,y5,z0,z1,z2,z3,z4,z5⟩:=cz6 F4;refine sxq 38 38 4 0 [.string a,.string b,.slice AC1312 (apM ps k x v o).1.length kC1312,.slice AU1314 (putB ss ⟨ci,sq,(apM ps k x v o).2⟩).1.length kU1314,.bool false,.string c] [.string a,.string b,.slice AC1312 (apM ps k x v o).1.length kC1312,.slice AU1314 (putB ss ⟨ci,sq,(apM ps k x v o).2⟩).1.length kU1314,.bool false,.string c] B F4 L4 fun w1316 hk B G=>?_;replace F2:=bk F2 hk N2_4.out;replace F3:=bk F3 hk N3_4.out;replace RS1306:=rk RS1306 F4 (by decide) hk;replace RC1312:=rk RC1312 F4 (by decide) hk;replace RU1314:=rk RU1314 F4 (by decide) hk;replace F4:=G;clear hk y0 z0 y1 z1 y2 z2 y3 z3 y4 z4 y5 z5))
        all_goals (try (refine bodyPost_ret (results_list (rs:=[.cell 4 38,.tmp 5]) rfl (by simp) (.cell g4 38 _ (0,0) _ rfl F4.out hu rfl (by kernel_rfl) (.tmp .nil))) rfl ?_);exact ⟨_,_,rfl,RC1312.out,RU1314.out,B.out⟩)
   | false =>
    have hf0:=miss_findS hv hit
    have hN : idleN ⟨a,b,ps,ss,t,c⟩ ci sq=-3:=(if_neg (show ¬ (findS ss ci).f1=sq by omega)).trans (if_neg (show ¬ sq < (findS ss ci).f1 by omega))
    have hle : decide (sq≤(findS ss ci).f1)=false:=decide_eq_false (by omega)
    clear hf0 hcl
    cases t with
    | true =>
     rw [aeM_idle hh (by unfold idleB;simp),hN]
     clear hh hcm hsq hN hle
     go_enter Try.func12,Try.ntmps12
     go_wp2_with (first
      | ((with_reducible refine gate_dst (N:=2) rfl ?_);refine bxq 2 #[.string a,.string b,.slice AP ps.length cP,.slice AS ss.length cS,.bool true,.string c] 38 B fun g2 w2001 hb B F2 L2 E2=>?_;obtain ⟨c2_0,c2_1,c2_2,c2_3,c2_4,c2_5⟩:=cs6 F2;clear hb E2)
      | ((with_reducible refine gate_dst (N:=3) rfl ?_);refine bxq 3 #[.int .i64 (ci),.int .i64 (sq),.int .i64 (k),.string x,.int .i64 (v),.int .i64 (o)] 44 B fun g3 w2002 hb B F3 L3 E3=>?_;replace F2:=bn F2 hb;clear c2_0 c2_1 c2_2 c2_3 c2_4 c2_5;obtain ⟨c2_0,c2_1,c2_2,c2_3,c2_4,c2_5⟩:=cs6 F2;obtain ⟨c3_0,c3_1,c3_2,c3_3,c3_4,c3_5⟩:=cs6 F3;clear hb E3)
      | ((with_reducible refine gate_dst (N:=4) rfl ?_);refine bxq 4 #[.string (⟨#[]⟩ : ByteArray),.string (⟨#[]⟩ : ByteArray),.slice none 0 0,.slice none 0 0,.bool false,.string (⟨#[]⟩ : ByteArray)] 38 B fun g4 w2003 hb B F4 L4 E4=>?_;have N2_4:=ne1 E4 F2;have N3_4:=ne1 E4 F3;replace F2:=bn F2 hb;replace F3:=bn F3 hb;clear c2_0 c2_1 c2_2 c2_3 c2_4 c2_5;obtain ⟨c2_0,c2_1,c2_2,c2_3,c2_4,c2_5⟩:=cs6 F2;clear c3_0 c3_1 c3_2 c3_3 c3_4 c3_5;obtain ⟨c3_0,c3_1,c3_2,c3_3,c3_4,c3_5⟩:=cs6 F3;clear hb E4)
      | (go_at_call 18;with_reducible refine cl (impl_StateValid.M a b _ _ ps _ _ ss true c _ (cb HRP B) (cb HRS B)) B fun w2004 hb B=>?_;replace F2:=bn F2 hb;replace F3:=bn F3 hb;replace F4:=bn F4 hb;clear c2_0 c2_1 c2_2 c2_3 c2_4 c2_5;obtain ⟨c2_0,c2_1,c2_2,c2_3,c2_4,c2_5⟩:=cs6 F2;clear c3_0 c3_1 c3_2 c3_3 c3_4 c3_5;obtain ⟨c3_0,c3_1,c3_2,c3_3,c3_4,c3_5⟩:=cs6 F3;clear hb)
      | (go_at_call 19;with_reducible refine cl (impl_EntryValid.M ci sq k x v o _) B fun w2005 hb B=>?_;replace F2:=bn F2 hb;replace F3:=bn F3 hb;replace F4:=bn F4 hb;clear c2_0 c2_1 c2_2 c2_3 c2_4 c2_5;obtain ⟨c2_0,c2_1,c2_2,c2_3,c2_4,c2_5⟩:=cs6 F2;clear c3_0 c3_1 c3_2 c3_3 c3_4 c3_5;obtain ⟨c3_0,c3_1,c3_2,c3_3,c3_4,c3_5⟩:=cs6 F3;clear hb)
      | (go_at_call 49;with_reducible refine c2r (impl_copyState.M a b _ _ ps _ _ ss true c _ (cb HRP B) (cb HRS B) HCP.out HCS.out (by omega) (by omega)) B fun AP2006 kP2006 AS2006 kS2006 w2006 hb B RP2006 QP2006 RS2006 QS2006=>?_;have DP2006_S2006:=Aside0.mk (dty RP2006 RS2006 (by decide));replace F2:=bn F2 hb;replace F3:=bn F3 hb;replace F4:=bn F4 hb;clear QP2006 QS2006;clear c2_0 c2_1 c2_2 c2_3 c2_4 c2_5;obtain ⟨c2_0,c2_1,c2_2,c2_3,c2_4,c2_5⟩:=cs6 F2;clear c3_0 c3_1 c3_2 c3_3 c3_4 c3_5;obtain ⟨c3_0,c3_1,c3_2,c3_3,c3_4,c3_5⟩:=cs6 F3;clear hb)
      | ((with_reducible refine gate_dst (N:=6) rfl ?_);refine bxq 6 #[.string (⟨#[]⟩ : ByteArray),.string (⟨#[]⟩ : ByteArray),.slice none 0 0,.slice none 0 0,.bool false,.string (⟨#[]⟩ : ByteArray)] 38 B fun g6 w2007 hb B F6 L6 E6=>?_;have N2_6:=ne1 E6 F2;have N3_6:=ne1 E6 F3;have N4_6:=ne1 E6 F4;replace F2:=bn F2 hb;replace F3:=bn F3 hb;replace F4:=bn F4 hb;replace RP2006:=rn RP2006 hb;replace RS2006:=rn RS2006 hb;clear c2_0 c2_1 c2_2 c2_3 c2_4 c2_5;obtain ⟨c2_0,c2_1,c2_2,c2_3,c2_4,c2_5⟩:=cs6 F2;clear c3_0 c3_1 c3_2 c3_3 c3_4 c3_5;obtain ⟨c3_0,c3_1,c3_2,c3_3,c3_4,c3_5⟩:=cs6 F3;obtain ⟨c6_0,c6_1,c6_2,c6_3,c6_4,c6_5⟩:=cs6 F6;clear hb E6)
      | ((with_reducible refine gate_store (t:=38) (p:=6) rfl ?_);obtain ⟨y0,y1,y2,y3,y4,y5,z0,z1,z2,z3,z4,z5⟩:=cz6 F6;refine sxq 38 38 6 0 [.string a,.string b,.slice AP2006 ps.length kP2006,.slice AS2006 ss.length kS2006,.bool true,.string c] [.string a,.string b,.slice AP2006 ps.length kP2006,.slice AS2006 ss.length kS2006,.bool true,.string c] B F6 L6 fun w2008 hk B G=>?_;replace F2:=bk F2 hk N2_6.out;replace F3:=bk F3 hk N3_6.out;replace F4:=bk F4 hk N4_6.out;replace RP2006:=rk RP2006 F6 (by decide) hk;replace RS2006:=rk RS2006 F6 (by decide) hk;replace F6:=G;clear c2_0 c2_1 c2_2 c2_3 c2_4 c2_5;obtain ⟨c2_0,c2_1,c2_2,c2_3,c2_4,c2_5⟩:=cs6 F2;clear c3_0 c3_1 c3_2 c3_3 c3_4 c3_5;obtain ⟨c3_0,c3_1,c3_2,c3_3,c3_4,c3_5⟩:=cs6 F3;clear c6_0 c6_1 c6_2 c6_3 c6_4 c6_5;obtain ⟨c6_0,c6_1,c6_2,c6_3,c6_4,c6_5⟩:=cs6 F6;clear hk y0 z0 y1 z1 y2 z2 y3 z3 y4 z4 y5 z5)
      | (go_at_call 50;with_reducible refine cl (impl_sessionPlace.Mb _ _ ss ci _ (cb HRS B) HCS.out hv false hit) B fun w2009 hb B=>?_;replace F2:=bn F2 hb;replace F3:=bn F3 hb;replace F4:=bn F4 hb;replace F6:=bn F6 hb;replace RP2006:=rn RP2006 hb;replace RS2006:=rn RS2006 hb;clear c2_0 c2_1 c2_2 c2_3 c2_4 c2_5;obtain ⟨c2_0,c2_1,c2_2,c2_3,c2_4,c2_5⟩:=cs6 F2;clear c3_0 c3_1 c3_2 c3_3 c3_4 c3_5;obtain ⟨c3_0,c3_1,c3_2,c3_3,c3_4,c3_5⟩:=cs6 F3;clear c6_0 c6_1 c6_2 c6_3 c6_4 c6_5;obtain ⟨c6_0,c6_1,c6_2,c6_3,c6_4,c6_5⟩:=cs6 F6;clear hb))
     all_goals (
      refine rg (n:=12) (S:=fun W=>W.heap[g3]?=some (.cells #[.int .i64 (ci),.int .i64 (sq),.int .i64 (k),.string x,.int .i64 (v),.int .i64 (o)] 44 (0,0))∧W.heap[g2]?=some (.cells #[.string a,.string b,.slice AP ps.length cP,.slice AS ss.length cS,.bool true,.string c] 38 (0,0))∧Kd.C k76 W AS ss.length ss) (ds:=[]) #[false,false,false,false,false,false,false,false,false,false,false,false] (by kernel_rfl) rfl rfl ⟨F3.out,F2.out,(cb HRS B)⟩ id B (fun w2010 hb B hHeld=>?_)
      refine with_tabW impl_ApplyEntry.tab5 impl_ApplyEntry.bits5 (fun HT_ HW_=>?_)
      replace F2:=bn F2 hb
      replace F3:=bn F3 hb
      replace F4:=bn F4 hb
      replace F6:=bn F6 hb
      replace RP2006:=rn RP2006 hb
      replace RS2006:=rn RS2006 hb
      clear hb
      refine pvq 0 (some 29) (bits 12 1) HT_ ?_
      refine pvq 1 (some 30) (bits 12 3) HT_ ?_
      refine svq 2 (some 31) (bits 12 7) HT_ ?_
      refine svq 3 (some 32) (bits 12 15) HT_ ?_
      refine svq 4 (some 33) (bits 12 31) HT_ ?_
      refine svq 5 (some 34) (bits 12 63) HT_ ?_
      refine svq 6 (some 35) (bits 12 127) HT_ ?_
      refine svq 7 (some 36) (bits 12 255) HT_ ?_
      refine svq 8 (some 37) (bits 12 511) HT_ ?_
      refine svq 9 (some 38) (bits 12 1023) HT_ ?_
      refine svq 10 (some 39) (bits 12 2047) HT_ ?_
      refine pvq 11 (some 40) (bits 12 4095) HT_ ?_
      refine nmq ?_
      refine done_ (done_of HT_.out (by kernel_rfl)) ?_
      clear c2_0 c2_1 c2_2 c2_3 c2_4 c2_5
      obtain ⟨c2_0,c2_1,c2_2,c2_3,c2_4,c2_5⟩:=cs6 F2
      clear c3_0 c3_1 c3_2 c3_3 c3_4 c3_5
      obtain ⟨c3_0,c3_1,c3_2,c3_3,c3_4,c3_5⟩:=cs6 F3
      clear c6_0 c6_1 c6_2 c6_3 c6_4 c6_5
      obtain ⟨c6_0,c6_1,c6_2,c6_3,c6_4,c6_5⟩:=cs6 F6)
     all_goals go_wp2_with (first
      | (go_at_call 51;with_reducible refine cl (impl_stateTakes.M a b _ _ ps _ _ ss true c k x v o _ (cb HRP B) (cb HRS B)) B fun w2011 hb B=>?_;replace F2:=bn F2 hb;replace F3:=bn F3 hb;replace F4:=bn F4 hb;replace F6:=bn F6 hb;replace RP2006:=rn RP2006 hb;replace RS2006:=rn RS2006 hb;clear c6_0 c6_1 c6_2 c6_3 c6_4 c6_5;obtain ⟨c6_0,c6_1,c6_2,c6_3,c6_4,c6_5⟩:=cs6 F6;clear hb)
      | ((with_reducible refine gate_store (t:=38) (p:=4) rfl ?_);obtain ⟨y0,y1,y2,y3,y4,y5,z0,z1,z2,z3,z4,z5⟩:=cz6 F4;refine sxq 38 38 4 0 [.string a,.string b,.slice AP2006 ps.length kP2006,.slice AS2006 ss.length kS2006,.bool true,.string c] [.string a,.string b,.slice AP2006 ps.length kP2006,.slice AS2006 ss.length kS2006,.bool true,.string c] B F4 L4 fun w2012 hk B G=>?_;replace F2:=bk F2 hk N2_4.out;replace F3:=bk F3 hk N3_4.out;replace RP2006:=rk RP2006 F4 (by decide) hk;replace RS2006:=rk RS2006 F4 (by decide) hk;replace F4:=G;clear hk y0 z0 y1 z1 y2 z2 y3 z3 y4 z4 y5 z5))
     all_goals (try (refine bodyPost_ret (results_list (rs:=[.cell 4 38,.tmp 5]) rfl (by simp) (.cell g4 38 _ (0,0) _ rfl F4.out hu rfl (by kernel_rfl) (.tmp .nil))) rfl ?_);exact ⟨_,_,rfl,RP2006.out,RS2006.out,B.out⟩)
    | false =>
     have hid : idleB ⟨a,b,ps,ss,false,c⟩ ci sq k x=!takesB a b k x:=by unfold idleB;rw [hle];rfl
     clear hle
     cases htk : takesB a b k x with
     | false =>
      rw [aeM_idle hh (by rw [hid,htk];rfl),hN]
      clear hh hcm hsq hN hid
      go_enter Try.func12,Try.ntmps12
      go_wp2_with (first
       | ((with_reducible refine gate_dst (N:=2) rfl ?_);refine bxq 2 #[.string a,.string b,.slice AP ps.length cP,.slice AS ss.length cS,.bool false,.string c] 38 B fun g2 w2101 hb B F2 L2 E2=>?_;obtain ⟨c2_0,c2_1,c2_2,c2_3,c2_4,c2_5⟩:=cs6 F2;clear hb E2)
       | ((with_reducible refine gate_dst (N:=3) rfl ?_);refine bxq 3 #[.int .i64 (ci),.int .i64 (sq),.int .i64 (k),.string x,.int .i64 (v),.int .i64 (o)] 44 B fun g3 w2102 hb B F3 L3 E3=>?_;replace F2:=bn F2 hb;clear c2_0 c2_1 c2_2 c2_3 c2_4 c2_5;obtain ⟨c2_0,c2_1,c2_2,c2_3,c2_4,c2_5⟩:=cs6 F2;obtain ⟨c3_0,c3_1,c3_2,c3_3,c3_4,c3_5⟩:=cs6 F3;clear hb E3)
       | ((with_reducible refine gate_dst (N:=4) rfl ?_);refine bxq 4 #[.string (⟨#[]⟩ : ByteArray),.string (⟨#[]⟩ : ByteArray),.slice none 0 0,.slice none 0 0,.bool false,.string (⟨#[]⟩ : ByteArray)] 38 B fun g4 w2103 hb B F4 L4 E4=>?_;have N2_4:=ne1 E4 F2;have N3_4:=ne1 E4 F3;replace F2:=bn F2 hb;replace F3:=bn F3 hb;clear c2_0 c2_1 c2_2 c2_3 c2_4 c2_5;obtain ⟨c2_0,c2_1,c2_2,c2_3,c2_4,c2_5⟩:=cs6 F2;clear c3_0 c3_1 c3_2 c3_3 c3_4 c3_5;obtain ⟨c3_0,c3_1,c3_2,c3_3,c3_4,c3_5⟩:=cs6 F3;clear hb E4)
       | (go_at_call 18;with_reducible refine cl (impl_StateValid.M a b _ _ ps _ _ ss false c _ (cb HRP B) (cb HRS B)) B fun w2104 hb B=>?_;replace F2:=bn F2 hb;replace F3:=bn F3 hb;replace F4:=bn F4 hb;clear c2_0 c2_1 c2_2 c2_3 c2_4 c2_5;obtain ⟨c2_0,c2_1,c2_2,c2_3,c2_4,c2_5⟩:=cs6 F2;clear c3_0 c3_1 c3_2 c3_3 c3_4 c3_5;obtain ⟨c3_0,c3_1,c3_2,c3_3,c3_4,c3_5⟩:=cs6 F3;clear hb)
       | (go_at_call 19;with_reducible refine cl (impl_EntryValid.M ci sq k x v o _) B fun w2105 hb B=>?_;replace F2:=bn F2 hb;replace F3:=bn F3 hb;replace F4:=bn F4 hb;clear c2_0 c2_1 c2_2 c2_3 c2_4 c2_5;obtain ⟨c2_0,c2_1,c2_2,c2_3,c2_4,c2_5⟩:=cs6 F2;clear c3_0 c3_1 c3_2 c3_3 c3_4 c3_5;obtain ⟨c3_0,c3_1,c3_2,c3_3,c3_4,c3_5⟩:=cs6 F3;clear hb)
       | (go_at_call 49;with_reducible refine c2r (impl_copyState.M a b _ _ ps _ _ ss false c _ (cb HRP B) (cb HRS B) HCP.out HCS.out (by omega) (by omega)) B fun AP2106 kP2106 AS2106 kS2106 w2106 hb B RP2106 QP2106 RS2106 QS2106=>?_;have DP2106_S2106:=Aside0.mk (dty RP2106 RS2106 (by decide));replace F2:=bn F2 hb;replace F3:=bn F3 hb;replace F4:=bn F4 hb;clear QP2106 QS2106;clear c2_0 c2_1 c2_2 c2_3 c2_4 c2_5;obtain ⟨c2_0,c2_1,c2_2,c2_3,c2_4,c2_5⟩:=cs6 F2;clear c3_0 c3_1 c3_2 c3_3 c3_4 c3_5;obtain ⟨c3_0,c3_1,c3_2,c3_3,c3_4,c3_5⟩:=cs6 F3;clear hb)
       | ((with_reducible refine gate_dst (N:=6) rfl ?_);refine bxq 6 #[.string (⟨#[]⟩ : ByteArray),.string (⟨#[]⟩ : ByteArray),.slice none 0 0,.slice none 0 0,.bool false,.string (⟨#[]⟩ : ByteArray)] 38 B fun g6 w2107 hb B F6 L6 E6=>?_;have N2_6:=ne1 E6 F2;have N3_6:=ne1 E6 F3;have N4_6:=ne1 E6 F4;replace F2:=bn F2 hb;replace F3:=bn F3 hb;replace F4:=bn F4 hb;replace RP2106:=rn RP2106 hb;replace RS2106:=rn RS2106 hb;clear c2_0 c2_1 c2_2 c2_3 c2_4 c2_5;obtain ⟨c2_0,c2_1,c2_2,c2_3,c2_4,c2_5⟩:=cs6 F2;clear c3_0 c3_1 c3_2 c3_3 c3_4 c3_5;obtain ⟨c3_0,c3_1,c3_2,c3_3,c3_4,c3_5⟩:=cs6 F3;obtain ⟨c6_0,c6_1,c6_2,c6_3,c6_4,c6_5⟩:=cs6 F6;clear hb E6)
       | ((with_reducible refine gate_store (t:=38) (p:=6) rfl ?_);obtain ⟨y0,y1,y2,y3,y4,y5,z0,z1,z2,z3,z4,z5⟩:=cz6 F6;refine sxq 38 38 6 0 [.string a,.string b,.slice AP2106 ps.length kP2106,.slice AS2106 ss.length kS2106,.bool false,.string c] [.string a,.string b,.slice AP2106 ps.length kP2106,.slice AS2106 ss.length kS2106,.bool false,.string c] B F6 L6 fun w2108 hk B G=>?_;replace F2:=bk F2 hk N2_6.out;replace F3:=bk F3 hk N3_6.out;replace F4:=bk F4 hk N4_6.out;replace RP2106:=rk RP2106 F6 (by decide) hk;replace RS2106:=rk RS2106 F6 (by decide) hk;replace F6:=G;clear c2_0 c2_1 c2_2 c2_3 c2_4 c2_5;obtain ⟨c2_0,c2_1,c2_2,c2_3,c2_4,c2_5⟩:=cs6 F2;clear c3_0 c3_1 c3_2 c3_3 c3_4 c3_5;obtain ⟨c3_0,c3_1,c3_2,c3_3,c3_4,c3_5⟩:=cs6 F3;clear c6_0 c6_1 c6_2 c6_3 c6_4 c6_5;obtain ⟨c6_0,c6_1,c6_2,c6_3,c6_4,c6_5⟩:=cs6 F6;clear hk y0 z0 y1 z1 y2 z2 y3 z3 y4 z4 y5 z5)
       | (go_at_call 50;with_reducible refine cl (impl_sessionPlace.Mb _ _ ss ci _ (cb HRS B) HCS.out hv false hit) B fun w2109 hb B=>?_;replace F2:=bn F2 hb;replace F3:=bn F3 hb;replace F4:=bn F4 hb;replace F6:=bn F6 hb;replace RP2106:=rn RP2106 hb;replace RS2106:=rn RS2106 hb;clear c2_0 c2_1 c2_2 c2_3 c2_4 c2_5;obtain ⟨c2_0,c2_1,c2_2,c2_3,c2_4,c2_5⟩:=cs6 F2;clear c3_0 c3_1 c3_2 c3_3 c3_4 c3_5;obtain ⟨c3_0,c3_1,c3_2,c3_3,c3_4,c3_5⟩:=cs6 F3;clear c6_0 c6_1 c6_2 c6_3 c6_4 c6_5;obtain ⟨c6_0,c6_1,c6_2,c6_3,c6_4,c6_5⟩:=cs6 F6;clear hb))
      all_goals (
       refine rg (n:=12) (S:=fun W=>W.heap[g3]?=some (.cells #[.int .i64 (ci),.int .i64 (sq),.int .i64 (k),.string x,.int .i64 (v),.int .i64 (o)] 44 (0,0))∧W.heap[g2]?=some (.cells #[.string a,.string b,.slice AP ps.length cP,.slice AS ss.length cS,.bool false,.string c] 38 (0,0))∧Kd.C k76 W AS ss.length ss) (ds:=[]) #[false,false,false,false,false,false,false,false,false,false,false,false] (by kernel_rfl) rfl rfl ⟨F3.out,F2.out,(cb HRS B)⟩ id B (fun w2110 hb B hHeld=>?_)
       refine with_tabW impl_ApplyEntry.tab5 impl_ApplyEntry.bits5 (fun HT_ HW_=>?_)
       replace F2:=bn F2 hb
       replace F3:=bn F3 hb
       replace F4:=bn F4 hb
       replace F6:=bn F6 hb
       replace RP2106:=rn RP2106 hb
       replace RS2106:=rn RS2106 hb
       clear hb
       refine pvq 0 (some 29) (bits 12 1) HT_ ?_
       refine pvq 1 (some 30) (bits 12 3) HT_ ?_
       refine svq 2 (some 31) (bits 12 7) HT_ ?_
       refine svq 3 (some 32) (bits 12 15) HT_ ?_
       refine svq 4 (some 33) (bits 12 31) HT_ ?_
       refine svq 5 (some 34) (bits 12 63) HT_ ?_
       refine svq 6 (some 35) (bits 12 127) HT_ ?_
       refine svq 7 (some 36) (bits 12 255) HT_ ?_
       refine svq 8 (some 37) (bits 12 511) HT_ ?_
       refine svq 9 (some 38) (bits 12 1023) HT_ ?_
       refine svq 10 (some 39) (bits 12 2047) HT_ ?_
       refine pvq 11 (some 40) (bits 12 4095) HT_ ?_
       refine nmq ?_
       refine done_ (done_of HT_.out (by kernel_rfl)) ?_
       clear c2_0 c2_1 c2_2 c2_3 c2_4 c2_5
       obtain ⟨c2_0,c2_1,c2_2,c2_3,c2_4,c2_5⟩:=cs6 F2
       clear c3_0 c3_1 c3_2 c3_3 c3_4 c3_5
       obtain ⟨c3_0,c3_1,c3_2,c3_3,c3_4,c3_5⟩:=cs6 F3
       clear c6_0 c6_1 c6_2 c6_3 c6_4 c6_5
       obtain ⟨c6_0,c6_1,c6_2,c6_3,c6_4,c6_5⟩:=cs6 F6)
      all_goals go_wp2_with (first
       | (go_at_call 51;with_reducible refine cl (impl_stateTakes.M a b _ _ ps _ _ ss false c k x v o _ (cb HRP B) (cb HRS B)) B fun w2111 hb B=>?_;replace F2:=bn F2 hb;replace F3:=bn F3 hb;replace F4:=bn F4 hb;replace F6:=bn F6 hb;replace RP2106:=rn RP2106 hb;replace RS2106:=rn RS2106 hb;clear c6_0 c6_1 c6_2 c6_3 c6_4 c6_5;obtain ⟨c6_0,c6_1,c6_2,c6_3,c6_4,c6_5⟩:=cs6 F6;clear hb)
       | ((with_reducible refine gate_store (t:=38) (p:=4) rfl ?_);obtain ⟨y0,y1,y2,y3,y4,y5,z0,z1,z2,z3,z4,z5⟩:=cz6 F4;refine sxq 38 38 4 0 [.string a,.string b,.slice AP2106 ps.length kP2106,.slice AS2106 ss.length kS2106,.bool false,.string c] [.string a,.string b,.slice AP2106 ps.length kP2106,.slice AS2106 ss.length kS2106,.bool false,.string c] B F4 L4 fun w2112 hk B G=>?_;replace F2:=bk F2 hk N2_4.out;replace F3:=bk F3 hk N3_4.out;replace RP2106:=rk RP2106 F4 (by decide) hk;replace RS2106:=rk RS2106 F4 (by decide) hk;replace F4:=G;clear hk y0 z0 y1 z1 y2 z2 y3 z3 y4 z4 y5 z5))
      all_goals (try (refine bodyPost_ret (results_list (rs:=[.cell 4 38,.tmp 5]) rfl (by simp) (.cell g4 38 _ (0,0) _ rfl F4.out hu rfl (by kernel_rfl) (.tmp .nil))) rfl ?_);exact ⟨_,_,rfl,RP2106.out,RS2106.out,B.out⟩)
     | true =>
      rw [aeM_go hh (by rw [hid,htk];rfl)]
      by_cases h5 : k=5
      ·have d5 : (k == 5)=true:=by rw [h5];rfl
       rw [show applM ⟨a,b,ps,ss,false,c⟩ ci sq k x v o=(⟨a,b,ps,(putB ss ⟨ci,sq,0⟩).1,true,x⟩,0) from if_pos h5]
       clear hh hcm hsq hN hid h5
       go_enter Try.func12,Try.ntmps12
       go_wp2_with (first
        | ((with_reducible refine gate_dst (N:=2) rfl ?_);refine bxq 2 #[.string a,.string b,.slice AP ps.length cP,.slice AS ss.length cS,.bool false,.string c] 38 B fun g2 w2201 hb B F2 L2 E2=>?_;obtain ⟨c2_0,c2_1,c2_2,c2_3,c2_4,c2_5⟩:=cs6 F2;clear hb E2)
        | ((with_reducible refine gate_dst (N:=3) rfl ?_);refine bxq 3 #[.int .i64 (ci),.int .i64 (sq),.int .i64 (k),.string x,.int .i64 (v),.int .i64 (o)] 44 B fun g3 w2202 hb B F3 L3 E3=>?_;replace F2:=bn F2 hb;clear c2_0 c2_1 c2_2 c2_3 c2_4 c2_5;obtain ⟨c2_0,c2_1,c2_2,c2_3,c2_4,c2_5⟩:=cs6 F2;obtain ⟨c3_0,c3_1,c3_2,c3_3,c3_4,c3_5⟩:=cs6 F3;clear hb E3)
        | ((with_reducible refine gate_dst (N:=4) rfl ?_);refine bxq 4 #[.string (⟨#[]⟩ : ByteArray),.string (⟨#[]⟩ : ByteArray),.slice none 0 0,.slice none 0 0,.bool false,.string (⟨#[]⟩ : ByteArray)] 38 B fun g4 w2203 hb B F4 L4 E4=>?_;have N2_4:=ne1 E4 F2;have N3_4:=ne1 E4 F3;replace F2:=bn F2 hb;replace F3:=bn F3 hb;clear c2_0 c2_1 c2_2 c2_3 c2_4 c2_5;obtain ⟨c2_0,c2_1,c2_2,c2_3,c2_4,c2_5⟩:=cs6 F2;clear c3_0 c3_1 c3_2 c3_3 c3_4 c3_5;obtain ⟨c3_0,c3_1,c3_2,c3_3,c3_4,c3_5⟩:=cs6 F3;clear hb E4)
        | (go_at_call 18;with_reducible refine cl (impl_StateValid.M a b _ _ ps _ _ ss false c _ (cb HRP B) (cb HRS B)) B fun w2204 hb B=>?_;replace F2:=bn F2 hb;replace F3:=bn F3 hb;replace F4:=bn F4 hb;clear c2_0 c2_1 c2_2 c2_3 c2_4 c2_5;obtain ⟨c2_0,c2_1,c2_2,c2_3,c2_4,c2_5⟩:=cs6 F2;clear c3_0 c3_1 c3_2 c3_3 c3_4 c3_5;obtain ⟨c3_0,c3_1,c3_2,c3_3,c3_4,c3_5⟩:=cs6 F3;clear hb)
        | (go_at_call 19;with_reducible refine cl (impl_EntryValid.M ci sq k x v o _) B fun w2205 hb B=>?_;replace F2:=bn F2 hb;replace F3:=bn F3 hb;replace F4:=bn F4 hb;clear c2_0 c2_1 c2_2 c2_3 c2_4 c2_5;obtain ⟨c2_0,c2_1,c2_2,c2_3,c2_4,c2_5⟩:=cs6 F2;clear c3_0 c3_1 c3_2 c3_3 c3_4 c3_5;obtain ⟨c3_0,c3_1,c3_2,c3_3,c3_4,c3_5⟩:=cs6 F3;clear hb)
        | (go_at_call 49;with_reducible refine c2r (impl_copyState.M a b _ _ ps _ _ ss false c _ (cb HRP B) (cb HRS B) HCP.out HCS.out (by omega) (by omega)) B fun AP2206 kP2206 AS2206 kS2206 w2206 hb B RP2206 QP2206 RS2206 QS2206=>?_;have DP2206_S2206:=Aside0.mk (dty RP2206 RS2206 (by decide));replace F2:=bn F2 hb;replace F3:=bn F3 hb;replace F4:=bn F4 hb;clear QP2206 QS2206;clear c2_0 c2_1 c2_2 c2_3 c2_4 c2_5;obtain ⟨c2_0,c2_1,c2_2,c2_3,c2_4,c2_5⟩:=cs6 F2;clear c3_0 c3_1 c3_2 c3_3 c3_4 c3_5;obtain ⟨c3_0,c3_1,c3_2,c3_3,c3_4,c3_5⟩:=cs6 F3;clear hb)
        | ((with_reducible refine gate_dst (N:=6) rfl ?_);refine bxq 6 #[.string (⟨#[]⟩ : ByteArray),.string (⟨#[]⟩ : ByteArray),.slice none 0 0,.slice none 0 0,.bool false,.string (⟨#[]⟩ : ByteArray)] 38 B fun g6 w2207 hb B F6 L6 E6=>?_;have N2_6:=ne1 E6 F2;have N3_6:=ne1 E6 F3;have N4_6:=ne1 E6 F4;replace F2:=bn F2 hb;replace F3:=bn F3 hb;replace F4:=bn F4 hb;replace RP2206:=rn RP2206 hb;replace RS2206:=rn RS2206 hb;clear c2_0 c2_1 c2_2 c2_3 c2_4 c2_5;obtain ⟨c2_0,c2_1,c2_2,c2_3,c2_4,c2_5⟩:=cs6 F2;clear c3_0 c3_1 c3_2 c3_3 c3_4 c3_5;obtain ⟨c3_0,c3_1,c3_2,c3_3,c3_4,c3_5⟩:=cs6 F3;obtain ⟨c6_0,c6_1,c6_2,c6_3,c6_4,c6_5⟩:=cs6 F6;clear hb E6)
        | ((with_reducible refine gate_store (t:=38) (p:=6) rfl ?_);obtain ⟨y0,y1,y2,y3,y4,y5,z0,z1,z2,z3,z4,z5⟩:=cz6 F6;refine sxq 38 38 6 0 [.string a,.string b,.slice AP2206 ps.length kP2206,.slice AS2206 ss.length kS2206,.bool false,.string c] [.string a,.string b,.slice AP2206 ps.length kP2206,.slice AS2206 ss.length kS2206,.bool false,.string c] B F6 L6 fun w2208 hk B G=>?_;replace F2:=bk F2 hk N2_6.out;replace F3:=bk F3 hk N3_6.out;replace F4:=bk F4 hk N4_6.out;replace RP2206:=rk RP2206 F6 (by decide) hk;replace RS2206:=rk RS2206 F6 (by decide) hk;replace F6:=G;clear c2_0 c2_1 c2_2 c2_3 c2_4 c2_5;obtain ⟨c2_0,c2_1,c2_2,c2_3,c2_4,c2_5⟩:=cs6 F2;clear c3_0 c3_1 c3_2 c3_3 c3_4 c3_5;obtain ⟨c3_0,c3_1,c3_2,c3_3,c3_4,c3_5⟩:=cs6 F3;clear c6_0 c6_1 c6_2 c6_3 c6_4 c6_5;obtain ⟨c6_0,c6_1,c6_2,c6_3,c6_4,c6_5⟩:=cs6 F6;clear hk y0 z0 y1 z1 y2 z2 y3 z3 y4 z4 y5 z5)
        | (go_at_call 50;with_reducible refine cl (impl_sessionPlace.Mb _ _ ss ci _ (cb HRS B) HCS.out hv false hit) B fun w2209 hb B=>?_;replace F2:=bn F2 hb;replace F3:=bn F3 hb;replace F4:=bn F4 hb;replace F6:=bn F6 hb;replace RP2206:=rn RP2206 hb;replace RS2206:=rn RS2206 hb;clear c2_0 c2_1 c2_2 c2_3 c2_4 c2_5;obtain ⟨c2_0,c2_1,c2_2,c2_3,c2_4,c2_5⟩:=cs6 F2;clear c3_0 c3_1 c3_2 c3_3 c3_4 c3_5;obtain ⟨c3_0,c3_1,c3_2,c3_3,c3_4,c3_5⟩:=cs6 F3;clear c6_0 c6_1 c6_2 c6_3 c6_4 c6_5;obtain ⟨c6_0,c6_1,c6_2,c6_3,c6_4,c6_5⟩:=cs6 F6;clear hb))
       all_goals (
        refine rg (n:=12) (S:=fun W=>W.heap[g3]?=some (.cells #[.int .i64 (ci),.int .i64 (sq),.int .i64 (k),.string x,.int .i64 (v),.int .i64 (o)] 44 (0,0))∧W.heap[g2]?=some (.cells #[.string a,.string b,.slice AP ps.length cP,.slice AS ss.length cS,.bool false,.string c] 38 (0,0))∧Kd.C k76 W AS ss.length ss) (ds:=[]) #[false,false,false,false,false,false,false,false,false,false,false,false] (by kernel_rfl) rfl rfl ⟨F3.out,F2.out,(cb HRS B)⟩ id B (fun w2210 hb B hHeld=>?_)
        refine with_tabW impl_ApplyEntry.tab5 impl_ApplyEntry.bits5 (fun HT_ HW_=>?_)
        replace F2:=bn F2 hb
        replace F3:=bn F3 hb
        replace F4:=bn F4 hb
        replace F6:=bn F6 hb
        replace RP2206:=rn RP2206 hb
        replace RS2206:=rn RS2206 hb
        clear hb
        refine pvq 0 (some 29) (bits 12 1) HT_ ?_
        refine pvq 1 (some 30) (bits 12 3) HT_ ?_
        refine svq 2 (some 31) (bits 12 7) HT_ ?_
        refine svq 3 (some 32) (bits 12 15) HT_ ?_
        refine svq 4 (some 33) (bits 12 31) HT_ ?_
        refine svq 5 (some 34) (bits 12 63) HT_ ?_
        refine svq 6 (some 35) (bits 12 127) HT_ ?_
        refine svq 7 (some 36) (bits 12 255) HT_ ?_
        refine svq 8 (some 37) (bits 12 511) HT_ ?_
        refine svq 9 (some 38) (bits 12 1023) HT_ ?_
        refine svq 10 (some 39) (bits 12 2047) HT_ ?_
        refine pvq 11 (some 40) (bits 12 4095) HT_ ?_
        refine nmq ?_
        refine done_ (done_of HT_.out (by kernel_rfl)) ?_
        clear c2_0 c2_1 c2_2 c2_3 c2_4 c2_5
        obtain ⟨c2_0,c2_1,c2_2,c2_3,c2_4,c2_5⟩:=cs6 F2
        clear c3_0 c3_1 c3_2 c3_3 c3_4 c3_5
        obtain ⟨c3_0,c3_1,c3_2,c3_3,c3_4,c3_5⟩:=cs6 F3
        clear c6_0 c6_1 c6_2 c6_3 c6_4 c6_5
        obtain ⟨c6_0,c6_1,c6_2,c6_3,c6_4,c6_5⟩:=cs6 F6)
       all_goals go_wp2_with (first
        | (go_at_call 51;with_reducible refine cl (impl_stateTakes.M a b _ _ ps _ _ ss false c k x v o _ (cb HRP B) (cb HRS B)) B fun w2211 hb B=>?_;replace F2:=bn F2 hb;replace F3:=bn F3 hb;replace F4:=bn F4 hb;replace F6:=bn F6 hb;replace RP2206:=rn RP2206 hb;replace RS2206:=rn RS2206 hb;clear c2_0 c2_1 c2_2 c2_3 c2_4 c2_5;obtain ⟨c2_0,c2_1,c2_2,c2_3,c2_4,c2_5⟩:=cs6 F2;clear c3_0 c3_1 c3_2 c3_3 c3_4 c3_5;obtain ⟨c3_0,c3_1,c3_2,c3_3,c3_4,c3_5⟩:=cs6 F3;clear c6_0 c6_1 c6_2 c6_3 c6_4 c6_5;obtain ⟨c6_0,c6_1,c6_2,c6_3,c6_4,c6_5⟩:=cs6 F6;clear hb)
        | ((with_reducible refine gate_store (t:=4) (p:=72) rfl ?_);obtain ⟨y0,y1,y2,y3,y4,y5,z0,z1,z2,z3,z4,z5⟩:=cz6 F6;refine sxq 38 4 72 4 [.bool true] [.string a,.string b,.slice AP2206 ps.length kP2206,.slice AS2206 ss.length kS2206,.bool true,.string c] B F6 L6 fun w2212 hk B G=>?_;replace F2:=bk F2 hk N2_6.out;replace F3:=bk F3 hk N3_6.out;replace F4:=bk F4 hk N4_6.out;replace RP2206:=rk RP2206 F6 (by decide) hk;replace RS2206:=rk RS2206 F6 (by decide) hk;replace F6:=G;clear c2_0 c2_1 c2_2 c2_3 c2_4 c2_5;obtain ⟨c2_0,c2_1,c2_2,c2_3,c2_4,c2_5⟩:=cs6 F2;clear c3_0 c3_1 c3_2 c3_3 c3_4 c3_5;obtain ⟨c3_0,c3_1,c3_2,c3_3,c3_4,c3_5⟩:=cs6 F3;clear c6_0 c6_1 c6_2 c6_3 c6_4 c6_5;obtain ⟨c6_0,c6_1,c6_2,c6_3,c6_4,c6_5⟩:=cs6 F6;clear hk y0 z0 y1 z1 y2 z2 y3 z3 y4 z4 y5 z5)
        | ((with_reducible refine gate_store (t:=9) (p:=76) rfl ?_);obtain ⟨y0,y1,y2,y3,y4,y5,z0,z1,z2,z3,z4,z5⟩:=cz6 F6;refine sxq 38 9 76 5 [.string x] [.string a,.string b,.slice AP2206 ps.length kP2206,.slice AS2206 ss.length kS2206,.bool true,.string x] B F6 L6 fun w2213 hk B G=>?_;replace F2:=bk F2 hk N2_6.out;replace F3:=bk F3 hk N3_6.out;replace F4:=bk F4 hk N4_6.out;replace RP2206:=rk RP2206 F6 (by decide) hk;replace RS2206:=rk RS2206 F6 (by decide) hk;replace F6:=G;clear c2_0 c2_1 c2_2 c2_3 c2_4 c2_5;obtain ⟨c2_0,c2_1,c2_2,c2_3,c2_4,c2_5⟩:=cs6 F2;clear c3_0 c3_1 c3_2 c3_3 c3_4 c3_5;obtain ⟨c3_0,c3_1,c3_2,c3_3,c3_4,c3_5⟩:=cs6 F3;clear c6_0 c6_1 c6_2 c6_3 c6_4 c6_5;obtain ⟨c6_0,c6_1,c6_2,c6_3,c6_4,c6_5⟩:=cs6 F6;clear hk y0 z0 y1 z1 y2 z2 y3 z3 y4 z4 y5 z5)
        | (go_at_call 53;with_reducible refine cr (impl_SessionPut.M _ _ ss ci sq 0 _ (cb HRS B) HCS.out) B fun AU2214 kU2214 w2214 hb B RU2214 QU2214=>?_;have DP2206_U2214:=fr QU2214 RP2206;have DS2206_U2214:=fr QU2214 RS2206;replace F2:=bn F2 hb;replace F3:=bn F3 hb;replace F4:=bn F4 hb;replace F6:=bn F6 hb;replace RP2206:=rn RP2206 hb;replace RS2206:=rn RS2206 hb;clear QU2214;clear c6_0 c6_1 c6_2 c6_3 c6_4 c6_5;obtain ⟨c6_0,c6_1,c6_2,c6_3,c6_4,c6_5⟩:=cs6 F6;clear hb)
        | ((with_reducible refine gate_store (t:=36) (p:=98) rfl ?_);obtain ⟨y0,y1,y2,y3,y4,y5,z0,z1,z2,z3,z4,z5⟩:=cz6 F6;refine sxq 38 36 98 3 [.slice AU2214 (putB ss ⟨ci,sq,0⟩).1.length kU2214] [.string a,.string b,.slice AP2206 ps.length kP2206,.slice AU2214 (putB ss ⟨ci,sq,0⟩).1.length kU2214,.bool true,.string x] B F6 L6 fun w2215 hk B G=>?_;replace F2:=bk F2 hk N2_6.out;replace F3:=bk F3 hk N3_6.out;replace F4:=bk F4 hk N4_6.out;replace RP2206:=rk RP2206 F6 (by decide) hk;replace RS2206:=rk RS2206 F6 (by decide) hk;replace RU2214:=rk RU2214 F6 (by decide) hk;replace F6:=G;clear c6_0 c6_1 c6_2 c6_3 c6_4 c6_5;obtain ⟨c6_0,c6_1,c6_2,c6_3,c6_4,c6_5⟩:=cs6 F6;clear hk y0 z0 y1 z1 y2 z2 y3 z3 y4 z4 y5 z5)
        | ((with_reducible refine gate_store (t:=38) (p:=4) rfl ?_);obtain ⟨y0,y1,y2,y3,y4,y5,z0,z1,z2,z3,z4,z5⟩:=cz6 F4;refine sxq 38 38 4 0 [.string a,.string b,.slice AP2206 ps.length kP2206,.slice AU2214 (putB ss ⟨ci,sq,0⟩).1.length kU2214,.bool true,.string x] [.string a,.string b,.slice AP2206 ps.length kP2206,.slice AU2214 (putB ss ⟨ci,sq,0⟩).1.length kU2214,.bool true,.string x] B F4 L4 fun w2216 hk B G=>?_;replace F2:=bk F2 hk N2_4.out;replace F3:=bk F3 hk N3_4.out;replace RP2206:=rk RP2206 F4 (by decide) hk;replace RS2206:=rk RS2206 F4 (by decide) hk;replace RU2214:=rk RU2214 F4 (by decide) hk;replace F4:=G;clear hk y0 z0 y1 z1 y2 z2 y3 z3 y4 z4 y5 z5))
       all_goals (try (refine bodyPost_ret (results_list (rs:=[.cell 4 38,.tmp 5]) rfl (by simp) (.cell g4 38 _ (0,0) _ rfl F4.out hu rfl (by kernel_rfl) (.tmp .nil))) rfl ?_);exact ⟨_,_,rfl,RP2206.out,RU2214.out,B.out⟩)
      ·have d5 : (k == 5)=false:=beq_eq_false_iff_ne.mpr h5
       rw [show applM ⟨a,b,ps,ss,false,c⟩ ci sq k x v o=(⟨a,b,(apM ps k x v o).1,(putB ss ⟨ci,sq,(apM ps k x v o).2⟩).1,false,c⟩,(apM ps k x v o).2) from if_neg h5]
       clear hh hcm hsq hN hid h5
       go_enter Try.func12,Try.ntmps12
       go_wp2_with (first
        | ((with_reducible refine gate_dst (N:=2) rfl ?_);refine bxq 2 #[.string a,.string b,.slice AP ps.length cP,.slice AS ss.length cS,.bool false,.string c] 38 B fun g2 w2301 hb B F2 L2 E2=>?_;obtain ⟨c2_0,c2_1,c2_2,c2_3,c2_4,c2_5⟩:=cs6 F2;clear hb E2)
        | ((with_reducible refine gate_dst (N:=3) rfl ?_);refine bxq 3 #[.int .i64 (ci),.int .i64 (sq),.int .i64 (k),.string x,.int .i64 (v),.int .i64 (o)] 44 B fun g3 w2302 hb B F3 L3 E3=>?_;replace F2:=bn F2 hb;clear c2_0 c2_1 c2_2 c2_3 c2_4 c2_5;obtain ⟨c2_0,c2_1,c2_2,c2_3,c2_4,c2_5⟩:=cs6 F2;obtain ⟨c3_0,c3_1,c3_2,c3_3,c3_4,c3_5⟩:=cs6 F3;clear hb E3)
        | ((with_reducible refine gate_dst (N:=4) rfl ?_);refine bxq 4 #[.string (⟨#[]⟩ : ByteArray),.string (⟨#[]⟩ : ByteArray),.slice none 0 0,.slice none 0 0,.bool false,.string (⟨#[]⟩ : ByteArray)] 38 B fun g4 w2303 hb B F4 L4 E4=>?_;have N2_4:=ne1 E4 F2;have N3_4:=ne1 E4 F3;replace F2:=bn F2 hb;replace F3:=bn F3 hb;clear c2_0 c2_1 c2_2 c2_3 c2_4 c2_5;obtain ⟨c2_0,c2_1,c2_2,c2_3,c2_4,c2_5⟩:=cs6 F2;clear c3_0 c3_1 c3_2 c3_3 c3_4 c3_5;obtain ⟨c3_0,c3_1,c3_2,c3_3,c3_4,c3_5⟩:=cs6 F3;clear hb E4)
        | (go_at_call 18;with_reducible refine cl (impl_StateValid.M a b _ _ ps _ _ ss false c _ (cb HRP B) (cb HRS B)) B fun w2304 hb B=>?_;replace F2:=bn F2 hb;replace F3:=bn F3 hb;replace F4:=bn F4 hb;clear c2_0 c2_1 c2_2 c2_3 c2_4 c2_5;obtain ⟨c2_0,c2_1,c2_2,c2_3,c2_4,c2_5⟩:=cs6 F2;clear c3_0 c3_1 c3_2 c3_3 c3_4 c3_5;obtain ⟨c3_0,c3_1,c3_2,c3_3,c3_4,c3_5⟩:=cs6 F3;clear hb)
        | (go_at_call 19;with_reducible refine cl (impl_EntryValid.M ci sq k x v o _) B fun w2305 hb B=>?_;replace F2:=bn F2 hb;replace F3:=bn F3 hb;replace F4:=bn F4 hb;clear c2_0 c2_1 c2_2 c2_3 c2_4 c2_5;obtain ⟨c2_0,c2_1,c2_2,c2_3,c2_4,c2_5⟩:=cs6 F2;clear c3_0 c3_1 c3_2 c3_3 c3_4 c3_5;obtain ⟨c3_0,c3_1,c3_2,c3_3,c3_4,c3_5⟩:=cs6 F3;clear hb)
        | (go_at_call 49;with_reducible refine c2r (impl_copyState.M a b _ _ ps _ _ ss false c _ (cb HRP B) (cb HRS B) HCP.out HCS.out (by omega) (by omega)) B fun AP2306 kP2306 AS2306 kS2306 w2306 hb B RP2306 QP2306 RS2306 QS2306=>?_;have DP2306_S2306:=Aside0.mk (dty RP2306 RS2306 (by decide));replace F2:=bn F2 hb;replace F3:=bn F3 hb;replace F4:=bn F4 hb;clear QP2306 QS2306;clear c2_0 c2_1 c2_2 c2_3 c2_4 c2_5;obtain ⟨c2_0,c2_1,c2_2,c2_3,c2_4,c2_5⟩:=cs6 F2;clear c3_0 c3_1 c3_2 c3_3 c3_4 c3_5;obtain ⟨c3_0,c3_1,c3_2,c3_3,c3_4,c3_5⟩:=cs6 F3;clear hb)
        | ((with_reducible refine gate_dst (N:=6) rfl ?_);refine bxq 6 #[.string (⟨#[]⟩ : ByteArray),.string (⟨#[]⟩ : ByteArray),.slice none 0 0,.slice none 0 0,.bool false,.string (⟨#[]⟩ : ByteArray)] 38 B fun g6 w2307 hb B F6 L6 E6=>?_;have N2_6:=ne1 E6 F2;have N3_6:=ne1 E6 F3;have N4_6:=ne1 E6 F4;replace F2:=bn F2 hb;replace F3:=bn F3 hb;replace F4:=bn F4 hb;replace RP2306:=rn RP2306 hb;replace RS2306:=rn RS2306 hb;clear c2_0 c2_1 c2_2 c2_3 c2_4 c2_5;obtain ⟨c2_0,c2_1,c2_2,c2_3,c2_4,c2_5⟩:=cs6 F2;clear c3_0 c3_1 c3_2 c3_3 c3_4 c3_5;obtain ⟨c3_0,c3_1,c3_2,c3_3,c3_4,c3_5⟩:=cs6 F3;obtain ⟨c6_0,c6_1,c6_2,c6_3,c6_4,c6_5⟩:=cs6 F6;clear hb E6)
        | ((with_reducible refine gate_store (t:=38) (p:=6) rfl ?_);obtain ⟨y0,y1,y2,y3,y4,y5,z0,z1,z2,z3,z4,z5⟩:=cz6 F6;refine sxq 38 38 6 0 [.string a,.string b,.slice AP2306 ps.length kP2306,.slice AS2306 ss.length kS2306,.bool false,.string c] [.string a,.string b,.slice AP2306 ps.length kP2306,.slice AS2306 ss.length kS2306,.bool false,.string c] B F6 L6 fun w2308 hk B G=>?_;replace F2:=bk F2 hk N2_6.out;replace F3:=bk F3 hk N3_6.out;replace F4:=bk F4 hk N4_6.out;replace RP2306:=rk RP2306 F6 (by decide) hk;replace RS2306:=rk RS2306 F6 (by decide) hk;replace F6:=G;clear c2_0 c2_1 c2_2 c2_3 c2_4 c2_5;obtain ⟨c2_0,c2_1,c2_2,c2_3,c2_4,c2_5⟩:=cs6 F2;clear c3_0 c3_1 c3_2 c3_3 c3_4 c3_5;obtain ⟨c3_0,c3_1,c3_2,c3_3,c3_4,c3_5⟩:=cs6 F3;clear c6_0 c6_1 c6_2 c6_3 c6_4 c6_5;obtain ⟨c6_0,c6_1,c6_2,c6_3,c6_4,c6_5⟩:=cs6 F6;clear hk y0 z0 y1 z1 y2 z2 y3 z3 y4 z4 y5 z5)
        | (go_at_call 50;with_reducible refine cl (impl_sessionPlace.Mb _ _ ss ci _ (cb HRS B) HCS.out hv false hit) B fun w2309 hb B=>?_;replace F2:=bn F2 hb;replace F3:=bn F3 hb;replace F4:=bn F4 hb;replace F6:=bn F6 hb;replace RP2306:=rn RP2306 hb;replace RS2306:=rn RS2306 hb;clear c2_0 c2_1 c2_2 c2_3 c2_4 c2_5;obtain ⟨c2_0,c2_1,c2_2,c2_3,c2_4,c2_5⟩:=cs6 F2;clear c3_0 c3_1 c3_2 c3_3 c3_4 c3_5;obtain ⟨c3_0,c3_1,c3_2,c3_3,c3_4,c3_5⟩:=cs6 F3;clear c6_0 c6_1 c6_2 c6_3 c6_4 c6_5;obtain ⟨c6_0,c6_1,c6_2,c6_3,c6_4,c6_5⟩:=cs6 F6;clear hb))
       all_goals (
        refine rg (n:=12) (S:=fun W=>W.heap[g3]?=some (.cells #[.int .i64 (ci),.int .i64 (sq),.int .i64 (k),.string x,.int .i64 (v),.int .i64 (o)] 44 (0,0))∧W.heap[g2]?=some (.cells #[.string a,.string b,.slice AP ps.length cP,.slice AS ss.length cS,.bool false,.string c] 38 (0,0))∧Kd.C k76 W AS ss.length ss) (ds:=[]) #[false,false,false,false,false,false,false,false,false,false,false,false] (by kernel_rfl) rfl rfl ⟨F3.out,F2.out,(cb HRS B)⟩ id B (fun w2310 hb B hHeld=>?_)
        refine with_tabW impl_ApplyEntry.tab5 impl_ApplyEntry.bits5 (fun HT_ HW_=>?_)
        replace F2:=bn F2 hb
        replace F3:=bn F3 hb
        replace F4:=bn F4 hb
        replace F6:=bn F6 hb
        replace RP2306:=rn RP2306 hb
        replace RS2306:=rn RS2306 hb
        clear hb
        refine pvq 0 (some 29) (bits 12 1) HT_ ?_
        refine pvq 1 (some 30) (bits 12 3) HT_ ?_
        refine svq 2 (some 31) (bits 12 7) HT_ ?_
        refine svq 3 (some 32) (bits 12 15) HT_ ?_
        refine svq 4 (some 33) (bits 12 31) HT_ ?_
        refine svq 5 (some 34) (bits 12 63) HT_ ?_
        refine svq 6 (some 35) (bits 12 127) HT_ ?_
        refine svq 7 (some 36) (bits 12 255) HT_ ?_
        refine svq 8 (some 37) (bits 12 511) HT_ ?_
        refine svq 9 (some 38) (bits 12 1023) HT_ ?_
        refine svq 10 (some 39) (bits 12 2047) HT_ ?_
        refine pvq 11 (some 40) (bits 12 4095) HT_ ?_
        refine nmq ?_
        refine done_ (done_of HT_.out (by kernel_rfl)) ?_
        clear c2_0 c2_1 c2_2 c2_3 c2_4 c2_5
        obtain ⟨c2_0,c2_1,c2_2,c2_3,c2_4,c2_5⟩:=cs6 F2
        clear c3_0 c3_1 c3_2 c3_3 c3_4 c3_5
        obtain ⟨c3_0,c3_1,c3_2,c3_3,c3_4,c3_5⟩:=cs6 F3
        clear c6_0 c6_1 c6_2 c6_3 c6_4 c6_5
        obtain ⟨c6_0,c6_1,c6_2,c6_3,c6_4,c6_5⟩:=cs6 F6)
       all_goals go_wp2_with (first
        | (go_at_call 51;with_reducible refine cl (impl_stateTakes.M a b _ _ ps _ _ ss false c k x v o _ (cb HRP B) (cb HRS B)) B fun w2311 hb B=>?_;replace F2:=bn F2 hb;replace F3:=bn F3 hb;replace F4:=bn F4 hb;replace F6:=bn F6 hb;replace RP2306:=rn RP2306 hb;replace RS2306:=rn RS2306 hb;clear c2_0 c2_1 c2_2 c2_3 c2_4 c2_5;obtain ⟨c2_0,c2_1,c2_2,c2_3,c2_4,c2_5⟩:=cs6 F2;clear c3_0 c3_1 c3_2 c3_3 c3_4 c3_5;obtain ⟨c3_0,c3_1,c3_2,c3_3,c3_4,c3_5⟩:=cs6 F3;clear c6_0 c6_1 c6_2 c6_3 c6_4 c6_5;obtain ⟨c6_0,c6_1,c6_2,c6_3,c6_4,c6_5⟩:=cs6 F6;clear hb)
        | (go_at_call 52;with_reducible refine cr (impl_ApplyCommand.M _ _ ps k x v o _ (cb HRP B) HCP.out) B fun AC2312 kC2312 w2312 hb B RC2312 QC2312=>?_;have DP2306_C2312:=fr QC2312 RP2306;have DS2306_C2312:=fr QC2312 RS2306;replace F2:=bn F2 hb;replace F3:=bn F3 hb;replace F4:=bn F4 hb;replace F6:=bn F6 hb;replace RP2306:=rn RP2306 hb;replace RS2306:=rn RS2306 hb;clear QC2312;clear c2_0 c2_1 c2_2 c2_3 c2_4 c2_5;obtain ⟨c2_0,c2_1,c2_2,c2_3,c2_4,c2_5⟩:=cs6 F2;clear c3_0 c3_1 c3_2 c3_3 c3_4 c3_5;obtain ⟨c3_0,c3_1,c3_2,c3_3,c3_4,c3_5⟩:=cs6 F3;clear c6_0 c6_1 c6_2 c6_3 c6_4 c6_5;obtain ⟨c6_0,c6_1,c6_2,c6_3,c6_4,c6_5⟩:=cs6 F6;clear hb)
        | ((with_reducible refine gate_store (t:=35) (p:=85) rfl ?_);obtain ⟨y0,y1,y2,y3,y4,y5,z0,z1,z2,z3,z4,z5⟩:=cz6 F6;refine sxq 38 35 85 2 [.slice AC2312 (apM ps k x v o).1.length kC2312] [.string a,.string b,.slice AC2312 (apM ps k x v o).1.length kC2312,.slice AS2306 ss.length kS2306,.bool false,.string c] B F6 L6 fun w2313 hk B G=>?_;replace F2:=bk F2 hk N2_6.out;replace F3:=bk F3 hk N3_6.out;replace F4:=bk F4 hk N4_6.out;replace RP2306:=rk RP2306 F6 (by decide) hk;replace RS2306:=rk RS2306 F6 (by decide) hk;replace RC2312:=rk RC2312 F6 (by decide) hk;replace F6:=G;clear c2_0 c2_1 c2_2 c2_3 c2_4 c2_5;obtain ⟨c2_0,c2_1,c2_2,c2_3,c2_4,c2_5⟩:=cs6 F2;clear c3_0 c3_1 c3_2 c3_3 c3_4 c3_5;obtain ⟨c3_0,c3_1,c3_2,c3_3,c3_4,c3_5⟩:=cs6 F3;clear c6_0 c6_1 c6_2 c6_3 c6_4 c6_5;obtain ⟨c6_0,c6_1,c6_2,c6_3,c6_4,c6_5⟩:=cs6 F6;clear hk y0 z0 y1 z1 y2 z2 y3 z3 y4 z4 y5 z5)
        | (go_at_call 53;with_reducible refine cr (impl_SessionPut.M _ _ ss ci sq (apM ps k x v o).2 _ (cb HRS B) HCS.out) B fun AU2314 kU2314 w2314 hb B RU2314 QU2314=>?_;have DP2306_U2314:=fr QU2314 RP2306;have DS2306_U2314:=fr QU2314 RS2306;have DC2312_U2314:=fr QU2314 RC2312;replace F2:=bn F2 hb;replace F3:=bn F3 hb;replace F4:=bn F4 hb;replace F6:=bn F6 hb;replace RS2306:=rn RS2306 hb;replace RC2312:=rn RC2312 hb;clear QU2314;clear c6_0 c6_1 c6_2 c6_3 c6_4 c6_5;obtain ⟨c6_0,c6_1,c6_2,c6_3,c6_4,c6_5⟩:=cs6 F6;clear hb)
        | ((with_reducible refine gate_store (t:=36) (p:=98) rfl ?_);obtain ⟨y0,y1,y2,y3,y4,y5,z0,z1,z2,z3,z4,z5⟩:=cz6 F6;refine sxq 38 36 98 3 [.slice AU2314 (putB ss ⟨ci,sq,(apM ps k x v o).2⟩).1.length kU2314] [.string a,.string b,.slice AC2312 (apM ps k x v o).1.length kC2312,.slice AU2314 (putB ss ⟨ci,sq,(apM ps k x v o).2⟩).1.length kU2314,.bool false,.string c] B F6 L6 fun w2315 hk B G=>?_;replace F2:=bk F2 hk N2_6.out;replace F3:=bk F3 hk N3_6.out;replace F4:=bk F4 hk N4_6.out;replace RS2306:=rk RS2306 F6 (by decide) hk;replace RC2312:=rk RC2312 F6 (by decide) hk;replace RU2314:=rk RU2314 F6 (by decide) hk;replace F6:=G;clear c6_0 c6_1 c6_2 c6_3 c6_4 c6_5;obtain ⟨c6_0,c6_1,c6_2,c6_3,c6_4,c6_5⟩:=cs6 F6;clear hk y0 z0 y1 z1 y2 z2 y3 z3 y4 z4 y5 z5)
        | ((with_reducible refine gate_store (t:=38) (p:=4) rfl ?_);obtain ⟨y0,y1,y2,y3,y4,y5,z0,z1,z2,z3,z4,z5⟩:=cz6 F4;refine sxq 38 38 4 0 [.string a,.string b,.slice AC2312 (apM ps k x v o).1.length kC2312,.slice AU2314 (putB ss ⟨ci,sq,(apM ps k x v o).2⟩).1.length kU2314,.bool false,.string c] [.string a,.string b,.slice AC2312 (apM ps k x v o).1.length kC2312,.slice AU2314 (putB ss ⟨ci,sq,(apM ps k x v o).2⟩).1.length kU2314,.bool false,.string c] B F4 L4 fun w2316 hk B G=>?_;replace F2:=bk F2 hk N2_4.out;replace F3:=bk F3 hk N3_4.out;replace RS2306:=rk RS2306 F4 (by decide) hk;replace RC2312:=rk RC2312 F4 (by decide) hk;replace RU2314:=rk RU2314 F4 (by decide) hk;replace F4:=G;clear hk y0 z0 y1 z1 y2 z2 y3 z3 y4 z4 y5 z5))
       all_goals (try (refine bodyPost_ret (results_list (rs:=[.cell 4 38,.tmp 5]) rfl (by simp) (.cell g4 38 _ (0,0) _ rfl F4.out hu rfl (by kernel_rfl) (.tmp .nil))) rfl ?_);exact ⟨_,_,rfl,RC2312.out,RU2314.out,B.out⟩)

theorem spec_ApplyEntry.Mr (a b : ByteArray) (AP : Option Addr) (cP : Nat) (ps : List S105) (AS : Option Addr) (cS : Nat) (ss : List S76) (t : Bool) (c : ByteArray) (ci sq k : Int) (x : ByteArray) (v o : Int) (xa xb : ByteArray) (xp : List S105) (xs : List S76) (xt : Bool) (xc : ByteArray) (nn : Int) (hm : aeM ⟨a,b,ps,ss,t,c⟩ ci sq k x v o=(⟨xa,xb,xp,xs,xt,xc⟩,nn)) (w : World) (hrp : Kd.C k105 w AP ps.length ps) (hrs : Kd.C k76 w AS ss.length ss) (hcp : ps.length≤cP) (hcs : ss.length≤cS) : Calls Try.prog 9 #[.agg #[.string a,.string b,.slice AP ps.length cP,.slice AS ss.length cS,.bool t,.string c],.agg #[.int .i64 ci,.int .i64 sq,.int .i64 k,.string x,.int .i64 v,.int .i64 o]] w fun e w'=>∃ v2 v3,e=.returned (.tuple #[.agg #[.string xa,.string xb,v2,v3,.bool xt,.string xc],.int .i64 nn])∧Kd.R k105 105 w' w.heap.size (fun _=>True) v2 xp∧Kd.R k76 76 w' w.heap.size (fun _=>True) v3 xs∧Below w.heap.size w w':=by
 have h:=spec_ApplyEntry.M a b AP cP ps AS cS ss t c ci sq k x v o w hrp hrs hcp hcs
 rw [hm] at h
 exact h
theorem impl_ApplyEntry.Mr (a b : ByteArray) (AP : Option Addr) (cP : Nat) (ps : List S105) (AS : Option Addr) (cS : Nat) (ss : List S76) (t : Bool) (c : ByteArray) (ci sq k : Int) (x : ByteArray) (v o : Int) (xa xb : ByteArray) (xp : List S105) (xs : List S76) (xt : Bool) (xc : ByteArray) (nn : Int) (hm : aeM ⟨a,b,ps,ss,t,c⟩ ci sq k x v o=(⟨xa,xb,xp,xs,xt,xc⟩,nn)) (w : World) (hrp : Kd.C k105 w AP ps.length ps) (hrs : Kd.C k76 w AS ss.length ss) (hcp : ps.length≤cP) (hcs : ss.length≤cS) : Calls Try.prog 12 #[.agg #[.string a,.string b,.slice AP ps.length cP,.slice AS ss.length cS,.bool t,.string c],.agg #[.int .i64 ci,.int .i64 sq,.int .i64 k,.string x,.int .i64 v,.int .i64 o]] w fun e w'=>∃ v2 v3,e=.returned (.tuple #[.agg #[.string xa,.string xb,v2,v3,.bool xt,.string xc],.int .i64 nn])∧Kd.R k105 105 w' w.heap.size (fun _=>True) v2 xp∧Kd.R k76 76 w' w.heap.size (fun _=>True) v3 xs∧Below w.heap.size w w':=by
 have h:=impl_ApplyEntry.M a b AP cP ps AS cS ss t c ci sq k x v o w hrp hrs hcp hcs
 rw [hm] at h
 exact h
theorem aeM_len (s : SM) (ci sq k : Int) (x : ByteArray) (v o : Int) : (aeM s ci sq k x v o).1.ps.length≤s.ps.length + 1∧(aeM s ci sq k x v o).1.ss.length≤s.ss.length + 1:=by
 unfold aeM
 split
 ·split
  ·exact ⟨Nat.le_succ _,Nat.le_succ _⟩
  ·unfold applM
   split
   ·exact ⟨Nat.le_succ _,putB_length _ _⟩
   ·exact ⟨apM_len _ _ _ _ _,putB_length _ _⟩
 ·exact ⟨Nat.zero_le _,Nat.zero_le _⟩

theorem laws_szInterval.M (a b : ByteArray) (n : Int) (w : World) (hn : 0≤n∧n≤1048576) (ha : a.size≤9223372036854775807) (hb : b.size≤9223372036854775807) : Calls Try.prog 33 #[.agg #[.string a,.string b],.int .i64 n] w fun e w'=>∃ v : Int,e=.returned (.int .i64 v)∧(v < 0 ∨ 0≤v∧v≤n)∧Below w.heap.size w w':=by
 have B:=Aside0.mk (Below.refl w.heap.size w)
 have hu:=Try.underlying23
 go_enter Try.func33,Try.ntmps33
 go_wp2_with (first
  | ((with_reducible refine gate_dst (N:=2) rfl ?_);refine bxq 2 #[.string a,.string b] 23 B fun g2 w1 hb B F2 L2 E2=>?_;obtain ⟨c2_0,c2_1⟩:=cs2 F2;clear hb E2))
 all_goals go_ret
 all_goals (refine ⟨_,rfl,?_,B.out⟩;omega)
theorem laws_szPair.M (a : ByteArray) (b n : Int) (w : World) (hn : 0≤n∧n≤1048576) (ha : a.size≤9223372036854775807) : Calls Try.prog 79 #[.agg #[.string a,.int .i64 b],.int .i64 n] w fun e w'=>∃ v : Int,e=.returned (.int .i64 v)∧(v < 0 ∨ 0≤v∧v≤n)∧Below w.heap.size w w':=by
 have B:=Aside0.mk (Below.refl w.heap.size w)
 have hu:=Try.underlying114
 go_enter Try.func79,Try.ntmps79
 go_wp2_with (first
  | ((with_reducible refine gate_dst (N:=2) rfl ?_);refine bxq 2 #[.string a,.int .i64 (b)] 114 B fun g2 w1 hb B F2 L2 E2=>?_;obtain ⟨c2_0,c2_1⟩:=cs2 F2;clear hb E2))
 all_goals go_ret
 all_goals (refine ⟨_,rfl,?_,B.out⟩;omega)
theorem laws_szPairS.M (A0 : Option Addr) (c0 : Nat) (l : List S114) (n : Int) (w : World) (hr0 : Kd.C k114 w A0 l.length l) (hn : 0≤n∧n≤1048576) (hs : ∀ y ∈ l,y.f0.size≤9223372036854775807) : Calls Try.prog 34 #[.slice A0 l.length c0,.int .i64 n] w fun e w'=>∃ v : Int,e=.returned (.int .i64 v)∧(v < 0 ∨ 0≤v∧v≤n∧(l.length : Int)≤n)∧Below w.heap.size w w':=by
 have B:=Aside0.mk (Below.refl w.heap.size w)
 have hu:=Try.underlying114
 have HR0:=Aside0.mk hr0
 have hm:=hr0.2.1
 have HS:=Aside0.mk hs
 clear hr0 hs
 go_enter Try.func34,Try.ntmps34
 go_wp2
 ·go_ret
  exact ⟨-1,rfl,by omega,B.out⟩
 ·go_loopg [1,5] (l.length + 1) (fun kx v1 v5 wr=>∃ (j : Nat) (m : Int),v1=.int .i64 m∧v5=.int .i64 (j : Int)∧j≤l.length∧l.length < j + kx∧0≤m∧m≤n∧Aside0 (Below w.heap.size w wr))
  case atStart=>exact ⟨0,_,rfl,rfl,by omega,by omega,by omega,by omega,B⟩
  case round =>
   clear B
   obtain ⟨j,m,rfl,rfl,hj,hk,hm0,hm1,B⟩:=hrel
   by_cases hlt : j < l.length
   ·obtain ⟨d,rfl⟩ : ∃ d,gk=d + 1:=⟨gk - 1,by omega⟩
    have cj : decide ((j : Int) < (l.length : Int))=true:=decide_eq_true (by omega)
    obtain ⟨ad,hA,y0,y1⟩:=at_T114 (cb HR0 B) (j : Int) (by omega) (by omega)
    cases hA
    have hz:=HS.out (rd_T114 l (j : Int)) (by simp [rd_T114,List.getD_eq_getElem?_getD,List.getElem?_eq_getElem hlt])
    rw [Int.toNat_natCast] at y0 y1
    have j1:=eq_true (show (j : Int) < (l.length : Int) by omega)
    have j2:=eq_true hlt
    generalize hy : rd_T114 l (j : Int)=y at *
    go_wp2_with (first
     | (go_at_call 79;with_reducible refine cx (laws_szPair.M y.f0 y.f1 m _ (by omega) (by omega)) B fun v1 hv1 w1 hb B=>?_;clear hb))
    all_goals first
     | (go_roundg d;(case measure=>omega);(case rel=>exact ⟨j + 1,_,rfl,congrArg (Value.int .i64) (Int.natCast_succ _).symm,by omega,by omega,by omega,by omega,B⟩))
     | (go_ret;exact ⟨-1,rfl,by omega,B.out⟩)
   ·have cj : decide ((j : Int) < (l.length : Int))=false:=decide_eq_false (by omega)
    go_wp2
    go_ret
    exact ⟨m,rfl,by omega,B.out⟩
theorem laws_szSessionS.M (A0 : Option Addr) (c0 : Nat) (l : List S123) (n : Int) (w : World) (hr0 : Kd.C k123 w A0 l.length l) (hn : 0≤n∧n≤1048576) : Calls Try.prog 35 #[.slice A0 l.length c0,.int .i64 n] w fun e w'=>∃ v : Int,e=.returned (.int .i64 v)∧(v < 0 ∨ 0≤v∧v≤n∧(l.length : Int)≤n)∧Below w.heap.size w w':=by
 have B:=Aside0.mk (Below.refl w.heap.size w)
 have hm:=hr0.2.1
 clear hr0
 go_enter Try.func35,Try.ntmps35
 go_wp2
 all_goals go_ret
 all_goals (refine ⟨_,rfl,?_,B.out⟩;omega)
theorem laws_szCommand.M (k : Int) (x : ByteArray) (v o n : Int) (w : World) (hn : 0≤n∧n≤1048576) (ha : x.size≤9223372036854775807) : Calls Try.prog 36 #[.agg #[.int .i64 k,.string x,.int .i64 v,.int .i64 o],.int .i64 n] w fun e w'=>∃ v : Int,e=.returned (.int .i64 v)∧(v < 0 ∨ 0≤v∧v≤n)∧Below w.heap.size w w':=by
 have B:=Aside0.mk (Below.refl w.heap.size w)
 have hu:=Try.underlying29
 go_enter Try.func36,Try.ntmps36
 go_wp2_with (first
  | ((with_reducible refine gate_dst (N:=2) rfl ?_);refine bxq 2 #[.int .i64 (k),.string x,.int .i64 (v),.int .i64 (o)] 29 B fun g2 w1 hb B F2 L2 E2=>?_;obtain ⟨c2_0,c2_1,c2_2,c2_3⟩:=cs4 F2;clear hb E2))
 all_goals go_ret
 all_goals (refine ⟨_,rfl,?_,B.out⟩;omega)
theorem laws_szState.M (a b : ByteArray) (AP : Option Addr) (cP : Nat) (ps : List S114) (AS : Option Addr) (cS : Nat) (ss : List S123) (t : Bool) (c : ByteArray) (n : Int) (w : World) (hrp : Kd.C k114 w AP ps.length ps) (hrs : Kd.C k123 w AS ss.length ss) (hn : 0≤n∧n≤1048576) (hs : a.size≤9223372036854775807∧b.size≤9223372036854775807∧c.size≤9223372036854775807∧∀ y ∈ ps,y.f0.size≤9223372036854775807) : Calls Try.prog 7 #[.agg #[.string a,.string b,.slice AP ps.length cP,.slice AS ss.length cS,.bool t,.string c],.int .i64 n] w fun e w'=>∃ v : Int,e=.returned (.int .i64 v)∧(v < 0 ∨ 0≤v∧v≤n∧(ps.length : Int)≤n∧(ss.length : Int)≤n)∧Below w.heap.size w w':=by
 have B:=Aside0.mk (Below.refl w.heap.size w)
 have hu:=Try.underlying27
 have HRP:=Aside0.mk hrp
 have HRS:=Aside0.mk hrs
 obtain ⟨ha,hb,hc,hps⟩:=hs
 have HPS:=Aside0.mk hps
 clear hrp hrs hps
 go_enter Try.func7,Try.ntmps7
 go_wp2_with (first
  | ((with_reducible refine gate_dst (N:=2) rfl ?_);refine bxq 2 #[.string a,.string b,.slice AP ps.length cP,.slice AS ss.length cS,.bool t,.string c] 27 B fun g2 w1 hb B F2 L2 E2=>?_;obtain ⟨c2_0,c2_1,c2_2,c2_3,c2_4,c2_5⟩:=cs6 F2;clear hb E2)
  | (go_at_call 33;with_reducible refine cx (laws_szInterval.M a b n _ (by omega) (by omega) (by omega)) B fun v2 hv2 w2 hb B=>?_;replace F2:=bn F2 hb;clear c2_0 c2_1 c2_2 c2_3 c2_4 c2_5;obtain ⟨c2_0,c2_1,c2_2,c2_3,c2_4,c2_5⟩:=cs6 F2;clear hb)
  | (go_at_call 34;with_reducible refine cx (laws_szPairS.M _ _ ps v2 _ (cb HRP B) (by omega) HPS.out) B fun v3 hv3 w3 hb B=>?_;replace F2:=bn F2 hb;clear c2_0 c2_1 c2_2 c2_3 c2_4 c2_5;obtain ⟨c2_0,c2_1,c2_2,c2_3,c2_4,c2_5⟩:=cs6 F2;clear hb)
  | (go_at_call 35;with_reducible refine cx (laws_szSessionS.M _ _ ss v3 _ (cb HRS B) (by omega)) B fun v4 hv4 w4 hb B=>?_;replace F2:=bn F2 hb;clear c2_0 c2_1 c2_2 c2_3 c2_4 c2_5;obtain ⟨c2_0,c2_1,c2_2,c2_3,c2_4,c2_5⟩:=cs6 F2;clear hb))
 all_goals go_ret
 all_goals (refine ⟨_,rfl,?_,B.out⟩;omega)

theorem laws_toInterval.M (x0 : ByteArray) (x1 : ByteArray) (w : World) : Calls Try.prog 45 #[.agg #[.string x0,.string x1]] w fun e w'=>e=.returned (.agg #[.string x0,.string x1])∧Below w.heap.size w w':=by
 have B:=Aside0.mk (Below.refl w.heap.size w)
 have hu:=Try.underlying34
 have hu2:=Try.underlying23
 go_enter Try.func45,Try.ntmps45
 go_wp2_with (first
  | ((with_reducible refine gate_dst (N:=1) rfl ?_);refine bxq 1 #[.string x0,.string x1] 23 B fun g1 w1 hb B F1 L1 E1=>?_;obtain ⟨c1_0,c1_1⟩:=cs2 F1;clear hb E1)
  | ((with_reducible refine gate_dst (N:=2) rfl ?_);refine bxq 2 #[.string (⟨#[]⟩ : ByteArray),.string (⟨#[]⟩ : ByteArray)] 34 B fun g2 w2 hb B F2 L2 E2=>?_;have N1_2:=ne1 E2 F1;replace F1:=bn F1 hb;clear c1_0 c1_1;obtain ⟨c1_0,c1_1⟩:=cs2 F1;clear hb E2)
  | ((with_reducible refine gate_dst (N:=3) rfl ?_);refine bxq 3 #[.string (⟨#[]⟩ : ByteArray),.string (⟨#[]⟩ : ByteArray)] 34 B fun g3 w3 hb B F3 L3 E3=>?_;have N1_3:=ne1 E3 F1;have N2_3:=ne1 E3 F2;replace F1:=bn F1 hb;replace F2:=bn F2 hb;clear c1_0 c1_1;obtain ⟨c1_0,c1_1⟩:=cs2 F1;obtain ⟨c3_0,c3_1⟩:=cs2 F3;clear hb E3)
  | ((with_reducible refine gate_store (t:=9) (p:=6) rfl ?_);obtain ⟨y0,y1,z0,z1⟩:=cz2 F3;refine sxq 34 9 6 0 [.string x0] [.string x0,.string (⟨#[]⟩ : ByteArray)] B F3 L3 fun w4 hk B G=>?_;replace F1:=bk F1 hk N1_3.out;replace F2:=bk F2 hk N2_3.out;replace F3:=G;clear c1_0 c1_1;obtain ⟨c1_0,c1_1⟩:=cs2 F1;clear c3_0 c3_1;obtain ⟨c3_0,c3_1⟩:=cs2 F3;clear hk y0 z0 y1 z1)
  | ((with_reducible refine gate_store (t:=9) (p:=9) rfl ?_);obtain ⟨y0,y1,z0,z1⟩:=cz2 F3;refine sxq 34 9 9 1 [.string x1] [.string x0,.string x1] B F3 L3 fun w5 hk B G=>?_;replace F2:=bk F2 hk N2_3.out;replace F3:=G;clear c3_0 c3_1;obtain ⟨c3_0,c3_1⟩:=cs2 F3;clear hk y0 z0 y1 z1)
  | ((with_reducible refine gate_store (t:=34) (p:=2) rfl ?_);obtain ⟨y0,y1,z0,z1⟩:=cz2 F2;refine sxq 34 34 2 0 [.string x0,.string x1] [.string x0,.string x1] B F2 L2 fun w6 hk B G=>?_;replace F2:=G;clear hk y0 z0 y1 z1))
 refine bodyPost_ret (results_single rfl (.cell g2 34 _ (0,0) _ rfl F2.out hu rfl (by kernel_rfl) .nil)) rfl ?_
 exact ⟨rfl,B.out⟩
theorem laws_toCommand.M (x0 : Int) (x1 : ByteArray) (x2 : Int) (x3 : Int) (w : World) : Calls Try.prog 48 #[.agg #[.int .i64 (x0),.string x1,.int .i64 (x2),.int .i64 (x3)]] w fun e w'=>e=.returned (.agg #[.int .i64 (x0),.string x1,.int .i64 (x2),.int .i64 (x3)])∧Below w.heap.size w w':=by
 have B:=Aside0.mk (Below.refl w.heap.size w)
 have hu:=Try.underlying42
 have hu2:=Try.underlying29
 go_enter Try.func48,Try.ntmps48
 go_wp2_with (first
  | ((with_reducible refine gate_dst (N:=1) rfl ?_);refine bxq 1 #[.int .i64 (x0),.string x1,.int .i64 (x2),.int .i64 (x3)] 29 B fun g1 w1 hb B F1 L1 E1=>?_;obtain ⟨c1_0,c1_1,c1_2,c1_3⟩:=cs4 F1;clear hb E1)
  | ((with_reducible refine gate_dst (N:=2) rfl ?_);refine bxq 2 #[.int .i64 (0),.string (⟨#[]⟩ : ByteArray),.int .i64 (0),.int .i64 (0)] 42 B fun g2 w2 hb B F2 L2 E2=>?_;have N1_2:=ne1 E2 F1;replace F1:=bn F1 hb;clear c1_0 c1_1 c1_2 c1_3;obtain ⟨c1_0,c1_1,c1_2,c1_3⟩:=cs4 F1;clear hb E2)
  | ((with_reducible refine gate_dst (N:=3) rfl ?_);refine bxq 3 #[.int .i64 (0),.string (⟨#[]⟩ : ByteArray),.int .i64 (0),.int .i64 (0)] 42 B fun g3 w3 hb B F3 L3 E3=>?_;have N1_3:=ne1 E3 F1;have N2_3:=ne1 E3 F2;replace F1:=bn F1 hb;replace F2:=bn F2 hb;clear c1_0 c1_1 c1_2 c1_3;obtain ⟨c1_0,c1_1,c1_2,c1_3⟩:=cs4 F1;obtain ⟨c3_0,c3_1,c3_2,c3_3⟩:=cs4 F3;clear hb E3)
  | ((with_reducible refine gate_store (t:=3) (p:=6) rfl ?_);obtain ⟨y0,y1,y2,y3,z0,z1,z2,z3⟩:=cz4 F3;refine sxq 42 3 6 0 [.int .i64 (x0)] [.int .i64 (x0),.string (⟨#[]⟩ : ByteArray),.int .i64 (0),.int .i64 (0)] B F3 L3 fun w4 hk B G=>?_;replace F1:=bk F1 hk N1_3.out;replace F2:=bk F2 hk N2_3.out;replace F3:=G;clear c1_0 c1_1 c1_2 c1_3;obtain ⟨c1_0,c1_1,c1_2,c1_3⟩:=cs4 F1;clear c3_0 c3_1 c3_2 c3_3;obtain ⟨c3_0,c3_1,c3_2,c3_3⟩:=cs4 F3;clear hk y0 z0 y1 z1 y2 z2 y3 z3)
  | ((with_reducible refine gate_store (t:=9) (p:=9) rfl ?_);obtain ⟨y0,y1,y2,y3,z0,z1,z2,z3⟩:=cz4 F3;refine sxq 42 9 9 1 [.string x1] [.int .i64 (x0),.string x1,.int .i64 (0),.int .i64 (0)] B F3 L3 fun w5 hk B G=>?_;replace F1:=bk F1 hk N1_3.out;replace F2:=bk F2 hk N2_3.out;replace F3:=G;clear c1_0 c1_1 c1_2 c1_3;obtain ⟨c1_0,c1_1,c1_2,c1_3⟩:=cs4 F1;clear c3_0 c3_1 c3_2 c3_3;obtain ⟨c3_0,c3_1,c3_2,c3_3⟩:=cs4 F3;clear hk y0 z0 y1 z1 y2 z2 y3 z3)
  | ((with_reducible refine gate_store (t:=3) (p:=12) rfl ?_);obtain ⟨y0,y1,y2,y3,z0,z1,z2,z3⟩:=cz4 F3;refine sxq 42 3 12 2 [.int .i64 (x2)] [.int .i64 (x0),.string x1,.int .i64 (x2),.int .i64 (0)] B F3 L3 fun w6 hk B G=>?_;replace F1:=bk F1 hk N1_3.out;replace F2:=bk F2 hk N2_3.out;replace F3:=G;clear c1_0 c1_1 c1_2 c1_3;obtain ⟨c1_0,c1_1,c1_2,c1_3⟩:=cs4 F1;clear c3_0 c3_1 c3_2 c3_3;obtain ⟨c3_0,c3_1,c3_2,c3_3⟩:=cs4 F3;clear hk y0 z0 y1 z1 y2 z2 y3 z3)
  | ((with_reducible refine gate_store (t:=3) (p:=15) rfl ?_);obtain ⟨y0,y1,y2,y3,z0,z1,z2,z3⟩:=cz4 F3;refine sxq 42 3 15 3 [.int .i64 (x3)] [.int .i64 (x0),.string x1,.int .i64 (x2),.int .i64 (x3)] B F3 L3 fun w7 hk B G=>?_;replace F2:=bk F2 hk N2_3.out;replace F3:=G;clear c3_0 c3_1 c3_2 c3_3;obtain ⟨c3_0,c3_1,c3_2,c3_3⟩:=cs4 F3;clear hk y0 z0 y1 z1 y2 z2 y3 z3)
  | ((with_reducible refine gate_store (t:=42) (p:=2) rfl ?_);obtain ⟨y0,y1,y2,y3,z0,z1,z2,z3⟩:=cz4 F2;refine sxq 42 42 2 0 [.int .i64 (x0),.string x1,.int .i64 (x2),.int .i64 (x3)] [.int .i64 (x0),.string x1,.int .i64 (x2),.int .i64 (x3)] B F2 L2 fun w8 hk B G=>?_;replace F2:=G;clear hk y0 z0 y1 z1 y2 z2 y3 z3))
 refine bodyPost_ret (results_single rfl (.cell g2 42 _ (0,0) _ rfl F2.out hu rfl (by kernel_rfl) .nil)) rfl ?_
 exact ⟨rfl,B.out⟩
def prOf (x : S114) : S105:=⟨x.f0,x.f1⟩
theorem laws_toPair.M (x0 : ByteArray) (x1 : Int) (w : World) : Calls Try.prog 90 #[.agg #[.string x0,.int .i64 (x1)]] w fun e w'=>e=.returned (.agg #[.string x0,.int .i64 (x1)])∧Below w.heap.size w w':=by
 have B:=Aside0.mk (Below.refl w.heap.size w)
 have hu:=Try.underlying105
 have hu2:=Try.underlying114
 go_enter Try.func90,Try.ntmps90
 go_wp2_with (first
  | ((with_reducible refine gate_dst (N:=1) rfl ?_);refine bxq 1 #[.string x0,.int .i64 (x1)] 114 B fun g1 w1 hb B F1 L1 E1=>?_;obtain ⟨c1_0,c1_1⟩:=cs2 F1;clear hb E1)
  | ((with_reducible refine gate_dst (N:=2) rfl ?_);refine bxq 2 #[.string (⟨#[]⟩ : ByteArray),.int .i64 (0)] 105 B fun g2 w2 hb B F2 L2 E2=>?_;have N1_2:=ne1 E2 F1;replace F1:=bn F1 hb;clear c1_0 c1_1;obtain ⟨c1_0,c1_1⟩:=cs2 F1;clear hb E2)
  | ((with_reducible refine gate_dst (N:=3) rfl ?_);refine bxq 3 #[.string (⟨#[]⟩ : ByteArray),.int .i64 (0)] 105 B fun g3 w3 hb B F3 L3 E3=>?_;have N1_3:=ne1 E3 F1;have N2_3:=ne1 E3 F2;replace F1:=bn F1 hb;replace F2:=bn F2 hb;clear c1_0 c1_1;obtain ⟨c1_0,c1_1⟩:=cs2 F1;obtain ⟨c3_0,c3_1⟩:=cs2 F3;clear hb E3)
  | ((with_reducible refine gate_store (t:=9) (p:=6) rfl ?_);obtain ⟨y0,y1,z0,z1⟩:=cz2 F3;refine sxq 105 9 6 0 [.string x0] [.string x0,.int .i64 (0)] B F3 L3 fun w4 hk B G=>?_;replace F1:=bk F1 hk N1_3.out;replace F2:=bk F2 hk N2_3.out;replace F3:=G;clear c1_0 c1_1;obtain ⟨c1_0,c1_1⟩:=cs2 F1;clear c3_0 c3_1;obtain ⟨c3_0,c3_1⟩:=cs2 F3;clear hk y0 z0 y1 z1)
  | ((with_reducible refine gate_store (t:=3) (p:=9) rfl ?_);obtain ⟨y0,y1,z0,z1⟩:=cz2 F3;refine sxq 105 3 9 1 [.int .i64 (x1)] [.string x0,.int .i64 (x1)] B F3 L3 fun w5 hk B G=>?_;replace F2:=bk F2 hk N2_3.out;replace F3:=G;clear c3_0 c3_1;obtain ⟨c3_0,c3_1⟩:=cs2 F3;clear hk y0 z0 y1 z1)
  | ((with_reducible refine gate_store (t:=105) (p:=2) rfl ?_);obtain ⟨y0,y1,z0,z1⟩:=cz2 F2;refine sxq 105 105 2 0 [.string x0,.int .i64 (x1)] [.string x0,.int .i64 (x1)] B F2 L2 fun w6 hk B G=>?_;replace F2:=G;clear hk y0 z0 y1 z1))
 refine bodyPost_ret (results_single rfl (.cell g2 105 _ (0,0) _ rfl F2.out hu rfl (by kernel_rfl) .nil)) rfl ?_
 exact ⟨rfl,B.out⟩
theorem laws_toPairS.M (A0 : Option Addr) (c0 : Nat) (l : List S114) (m : List S105) (w : World) (hr0 : Kd.C k114 w A0 l.length l) (hl : l.length≤1048576) (hm : l.map prOf=m) : Calls Try.prog 46 #[.slice A0 l.length c0] w fun e w'=>∃ v0,e=.returned v0∧Kd.R k105 105 w' w.heap.size (fun _=>True) v0 m∧Below w.heap.size w w':=by
 have B:=Aside0.mk (Below.refl w.heap.size w)
 subst hm
 have hu:=Try.underlying105
 have hu2:=Try.underlying114
 have HR0:=Aside0.mk hr0
 clear hr0
 go_enter Try.func46,Try.ntmps46
 go_wp2_with ((with_reducible refine gate_dst (N:=7) rfl ?_);refine mkr k105 105 rfl (N:=7) rfl 35 _ _ rfl l.length rfl rfl Try.underlying35 (.agg #[.string (⟨#[]⟩ : ByteArray),.int .i64 (0)]) 24 info105 rfl (by decide) (by omega) z105 (k105_mkM _ _ _ z105) (by omega) B ?_;intro A kk w1 hb B R Q;clear hb Q)
 have R0:=Aside0.mk (show Ow k105 105 w1 w.heap.size (.slice A l.length kk) ((l.take 0).map prOf ++ List.replicate (l.length - 0) z105) from R.out)
 clear R
 go_loopg [4] (l.length + 1) (fun kx v4 wr=>∃ j : Nat,v4=.int .i64 (j : Int)∧j≤l.length∧l.length < j + kx∧Aside0 (Below w.heap.size w wr)∧Aside0 (Ow k105 105 wr w.heap.size (.slice A l.length kk) ((l.take j).map prOf ++ List.replicate (l.length - j) z105)))
 case atStart=>exact ⟨0,rfl,by omega,by omega,B,R0⟩
 case round =>
  clear R0 B
  obtain ⟨j,rfl,hj,hk,B,R⟩:=hrel
  by_cases hlt : j < l.length
  ·obtain ⟨d,rfl⟩ : ∃ d,gk=d + 1:=⟨gk - 1,by omega⟩
   have hln : ((l.take j).map prOf ++ List.replicate (l.length - j) z105).length=l.length:=by rw [List.length_append,List.length_map,List.length_take,List.length_replicate];omega
   obtain ⟨g,rfl,hg⟩:=rform R (by omega)
   have hfs:=fill_set (f:=prOf) (z:=z105) hlt
   have cj : decide ((j : Int) < (l.length : Int))=true:=decide_eq_true (by omega)
   obtain ⟨ad,hA,x0,x1⟩:=at_T114 (cb HR0 B) (j : Int) (by omega) (by omega)
   cases hA
   rw [Int.toNat_natCast] at x0 x1
   have j1:=eq_true (show (j : Int) < (l.length : Int) by omega)
   have j2:=eq_true hlt
   have hy : rd_T114 l (j : Int)=l[j]:=by simp [rd_T114,List.getD_eq_getElem?_getD,List.getElem?_eq_getElem hlt]
   rw [← hy] at hfs
   generalize rd_T114 l (j : Int)=y at *
   clear hy
   have HF:=Aside0.mk hfs
   clear hfs hln
   go_wp2_with (first
    | (go_at_call 90;with_reducible refine cl (laws_toPair.M y.f0 y.f1 _) B fun w5 hb B=>?_;replace R:=rn R hb;obtain ⟨cs,hcl,_,hcc,hfz⟩:=rcells z105 R j hlt;have hsz : k105.sz=2:=rfl;obtain ⟨u0,hu0⟩ : ∃ u,cs[0]?=some u:=⟨_,List.getElem?_eq_getElem (by rw [hcl];decide)⟩;have q0:=hcc 0 u0 hu0;have z0:=hfz 0;rw [hsz,Nat.add_zero] at q0 z0;obtain ⟨u1,hu1⟩ : ∃ u,cs[1]?=some u:=⟨_,List.getElem?_eq_getElem (by rw [hcl];decide)⟩;have q1:=hcc 1 u1 hu1;have z1:=hfz 1;rw [hsz] at q1 z1;clear hb)
    | ((with_reducible refine gate_store (t:=105) (p:=21) rfl ?_);refine es (t:=105) (p:=21) (v:=?vo1) ?hg ?ho ?hn j 0 [.string y.f0,.int .i64 (y.f1)] (prOf y) ?hr R hlt hcl hcc (Nat.le_refl 2) (by rw [List.take_zero,List.drop_of_length_le (by rw [hcl];exact Nat.le_refl 2)];exact k105_mkM _ _ _ (prOf y)) B hg ?_;(case ho=>rfl);(case hg=>rfl);(case hn=>rfl);(case hr=>first | (go_simp;done) | (go_simp;rfl));intro w6 _ B R;rw [HF.out] at R))
   go_roundg d
   case measure=>omega
   case rel=>exact ⟨j + 1,congrArg (Value.int .i64) (Int.natCast_succ _).symm,by omega,by omega,B,R⟩
  ·have cj : decide ((j : Int) < (l.length : Int))=false:=decide_eq_false (by omega)
   rw [fill_end hlt] at R
   go_wp2
   go_ret
   exact ⟨_,rfl,R.out,B.out⟩
def sesOf (x : S123) : S76:=⟨x.f0,x.f1,x.f2⟩
theorem laws_toSession.M (x0 : Int) (x1 : Int) (x2 : Int) (w : World) : Calls Try.prog 91 #[.agg #[.int .i64 (x0),.int .i64 (x1),.int .i64 (x2)]] w fun e w'=>e=.returned (.agg #[.int .i64 (x0),.int .i64 (x1),.int .i64 (x2)])∧Below w.heap.size w w':=by
 have B:=Aside0.mk (Below.refl w.heap.size w)
 have hu:=Try.underlying76
 have hu2:=Try.underlying123
 go_enter Try.func91,Try.ntmps91
 go_wp2_with (first
  | ((with_reducible refine gate_dst (N:=1) rfl ?_);refine bxq 1 #[.int .i64 (x0),.int .i64 (x1),.int .i64 (x2)] 123 B fun g1 w1 hb B F1 L1 E1=>?_;obtain ⟨c1_0,c1_1,c1_2⟩:=cs3 F1;clear hb E1)
  | ((with_reducible refine gate_dst (N:=2) rfl ?_);refine bxq 2 #[.int .i64 (0),.int .i64 (0),.int .i64 (0)] 76 B fun g2 w2 hb B F2 L2 E2=>?_;have N1_2:=ne1 E2 F1;replace F1:=bn F1 hb;clear c1_0 c1_1 c1_2;obtain ⟨c1_0,c1_1,c1_2⟩:=cs3 F1;clear hb E2)
  | ((with_reducible refine gate_dst (N:=3) rfl ?_);refine bxq 3 #[.int .i64 (0),.int .i64 (0),.int .i64 (0)] 76 B fun g3 w3 hb B F3 L3 E3=>?_;have N1_3:=ne1 E3 F1;have N2_3:=ne1 E3 F2;replace F1:=bn F1 hb;replace F2:=bn F2 hb;clear c1_0 c1_1 c1_2;obtain ⟨c1_0,c1_1,c1_2⟩:=cs3 F1;obtain ⟨c3_0,c3_1,c3_2⟩:=cs3 F3;clear hb E3)
  | ((with_reducible refine gate_store (t:=3) (p:=6) rfl ?_);obtain ⟨y0,y1,y2,z0,z1,z2⟩:=cz3 F3;refine sxq 76 3 6 0 [.int .i64 (x0)] [.int .i64 (x0),.int .i64 (0),.int .i64 (0)] B F3 L3 fun w4 hk B G=>?_;replace F1:=bk F1 hk N1_3.out;replace F2:=bk F2 hk N2_3.out;replace F3:=G;clear c1_0 c1_1 c1_2;obtain ⟨c1_0,c1_1,c1_2⟩:=cs3 F1;clear c3_0 c3_1 c3_2;obtain ⟨c3_0,c3_1,c3_2⟩:=cs3 F3;clear hk y0 z0 y1 z1 y2 z2)
  | ((with_reducible refine gate_store (t:=3) (p:=9) rfl ?_);obtain ⟨y0,y1,y2,z0,z1,z2⟩:=cz3 F3;refine sxq 76 3 9 1 [.int .i64 (x1)] [.int .i64 (x0),.int .i64 (x1),.int .i64 (0)] B F3 L3 fun w5 hk B G=>?_;replace F1:=bk F1 hk N1_3.out;replace F2:=bk F2 hk N2_3.out;replace F3:=G;clear c1_0 c1_1 c1_2;obtain ⟨c1_0,c1_1,c1_2⟩:=cs3 F1;clear c3_0 c3_1 c3_2;obtain ⟨c3_0,c3_1,c3_2⟩:=cs3 F3;clear hk y0 z0 y1 z1 y2 z2)
  | ((with_reducible refine gate_store (t:=3) (p:=12) rfl ?_);obtain ⟨y0,y1,y2,z0,z1,z2⟩:=cz3 F3;refine sxq 76 3 12 2 [.int .i64 (x2)] [.int .i64 (x0),.int .i64 (x1),.int .i64 (x2)] B F3 L3 fun w6 hk B G=>?_;replace F2:=bk F2 hk N2_3.out;replace F3:=G;clear c3_0 c3_1 c3_2;obtain ⟨c3_0,c3_1,c3_2⟩:=cs3 F3;clear hk y0 z0 y1 z1 y2 z2)
  | ((with_reducible refine gate_store (t:=76) (p:=2) rfl ?_);obtain ⟨y0,y1,y2,z0,z1,z2⟩:=cz3 F2;refine sxq 76 76 2 0 [.int .i64 (x0),.int .i64 (x1),.int .i64 (x2)] [.int .i64 (x0),.int .i64 (x1),.int .i64 (x2)] B F2 L2 fun w7 hk B G=>?_;replace F2:=G;clear hk y0 z0 y1 z1 y2 z2))
 refine bodyPost_ret (results_single rfl (.cell g2 76 _ (0,0) _ rfl F2.out hu rfl (by kernel_rfl) .nil)) rfl ?_
 exact ⟨rfl,B.out⟩
theorem laws_toSessionS.M (A0 : Option Addr) (c0 : Nat) (l : List S123) (m : List S76) (w : World) (hr0 : Kd.C k123 w A0 l.length l) (hl : l.length≤1048576) (hm : l.map sesOf=m) : Calls Try.prog 47 #[.slice A0 l.length c0] w fun e w'=>∃ v0,e=.returned v0∧Kd.R k76 76 w' w.heap.size (fun _=>True) v0 m∧Below w.heap.size w w':=by
 have B:=Aside0.mk (Below.refl w.heap.size w)
 subst hm
 have hu:=Try.underlying76
 have hu2:=Try.underlying123
 have HR0:=Aside0.mk hr0
 clear hr0
 go_enter Try.func47,Try.ntmps47
 go_wp2_with ((with_reducible refine gate_dst (N:=7) rfl ?_);refine mkr k76 76 rfl (N:=7) rfl 36 _ _ rfl l.length rfl rfl Try.underlying36 (.agg #[.int .i64 (0),.int .i64 (0),.int .i64 (0)]) 24 info76 rfl (by decide) (by omega) z76 (k76_mkM _ _ _ z76) (by omega) B ?_;intro A kk w1 hb B R Q;clear hb Q)
 have R0:=Aside0.mk (show Ow k76 76 w1 w.heap.size (.slice A l.length kk) ((l.take 0).map sesOf ++ List.replicate (l.length - 0) z76) from R.out)
 clear R
 go_loopg [4] (l.length + 1) (fun kx v4 wr=>∃ j : Nat,v4=.int .i64 (j : Int)∧j≤l.length∧l.length < j + kx∧Aside0 (Below w.heap.size w wr)∧Aside0 (Ow k76 76 wr w.heap.size (.slice A l.length kk) ((l.take j).map sesOf ++ List.replicate (l.length - j) z76)))
 case atStart=>exact ⟨0,rfl,by omega,by omega,B,R0⟩
 case round =>
  clear R0 B
  obtain ⟨j,rfl,hj,hk,B,R⟩:=hrel
  by_cases hlt : j < l.length
  ·obtain ⟨d,rfl⟩ : ∃ d,gk=d + 1:=⟨gk - 1,by omega⟩
   have hln : ((l.take j).map sesOf ++ List.replicate (l.length - j) z76).length=l.length:=by rw [List.length_append,List.length_map,List.length_take,List.length_replicate];omega
   obtain ⟨g,rfl,hg⟩:=rform R (by omega)
   have hfs:=fill_set (f:=sesOf) (z:=z76) hlt
   have cj : decide ((j : Int) < (l.length : Int))=true:=decide_eq_true (by omega)
   obtain ⟨ad,hA,x0,x1,x2⟩:=at_T123 (cb HR0 B) (j : Int) (by omega) (by omega)
   cases hA
   rw [Int.toNat_natCast] at x0 x1 x2
   have j1:=eq_true (show (j : Int) < (l.length : Int) by omega)
   have j2:=eq_true hlt
   have hy : rd_T123 l (j : Int)=l[j]:=by simp [rd_T123,List.getD_eq_getElem?_getD,List.getElem?_eq_getElem hlt]
   rw [← hy] at hfs
   generalize rd_T123 l (j : Int)=y at *
   clear hy
   have HF:=Aside0.mk hfs
   clear hfs hln
   go_wp2_with (first
    | (go_at_call 91;with_reducible refine cl (laws_toSession.M y.f0 y.f1 y.f2 _) B fun w5 hb B=>?_;replace R:=rn R hb;obtain ⟨cs,hcl,_,hcc,hfz⟩:=rcells z76 R j hlt;have hsz : k76.sz=3:=rfl;obtain ⟨u0,hu0⟩ : ∃ u,cs[0]?=some u:=⟨_,List.getElem?_eq_getElem (by rw [hcl];decide)⟩;have q0:=hcc 0 u0 hu0;have z0:=hfz 0;rw [hsz,Nat.add_zero] at q0 z0;obtain ⟨u1,hu1⟩ : ∃ u,cs[1]?=some u:=⟨_,List.getElem?_eq_getElem (by rw [hcl];decide)⟩;have q1:=hcc 1 u1 hu1;have z1:=hfz 1;rw [hsz] at q1 z1;obtain ⟨u2,hu2⟩ : ∃ u,cs[2]?=some u:=⟨_,List.getElem?_eq_getElem (by rw [hcl];decide)⟩;have q2:=hcc 2 u2 hu2;have z2:=hfz 2;rw [hsz] at q2 z2;clear hb)
    | ((with_reducible refine gate_store (t:=76) (p:=21) rfl ?_);refine es (t:=76) (p:=21) (v:=?vo1) ?hg ?ho ?hn j 0 [.int .i64 (y.f0),.int .i64 (y.f1),.int .i64 (y.f2)] (sesOf y) ?hr R hlt hcl hcc (Nat.le_refl 3) (by rw [List.take_zero,List.drop_of_length_le (by rw [hcl];exact Nat.le_refl 3)];exact k76_mkM _ _ _ (sesOf y)) B hg ?_;(case ho=>rfl);(case hg=>rfl);(case hn=>rfl);(case hr=>first | (go_simp;done) | (go_simp;rfl));intro w6 _ B R;rw [HF.out] at R))
   go_roundg d
   case measure=>omega
   case rel=>exact ⟨j + 1,congrArg (Value.int .i64) (Int.natCast_succ _).symm,by omega,by omega,B,R⟩
  ·have cj : decide ((j : Int) < (l.length : Int))=false:=decide_eq_false (by omega)
   rw [fill_end hlt] at R
   go_wp2
   go_ret
   exact ⟨_,rfl,R.out,B.out⟩

theorem laws_szEntry.M (ci sq k : Int) (x : ByteArray) (v o : Int) (n : Int) (w : World) (hn : 0≤n∧n≤1048576) (ha : x.size≤9223372036854775807) : Calls Try.prog 8 #[.agg #[.int .i64 ci,.int .i64 sq,.int .i64 k,.string x,.int .i64 v,.int .i64 o],.int .i64 n] w fun e w'=>∃ v : Int,e=.returned (.int .i64 v)∧(v < 0 ∨ 0≤v∧v≤n)∧Below w.heap.size w w':=by
 have B:=Aside0.mk (Below.refl w.heap.size w)
 have hu:=Try.underlying31
 have hu2:=Try.underlying29
 have HXS:=Aside0.mk ha
 go_enter Try.func8,Try.ntmps8
 go_wp2_with (first
  | ((with_reducible refine gate_dst (N:=2) rfl ?_);refine bxq 2 #[.int .i64 (ci),.int .i64 (sq),.int .i64 (k),.string x,.int .i64 (v),.int .i64 (o)] 31 B fun g2 w1 hb B F2 L2 E2=>?_;obtain ⟨c2_0,c2_1,c2_2,c2_3,c2_4,c2_5⟩:=cs6 F2;clear hb E2)
  | (go_at_call 36;with_reducible refine cx (laws_szCommand.M k x v o n _ (by omega) HXS.out) B fun v2 hv2 w2 hb B=>?_;clear hb))
 all_goals go_ret
 all_goals (refine ⟨_,rfl,?_,B.out⟩;omega)
theorem laws_toEntry.M (ci sq k : Int) (x : ByteArray) (v o : Int) (w : World) : Calls Try.prog 11 #[.agg #[.int .i64 ci,.int .i64 sq,.int .i64 k,.string x,.int .i64 v,.int .i64 o]] w fun e w'=>e=.returned (.agg #[.int .i64 ci,.int .i64 sq,.int .i64 k,.string x,.int .i64 v,.int .i64 o])∧Below w.heap.size w w':=by
 have B:=Aside0.mk (Below.refl w.heap.size w)
 have hu:=Try.underlying44
 have hu2:=Try.underlying31
 go_enter Try.func11,Try.ntmps11
 go_wp2_with (first
  | ((with_reducible refine gate_dst (N:=1) rfl ?_);refine bxq 1 #[.int .i64 (ci),.int .i64 (sq),.int .i64 (k),.string x,.int .i64 (v),.int .i64 (o)] 31 B fun g1 w1 hb B F1 L1 E1=>?_;obtain ⟨c1_0,c1_1,c1_2,c1_3,c1_4,c1_5⟩:=cs6 F1;clear hb E1)
  | ((with_reducible refine gate_dst (N:=2) rfl ?_);refine bxq 2 #[.int .i64 (0),.int .i64 (0),.int .i64 (0),.string (⟨#[]⟩ : ByteArray),.int .i64 (0),.int .i64 (0)] 44 B fun g2 w2 hb B F2 L2 E2=>?_;have N1_2:=ne1 E2 F1;replace F1:=bn F1 hb;clear c1_0 c1_1 c1_2 c1_3 c1_4 c1_5;obtain ⟨c1_0,c1_1,c1_2,c1_3,c1_4,c1_5⟩:=cs6 F1;clear hb E2)
  | ((with_reducible refine gate_dst (N:=3) rfl ?_);refine bxq 3 #[.int .i64 (0),.int .i64 (0),.int .i64 (0),.string (⟨#[]⟩ : ByteArray),.int .i64 (0),.int .i64 (0)] 44 B fun g3 w3 hb B F3 L3 E3=>?_;have N1_3:=ne1 E3 F1;have N2_3:=ne1 E3 F2;replace F1:=bn F1 hb;replace F2:=bn F2 hb;clear c1_0 c1_1 c1_2 c1_3 c1_4 c1_5;obtain ⟨c1_0,c1_1,c1_2,c1_3,c1_4,c1_5⟩:=cs6 F1;obtain ⟨c3_0,c3_1,c3_2,c3_3,c3_4,c3_5⟩:=cs6 F3;clear hb E3)
  | ((with_reducible refine gate_store (t:=3) (p:=6) rfl ?_);obtain ⟨y0,y1,y2,y3,y4,y5,z0,z1,z2,z3,z4,z5⟩:=cz6 F3;refine sxq 44 3 6 0 [.int .i64 (ci)] [.int .i64 (ci),.int .i64 (0),.int .i64 (0),.string (⟨#[]⟩ : ByteArray),.int .i64 (0),.int .i64 (0)] B F3 L3 fun w4 hk B G=>?_;replace F1:=bk F1 hk N1_3.out;replace F2:=bk F2 hk N2_3.out;replace F3:=G;clear c1_0 c1_1 c1_2 c1_3 c1_4 c1_5;obtain ⟨c1_0,c1_1,c1_2,c1_3,c1_4,c1_5⟩:=cs6 F1;clear c3_0 c3_1 c3_2 c3_3 c3_4 c3_5;obtain ⟨c3_0,c3_1,c3_2,c3_3,c3_4,c3_5⟩:=cs6 F3;clear hk y0 z0 y1 z1 y2 z2 y3 z3 y4 z4 y5 z5)
  | ((with_reducible refine gate_store (t:=3) (p:=9) rfl ?_);obtain ⟨y0,y1,y2,y3,y4,y5,z0,z1,z2,z3,z4,z5⟩:=cz6 F3;refine sxq 44 3 9 1 [.int .i64 (sq)] [.int .i64 (ci),.int .i64 (sq),.int .i64 (0),.string (⟨#[]⟩ : ByteArray),.int .i64 (0),.int .i64 (0)] B F3 L3 fun w5 hk B G=>?_;replace F1:=bk F1 hk N1_3.out;replace F2:=bk F2 hk N2_3.out;replace F3:=G;clear c1_0 c1_1 c1_2 c1_3 c1_4 c1_5;obtain ⟨c1_0,c1_1,c1_2,c1_3,c1_4,c1_5⟩:=cs6 F1;clear c3_0 c3_1 c3_2 c3_3 c3_4 c3_5;obtain ⟨c3_0,c3_1,c3_2,c3_3,c3_4,c3_5⟩:=cs6 F3;clear hk y0 z0 y1 z1 y2 z2 y3 z3 y4 z4 y5 z5)
  | (go_at_call 48;with_reducible refine cl (laws_toCommand.M k x v o _) B fun w6 hb B=>?_;replace F2:=bn F2 hb;replace F3:=bn F3 hb;clear c3_0 c3_1 c3_2 c3_3 c3_4 c3_5;obtain ⟨c3_0,c3_1,c3_2,c3_3,c3_4,c3_5⟩:=cs6 F3;clear hb)
  | ((with_reducible refine gate_store (t:=42) (p:=13) rfl ?_);obtain ⟨y0,y1,y2,y3,y4,y5,z0,z1,z2,z3,z4,z5⟩:=cz6 F3;refine sxq 44 42 13 2 [.int .i64 (k),.string x,.int .i64 (v),.int .i64 (o)] [.int .i64 (ci),.int .i64 (sq),.int .i64 (k),.string x,.int .i64 (v),.int .i64 (o)] B F3 L3 fun w7 hk B G=>?_;replace F2:=bk F2 hk N2_3.out;replace F3:=G;clear c3_0 c3_1 c3_2 c3_3 c3_4 c3_5;obtain ⟨c3_0,c3_1,c3_2,c3_3,c3_4,c3_5⟩:=cs6 F3;clear hk y0 z0 y1 z1 y2 z2 y3 z3 y4 z4 y5 z5)
  | ((with_reducible refine gate_store (t:=44) (p:=2) rfl ?_);obtain ⟨y0,y1,y2,y3,y4,y5,z0,z1,z2,z3,z4,z5⟩:=cz6 F2;refine sxq 44 44 2 0 [.int .i64 (ci),.int .i64 (sq),.int .i64 (k),.string x,.int .i64 (v),.int .i64 (o)] [.int .i64 (ci),.int .i64 (sq),.int .i64 (k),.string x,.int .i64 (v),.int .i64 (o)] B F2 L2 fun w8 hk B G=>?_;replace F2:=G;clear hk y0 z0 y1 z1 y2 z2 y3 z3 y4 z4 y5 z5))
 try (refine bodyPost_ret (results_single rfl (.cell g2 44 _ (0,0) _ rfl F2.out hu rfl (by kernel_rfl) .nil)) rfl ?_)
 exact ⟨rfl,B.out⟩

theorem laws_toState.M (a b : ByteArray) (AP : Option Addr) (cP : Nat) (ps : List S114) (AS : Option Addr) (cS : Nat) (ss : List S123) (t : Bool) (c : ByteArray) (qs : List S105) (us : List S76) (w : World) (hrp : Kd.C k114 w AP ps.length ps) (hrs : Kd.C k123 w AS ss.length ss) (hl : ps.length≤1048576∧ss.length≤1048576) (hqs : ps.map prOf=qs) (hus : ss.map sesOf=us) : Calls Try.prog 10 #[.agg #[.string a,.string b,.slice AP ps.length cP,.slice AS ss.length cS,.bool t,.string c]] w fun e w'=>∃ v2 v3,e=.returned (.agg #[.string a,.string b,v2,v3,.bool t,.string c])∧Kd.R k105 105 w' w.heap.size (fun _=>True) v2 qs∧Kd.R k76 76 w' w.heap.size (fun _=>True) v3 us∧Below w.heap.size w w':=by
 have B:=Aside0.mk (Below.refl w.heap.size w)
 have hu:=Try.underlying38
 have hu2:=Try.underlying27
 have HRP:=Aside0.mk hrp
 have HRS:=Aside0.mk hrs
 have HQS:=Aside0.mk hqs
 have HUS:=Aside0.mk hus
 obtain ⟨hl1,hl2⟩:=hl
 clear hrp hrs hqs hus
 go_enter Try.func10,Try.ntmps10
 go_wp2_with (first
  | ((with_reducible refine gate_dst (N:=1) rfl ?_);refine bxq 1 #[.string a,.string b,.slice AP ps.length cP,.slice AS ss.length cS,.bool t,.string c] 27 B fun g1 w1 hb B F1 L1 E1=>?_;obtain ⟨c1_0,c1_1,c1_2,c1_3,c1_4,c1_5⟩:=cs6 F1;clear hb E1)
  | ((with_reducible refine gate_dst (N:=2) rfl ?_);refine bxq 2 #[.string (⟨#[]⟩ : ByteArray),.string (⟨#[]⟩ : ByteArray),.slice none 0 0,.slice none 0 0,.bool false,.string (⟨#[]⟩ : ByteArray)] 38 B fun g2 w2 hb B F2 L2 E2=>?_;have N1_2:=ne1 E2 F1;replace F1:=bn F1 hb;clear c1_0 c1_1 c1_2 c1_3 c1_4 c1_5;obtain ⟨c1_0,c1_1,c1_2,c1_3,c1_4,c1_5⟩:=cs6 F1;clear hb E2)
  | ((with_reducible refine gate_dst (N:=3) rfl ?_);refine bxq 3 #[.string (⟨#[]⟩ : ByteArray),.string (⟨#[]⟩ : ByteArray),.slice none 0 0,.slice none 0 0,.bool false,.string (⟨#[]⟩ : ByteArray)] 38 B fun g3 w3 hb B F3 L3 E3=>?_;have N1_3:=ne1 E3 F1;have N2_3:=ne1 E3 F2;replace F1:=bn F1 hb;replace F2:=bn F2 hb;clear c1_0 c1_1 c1_2 c1_3 c1_4 c1_5;obtain ⟨c1_0,c1_1,c1_2,c1_3,c1_4,c1_5⟩:=cs6 F1;obtain ⟨c3_0,c3_1,c3_2,c3_3,c3_4,c3_5⟩:=cs6 F3;clear hb E3)
  | (go_at_call 45;with_reducible refine cl (laws_toInterval.M a b _) B fun w4 hb B=>?_;replace F1:=bn F1 hb;replace F2:=bn F2 hb;replace F3:=bn F3 hb;clear c1_0 c1_1 c1_2 c1_3 c1_4 c1_5;obtain ⟨c1_0,c1_1,c1_2,c1_3,c1_4,c1_5⟩:=cs6 F1;clear c3_0 c3_1 c3_2 c3_3 c3_4 c3_5;obtain ⟨c3_0,c3_1,c3_2,c3_3,c3_4,c3_5⟩:=cs6 F3;clear hb)
  | ((with_reducible refine gate_store (t:=34) (p:=7) rfl ?_);obtain ⟨y0,y1,y2,y3,y4,y5,z0,z1,z2,z3,z4,z5⟩:=cz6 F3;refine sxq 38 34 7 0 [.string a,.string b] [.string a,.string b,.slice none 0 0,.slice none 0 0,.bool false,.string (⟨#[]⟩ : ByteArray)] B F3 L3 fun w5 hk B G=>?_;replace F1:=bk F1 hk N1_3.out;replace F2:=bk F2 hk N2_3.out;replace F3:=G;clear c1_0 c1_1 c1_2 c1_3 c1_4 c1_5;obtain ⟨c1_0,c1_1,c1_2,c1_3,c1_4,c1_5⟩:=cs6 F1;clear c3_0 c3_1 c3_2 c3_3 c3_4 c3_5;obtain ⟨c3_0,c3_1,c3_2,c3_3,c3_4,c3_5⟩:=cs6 F3;clear hk y0 z0 y1 z1 y2 z2 y3 z3 y4 z4 y5 z5)
  | (go_at_call 46;with_reducible refine cr (laws_toPairS.M _ _ ps qs _ (cb HRP B) (by omega) HQS.out) B fun AP6 kP6 w6 hb B RP6 QP6=>?_;replace F1:=bn F1 hb;replace F2:=bn F2 hb;replace F3:=bn F3 hb;clear QP6;clear c1_0 c1_1 c1_2 c1_3 c1_4 c1_5;obtain ⟨c1_0,c1_1,c1_2,c1_3,c1_4,c1_5⟩:=cs6 F1;clear c3_0 c3_1 c3_2 c3_3 c3_4 c3_5;obtain ⟨c3_0,c3_1,c3_2,c3_3,c3_4,c3_5⟩:=cs6 F3;clear hb)
  | ((with_reducible refine gate_store (t:=35) (p:=11) rfl ?_);obtain ⟨y0,y1,y2,y3,y4,y5,z0,z1,z2,z3,z4,z5⟩:=cz6 F3;refine sxq 38 35 11 2 [.slice AP6 qs.length kP6] [.string a,.string b,.slice AP6 qs.length kP6,.slice none 0 0,.bool false,.string (⟨#[]⟩ : ByteArray)] B F3 L3 fun w7 hk B G=>?_;replace F1:=bk F1 hk N1_3.out;replace F2:=bk F2 hk N2_3.out;replace RP6:=rk RP6 F3 (by decide) hk;replace F3:=G;clear c1_0 c1_1 c1_2 c1_3 c1_4 c1_5;obtain ⟨c1_0,c1_1,c1_2,c1_3,c1_4,c1_5⟩:=cs6 F1;clear c3_0 c3_1 c3_2 c3_3 c3_4 c3_5;obtain ⟨c3_0,c3_1,c3_2,c3_3,c3_4,c3_5⟩:=cs6 F3;clear hk y0 z0 y1 z1 y2 z2 y3 z3 y4 z4 y5 z5)
  | (go_at_call 47;with_reducible refine cr (laws_toSessionS.M _ _ ss us _ (cb HRS B) (by omega) HUS.out) B fun AS8 kS8 w8 hb B RS8 QS8=>?_;replace F1:=bn F1 hb;replace F2:=bn F2 hb;replace F3:=bn F3 hb;replace RP6:=rn RP6 hb;clear QS8;clear c1_0 c1_1 c1_2 c1_3 c1_4 c1_5;obtain ⟨c1_0,c1_1,c1_2,c1_3,c1_4,c1_5⟩:=cs6 F1;clear c3_0 c3_1 c3_2 c3_3 c3_4 c3_5;obtain ⟨c3_0,c3_1,c3_2,c3_3,c3_4,c3_5⟩:=cs6 F3;clear hb)
  | ((with_reducible refine gate_store (t:=36) (p:=15) rfl ?_);obtain ⟨y0,y1,y2,y3,y4,y5,z0,z1,z2,z3,z4,z5⟩:=cz6 F3;refine sxq 38 36 15 3 [.slice AS8 us.length kS8] [.string a,.string b,.slice AP6 qs.length kP6,.slice AS8 us.length kS8,.bool false,.string (⟨#[]⟩ : ByteArray)] B F3 L3 fun w9 hk B G=>?_;replace F1:=bk F1 hk N1_3.out;replace F2:=bk F2 hk N2_3.out;replace RP6:=rk RP6 F3 (by decide) hk;replace RS8:=rk RS8 F3 (by decide) hk;replace F3:=G;clear c1_0 c1_1 c1_2 c1_3 c1_4 c1_5;obtain ⟨c1_0,c1_1,c1_2,c1_3,c1_4,c1_5⟩:=cs6 F1;clear c3_0 c3_1 c3_2 c3_3 c3_4 c3_5;obtain ⟨c3_0,c3_1,c3_2,c3_3,c3_4,c3_5⟩:=cs6 F3;clear hk y0 z0 y1 z1 y2 z2 y3 z3 y4 z4 y5 z5)
  | ((with_reducible refine gate_store (t:=4) (p:=18) rfl ?_);obtain ⟨y0,y1,y2,y3,y4,y5,z0,z1,z2,z3,z4,z5⟩:=cz6 F3;refine sxq 38 4 18 4 [.bool t] [.string a,.string b,.slice AP6 qs.length kP6,.slice AS8 us.length kS8,.bool t,.string (⟨#[]⟩ : ByteArray)] B F3 L3 fun w10 hk B G=>?_;replace F1:=bk F1 hk N1_3.out;replace F2:=bk F2 hk N2_3.out;replace RP6:=rk RP6 F3 (by decide) hk;replace RS8:=rk RS8 F3 (by decide) hk;replace F3:=G;clear c1_0 c1_1 c1_2 c1_3 c1_4 c1_5;obtain ⟨c1_0,c1_1,c1_2,c1_3,c1_4,c1_5⟩:=cs6 F1;clear c3_0 c3_1 c3_2 c3_3 c3_4 c3_5;obtain ⟨c3_0,c3_1,c3_2,c3_3,c3_4,c3_5⟩:=cs6 F3;clear hk y0 z0 y1 z1 y2 z2 y3 z3 y4 z4 y5 z5)
  | ((with_reducible refine gate_store (t:=9) (p:=21) rfl ?_);obtain ⟨y0,y1,y2,y3,y4,y5,z0,z1,z2,z3,z4,z5⟩:=cz6 F3;refine sxq 38 9 21 5 [.string c] [.string a,.string b,.slice AP6 qs.length kP6,.slice AS8 us.length kS8,.bool t,.string c] B F3 L3 fun w11 hk B G=>?_;replace F2:=bk F2 hk N2_3.out;replace RP6:=rk RP6 F3 (by decide) hk;replace RS8:=rk RS8 F3 (by decide) hk;replace F3:=G;clear c3_0 c3_1 c3_2 c3_3 c3_4 c3_5;obtain ⟨c3_0,c3_1,c3_2,c3_3,c3_4,c3_5⟩:=cs6 F3;clear hk y0 z0 y1 z1 y2 z2 y3 z3 y4 z4 y5 z5)
  | ((with_reducible refine gate_store (t:=38) (p:=2) rfl ?_);obtain ⟨y0,y1,y2,y3,y4,y5,z0,z1,z2,z3,z4,z5⟩:=cz6 F2;refine sxq 38 38 2 0 [.string a,.string b,.slice AP6 qs.length kP6,.slice AS8 us.length kS8,.bool t,.string c] [.string a,.string b,.slice AP6 qs.length kP6,.slice AS8 us.length kS8,.bool t,.string c] B F2 L2 fun w12 hk B G=>?_;replace RP6:=rk RP6 F2 (by decide) hk;replace RS8:=rk RS8 F2 (by decide) hk;replace F2:=G;clear hk y0 z0 y1 z1 y2 z2 y3 z3 y4 z4 y5 z5))
 refine bodyPost_ret (results_single rfl (.cell g2 38 _ (0,0) _ rfl F2.out hu rfl (by kernel_rfl) .nil)) rfl ?_
 exact ⟨_,_,rfl,RP6.out,RS8.out,B.out⟩

theorem laws_eqInterval.M (x0 : ByteArray) (x1 : ByteArray) (w : World) : Calls Try.prog 54 #[.agg #[.string x0,.string x1],.agg #[.string x0,.string x1]] w fun e w'=>e=.returned (.bool true)∧Below w.heap.size w w':=by
 have B:=Aside0.mk (Below.refl w.heap.size w)
 have hu:=Try.underlying34
 go_enter Try.func54,Try.ntmps54
 go_wp2_with (first
  | ((with_reducible refine gate_dst (N:=2) rfl ?_);refine bxq 2 #[.string x0,.string x1] 34 B fun g2 w1 hb B F2 L2 E2=>?_;obtain ⟨c2_0,c2_1⟩:=cs2 F2;clear hb E2)
  | ((with_reducible refine gate_dst (N:=3) rfl ?_);refine bxq 3 #[.string x0,.string x1] 34 B fun g3 w2 hb B F3 L3 E3=>?_;replace F2:=bn F2 hb;clear c2_0 c2_1;obtain ⟨c2_0,c2_1⟩:=cs2 F2;obtain ⟨c3_0,c3_1⟩:=cs2 F3;clear hb E3))
 all_goals go_ret
 all_goals (refine ⟨?_,B.out⟩;first | rfl | simp_all)
theorem laws_eqPair.M (x0 : ByteArray) (x1 : Int) (w : World) : Calls Try.prog 101 #[.agg #[.string x0,.int .i64 (x1)],.agg #[.string x0,.int .i64 (x1)]] w fun e w'=>e=.returned (.bool true)∧Below w.heap.size w w':=by
 have B:=Aside0.mk (Below.refl w.heap.size w)
 have hu:=Try.underlying105
 go_enter Try.func101,Try.ntmps101
 go_wp2_with (first
  | ((with_reducible refine gate_dst (N:=2) rfl ?_);refine bxq 2 #[.string x0,.int .i64 (x1)] 105 B fun g2 w1 hb B F2 L2 E2=>?_;obtain ⟨c2_0,c2_1⟩:=cs2 F2;clear hb E2)
  | ((with_reducible refine gate_dst (N:=3) rfl ?_);refine bxq 3 #[.string x0,.int .i64 (x1)] 105 B fun g3 w2 hb B F3 L3 E3=>?_;replace F2:=bn F2 hb;clear c2_0 c2_1;obtain ⟨c2_0,c2_1⟩:=cs2 F2;obtain ⟨c3_0,c3_1⟩:=cs2 F3;clear hb E3))
 all_goals go_ret
 all_goals (refine ⟨?_,B.out⟩;first | rfl | simp_all)
def laws_eqPairS.T6 : Bool × List (List Nat × List Nat):=(true,[([],[]),([],[]),([0,1],[0,1]),([2],[2]),([],[]),([],[]),([4,5],[4,5]),([6],[6]),([3,7],[3,7]),([8],[8])])
def laws_eqPairS.B6 : List Nat:=[0,0,3,7,0,0,48,112,255,511]
theorem laws_eqPairS.tab6 : rtab .any (opsOf Try.f55 6)=laws_eqPairS.T6:=by kernel_rfl
theorem laws_eqPairS.bits6 : waitsOk laws_eqPairS.T6.2 laws_eqPairS.B6=true:=by kernel_rfl
theorem laws_eqPairS.M (A0 : Option Addr) (c0 : Nat) (A1 : Option Addr) (c1 : Nat) (l : List S105) (w : World) (hr0 : Kd.C k105 w A0 l.length l) (hr1 : Kd.C k105 w A1 l.length l) : Calls Try.prog 55 #[.slice A0 l.length c0,.slice A1 l.length c1] w fun e w'=>e=.returned (.bool true)∧Below w.heap.size w w':=by
 have B:=Aside0.mk (Below.refl w.heap.size w)
 have hu:=Try.underlying105
 have HR0:=Aside0.mk hr0
 have HR1:=Aside0.mk hr1
 have L48:=Aside0.mk hr0.2.1
 clear hr0 hr1
 go_enter Try.func55,Try.ntmps55
 go_wp2
 go_loopg [5] (l.length + 1) (fun kx v5 wr=>∃ j : Nat,v5=.int .i64 (j : Int)∧j≤l.length∧l.length < j + kx∧Aside0 (Below w.heap.size w wr))
 case atStart=>exact ⟨0,rfl,by omega,by omega,B⟩
 case round =>
  clear B
  obtain ⟨j,rfl,hj,hk,B⟩:=hrel
  have h48:=L48.out
  by_cases hlt : j < l.length
  ·obtain ⟨d,rfl⟩ : ∃ d,gk=d + 1:=⟨gk - 1,by omega⟩
   have cj : decide ((j : Int) < (l.length : Int))=true:=decide_eq_true (by omega)
   obtain ⟨ad,hA,_⟩:=at_T105 (cb HR0 B) (j : Int) (by omega) (by omega)
   cases hA
   obtain ⟨bd,hA,_⟩:=at_T105 (cb HR1 B) (j : Int) (by omega) (by omega)
   cases hA
   have j1:=eq_true (show (j : Int) < (l.length : Int) by omega)
   have j2:=eq_true hlt
   generalize hy : rd_T105 l (j : Int)=y
   try go_wp2
   all_goals (
    refine rg (n:=10) (S:=fun W=>Kd.C k105 W (some ad) l.length l∧Kd.C k105 W (some bd) l.length l) (ds:=[]) #[false,false,false,false,false,false,false,false,false,false] (by kernel_rfl) rfl rfl ⟨(cb HR0 B),(cb HR1 B)⟩ id B (fun w1 hb B hHeld=>?_)
    refine with_tabW laws_eqPairS.tab6 laws_eqPairS.bits6 (fun HT_ HW_=>?_)
    clear hb
    refine pvq 0 (some 17) (bits 10 1) HT_ ?_
    refine pvq 1 (some 18) (bits 10 3) HT_ ?_
    refine pvq 2 (some 19) (bits 10 7) HT_ ?_
    refine tvq 3 (some 20) (bits 10 15) HT_ HW_ rfl hHeld (by intro w' hS;obtain ⟨s0,s1⟩:=hS;obtain ⟨_,hA,q0,q1⟩:=at_T105 s0 (j : Int) (by omega) (by omega);cases hA;rw [Int.toNat_natCast] at q0 q1;rw [hy] at q0 q1;go_simp;with_reducible rfl) ?_
    refine pvq 4 (some 21) (bits 10 31) HT_ ?_
    refine pvq 5 (some 22) (bits 10 63) HT_ ?_
    refine pvq 6 (some 23) (bits 10 127) HT_ ?_
    refine tvq 7 (some 24) (bits 10 255) HT_ HW_ rfl hHeld (by intro w' hS;obtain ⟨s0,s1⟩:=hS;obtain ⟨_,hA,q0,q1⟩:=at_T105 s1 (j : Int) (by omega) (by omega);cases hA;rw [Int.toNat_natCast] at q0 q1;rw [hy] at q0 q1;go_simp;with_reducible rfl) ?_
    refine nmq ?_
    refine one_ (i:=8) (N:=some 25) (bits 10 511) rfl rfl (one_of HT_.out (by kernel_rfl)) (by decide) (fun K hK=>?_)
    refine gsq Try.func101 #[.agg #[.string y.f0,.int .i64 (y.f1)],.agg #[.string y.f0,.int .i64 (y.f1)]] ?_
    with_reducible refine cl (laws_eqPair.M y.f0 y.f1 _) B fun w2 hb B=>?_
    clear hb
    refine ⟨_,rfl,?_⟩
    refine hK.out _ _ ⟨(cb HR0 B),(cb HR1 B)⟩ (fun hHeld=>?_)
    clear hK K
    refine npq (some 25) ?_
    refine pvq 9 (some 26) (bits 10 1023) HT_ ?_
    refine nmq ?_
    refine done_ (done_of HT_.out (by kernel_rfl)) ?_
    try go_wp2
    go_roundg d
    case measure=>omega
    case rel=>exact ⟨j + 1,congrArg (Value.int .i64) (Int.natCast_succ _).symm,by omega,by omega,B⟩)
   all_goals try go_wp2
  ·have cj : decide ((j : Int) < (l.length : Int))=false:=decide_eq_false (by omega)
   go_wp2
   go_ret
   exact ⟨rfl,B.out⟩
theorem laws_eqSession.M (x0 : Int) (x1 : Int) (x2 : Int) (w : World) : Calls Try.prog 102 #[.agg #[.int .i64 (x0),.int .i64 (x1),.int .i64 (x2)],.agg #[.int .i64 (x0),.int .i64 (x1),.int .i64 (x2)]] w fun e w'=>e=.returned (.bool true)∧Below w.heap.size w w':=by
 have B:=Aside0.mk (Below.refl w.heap.size w)
 have hu:=Try.underlying76
 go_enter Try.func102,Try.ntmps102
 go_wp2_with (first
  | ((with_reducible refine gate_dst (N:=2) rfl ?_);refine bxq 2 #[.int .i64 (x0),.int .i64 (x1),.int .i64 (x2)] 76 B fun g2 w1 hb B F2 L2 E2=>?_;obtain ⟨c2_0,c2_1,c2_2⟩:=cs3 F2;clear hb E2)
  | ((with_reducible refine gate_dst (N:=3) rfl ?_);refine bxq 3 #[.int .i64 (x0),.int .i64 (x1),.int .i64 (x2)] 76 B fun g3 w2 hb B F3 L3 E3=>?_;replace F2:=bn F2 hb;clear c2_0 c2_1 c2_2;obtain ⟨c2_0,c2_1,c2_2⟩:=cs3 F2;obtain ⟨c3_0,c3_1,c3_2⟩:=cs3 F3;clear hb E3))
 all_goals go_ret
 all_goals (refine ⟨?_,B.out⟩;first | rfl | simp_all)
def laws_eqSessionS.T6 : Bool × List (List Nat × List Nat):=(true,[([],[]),([],[]),([0,1],[0,1]),([2],[2]),([],[]),([],[]),([4,5],[4,5]),([6],[6]),([3,7],[3,7]),([8],[8])])
def laws_eqSessionS.B6 : List Nat:=[0,0,3,7,0,0,48,112,255,511]
theorem laws_eqSessionS.tab6 : rtab .any (opsOf Try.f56 6)=laws_eqSessionS.T6:=by kernel_rfl
theorem laws_eqSessionS.bits6 : waitsOk laws_eqSessionS.T6.2 laws_eqSessionS.B6=true:=by kernel_rfl
theorem laws_eqSessionS.M (A0 : Option Addr) (c0 : Nat) (A1 : Option Addr) (c1 : Nat) (l : List S76) (w : World) (hr0 : Kd.C k76 w A0 l.length l) (hr1 : Kd.C k76 w A1 l.length l) : Calls Try.prog 56 #[.slice A0 l.length c0,.slice A1 l.length c1] w fun e w'=>e=.returned (.bool true)∧Below w.heap.size w w':=by
 have B:=Aside0.mk (Below.refl w.heap.size w)
 have hu:=Try.underlying76
 have HR0:=Aside0.mk hr0
 have HR1:=Aside0.mk hr1
 have L48:=Aside0.mk hr0.2.1
 clear hr0 hr1
 go_enter Try.func56,Try.ntmps56
 go_wp2
 go_loopg [5] (l.length + 1) (fun kx v5 wr=>∃ j : Nat,v5=.int .i64 (j : Int)∧j≤l.length∧l.length < j + kx∧Aside0 (Below w.heap.size w wr))
 case atStart=>exact ⟨0,rfl,by omega,by omega,B⟩
 case round =>
  clear B
  obtain ⟨j,rfl,hj,hk,B⟩:=hrel
  have h48:=L48.out
  by_cases hlt : j < l.length
  ·obtain ⟨d,rfl⟩ : ∃ d,gk=d + 1:=⟨gk - 1,by omega⟩
   have cj : decide ((j : Int) < (l.length : Int))=true:=decide_eq_true (by omega)
   obtain ⟨ad,hA,_⟩:=at_T76 (cb HR0 B) (j : Int) (by omega) (by omega)
   cases hA
   obtain ⟨bd,hA,_⟩:=at_T76 (cb HR1 B) (j : Int) (by omega) (by omega)
   cases hA
   have j1:=eq_true (show (j : Int) < (l.length : Int) by omega)
   have j2:=eq_true hlt
   generalize hy : rd_T76 l (j : Int)=y
   try go_wp2
   all_goals (
    refine rg (n:=10) (S:=fun W=>Kd.C k76 W (some ad) l.length l∧Kd.C k76 W (some bd) l.length l) (ds:=[]) #[false,false,false,false,false,false,false,false,false,false] (by kernel_rfl) rfl rfl ⟨(cb HR0 B),(cb HR1 B)⟩ id B (fun w1 hb B hHeld=>?_)
    refine with_tabW laws_eqSessionS.tab6 laws_eqSessionS.bits6 (fun HT_ HW_=>?_)
    clear hb
    refine pvq 0 (some 17) (bits 10 1) HT_ ?_
    refine pvq 1 (some 18) (bits 10 3) HT_ ?_
    refine pvq 2 (some 19) (bits 10 7) HT_ ?_
    refine tvq 3 (some 20) (bits 10 15) HT_ HW_ rfl hHeld (by intro w' hS;obtain ⟨s0,s1⟩:=hS;obtain ⟨_,hA,q0,q1,q2⟩:=at_T76 s0 (j : Int) (by omega) (by omega);cases hA;rw [Int.toNat_natCast] at q0 q1 q2;rw [hy] at q0 q1 q2;go_simp;with_reducible rfl) ?_
    refine pvq 4 (some 21) (bits 10 31) HT_ ?_
    refine pvq 5 (some 22) (bits 10 63) HT_ ?_
    refine pvq 6 (some 23) (bits 10 127) HT_ ?_
    refine tvq 7 (some 24) (bits 10 255) HT_ HW_ rfl hHeld (by intro w' hS;obtain ⟨s0,s1⟩:=hS;obtain ⟨_,hA,q0,q1,q2⟩:=at_T76 s1 (j : Int) (by omega) (by omega);cases hA;rw [Int.toNat_natCast] at q0 q1 q2;rw [hy] at q0 q1 q2;go_simp;with_reducible rfl) ?_
    refine nmq ?_
    refine one_ (i:=8) (N:=some 25) (bits 10 511) rfl rfl (one_of HT_.out (by kernel_rfl)) (by decide) (fun K hK=>?_)
    refine gsq Try.func102 #[.agg #[.int .i64 (y.f0),.int .i64 (y.f1),.int .i64 (y.f2)],.agg #[.int .i64 (y.f0),.int .i64 (y.f1),.int .i64 (y.f2)]] ?_
    with_reducible refine cl (laws_eqSession.M y.f0 y.f1 y.f2 _) B fun w2 hb B=>?_
    clear hb
    refine ⟨_,rfl,?_⟩
    refine hK.out _ _ ⟨(cb HR0 B),(cb HR1 B)⟩ (fun hHeld=>?_)
    clear hK K
    refine npq (some 25) ?_
    refine pvq 9 (some 26) (bits 10 1023) HT_ ?_
    refine nmq ?_
    refine done_ (done_of HT_.out (by kernel_rfl)) ?_
    try go_wp2
    go_roundg d
    case measure=>omega
    case rel=>exact ⟨j + 1,congrArg (Value.int .i64) (Int.natCast_succ _).symm,by omega,by omega,B⟩)
   all_goals try go_wp2
  ·have cj : decide ((j : Int) < (l.length : Int))=false:=decide_eq_false (by omega)
   go_wp2
   go_ret
   exact ⟨rfl,B.out⟩
theorem laws_eqState.M (a b : ByteArray) (AP : Option Addr) (cP : Nat) (AQ : Option Addr) (cQ : Nat) (ps : List S105) (AS : Option Addr) (cS : Nat) (AU : Option Addr) (cU : Nat) (ss : List S76) (t : Bool) (c : ByteArray) (w : World) (hrp : Kd.C k105 w AP ps.length ps) (hrq : Kd.C k105 w AQ ps.length ps) (hrs : Kd.C k76 w AS ss.length ss) (hru : Kd.C k76 w AU ss.length ss) : Calls Try.prog 13 #[.agg #[.string a,.string b,.slice AP ps.length cP,.slice AS ss.length cS,.bool t,.string c],.agg #[.string a,.string b,.slice AQ ps.length cQ,.slice AU ss.length cU,.bool t,.string c]] w fun e w'=>e=.returned (.bool true)∧Below w.heap.size w w':=by
 have B:=Aside0.mk (Below.refl w.heap.size w)
 have hu:=Try.underlying38
 have HRP:=Aside0.mk hrp
 have HRQ:=Aside0.mk hrq
 have HRS:=Aside0.mk hrs
 have HRU:=Aside0.mk hru
 clear hrp hrq hrs hru
 go_enter Try.func13,Try.ntmps13
 go_wp2_with (first
  | ((with_reducible refine gate_dst (N:=2) rfl ?_);refine bxq 2 #[.string a,.string b,.slice AP ps.length cP,.slice AS ss.length cS,.bool t,.string c] 38 B fun g2 w1 hb B F2 L2 E2=>?_;obtain ⟨c2_0,c2_1,c2_2,c2_3,c2_4,c2_5⟩:=cs6 F2;clear hb E2)
  | ((with_reducible refine gate_dst (N:=3) rfl ?_);refine bxq 3 #[.string a,.string b,.slice AQ ps.length cQ,.slice AU ss.length cU,.bool t,.string c] 38 B fun g3 w2 hb B F3 L3 E3=>?_;replace F2:=bn F2 hb;clear c2_0 c2_1 c2_2 c2_3 c2_4 c2_5;obtain ⟨c2_0,c2_1,c2_2,c2_3,c2_4,c2_5⟩:=cs6 F2;obtain ⟨c3_0,c3_1,c3_2,c3_3,c3_4,c3_5⟩:=cs6 F3;clear hb E3)
  | (go_at_call 54;with_reducible refine cl (laws_eqInterval.M a b _) B fun w3 hb B=>?_;replace F2:=bn F2 hb;replace F3:=bn F3 hb;clear c2_0 c2_1 c2_2 c2_3 c2_4 c2_5;obtain ⟨c2_0,c2_1,c2_2,c2_3,c2_4,c2_5⟩:=cs6 F2;clear c3_0 c3_1 c3_2 c3_3 c3_4 c3_5;obtain ⟨c3_0,c3_1,c3_2,c3_3,c3_4,c3_5⟩:=cs6 F3;clear hb)
  | (go_at_call 55;with_reducible refine cl (laws_eqPairS.M _ _ _ _ ps _ (cb HRP B) (cb HRQ B)) B fun w4 hb B=>?_;replace F2:=bn F2 hb;replace F3:=bn F3 hb;clear c2_0 c2_1 c2_2 c2_3 c2_4 c2_5;obtain ⟨c2_0,c2_1,c2_2,c2_3,c2_4,c2_5⟩:=cs6 F2;clear c3_0 c3_1 c3_2 c3_3 c3_4 c3_5;obtain ⟨c3_0,c3_1,c3_2,c3_3,c3_4,c3_5⟩:=cs6 F3;clear hb)
  | (go_at_call 56;with_reducible refine cl (laws_eqSessionS.M _ _ _ _ ss _ (cb HRS B) (cb HRU B)) B fun w5 hb B=>?_;replace F2:=bn F2 hb;replace F3:=bn F3 hb;clear c2_0 c2_1 c2_2 c2_3 c2_4 c2_5;obtain ⟨c2_0,c2_1,c2_2,c2_3,c2_4,c2_5⟩:=cs6 F2;clear c3_0 c3_1 c3_2 c3_3 c3_4 c3_5;obtain ⟨c3_0,c3_1,c3_2,c3_3,c3_4,c3_5⟩:=cs6 F3;clear hb))
 all_goals go_ret
 all_goals (refine ⟨?_,B.out⟩;first | rfl | simp_all)

/-! Marks: what is written into a list of pairs is found there. -/
theorem mtx_loop (d : Nat) : ∀ (a : Int) (x : ByteArray),0≤a→a≤1000000000000000000→a < 10 ^ d→x.size + d≤1000→∃ r,∀ j,d + 1≤j→laws_markText.l0 j a x=some r:=by
  induction d with
  | zero =>
    intro a x h0 hb h1 hx
    refine ⟨(⟨#[109]⟩ : ByteArray) ++ x,fun j hj=>?_⟩
    obtain ⟨i,rfl⟩ : ∃ i,j=i + 1:=⟨j - 1,by omega⟩
    simp only [laws_markText.l0]
    rw [if_neg (by simp at h1;omega),if_pos (by omega)]
  | succ d ih =>
    intro a x h0 hb h1 hx
    by_cases hp : a > 0
    · have hq : wrap64 (Int.tdiv a 10)=a / 10:=by rw [Int.tdiv_eq_ediv_of_nonneg h0];exact w64 (by omega) (by omega)
      obtain ⟨r,hr⟩:=ih (a / 10) (strOfNums ([(wrap64 (48 + (Int.tmod a 10))) % 256] : List Int) ++ x) (by omega) (by omega) (by rw [Int.pow_succ] at h1;omega) (by rw [ByteArray.size_append,strOfNums_size];simp only [List.length_cons,List.length_nil];omega)
      refine ⟨r,fun j hj=>?_⟩
      obtain ⟨i,rfl⟩ : ∃ i,j=i + 1:=⟨j - 1,by omega⟩
      simp only [laws_markText.l0,Option.bind_some]
      rw [if_pos hp,if_pos (by rw [strOfNums_size];simp only [List.length_cons,List.length_nil];omega),hq]
      exact hr i (by omega)
    · refine ⟨(⟨#[109]⟩ : ByteArray) ++ x,fun j hj=>?_⟩
      obtain ⟨i,rfl⟩ : ∃ i,j=i + 1:=⟨j - 1,by omega⟩
      simp only [laws_markText.l0]
      rw [if_neg hp,if_pos (by omega)]
def mtx (a : Int) : ByteArray:=(laws_markText.f 20 a).getD ⟨#[]⟩
theorem mtx_ok (a : Int) (hb : a≤100000000000000000) (k : Nat) (hk : 20≤k) : laws_markText.f k a=some (mtx a):=by
  unfold mtx laws_markText.f
  by_cases h : a≤0
  · simp only [if_pos h,Option.getD_some]
  · simp only [if_neg h]
    obtain ⟨r,hr⟩:=mtx_loop 19 a ⟨#[]⟩ (by omega) (by omega) (by omega) (by decide)
    rw [hr k (by omega),hr 20 (by omega)]
    rfl
def mkPr (q : Int) : S105:=⟨mtx q,q + 1⟩
def prTo (n : Nat) (q : Int) : List S105:=(List.range n).map fun (i : Nat)=>mkPr (q + 2 * (i : Int))
theorem prTo_length (n : Nat) (q : Int) : (prTo n q).length=n:=by simp [prTo]
theorem rdp_nat {l : List S105} {j : Nat} (h : j < l.length) : rd_T105 l (j : Int)=l[j]:=by
  simp [rd_T105,List.getD_eq_getElem?_getD,List.getElem?_eq_getElem h]
theorem rdp_set {l : List S105} {j : Nat} (h : j < l.length) (x : S105) : rd_T105 (l.set j x) (j : Int)=x:=by
  rw [rdp_nat (by simpa using h)]
  simp
theorem markP_loop (n : Nat) (hn : n≤2097152) (q : Int) (h0 : 0≤q) (h1 : q≤1099511627776) (d : Nat) : ∀ (j : Nat) (xs : List S105),j + d=n→xs.length=n→xs.take j=(prTo n q).take j →
    ∀ k,d + 21≤k→laws_markPairS.l0 k xs (q + 2 * (j : Int)) (j : Int)=some (q + 2 * (n : Int),prTo n q):=by
  induction d with
  | zero =>
    intro j xs hj hl ht k hk
    obtain ⟨k,rfl⟩ : ∃ i,k=i + 1:=⟨k - 1,by omega⟩
    simp only [laws_markPairS.l0]
    rw [if_neg (by omega)]
    rw [List.take_of_length_le (by omega),List.take_of_length_le (by rw [prTo_length];omega)] at ht
    rw [ht,show j=n by omega]
  | succ d ih =>
    intro j xs hj hl ht k hk
    obtain ⟨k,rfl⟩ : ∃ i,k=i + 1:=⟨k - 1,by omega⟩
    have e:=ih (j + 1) (xs.set j (mkPr (q + 2 * (j : Int)))) (by omega) (by simpa using hl) (by
      rw [List.take_succ_eq_append_getElem (by simp;omega),List.take_succ_eq_append_getElem (by rw [prTo_length];omega),← ht]
      simp [List.take_set_of_le,prTo]) k (by omega)
    simp only [laws_markPairS.l0]
    rw [if_pos (by omega),mtx_ok _ (by omega) k (by omega)]
    simp only [Option.bind_some,Int.toNat_natCast]
    rw [if_pos (by omega),w64 (x:=q + 2 * (j : Int) + 1) (by omega) (by omega),w64 (x:=q + 2 * (j : Int) + 1 + 1) (by omega) (by omega),w64 (x:=(j : Int) + 1) (by omega) (by omega)]
    rw [rdp_set (by omega)]
    simp only [List.set_set]
    rw [show q + 2 * (j : Int) + 1 + 1=q + 2 * ((j + 1 : Nat) : Int) by omega]
    exact e
theorem markP (xs : List S105) (hn : xs.length≤2097152) (q : Int) (h0 : 0≤q) (h1 : q≤1099511627776) : laws_markPairS.f (xs.length + 21) xs q=some (q + 2 * (xs.length : Int),prTo xs.length q):=by
  have e:=markP_loop xs.length hn q h0 h1 xs.length 0 xs (by omega) rfl (by simp) (xs.length + 21) (by omega)
  unfold laws_markPairS.f
  simpa using e
theorem heldP_loop (n : Nat) (hn : n≤2097152) (q : Int) (h0 : 0≤q) (h1 : q≤1099511627776) (d : Nat) : ∀ (j : Nat),j + d=n →
    ∀ k,d + 21≤k→laws_heldPairS.l0 k (prTo n q) (q + 2 * (j : Int)) (j : Int)=some (q + 2 * (n : Int)):=by
  induction d with
  | zero =>
    intro j hj k hk
    obtain ⟨k,rfl⟩ : ∃ i,k=i + 1:=⟨k - 1,by omega⟩
    simp only [laws_heldPairS.l0]
    rw [if_neg (by rw [prTo_length];omega),show j=n by omega]
  | succ d ih =>
    intro j hj k hk
    obtain ⟨k,rfl⟩ : ∃ i,k=i + 1:=⟨k - 1,by omega⟩
    have e:=ih (j + 1) (by omega) k (by omega)
    have hx : rd_T105 (prTo n q) (j : Int)=mkPr (q + 2 * (j : Int)):=by
      rw [rdp_nat (by rw [prTo_length];omega)]
      simp [prTo]
    simp only [laws_heldPairS.l0]
    rw [if_pos (by rw [prTo_length];omega),if_pos (by omega),mtx_ok _ (by omega) k (by omega)]
    simp only [Option.bind_some]
    rw [hx,w64 (x:=q + 2 * (j : Int) + 1) (by omega) (by omega),w64 (x:=q + 2 * (j : Int) + 1 + 1) (by omega) (by omega),w64 (x:=(j : Int) + 1) (by omega) (by omega)]
    rw [if_pos (show (mkPr (q + 2 * (j : Int))).f0.toList=(mtx (q + 2 * (j : Int))).toList from rfl),if_pos (show (mkPr (q + 2 * (j : Int))).f1=q + 2 * (j : Int) + 1 from rfl)]
    rw [show q + 2 * (j : Int) + 1 + 1=q + 2 * ((j + 1 : Nat) : Int) by omega]
    exact e
theorem heldP (n : Nat) (hn : n≤2097152) (q : Int) (h0 : 0≤q) (h1 : q≤1099511627776) : laws_heldPairS.f (n + 21) (prTo n q) q=some (q + 2 * (n : Int)):=by
  have e:=heldP_loop n hn q h0 h1 n 0 (by omega) (n + 21) (by omega)
  unfold laws_heldPairS.f
  simpa using e
theorem cm {P : Program} {F : FuncId} {args : Array Value} {w W : World} {Q : Ending→World→Prop} {α : Type} {d : Kd α} {t : Nat} {ys : List α} {ok S : Nat→Prop} {v u : Value} (c : Calls P F args W fun e w'=>e=.returned u∧d.R t w' w.heap.size ok v ys∧Below w.heap.size w w'∧Kept W w' S)
    (h : ∀ W',Kept W W' S→Aside0 (Below w.heap.size w W')→Aside0 (Ow d t W' w.heap.size v ys)→Q (.returned u) W') : Calls P F args W Q :=
  c.mono (by rintro e W' ⟨rfl,hr,hb,hk⟩;exact h W' hk ⟨hb⟩ ⟨Kd.R_mono hr (fun _ _=>trivial)⟩)
theorem bkp {W W' : World} {α : Type} {d : Kd α} {e b g t : Nat} {cs : Array Value} {v : Value} {xs : List α} (F : Aside0 (W.heap[g]?=some (.cells cs t (0,0)))) (hk : Kept W W' fun k=>some k=v.ownBlock) (R : Aside0 (Ow d e W b v xs)) (ht : e ≠ t) : Aside0 (W'.heap[g]?=some (.cells cs t (0,0))) :=
  ⟨blk_kept F.out hk (fun h=>Kd.R_ne R.out F.out ht h)⟩
theorem rkp {W W' : World} {β : Type} {d' : Kd β} {e' b' : Nat} {v v' : Value} {ys : List β} (R' : Aside0 (Ow d' e' W b' v' ys)) (hE : d'.E=[]) (hk : Kept W W' fun k=>some k=v.ownBlock) (ne : ∀ k,v'.ownBlock=some k→v.ownBlock=some k→False) : Aside0 (Ow d' e' W' b' v' ys) :=
  ⟨Kd.R_mono (Kd.R_kept (Kd.R_tight hE R'.out) hk (fun k h1 h2=>ne k h1.symm h2.symm)) (fun _ _=>trivial)⟩
theorem laws_markPairS.M (v : Value) (l : List S105) (q : Int) (w W : World) (B : Aside0 (Below w.heap.size w W)) (R : Aside0 (Ow k105 105 W w.heap.size v l)) (hn : l.length≤2097152) (h0 : 0≤q) (h1 : q≤1099511627776) :
    Calls Try.prog 57 #[v,.int .i64 q] W fun e w'=>e=.returned (.int .i64 (q + 2 * (l.length : Int)))∧Kd.R k105 105 w' w.heap.size (fun k_=>(some k_=v.ownBlock ∨ W.heap.size≤k_)) v (prTo l.length q)∧Below w.heap.size w w'∧Kept W w' (fun k_=>some k_=v.ownBlock) :=
  laws_markPairS.calls (l.length + 21) (fun k=>some k=v.ownBlock) v l q _ _ w W B.out (Kd.R_tight rfl R.out) (markP l hn q h0 h1)
theorem laws_heldPairS.M (A : Option Addr) (c n : Nat) (l : List S105) (q : Int) (hl : l=prTo n q) (W : World) (hr : Kd.C k105 W A l.length l) (hc : l.length≤c) (hn : n≤2097152) (h0 : 0≤q) (h1 : q≤1099511627776) :
    Calls Try.prog 59 #[.slice A l.length c,.int .i64 q] W fun e w'=>e=.returned (.int .i64 (q + 2 * (n : Int)))∧Below W.heap.size W w' :=
  laws_heldPairS.calls (n + 21) A c l q _ W hr hc (by rw [hl];exact heldP n hn q h0 h1)
theorem laws_heldPairS.M2 (A : Option Addr) (c : Nat) (l : List S105) (q : Int) (W : World) (hr : Kd.C k105 W A (prTo l.length q).length (prTo l.length q)) (hc : (prTo l.length q).length≤c) (hn : l.length≤2097152) (h0 : 0≤q) (h1 : q≤1099511627776) :
    Calls Try.prog 59 #[.slice A l.length c,.int .i64 q] W fun e w'=>e=.returned (.int .i64 (q + 2 * (l.length : Int)))∧Below W.heap.size W w':=by
  have h:=laws_heldPairS.M A c l.length (prTo l.length q) q rfl W hr hc hn h0 h1
  rwa [prTo_length] at h
theorem rl2 {α : Type} {d : Kd α} {e b n : Nat} {W : World} {A : Option Addr} {c : Nat} {xs : List α} (R : Aside0 (Ow d e W b (.slice A n c) xs)) : xs.length≤c:=by have h:=Kd.R_reads' R.out;have:=h.1;have:=h.2.1;omega

/-! Marks: what is written into a list of sessions is found there. -/
def mkSes (k : Int) : S76:=⟨k,k + 1,k + 2⟩
def sesTo (n : Nat) (q : Int) : List S76:=(List.range n).map fun (i : Nat)=>mkSes (q + 3 * (i : Int))
theorem sesTo_length (n : Nat) (q : Int) : (sesTo n q).length=n:=by simp [sesTo]
theorem rds_set {l : List S76} {j : Nat} (h : j < l.length) (x : S76) : rd_T76 (l.set j x) (j : Int)=x:=by
  rw [ses_nat (by simpa using h)]
  simp
theorem markSes_loop (n : Nat) (hn : n≤2097152) (q : Int) (h0 : 0≤q) (h1 : q≤1099511627776) (d : Nat) : ∀ (j : Nat) (xs : List S76),j + d=n→xs.length=n→xs.take j=(sesTo n q).take j →
    ∀ k,d + 1≤k→laws_markSessionS.l0 k xs (q + 3 * (j : Int)) (j : Int)=some (q + 3 * (n : Int),sesTo n q):=by
  induction d with
  | zero =>
    intro j xs hj hl ht k hk
    obtain ⟨k,rfl⟩ : ∃ i,k=i + 1:=⟨k - 1,by omega⟩
    simp only [laws_markSessionS.l0]
    rw [if_neg (by omega)]
    rw [List.take_of_length_le (by omega),List.take_of_length_le (by rw [sesTo_length];omega)] at ht
    rw [ht,show j=n by omega]
  | succ d ih =>
    intro j xs hj hl ht k hk
    obtain ⟨k,rfl⟩ : ∃ i,k=i + 1:=⟨k - 1,by omega⟩
    have e:=ih (j + 1) (xs.set j (mkSes (q + 3 * (j : Int)))) (by omega) (by simpa using hl) (by
      rw [List.take_succ_eq_append_getElem (by simp;omega),List.take_succ_eq_append_getElem (by rw [sesTo_length];omega),← ht]
      simp [List.take_set_of_le,sesTo]) k (by omega)
    · simp only [laws_markSessionS.l0,Option.bind_some,Int.toNat_natCast]
      rw [if_pos (by omega),if_pos (by omega),w64 (x:=q + 3 * (j : Int) + 1) (by omega) (by omega),w64 (x:=q + 3 * (j : Int) + 1 + 1) (by omega) (by omega),w64 (x:=q + 3 * (j : Int) + 1 + 1 + 1) (by omega) (by omega),w64 (x:=(j : Int) + 1) (by omega) (by omega)]
      rw [rds_set (by omega),rds_set (by rw [List.length_set];omega)]
      simp only [List.set_set]
      rw [show q + 3 * (j : Int) + 1 + 1 + 1=q + 3 * ((j + 1 : Nat) : Int) by omega]
      refine Eq.trans ?_ e
      rw [show mkSes (q + 3 * (j : Int))=(⟨q + 3 * (j : Int),q + 3 * (j : Int) + 1,q + 3 * (j : Int) + 1 + 1⟩ : S76) from by unfold mkSes;congr 1;omega]
      rfl
theorem markSes (xs : List S76) (hn : xs.length≤2097152) (q : Int) (h0 : 0≤q) (h1 : q≤1099511627776) :
    laws_markSessionS.f (xs.length + 21) xs q=some (q + 3 * (xs.length : Int),sesTo xs.length q):=by
  have e:=markSes_loop xs.length hn q h0 h1 xs.length 0 xs (by omega) rfl (by simp) (xs.length + 21) (by omega)
  unfold laws_markSessionS.f
  simpa using e
theorem heldSes_loop (n : Nat) (hn : n≤2097152) (q : Int) (h0 : 0≤q) (h1 : q≤1099511627776) (d : Nat) : ∀ (j : Nat),j + d=n →
    ∀ k,d + 1≤k→laws_heldSessionS.l0 k (sesTo n q) (q + 3 * (j : Int)) (j : Int)=some (q + 3 * (n : Int)):=by
  induction d with
  | zero =>
    intro j hj k hk
    obtain ⟨k,rfl⟩ : ∃ i,k=i + 1:=⟨k - 1,by omega⟩
    simp only [laws_heldSessionS.l0]
    rw [if_neg (by rw [sesTo_length];omega),show j=n by omega]
  | succ d ih =>
    intro j hj k hk
    obtain ⟨k,rfl⟩ : ∃ i,k=i + 1:=⟨k - 1,by omega⟩
    have e:=ih (j + 1) (by omega) k (by omega)
    have hx : rd_T76 (sesTo n q) (j : Int)=mkSes (q + 3 * (j : Int)):=by
      rw [ses_nat (by rw [sesTo_length];omega)]
      simp [sesTo]
    simp only [laws_heldSessionS.l0]
    rw [if_pos (by rw [sesTo_length];omega),if_pos (by omega),hx,w64 (x:=q + 3 * (j : Int) + 1) (by omega) (by omega),w64 (x:=q + 3 * (j : Int) + 1 + 1) (by omega) (by omega),w64 (x:=q + 3 * (j : Int) + 1 + 1 + 1) (by omega) (by omega),w64 (x:=(j : Int) + 1) (by omega) (by omega)]
    rw [if_pos (show (mkSes (q + 3 * (j : Int))).f0=q + 3 * (j : Int) from rfl),if_pos (show (mkSes (q + 3 * (j : Int))).f1=q + 3 * (j : Int) + 1 from rfl),if_pos (show (mkSes (q + 3 * (j : Int))).f2=q + 3 * (j : Int) + 1 + 1 from show q + 3 * (j : Int) + 2=q + 3 * (j : Int) + 1 + 1 by omega)]
    rw [show q + 3 * (j : Int) + 1 + 1 + 1=q + 3 * ((j + 1 : Nat) : Int) by omega]
    exact e
theorem heldSes (n : Nat) (hn : n≤2097152) (q : Int) (h0 : 0≤q) (h1 : q≤1099511627776) : laws_heldSessionS.f (n + 21) (sesTo n q) q=some (q + 3 * (n : Int)):=by
  have e:=heldSes_loop n hn q h0 h1 n 0 (by omega) (n + 21) (by omega)
  unfold laws_heldSessionS.f
  simpa using e
theorem laws_markSessionS.M (v : Value) (l : List S76) (q : Int) (w W : World) (B : Aside0 (Below w.heap.size w W)) (R : Aside0 (Ow k76 76 W w.heap.size v l)) (hn : l.length≤2097152) (h0 : 0≤q) (h1 : q≤1099511627776) :
    Calls Try.prog 58 #[v,.int .i64 q] W fun e w'=>e=.returned (.int .i64 (q + 3 * (l.length : Int)))∧Kd.R k76 76 w' w.heap.size (fun k_=>(some k_=v.ownBlock ∨ W.heap.size≤k_)) v (sesTo l.length q)∧Below w.heap.size w w'∧Kept W w' (fun k_=>some k_=v.ownBlock) :=
  laws_markSessionS.calls (l.length + 21) (fun k=>some k=v.ownBlock) v l q _ _ w W B.out (Kd.R_tight rfl R.out) (markSes l hn q h0 h1)
theorem laws_heldSessionS.M2 (A : Option Addr) (c : Nat) (l : List S76) (q : Int) (W : World) (hr : Kd.C k76 W A (sesTo l.length q).length (sesTo l.length q)) (hc : (sesTo l.length q).length≤c) (hn : l.length≤2097152) (h0 : 0≤q) (h1 : q≤1099511627776) :
    Calls Try.prog 60 #[.slice A l.length c,.int .i64 q] W fun e w'=>e=.returned (.int .i64 (q + 3 * (l.length : Int)))∧Below W.heap.size W w':=by
  have h:=dnB (laws_heldSessionS.calls (l.length + 21) A c (sesTo l.length q) q _ W hr hc (heldSes l.length hn q h0 h1))
  rwa [sesTo_length] at h

theorem laws_markState.M (a b : ByteArray) (AP : Option Addr) (cP : Nat) (ps : List S105) (AS : Option Addr) (cS : Nat) (ss : List S76) (t : Bool) (c : ByteArray) (q : Int) (w W : World) (B : Aside0 (Below w.heap.size w W)) (RP : Aside0 (Ow k105 105 W w.heap.size (.slice AP ps.length cP) ps)) (RS : Aside0 (Ow k76 76 W w.heap.size (.slice AS ss.length cS) ss)) (hp : ps.length≤2097152) (hs : ss.length≤2097152) (h0 : 0≤q) (h1 : q≤1000000000000) : Calls Try.prog 14 #[.agg #[.string a,.string b,.slice AP ps.length cP,.slice AS ss.length cS,.bool t,.string c],.int .i64 q] W fun e w'=>e=.returned (.int .i64 (q + 2 * (ps.length : Int) + 3 * (ss.length : Int)))∧Kd.R k105 105 w' w.heap.size (fun _=>True) (.slice AP ps.length cP) (prTo ps.length q)∧Kd.R k76 76 w' w.heap.size (fun _=>True) (.slice AS ss.length cS) (sesTo ss.length (q + 2 * (ps.length : Int)))∧Below w.heap.size w w'∧Kept W w' (fun k_=>some k_=(Value.slice AP ps.length cP).ownBlock ∨ some k_=(Value.slice AS ss.length cS).ownBlock):=by
 have hu:=Try.underlying38
 have DP_S:=Aside0.mk (dty RP RS (by decide))
 go_enter Try.func14,Try.ntmps14
 go_wp2_with (first
  | ((with_reducible refine gate_dst (N:=2) rfl ?_);refine bxq 2 #[.string a,.string b,.slice AP ps.length cP,.slice AS ss.length cS,.bool t,.string c] 38 B fun g2 w1 hb B F2 L2 E2=>?_;have KK:=Kept.of_below hb (fun k_=>some k_=(Value.slice AP ps.length cP).ownBlock ∨ some k_=(Value.slice AS ss.length cS).ownBlock);replace RP:=rn RP hb;replace RS:=rn RS hb;obtain ⟨c2_0,c2_1,c2_2,c2_3,c2_4,c2_5⟩:=cs6 F2;clear hb E2)
  | (go_at_call 57;with_reducible refine cm (laws_markPairS.M _ ps q w _ B RP (by assumption) (by omega) (by omega)) fun w2 hk B RX=>?_;replace KK:=KK.then_ hk (fun k_ h_=>.inl (.inl h_));replace F2:=bkp F2 hk RP (by decide);replace RS:=rkp RS rfl hk (dty RP RS (by decide));replace RP:=RX;clear hk;clear c2_0 c2_1 c2_2 c2_3 c2_4 c2_5;obtain ⟨c2_0,c2_1,c2_2,c2_3,c2_4,c2_5⟩:=cs6 F2;skip)
  | (go_at_call 58;with_reducible refine cm (laws_markSessionS.M _ ss (q + 2 * (ps.length : Int)) w _ B RS (by assumption) (by omega) (by omega)) fun w3 hk B RX=>?_;replace KK:=KK.then_ hk (fun k_ h_=>.inl (.inr h_));replace RP:=rkp RP rfl hk (dty RS RP (by decide));replace RS:=RX;clear hk;skip))
 go_ret
 exact ⟨rfl,RP.out,RS.out,B.out,KK⟩
theorem laws_heldState.M (a b : ByteArray) (AP : Option Addr) (cP : Nat) (ps : List S105) (AS : Option Addr) (cS : Nat) (ss : List S76) (t : Bool) (c : ByteArray) (q : Int) (w : World) (hrp : Kd.C k105 w AP (prTo ps.length q).length (prTo ps.length q)) (hcp : (prTo ps.length q).length≤cP) (hrs : Kd.C k76 w AS (sesTo ss.length (q + 2 * (ps.length : Int))).length (sesTo ss.length (q + 2 * (ps.length : Int)))) (hcs : (sesTo ss.length (q + 2 * (ps.length : Int))).length≤cS) (hp : ps.length≤2097152) (hs : ss.length≤2097152) (h0 : 0≤q) (h1 : q≤1000000000000) : Calls Try.prog 15 #[.agg #[.string a,.string b,.slice AP ps.length cP,.slice AS ss.length cS,.bool t,.string c],.int .i64 q] w fun e w'=>e=.returned (.int .i64 (q + 2 * (ps.length : Int) + 3 * (ss.length : Int)))∧Below w.heap.size w w':=by
 have B:=Aside0.mk (Below.refl w.heap.size w)
 have hu:=Try.underlying38
 have HRP:=Aside0.mk hrp
 have HRS:=Aside0.mk hrs
 have HCP:=Aside0.mk hcp
 have HCS:=Aside0.mk hcs
 clear hrp hrs hcp hcs
 have d1 : decide (q + 2 * (ps.length : Int) < 0)=false:=decide_eq_false (by omega)
 have d2 : decide ((q + 2 * (ps.length : Int) + 3 * (ss.length : Int)) < 0)=false:=decide_eq_false (by omega)
 go_enter Try.func15,Try.ntmps15
 go_wp2_with (first
  | ((with_reducible refine gate_dst (N:=2) rfl ?_);refine bxq 2 #[.string a,.string b,.slice AP ps.length cP,.slice AS ss.length cS,.bool t,.string c] 38 B fun g2 w1 hb B F2 L2 E2=>?_;obtain ⟨c2_0,c2_1,c2_2,c2_3,c2_4,c2_5⟩:=cs6 F2;clear hb E2)
  | (go_at_call 59;with_reducible refine cl (laws_heldPairS.M2 _ _ ps q _ (cb HRP B) HCP.out (by assumption) (by omega) (by omega)) B fun w2 hb B=>?_;replace F2:=bn F2 hb;clear c2_0 c2_1 c2_2 c2_3 c2_4 c2_5;obtain ⟨c2_0,c2_1,c2_2,c2_3,c2_4,c2_5⟩:=cs6 F2;clear hb)
  | (go_at_call 60;with_reducible refine cl (laws_heldSessionS.M2 _ _ ss (q + 2 * (ps.length : Int)) _ (cb HRS B) HCS.out (by assumption) (by omega) (by omega)) B fun w3 hb B=>?_;clear hb))
 all_goals go_ret
 all_goals exact ⟨rfl,B.out⟩

def laws_FnExactApplyEntry.T8 : Bool × List (List Nat × List Nat):=(true,[([],[]),([0],[0]),([],[]),([2,1],[2]),([1,3,3],[1,3]),([4],[4]),([5],[5]),([5],[5]),([],[]),([8,6,4,0,1,2,3,4,5,6,8],[6,8]),([7,9,0,1,2,3,4,5,6,7,8,9],[7])])
def laws_FnExactApplyEntry.B8 : List Nat:=[0,1,0,7,15,31,63,63,0,383,1023]
theorem laws_FnExactApplyEntry.tab8 : rtab .any (opsOf Try.f3 8)=laws_FnExactApplyEntry.T8:=by kernel_rfl
theorem laws_FnExactApplyEntry.bits8 : waitsOk laws_FnExactApplyEntry.T8.2 laws_FnExactApplyEntry.B8=true:=by kernel_rfl
def laws_FnExactApplyEntry.T10 : Bool × List (List Nat × List Nat):=(true,[([],[]),([],[]),([1],[1]),([0,2,2],[0,2]),([3],[3]),([4],[4]),([4],[4]),([],[]),([7,5,3,0,1,2,3,4,5,7],[5,7]),([6,8,0,1,2,3,4,5,6,7,8],[6])])
def laws_FnExactApplyEntry.B10 : List Nat:=[0,0,2,7,15,31,31,0,191,511]
theorem laws_FnExactApplyEntry.tab10 : rtab .any (opsOf Try.f3 10)=laws_FnExactApplyEntry.T10:=by kernel_rfl
theorem laws_FnExactApplyEntry.bits10 : waitsOk laws_FnExactApplyEntry.T10.2 laws_FnExactApplyEntry.B10=true:=by kernel_rfl
def laws_FnExactApplyEntry.T13 : Bool × List (List Nat × List Nat):=(true,[([],[]),([],[]),([1],[1]),([0,2,2],[0,2]),([3],[3])])
def laws_FnExactApplyEntry.B13 : List Nat:=[0,0,2,7,15]
theorem laws_FnExactApplyEntry.tab13 : rtab .any (opsOf Try.f3 13)=laws_FnExactApplyEntry.T13:=by kernel_rfl
theorem laws_FnExactApplyEntry.bits13 : waitsOk laws_FnExactApplyEntry.T13.2 laws_FnExactApplyEntry.B13=true:=by kernel_rfl
def laws_FnExactApplyEntry.T27 : Bool × List (List Nat × List Nat):=(true,[([],[]),([0],[0]),([],[]),([2,1],[2]),([1,3,3],[1,3]),([4],[4]),([5],[5]),([5],[5]),([],[]),([8,6,4,0,1,2,3,4,5,6,8],[6,8]),([7,9,0,1,2,3,4,5,6,7,8,9],[7])])
def laws_FnExactApplyEntry.B27 : List Nat:=[0,1,0,7,15,31,63,63,0,383,1023]
theorem laws_FnExactApplyEntry.tab27 : rtab .any (opsOf Try.f3 27)=laws_FnExactApplyEntry.T27:=by kernel_rfl
theorem laws_FnExactApplyEntry.bits27 : waitsOk laws_FnExactApplyEntry.T27.2 laws_FnExactApplyEntry.B27=true:=by kernel_rfl
theorem laws_FnExactApplyEntry.M (a b : ByteArray) (AP : Option Addr) (cP : Nat) (ps : List S114) (AS : Option Addr) (cS : Nat) (ss : List S123) (t : Bool) (c : ByteArray) (ci sq k : Int) (x : ByteArray) (v o : Int) (w : World) (hrp : Kd.C k114 w AP ps.length ps) (hrs : Kd.C k123 w AS ss.length ss) (hs : (a.size≤9223372036854775807∧b.size≤9223372036854775807∧c.size≤9223372036854775807∧∀ y ∈ ps,y.f0.size≤9223372036854775807)∧x.size≤9223372036854775807) : Calls Try.prog 3 #[.agg #[.string a,.string b,.slice AP ps.length cP,.slice AS ss.length cS,.bool t,.string c],.agg #[.int .i64 ci,.int .i64 sq,.int .i64 k,.string x,.int .i64 v,.int .i64 o]] w fun e w'=>e=.returned (.bool true)∧Below w.heap.size w w':=by
 have B:=Aside0.mk (Below.refl w.heap.size w)
 have hu:=Try.underlying38
 have hu2:=Try.underlying27
 have hu3:=Try.underlying31
 obtain ⟨hs,hxs⟩:=hs
 have HXS:=Aside0.mk hxs
 clear hxs
 by_cases hsz : ps.length≤1048576∧ss.length≤1048576
 ·obtain ⟨hl1,hl2⟩:=hsz
  have hsa : (0 : Int)≤1:=by omega
  have hsb : (1 : Int)≤1000000000000:=by omega
  have HRP:=Aside0.mk hrp
  have HRS:=Aside0.mk hrs
  have HSA:=Aside0.mk hs
  clear hrp hrs hs
  obtain ⟨qs,hqs⟩ : ∃ qs,ps.map prOf=qs:=⟨_,rfl⟩
  obtain ⟨us,hus⟩ : ∃ us,ss.map sesOf=us:=⟨_,rfl⟩
  have HQS:=Aside0.mk hqs
  have HUS:=Aside0.mk hus
  have hql : qs.length≤1048576:=by rw [← hqs,List.length_map];exact hl1
  have hul : us.length≤1048576:=by rw [← hus,List.length_map];exact hl2
  clear hqs hus
  obtain ⟨hx1,hx2⟩:=aeM_len ⟨a,b,qs,us,t,c⟩ ci sq k x v o
  obtain ⟨⟨⟨xa,xb,xp,xs,xt,xc⟩,nn⟩,hm⟩ : ∃ r,aeM ⟨a,b,qs,us,t,c⟩ ci sq k x v o=r:=⟨_,rfl⟩
  have HM:=Aside0.mk hm
  rw [hm] at hx1 hx2
  replace hx1 : xp.length≤qs.length + 1:=hx1
  replace hx2 : xs.length≤us.length + 1:=hx2
  clear hm
  have hy1 : xp.length≤2097152:=by omega
  have hy2 : xs.length≤2097152:=by omega
  have hy5 : qs.length≤2097152:=by omega
  have hy6 : us.length≤2097152:=by omega
  have : 0≤(1 + 2 * (qs.length : Int) + 3 * (us.length : Int)):=by omega
  have : (1 + 2 * (qs.length : Int) + 3 * (us.length : Int))≤1000000000000:=by omega
  have : decide ((1 + 2 * (qs.length : Int) + 3 * (us.length : Int)) < 0)=false:=decide_eq_false (by omega)
  have : 0≤(1 + 2 * (xp.length : Int) + 3 * (xs.length : Int)):=by omega
  have : (1 + 2 * (xp.length : Int) + 3 * (xs.length : Int))≤1000000000000:=by omega
  have : decide ((1 + 2 * (xp.length : Int) + 3 * (xs.length : Int)) < 0)=false:=decide_eq_false (by omega)
  clear hx1 hx2
  go_enter Try.func3,Try.ntmps3
  go_wp2_with (first
   | ((with_reducible refine gate_dst (N:=2) rfl ?_);refine bxq 2 #[.string a,.string b,.slice AP ps.length cP,.slice AS ss.length cS,.bool t,.string c] 27 B fun g2 w1 hb B F2 L2 E2=>?_;obtain ⟨c2_0,c2_1,c2_2,c2_3,c2_4,c2_5⟩:=cs6 F2;clear hb E2)
   | ((with_reducible refine gate_dst (N:=3) rfl ?_);refine bxq 3 #[.int .i64 (ci),.int .i64 (sq),.int .i64 (k),.string x,.int .i64 (v),.int .i64 (o)] 31 B fun g3 w2 hb B F3 L3 E3=>?_;replace F2:=bn F2 hb;clear c2_0 c2_1 c2_2 c2_3 c2_4 c2_5;obtain ⟨c2_0,c2_1,c2_2,c2_3,c2_4,c2_5⟩:=cs6 F2;obtain ⟨c3_0,c3_1,c3_2,c3_3,c3_4,c3_5⟩:=cs6 F3;clear hb E3)
   | (go_at_call 7;with_reducible refine cx (laws_szState.M a b _ _ ps _ _ ss t c 1048576 w2 (cb HRP B) (cb HRS B) (by omega) HSA.out) B fun v3 hv3 w3 hb B=>?_;replace F2:=bn F2 hb;replace F3:=bn F3 hb;clear c2_0 c2_1 c2_2 c2_3 c2_4 c2_5;obtain ⟨c2_0,c2_1,c2_2,c2_3,c2_4,c2_5⟩:=cs6 F2;clear c3_0 c3_1 c3_2 c3_3 c3_4 c3_5;obtain ⟨c3_0,c3_1,c3_2,c3_3,c3_4,c3_5⟩:=cs6 F3;clear hb)
   | (go_at_call 8;with_reducible refine cx (laws_szEntry.M ci sq k x v o v3 w3 (by omega) HXS.out) B fun v4 hv4 w4 hb B=>?_;replace F2:=bn F2 hb;replace F3:=bn F3 hb;clear c2_0 c2_1 c2_2 c2_3 c2_4 c2_5;obtain ⟨c2_0,c2_1,c2_2,c2_3,c2_4,c2_5⟩:=cs6 F2;clear c3_0 c3_1 c3_2 c3_3 c3_4 c3_5;obtain ⟨c3_0,c3_1,c3_2,c3_3,c3_4,c3_5⟩:=cs6 F3;clear hb))
  all_goals try (go_ret;exact ⟨rfl,B.out⟩)
  all_goals (
   refine rg (n:=11) (S:=fun W=>W.heap[g2]?=some (.cells #[.string a,.string b,.slice AP ps.length cP,.slice AS ss.length cS,.bool t,.string c] 27 (0,0))∧W.heap[g3]?=some (.cells #[.int .i64 (ci),.int .i64 (sq),.int .i64 (k),.string x,.int .i64 (v),.int .i64 (o)] 31 (0,0))) (ds:=[]) #[false,false,false,false,false,false,false,false,false,false,false] (by kernel_rfl) rfl rfl ⟨F2.out,F3.out⟩ id B (fun w5 hb B hHeld=>?_)
   refine with_tabW laws_FnExactApplyEntry.tab8 laws_FnExactApplyEntry.bits8 (fun HT_ HW_=>?_)
   replace F2:=bn F2 hb
   replace F3:=bn F3 hb
   clear hb
   refine join_ 2 (bits 11 511) (σ:=Option Addr × Nat × Option Addr × Nat × Option Addr × Nat × Option Addr × Nat × Nat) (fun (APs28,kPs28,ASs28,kSs28,APs31,kPs31,ASs31,kSs31,g6)=>[(27,.agg #[.string a,.string b,.slice AP ps.length cP,.slice AS ss.length cS,.bool t,.string c]),(28,.agg #[.string a,.string b,.slice APs28 qs.length kPs28,.slice ASs28 us.length kSs28,.bool t,.string c]),(29,.agg #[.int .i64 (ci),.int .i64 (sq),.int .i64 (k),.string x,.int .i64 (v),.int .i64 (o)]),(30,.agg #[.int .i64 (ci),.int .i64 (sq),.int .i64 (k),.string x,.int .i64 (v),.int .i64 (o)]),(31,.tuple #[.agg #[.string xa,.string xb,.slice APs31 xp.length kPs31,.slice ASs31 xs.length kSs31,.bool xt,.string xc],.int .i64 (nn)]),(26,.tuple #[.agg #[.string xa,.string xb,.slice APs31 xp.length kPs31,.slice ASs31 xs.length kSs31,.bool xt,.string xc],.int .i64 (nn)]),(32,.agg #[.string xa,.string xb,.slice APs31 xp.length kPs31,.slice ASs31 xs.length kSs31,.bool xt,.string xc]),(33,.int .i64 (nn)),(6,.pointer (some ⟨g6,0,none⟩))]) (fun (APs28,kPs28,ASs28,kSs28,APs31,kPs31,ASs31,kSs31,g6) W=>Aside0 (Below w.heap.size w W)∧Aside0 (W.heap[g2]?=some (.cells #[.string a,.string b,.slice AP ps.length cP,.slice AS ss.length cS,.bool t,.string c] 27 (0,0)))∧Aside0 (W.heap[g3]?=some (.cells #[.int .i64 (ci),.int .i64 (sq),.int .i64 (k),.string x,.int .i64 (v),.int .i64 (o)] 31 (0,0)))∧Aside0 (W.heap[g6]?=some (.cells #[.string (⟨#[]⟩ : ByteArray),.string (⟨#[]⟩ : ByteArray),.slice none 0 0,.slice none 0 0,.bool false,.string (⟨#[]⟩ : ByteArray)] 38 (0,0)))∧Aside0 (w.heap.size≤g6)∧Aside0 (g2 ≠ g6)∧Aside0 (g3 ≠ g6)∧Aside0 (Ow k105 105 W w.heap.size (.slice APs31 xp.length kPs31) xp)∧Aside0 (Ow k76 76 W w.heap.size (.slice ASs31 xs.length kSs31) xs)) ?_ (fun J=>?_)
   rotate_left
   ·refine tvq 0 (some 27) (bits 11 1) HT_ HW_ rfl hHeld (by intro w' hS;obtain ⟨s0,s1⟩:=hS;obtain ⟨q0,q1,q2,q3,q4,q5⟩:=cs6 (Aside0.mk s0);go_simp;with_reducible rfl) ?_
    refine tvq 2 (some 29) (bits 11 5) HT_ HW_ rfl hHeld (by intro w' hS;obtain ⟨s0,s1⟩:=hS;obtain ⟨q0,q1,q2,q3,q4,q5⟩:=cs6 (Aside0.mk s1);go_simp;with_reducible rfl) ?_
    refine nmq ?_
    refine two_ (i:=1) (j:=8) (Ni:=some 28) (Nj:=some 6) (bits 11 7) (bits 11 261) rfl rfl rfl rfl (two_of HT_.out (by kernel_rfl)) (by decide) (by decide) (fun K hK=>?_) (fun K hK=>?_)
    ·refine gsq Try.func10 #[.agg #[.string a,.string b,.slice AP ps.length cP,.slice AS ss.length cS,.bool t,.string c]] ?_
     with_reducible refine c2r (laws_toState.M a b _ _ ps _ _ ss t c qs us w5 (cb HRP B) (cb HRS B) ⟨by omega,by omega⟩ HQS.out HUS.out) B fun APs28 kPs28 ASs28 kSs28 w6 hb B RPs28 QPs28 RSs28 QSs28=>?_
     replace F2:=bn F2 hb
     replace F3:=bn F3 hb
     clear hb
     refine ⟨_,rfl,?_⟩
     refine hK.out _ _ ⟨F2.out,F3.out⟩ (fun hHeld=>?_)
     clear hK K
     refine npq (some 28) ?_
     clear QPs28 QSs28
     refine two_ (i:=3) (j:=8) (Ni:=some 30) (Nj:=some 6) (bits 11 15) (bits 11 263) rfl rfl rfl rfl (two_of HT_.out (by kernel_rfl)) (by decide) (by decide) (fun K hK=>?_) (fun K hK=>?_)
     ·refine gsq Try.func11 #[.agg #[.int .i64 (ci),.int .i64 (sq),.int .i64 (k),.string x,.int .i64 (v),.int .i64 (o)]] ?_
      with_reducible refine cl (laws_toEntry.M ci sq k x v o w6) B fun w7 hb B=>?_
      replace F2:=bn F2 hb
      replace F3:=bn F3 hb
      replace RPs28:=rn RPs28 hb
      replace RSs28:=rn RSs28 hb
      clear hb
      refine ⟨_,rfl,?_⟩
      refine hK.out _ _ ⟨F2.out,F3.out⟩ (fun hHeld=>?_)
      clear hK K
      refine npq (some 30) ?_
      refine two_ (i:=4) (j:=8) (Ni:=some 31) (Nj:=some 6) (bits 11 31) (bits 11 271) rfl rfl rfl rfl (two_of HT_.out (by kernel_rfl)) (by decide) (by decide) (fun K hK=>?_) (fun K hK=>?_)
      ·refine gsq Try.func9 #[.agg #[.string a,.string b,.slice APs28 qs.length kPs28,.slice ASs28 us.length kSs28,.bool t,.string c],.agg #[.int .i64 (ci),.int .i64 (sq),.int .i64 (k),.string x,.int .i64 (v),.int .i64 (o)]] ?_
       with_reducible refine c2r (spec_ApplyEntry.Mr a b _ _ qs _ _ us t c ci sq k x v o xa xb xp xs xt xc nn HM.out w7 (rc RPs28) (rc RSs28) (rl RPs28) (rl RSs28)) B fun APs31 kPs31 ASs31 kSs31 w8 hb B RPs31 QPs31 RSs31 QSs31=>?_
       replace F2:=bn F2 hb
       replace F3:=bn F3 hb
       clear hb
       refine ⟨_,rfl,?_⟩
       refine hK.out _ _ ⟨F2.out,F3.out⟩ (fun hHeld=>?_)
       clear hK K
       refine npq (some 31) ?_
       clear QPs31 QSs31
       refine pvq 5 (some 26) (bits 11 63) HT_ ?_
       refine pvq 6 (some 32) (bits 11 127) HT_ ?_
       refine pvq 7 (some 33) (bits 11 255) HT_ ?_
       refine nmq ?_
       refine one_ (i:=8) (N:=some 6) (bits 11 511) rfl rfl (one_of HT_.out (by kernel_rfl)) (by decide) (fun K hK=>?_)
       refine bxs (cs:=#[.string (⟨#[]⟩ : ByteArray),.string (⟨#[]⟩ : ByteArray),.slice none 0 0,.slice none 0 0,.bool false,.string (⟨#[]⟩ : ByteArray)]) (t:=38) (by rfl) rfl ?hr B (fun g6 w9 hb B F6 L6 E6=>?_)
       (case hr=>go_simp;first | done | rfl)
       have N2_6:=ne1 E6 F2
       have N3_6:=ne1 E6 F3
       replace F2:=bn F2 hb
       replace F3:=bn F3 hb
       replace RPs31:=rn RPs31 hb
       replace RSs31:=rn RSs31 hb
       clear hb E6
       refine hK.out _ _ ⟨F2.out,F3.out⟩ (fun hHeld=>?_)
       clear hK K
       refine npq (some 6) ?_
       refine norm_ (a':=_) ?_ (J ⟨APs28,kPs28,ASs28,kSs28,APs31,kPs31,ASs31,kSs31,g6⟩ _ ⟨B,F2,F3,F6,L6,N2_6,N3_6,RPs31,RSs31⟩)
       simp only [putAll,Act.put,za,zb,zc]
       try rfl
      ·refine bxs (cs:=#[.string (⟨#[]⟩ : ByteArray),.string (⟨#[]⟩ : ByteArray),.slice none 0 0,.slice none 0 0,.bool false,.string (⟨#[]⟩ : ByteArray)]) (t:=38) (by rfl) rfl ?hr B (fun g6 w8 hb B F6 L6 E6=>?_)
       (case hr=>go_simp;first | done | rfl)
       have N2_6:=ne1 E6 F2
       have N3_6:=ne1 E6 F3
       replace F2:=bn F2 hb
       replace F3:=bn F3 hb
       replace RPs28:=rn RPs28 hb
       replace RSs28:=rn RSs28 hb
       clear hb E6
       refine hK.out _ _ ⟨F2.out,F3.out⟩ (fun hHeld=>?_)
       clear hK K
       refine npq (some 6) ?_
       refine one_ (i:=4) (N:=some 31) (bits 11 287) rfl rfl (one_of HT_.out (by kernel_rfl)) (by decide) (fun K hK=>?_)
       refine gsq Try.func9 #[.agg #[.string a,.string b,.slice APs28 qs.length kPs28,.slice ASs28 us.length kSs28,.bool t,.string c],.agg #[.int .i64 (ci),.int .i64 (sq),.int .i64 (k),.string x,.int .i64 (v),.int .i64 (o)]] ?_
       with_reducible refine c2r (spec_ApplyEntry.Mr a b _ _ qs _ _ us t c ci sq k x v o xa xb xp xs xt xc nn HM.out w8 (rc RPs28) (rc RSs28) (rl RPs28) (rl RSs28)) B fun APs31 kPs31 ASs31 kSs31 w9 hb B RPs31 QPs31 RSs31 QSs31=>?_
       replace F2:=bn F2 hb
       replace F3:=bn F3 hb
       replace F6:=bn F6 hb
       clear hb
       refine ⟨_,rfl,?_⟩
       refine hK.out _ _ ⟨F2.out,F3.out⟩ (fun hHeld=>?_)
       clear hK K
       refine npq (some 31) ?_
       clear QPs31 QSs31
       refine pvq 5 (some 26) (bits 11 319) HT_ ?_
       refine pvq 6 (some 32) (bits 11 383) HT_ ?_
       refine pvq 7 (some 33) (bits 11 511) HT_ ?_
       refine nmq ?_
       refine norm_ (a':=_) ?_ (J ⟨APs28,kPs28,ASs28,kSs28,APs31,kPs31,ASs31,kSs31,g6⟩ _ ⟨B,F2,F3,F6,L6,N2_6,N3_6,RPs31,RSs31⟩)
       simp only [putAll,Act.put,za,zb,zc]
       try rfl
     ·refine bxs (cs:=#[.string (⟨#[]⟩ : ByteArray),.string (⟨#[]⟩ : ByteArray),.slice none 0 0,.slice none 0 0,.bool false,.string (⟨#[]⟩ : ByteArray)]) (t:=38) (by rfl) rfl ?hr B (fun g6 w7 hb B F6 L6 E6=>?_)
      (case hr=>go_simp;first | done | rfl)
      have N2_6:=ne1 E6 F2
      have N3_6:=ne1 E6 F3
      replace F2:=bn F2 hb
      replace F3:=bn F3 hb
      replace RPs28:=rn RPs28 hb
      replace RSs28:=rn RSs28 hb
      clear hb E6
      refine hK.out _ _ ⟨F2.out,F3.out⟩ (fun hHeld=>?_)
      clear hK K
      refine npq (some 6) ?_
      refine one_ (i:=3) (N:=some 30) (bits 11 271) rfl rfl (one_of HT_.out (by kernel_rfl)) (by decide) (fun K hK=>?_)
      refine gsq Try.func11 #[.agg #[.int .i64 (ci),.int .i64 (sq),.int .i64 (k),.string x,.int .i64 (v),.int .i64 (o)]] ?_
      with_reducible refine cl (laws_toEntry.M ci sq k x v o w7) B fun w8 hb B=>?_
      replace F2:=bn F2 hb
      replace F3:=bn F3 hb
      replace F6:=bn F6 hb
      replace RPs28:=rn RPs28 hb
      replace RSs28:=rn RSs28 hb
      clear hb
      refine ⟨_,rfl,?_⟩
      refine hK.out _ _ ⟨F2.out,F3.out⟩ (fun hHeld=>?_)
      clear hK K
      refine npq (some 30) ?_
      refine one_ (i:=4) (N:=some 31) (bits 11 287) rfl rfl (one_of HT_.out (by kernel_rfl)) (by decide) (fun K hK=>?_)
      refine gsq Try.func9 #[.agg #[.string a,.string b,.slice APs28 qs.length kPs28,.slice ASs28 us.length kSs28,.bool t,.string c],.agg #[.int .i64 (ci),.int .i64 (sq),.int .i64 (k),.string x,.int .i64 (v),.int .i64 (o)]] ?_
      with_reducible refine c2r (spec_ApplyEntry.Mr a b _ _ qs _ _ us t c ci sq k x v o xa xb xp xs xt xc nn HM.out w8 (rc RPs28) (rc RSs28) (rl RPs28) (rl RSs28)) B fun APs31 kPs31 ASs31 kSs31 w9 hb B RPs31 QPs31 RSs31 QSs31=>?_
      replace F2:=bn F2 hb
      replace F3:=bn F3 hb
      replace F6:=bn F6 hb
      clear hb
      refine ⟨_,rfl,?_⟩
      refine hK.out _ _ ⟨F2.out,F3.out⟩ (fun hHeld=>?_)
      clear hK K
      refine npq (some 31) ?_
      clear QPs31 QSs31
      refine pvq 5 (some 26) (bits 11 319) HT_ ?_
      refine pvq 6 (some 32) (bits 11 383) HT_ ?_
      refine pvq 7 (some 33) (bits 11 511) HT_ ?_
      refine nmq ?_
      refine norm_ (a':=_) ?_ (J ⟨APs28,kPs28,ASs28,kSs28,APs31,kPs31,ASs31,kSs31,g6⟩ _ ⟨B,F2,F3,F6,L6,N2_6,N3_6,RPs31,RSs31⟩)
      simp only [putAll,Act.put,za,zb,zc]
      try rfl
    ·refine bxs (cs:=#[.string (⟨#[]⟩ : ByteArray),.string (⟨#[]⟩ : ByteArray),.slice none 0 0,.slice none 0 0,.bool false,.string (⟨#[]⟩ : ByteArray)]) (t:=38) (by rfl) rfl ?hr B (fun g6 w6 hb B F6 L6 E6=>?_)
     (case hr=>go_simp;first | done | rfl)
     have N2_6:=ne1 E6 F2
     have N3_6:=ne1 E6 F3
     replace F2:=bn F2 hb
     replace F3:=bn F3 hb
     clear hb E6
     refine hK.out _ _ ⟨F2.out,F3.out⟩ (fun hHeld=>?_)
     clear hK K
     refine npq (some 6) ?_
     refine one_ (i:=1) (N:=some 28) (bits 11 263) rfl rfl (one_of HT_.out (by kernel_rfl)) (by decide) (fun K hK=>?_)
     refine gsq Try.func10 #[.agg #[.string a,.string b,.slice AP ps.length cP,.slice AS ss.length cS,.bool t,.string c]] ?_
     with_reducible refine c2r (laws_toState.M a b _ _ ps _ _ ss t c qs us w6 (cb HRP B) (cb HRS B) ⟨by omega,by omega⟩ HQS.out HUS.out) B fun APs28 kPs28 ASs28 kSs28 w7 hb B RPs28 QPs28 RSs28 QSs28=>?_
     replace F2:=bn F2 hb
     replace F3:=bn F3 hb
     replace F6:=bn F6 hb
     clear hb
     refine ⟨_,rfl,?_⟩
     refine hK.out _ _ ⟨F2.out,F3.out⟩ (fun hHeld=>?_)
     clear hK K
     refine npq (some 28) ?_
     clear QPs28 QSs28
     refine one_ (i:=3) (N:=some 30) (bits 11 271) rfl rfl (one_of HT_.out (by kernel_rfl)) (by decide) (fun K hK=>?_)
     refine gsq Try.func11 #[.agg #[.int .i64 (ci),.int .i64 (sq),.int .i64 (k),.string x,.int .i64 (v),.int .i64 (o)]] ?_
     with_reducible refine cl (laws_toEntry.M ci sq k x v o w7) B fun w8 hb B=>?_
     replace F2:=bn F2 hb
     replace F3:=bn F3 hb
     replace F6:=bn F6 hb
     replace RPs28:=rn RPs28 hb
     replace RSs28:=rn RSs28 hb
     clear hb
     refine ⟨_,rfl,?_⟩
     refine hK.out _ _ ⟨F2.out,F3.out⟩ (fun hHeld=>?_)
     clear hK K
     refine npq (some 30) ?_
     refine one_ (i:=4) (N:=some 31) (bits 11 287) rfl rfl (one_of HT_.out (by kernel_rfl)) (by decide) (fun K hK=>?_)
     refine gsq Try.func9 #[.agg #[.string a,.string b,.slice APs28 qs.length kPs28,.slice ASs28 us.length kSs28,.bool t,.string c],.agg #[.int .i64 (ci),.int .i64 (sq),.int .i64 (k),.string x,.int .i64 (v),.int .i64 (o)]] ?_
     with_reducible refine c2r (spec_ApplyEntry.Mr a b _ _ qs _ _ us t c ci sq k x v o xa xb xp xs xt xc nn HM.out w8 (rc RPs28) (rc RSs28) (rl RPs28) (rl RSs28)) B fun APs31 kPs31 ASs31 kSs31 w9 hb B RPs31 QPs31 RSs31 QSs31=>?_
     replace F2:=bn F2 hb
     replace F3:=bn F3 hb
     replace F6:=bn F6 hb
     clear hb
     refine ⟨_,rfl,?_⟩
     refine hK.out _ _ ⟨F2.out,F3.out⟩ (fun hHeld=>?_)
     clear hK K
     refine npq (some 31) ?_
     clear QPs31 QSs31
     refine pvq 5 (some 26) (bits 11 319) HT_ ?_
     refine pvq 6 (some 32) (bits 11 383) HT_ ?_
     refine pvq 7 (some 33) (bits 11 511) HT_ ?_
     refine nmq ?_
     refine norm_ (a':=_) ?_ (J ⟨APs28,kPs28,ASs28,kSs28,APs31,kPs31,ASs31,kSs31,g6⟩ _ ⟨B,F2,F3,F6,L6,N2_6,N3_6,RPs31,RSs31⟩)
     simp only [putAll,Act.put,za,zb,zc]
     try rfl
   rintro ⟨APs28,kPs28,ASs28,kSs28,APs31,kPs31,ASs31,kSs31,g6⟩ w10 ⟨B,F2,F3,F6,L6,N2_6,N3_6,RPs31,RSs31⟩
   refine norm_ (a':=?_) ?_ ?_
   rotate_left
   ·simp only [putAll,Act.put,za,zb,zc]
    rfl
   refine one_ (i:=9) (N:=none) (bits 11 1023) rfl rfl (one_of HT_.out (by kernel_rfl)) (by decide) (fun K hK=>?_)
   obtain ⟨y0,y1,y2,y3,y4,y5,z0,z1,z2,z3,z4,z5⟩:=cz6 F6
   refine sxs (g:=g6) 0 [.string xa,.string xb,.slice APs31 xp.length kPs31,.slice ASs31 xs.length kSs31,.bool xt,.string xc] [.string xa,.string xb,.slice APs31 xp.length kPs31,.slice ASs31 xs.length kSs31,.bool xt,.string xc] (by rfl) rfl ?hr B F6 L6 rfl (Nat.le_of_ble_eq_true rfl) (fun w11 hk B G=>?_)
   (case hr=>go_simp;first | done | rfl)
   replace F2:=bk F2 hk N2_6.out
   replace F3:=bk F3 hk N3_6.out
   replace RPs31:=rk RPs31 F6 (by decide) hk
   replace RSs31:=rk RSs31 F6 (by decide) hk
   replace F6:=G
   clear hk y0 z0 y1 z1 y2 z2 y3 z3 y4 z4 y5 z5
   refine hK.out _ _ ⟨F2.out,F3.out⟩ (fun hHeld=>?_)
   clear hK K
   refine pvq 10 (some 7) (bits 11 2047) HT_ ?_
   refine nmq ?_
   refine done_ (done_of HT_.out (by kernel_rfl)) ?_
   clear c2_0 c2_1 c2_2 c2_3 c2_4 c2_5
   obtain ⟨c2_0,c2_1,c2_2,c2_3,c2_4,c2_5⟩:=cs6 F2
   clear c3_0 c3_1 c3_2 c3_3 c3_4 c3_5
   obtain ⟨c3_0,c3_1,c3_2,c3_3,c3_4,c3_5⟩:=cs6 F3
   obtain ⟨c6_0,c6_1,c6_2,c6_3,c6_4,c6_5⟩:=cs6 F6)
  all_goals go_wp2_with (first
   | (go_at_call 10;with_reducible refine c2r (laws_toState.M a b _ _ ps _ _ ss t c qs us w11 (cb HRP B) (cb HRS B) ⟨by omega,by omega⟩ HQS.out HUS.out) B fun AP12 kP12 AS12 kS12 w12 hb B RP12 QP12 RS12 QS12=>?_;have DPs31_P12:=fr QP12 RPs31;have DSs31_P12:=fr QP12 RSs31;have DPs31_S12:=fr QS12 RPs31;have DSs31_S12:=fr QS12 RSs31;replace F2:=bn F2 hb;replace F3:=bn F3 hb;replace F6:=bn F6 hb;replace RPs31:=rn RPs31 hb;replace RSs31:=rn RSs31 hb;clear QP12 QS12;clear c2_0 c2_1 c2_2 c2_3 c2_4 c2_5;obtain ⟨c2_0,c2_1,c2_2,c2_3,c2_4,c2_5⟩:=cs6 F2;clear c3_0 c3_1 c3_2 c3_3 c3_4 c3_5;obtain ⟨c3_0,c3_1,c3_2,c3_3,c3_4,c3_5⟩:=cs6 F3;clear c6_0 c6_1 c6_2 c6_3 c6_4 c6_5;obtain ⟨c6_0,c6_1,c6_2,c6_3,c6_4,c6_5⟩:=cs6 F6;clear hb)
   | ((with_reducible refine gate_dst (N:=8) rfl ?_);refine bxq 8 #[.string (⟨#[]⟩ : ByteArray),.string (⟨#[]⟩ : ByteArray),.slice none 0 0,.slice none 0 0,.bool false,.string (⟨#[]⟩ : ByteArray)] 38 B fun g8 w13 hb B F8 L8 E8=>?_;have N2_8:=ne1 E8 F2;have N3_8:=ne1 E8 F3;have N6_8:=ne1 E8 F6;replace F2:=bn F2 hb;replace F3:=bn F3 hb;replace F6:=bn F6 hb;replace RPs31:=rn RPs31 hb;replace RSs31:=rn RSs31 hb;replace RP12:=rn RP12 hb;replace RS12:=rn RS12 hb;clear c2_0 c2_1 c2_2 c2_3 c2_4 c2_5;obtain ⟨c2_0,c2_1,c2_2,c2_3,c2_4,c2_5⟩:=cs6 F2;clear c3_0 c3_1 c3_2 c3_3 c3_4 c3_5;obtain ⟨c3_0,c3_1,c3_2,c3_3,c3_4,c3_5⟩:=cs6 F3;clear c6_0 c6_1 c6_2 c6_3 c6_4 c6_5;obtain ⟨c6_0,c6_1,c6_2,c6_3,c6_4,c6_5⟩:=cs6 F6;obtain ⟨c8_0,c8_1,c8_2,c8_3,c8_4,c8_5⟩:=cs6 F8;clear hb E8)
   | ((with_reducible refine gate_store (t:=38) (p:=8) rfl ?_);obtain ⟨y0,y1,y2,y3,y4,y5,z0,z1,z2,z3,z4,z5⟩:=cz6 F8;refine sxq 38 38 8 0 [.string a,.string b,.slice AP12 qs.length kP12,.slice AS12 us.length kS12,.bool t,.string c] [.string a,.string b,.slice AP12 qs.length kP12,.slice AS12 us.length kS12,.bool t,.string c] B F8 L8 fun w14 hk B G=>?_;replace F2:=bk F2 hk N2_8.out;replace F3:=bk F3 hk N3_8.out;replace F6:=bk F6 hk N6_8.out;replace RPs31:=rk RPs31 F8 (by decide) hk;replace RSs31:=rk RSs31 F8 (by decide) hk;replace RP12:=rk RP12 F8 (by decide) hk;replace RS12:=rk RS12 F8 (by decide) hk;replace F8:=G;clear c2_0 c2_1 c2_2 c2_3 c2_4 c2_5;obtain ⟨c2_0,c2_1,c2_2,c2_3,c2_4,c2_5⟩:=cs6 F2;clear c3_0 c3_1 c3_2 c3_3 c3_4 c3_5;obtain ⟨c3_0,c3_1,c3_2,c3_3,c3_4,c3_5⟩:=cs6 F3;clear c6_0 c6_1 c6_2 c6_3 c6_4 c6_5;obtain ⟨c6_0,c6_1,c6_2,c6_3,c6_4,c6_5⟩:=cs6 F6;clear c8_0 c8_1 c8_2 c8_3 c8_4 c8_5;obtain ⟨c8_0,c8_1,c8_2,c8_3,c8_4,c8_5⟩:=cs6 F8;clear hk y0 z0 y1 z1 y2 z2 y3 z3 y4 z4 y5 z5))
  all_goals try (go_ret;exact ⟨rfl,B.out⟩)
  all_goals (
   refine rg (n:=10) (S:=fun W=>W.heap[g8]?=some (.cells #[.string a,.string b,.slice AP12 qs.length kP12,.slice AS12 us.length kS12,.bool t,.string c] 38 (0,0))∧W.heap[g3]?=some (.cells #[.int .i64 (ci),.int .i64 (sq),.int .i64 (k),.string x,.int .i64 (v),.int .i64 (o)] 31 (0,0))) (ds:=[]) #[false,false,false,false,false,false,false,false,false,false] (by kernel_rfl) rfl rfl ⟨F8.out,F3.out⟩ id B (fun w15 hb B hHeld=>?_)
   refine with_tabW laws_FnExactApplyEntry.tab10 laws_FnExactApplyEntry.bits10 (fun HT_ HW_=>?_)
   replace F2:=bn F2 hb
   replace F3:=bn F3 hb
   replace F6:=bn F6 hb
   replace F8:=bn F8 hb
   replace RPs31:=rn RPs31 hb
   replace RSs31:=rn RSs31 hb
   replace RP12:=rn RP12 hb
   replace RS12:=rn RS12 hb
   clear hb
   refine join_ 2 (bits 10 255) (σ:=Option Addr × Nat × Option Addr × Nat × Nat) (fun (APs40,kPs40,ASs40,kSs40,g9)=>[(37,.agg #[.string a,.string b,.slice AP12 qs.length kP12,.slice AS12 us.length kS12,.bool t,.string c]),(38,.agg #[.int .i64 (ci),.int .i64 (sq),.int .i64 (k),.string x,.int .i64 (v),.int .i64 (o)]),(39,.agg #[.int .i64 (ci),.int .i64 (sq),.int .i64 (k),.string x,.int .i64 (v),.int .i64 (o)]),(40,.tuple #[.agg #[.string xa,.string xb,.slice APs40 xp.length kPs40,.slice ASs40 xs.length kSs40,.bool xt,.string xc],.int .i64 (nn)]),(36,.tuple #[.agg #[.string xa,.string xb,.slice APs40 xp.length kPs40,.slice ASs40 xs.length kSs40,.bool xt,.string xc],.int .i64 (nn)]),(41,.agg #[.string xa,.string xb,.slice APs40 xp.length kPs40,.slice ASs40 xs.length kSs40,.bool xt,.string xc]),(42,.int .i64 (nn)),(9,.pointer (some ⟨g9,0,none⟩))]) (fun (APs40,kPs40,ASs40,kSs40,g9) W=>Aside0 (Below w.heap.size w W)∧Aside0 (W.heap[g2]?=some (.cells #[.string a,.string b,.slice AP ps.length cP,.slice AS ss.length cS,.bool t,.string c] 27 (0,0)))∧Aside0 (W.heap[g3]?=some (.cells #[.int .i64 (ci),.int .i64 (sq),.int .i64 (k),.string x,.int .i64 (v),.int .i64 (o)] 31 (0,0)))∧Aside0 (W.heap[g6]?=some (.cells #[.string xa,.string xb,.slice APs31 xp.length kPs31,.slice ASs31 xs.length kSs31,.bool xt,.string xc] 38 (0,0)))∧Aside0 (W.heap[g8]?=some (.cells #[.string a,.string b,.slice AP12 qs.length kP12,.slice AS12 us.length kS12,.bool t,.string c] 38 (0,0)))∧Aside0 (W.heap[g9]?=some (.cells #[.string (⟨#[]⟩ : ByteArray),.string (⟨#[]⟩ : ByteArray),.slice none 0 0,.slice none 0 0,.bool false,.string (⟨#[]⟩ : ByteArray)] 38 (0,0)))∧Aside0 (w.heap.size≤g9)∧Aside0 (g2 ≠ g9)∧Aside0 (g3 ≠ g9)∧Aside0 (g6 ≠ g9)∧Aside0 (g8 ≠ g9)∧Aside0 (Ow k105 105 W w.heap.size (.slice APs31 xp.length kPs31) xp)∧Aside0 (Ow k76 76 W w.heap.size (.slice ASs31 xs.length kSs31) xs)∧Aside0 (Ow k105 105 W w.heap.size (.slice AP12 qs.length kP12) qs)∧Aside0 (Ow k76 76 W w.heap.size (.slice AS12 us.length kS12) us)∧Aside0 (Ow k105 105 W w.heap.size (.slice APs40 xp.length kPs40) xp)∧Aside0 (Ow k76 76 W w.heap.size (.slice ASs40 xs.length kSs40) xs)∧Aside0 (∀ k_,(.slice APs40 xp.length kPs40 : Value).ownBlock=some k_→(.slice APs31 xp.length kPs31 : Value).ownBlock=some k_→False)∧Aside0 (∀ k_,(.slice APs40 xp.length kPs40 : Value).ownBlock=some k_→(.slice AP12 qs.length kP12 : Value).ownBlock=some k_→False)∧Aside0 (∀ k_,(.slice ASs40 xs.length kSs40 : Value).ownBlock=some k_→(.slice ASs31 xs.length kSs31 : Value).ownBlock=some k_→False)∧Aside0 (∀ k_,(.slice ASs40 xs.length kSs40 : Value).ownBlock=some k_→(.slice AS12 us.length kS12 : Value).ownBlock=some k_→False)) ?_ (fun J=>?_)
   rotate_left
   ·refine tvq 0 (some 37) (bits 10 1) HT_ HW_ rfl hHeld (by intro w' hS;obtain ⟨s0,s1⟩:=hS;obtain ⟨q0,q1,q2,q3,q4,q5⟩:=cs6 (Aside0.mk s0);go_simp;with_reducible rfl) ?_
    refine tvq 1 (some 38) (bits 10 3) HT_ HW_ rfl hHeld (by intro w' hS;obtain ⟨s0,s1⟩:=hS;obtain ⟨q0,q1,q2,q3,q4,q5⟩:=cs6 (Aside0.mk s1);go_simp;with_reducible rfl) ?_
    refine nmq ?_
    refine two_ (i:=2) (j:=7) (Ni:=some 39) (Nj:=some 9) (bits 10 7) (bits 10 131) rfl rfl rfl rfl (two_of HT_.out (by kernel_rfl)) (by decide) (by decide) (fun K hK=>?_) (fun K hK=>?_)
    ·refine gsq Try.func11 #[.agg #[.int .i64 (ci),.int .i64 (sq),.int .i64 (k),.string x,.int .i64 (v),.int .i64 (o)]] ?_
     with_reducible refine cl (laws_toEntry.M ci sq k x v o w15) B fun w16 hb B=>?_
     replace F2:=bn F2 hb
     replace F3:=bn F3 hb
     replace F6:=bn F6 hb
     replace F8:=bn F8 hb
     replace RPs31:=rn RPs31 hb
     replace RSs31:=rn RSs31 hb
     replace RP12:=rn RP12 hb
     replace RS12:=rn RS12 hb
     clear hb
     refine ⟨_,rfl,?_⟩
     refine hK.out _ _ ⟨F8.out,F3.out⟩ (fun hHeld=>?_)
     clear hK K
     refine npq (some 39) ?_
     refine two_ (i:=3) (j:=7) (Ni:=some 40) (Nj:=some 9) (bits 10 15) (bits 10 135) rfl rfl rfl rfl (two_of HT_.out (by kernel_rfl)) (by decide) (by decide) (fun K hK=>?_) (fun K hK=>?_)
     ·refine gsq Try.func12 #[.agg #[.string a,.string b,.slice AP12 qs.length kP12,.slice AS12 us.length kS12,.bool t,.string c],.agg #[.int .i64 (ci),.int .i64 (sq),.int .i64 (k),.string x,.int .i64 (v),.int .i64 (o)]] ?_
      with_reducible refine c2r (impl_ApplyEntry.Mr a b _ _ qs _ _ us t c ci sq k x v o xa xb xp xs xt xc nn HM.out w16 (rc RP12) (rc RS12) (rl RP12) (rl RS12)) B fun APs40 kPs40 ASs40 kSs40 w17 hb B RPs40 QPs40 RSs40 QSs40=>?_
      have DPs31_Ps40:=fr QPs40 RPs31
      have DSs31_Ps40:=fr QPs40 RSs31
      have DP12_Ps40:=fr QPs40 RP12
      have DS12_Ps40:=fr QPs40 RS12
      have DPs31_Ss40:=fr QSs40 RPs31
      have DSs31_Ss40:=fr QSs40 RSs31
      have DP12_Ss40:=fr QSs40 RP12
      have DS12_Ss40:=fr QSs40 RS12
      replace F2:=bn F2 hb
      replace F3:=bn F3 hb
      replace F6:=bn F6 hb
      replace F8:=bn F8 hb
      replace RPs31:=rn RPs31 hb
      replace RSs31:=rn RSs31 hb
      replace RP12:=rn RP12 hb
      replace RS12:=rn RS12 hb
      clear hb
      refine ⟨_,rfl,?_⟩
      refine hK.out _ _ ⟨F8.out,F3.out⟩ (fun hHeld=>?_)
      clear hK K
      refine npq (some 40) ?_
      clear QPs40 QSs40
      refine pvq 4 (some 36) (bits 10 31) HT_ ?_
      refine pvq 5 (some 41) (bits 10 63) HT_ ?_
      refine pvq 6 (some 42) (bits 10 127) HT_ ?_
      refine nmq ?_
      refine one_ (i:=7) (N:=some 9) (bits 10 255) rfl rfl (one_of HT_.out (by kernel_rfl)) (by decide) (fun K hK=>?_)
      refine bxs (cs:=#[.string (⟨#[]⟩ : ByteArray),.string (⟨#[]⟩ : ByteArray),.slice none 0 0,.slice none 0 0,.bool false,.string (⟨#[]⟩ : ByteArray)]) (t:=38) (by rfl) rfl ?hr B (fun g9 w18 hb B F9 L9 E9=>?_)
      (case hr=>go_simp;first | done | rfl)
      have N2_9:=ne1 E9 F2
      have N3_9:=ne1 E9 F3
      have N6_9:=ne1 E9 F6
      have N8_9:=ne1 E9 F8
      replace F2:=bn F2 hb
      replace F3:=bn F3 hb
      replace F6:=bn F6 hb
      replace F8:=bn F8 hb
      replace RPs31:=rn RPs31 hb
      replace RSs31:=rn RSs31 hb
      replace RP12:=rn RP12 hb
      replace RS12:=rn RS12 hb
      replace RPs40:=rn RPs40 hb
      replace RSs40:=rn RSs40 hb
      clear hb E9
      refine hK.out _ _ ⟨F8.out,F3.out⟩ (fun hHeld=>?_)
      clear hK K
      refine npq (some 9) ?_
      refine norm_ (a':=_) ?_ (J ⟨APs40,kPs40,ASs40,kSs40,g9⟩ _ ⟨B,F2,F3,F6,F8,F9,L9,N2_9,N3_9,N6_9,N8_9,RPs31,RSs31,RP12,RS12,RPs40,RSs40,DPs31_Ps40,DP12_Ps40,DSs31_Ss40,DS12_Ss40⟩)
      simp only [putAll,Act.put,za,zb,zc]
      try rfl
     ·refine bxs (cs:=#[.string (⟨#[]⟩ : ByteArray),.string (⟨#[]⟩ : ByteArray),.slice none 0 0,.slice none 0 0,.bool false,.string (⟨#[]⟩ : ByteArray)]) (t:=38) (by rfl) rfl ?hr B (fun g9 w17 hb B F9 L9 E9=>?_)
      (case hr=>go_simp;first | done | rfl)
      have N2_9:=ne1 E9 F2
      have N3_9:=ne1 E9 F3
      have N6_9:=ne1 E9 F6
      have N8_9:=ne1 E9 F8
      replace F2:=bn F2 hb
      replace F3:=bn F3 hb
      replace F6:=bn F6 hb
      replace F8:=bn F8 hb
      replace RPs31:=rn RPs31 hb
      replace RSs31:=rn RSs31 hb
      replace RP12:=rn RP12 hb
      replace RS12:=rn RS12 hb
      clear hb E9
      refine hK.out _ _ ⟨F8.out,F3.out⟩ (fun hHeld=>?_)
      clear hK K
      refine npq (some 9) ?_
      refine one_ (i:=3) (N:=some 40) (bits 10 143) rfl rfl (one_of HT_.out (by kernel_rfl)) (by decide) (fun K hK=>?_)
      refine gsq Try.func12 #[.agg #[.string a,.string b,.slice AP12 qs.length kP12,.slice AS12 us.length kS12,.bool t,.string c],.agg #[.int .i64 (ci),.int .i64 (sq),.int .i64 (k),.string x,.int .i64 (v),.int .i64 (o)]] ?_
      with_reducible refine c2r (impl_ApplyEntry.Mr a b _ _ qs _ _ us t c ci sq k x v o xa xb xp xs xt xc nn HM.out w17 (rc RP12) (rc RS12) (rl RP12) (rl RS12)) B fun APs40 kPs40 ASs40 kSs40 w18 hb B RPs40 QPs40 RSs40 QSs40=>?_
      have DPs31_Ps40:=fr QPs40 RPs31
      have DSs31_Ps40:=fr QPs40 RSs31
      have DP12_Ps40:=fr QPs40 RP12
      have DS12_Ps40:=fr QPs40 RS12
      have DPs31_Ss40:=fr QSs40 RPs31
      have DSs31_Ss40:=fr QSs40 RSs31
      have DP12_Ss40:=fr QSs40 RP12
      have DS12_Ss40:=fr QSs40 RS12
      replace F2:=bn F2 hb
      replace F3:=bn F3 hb
      replace F6:=bn F6 hb
      replace F8:=bn F8 hb
      replace F9:=bn F9 hb
      replace RPs31:=rn RPs31 hb
      replace RSs31:=rn RSs31 hb
      replace RP12:=rn RP12 hb
      replace RS12:=rn RS12 hb
      clear hb
      refine ⟨_,rfl,?_⟩
      refine hK.out _ _ ⟨F8.out,F3.out⟩ (fun hHeld=>?_)
      clear hK K
      refine npq (some 40) ?_
      clear QPs40 QSs40
      refine pvq 4 (some 36) (bits 10 159) HT_ ?_
      refine pvq 5 (some 41) (bits 10 191) HT_ ?_
      refine pvq 6 (some 42) (bits 10 255) HT_ ?_
      refine nmq ?_
      refine norm_ (a':=_) ?_ (J ⟨APs40,kPs40,ASs40,kSs40,g9⟩ _ ⟨B,F2,F3,F6,F8,F9,L9,N2_9,N3_9,N6_9,N8_9,RPs31,RSs31,RP12,RS12,RPs40,RSs40,DPs31_Ps40,DP12_Ps40,DSs31_Ss40,DS12_Ss40⟩)
      simp only [putAll,Act.put,za,zb,zc]
      try rfl
    ·refine bxs (cs:=#[.string (⟨#[]⟩ : ByteArray),.string (⟨#[]⟩ : ByteArray),.slice none 0 0,.slice none 0 0,.bool false,.string (⟨#[]⟩ : ByteArray)]) (t:=38) (by rfl) rfl ?hr B (fun g9 w16 hb B F9 L9 E9=>?_)
     (case hr=>go_simp;first | done | rfl)
     have N2_9:=ne1 E9 F2
     have N3_9:=ne1 E9 F3
     have N6_9:=ne1 E9 F6
     have N8_9:=ne1 E9 F8
     replace F2:=bn F2 hb
     replace F3:=bn F3 hb
     replace F6:=bn F6 hb
     replace F8:=bn F8 hb
     replace RPs31:=rn RPs31 hb
     replace RSs31:=rn RSs31 hb
     replace RP12:=rn RP12 hb
     replace RS12:=rn RS12 hb
     clear hb E9
     refine hK.out _ _ ⟨F8.out,F3.out⟩ (fun hHeld=>?_)
     clear hK K
     refine npq (some 9) ?_
     refine one_ (i:=2) (N:=some 39) (bits 10 135) rfl rfl (one_of HT_.out (by kernel_rfl)) (by decide) (fun K hK=>?_)
     refine gsq Try.func11 #[.agg #[.int .i64 (ci),.int .i64 (sq),.int .i64 (k),.string x,.int .i64 (v),.int .i64 (o)]] ?_
     with_reducible refine cl (laws_toEntry.M ci sq k x v o w16) B fun w17 hb B=>?_
     replace F2:=bn F2 hb
     replace F3:=bn F3 hb
     replace F6:=bn F6 hb
     replace F8:=bn F8 hb
     replace F9:=bn F9 hb
     replace RPs31:=rn RPs31 hb
     replace RSs31:=rn RSs31 hb
     replace RP12:=rn RP12 hb
     replace RS12:=rn RS12 hb
     clear hb
     refine ⟨_,rfl,?_⟩
     refine hK.out _ _ ⟨F8.out,F3.out⟩ (fun hHeld=>?_)
     clear hK K
     refine npq (some 39) ?_
     refine one_ (i:=3) (N:=some 40) (bits 10 143) rfl rfl (one_of HT_.out (by kernel_rfl)) (by decide) (fun K hK=>?_)
     refine gsq Try.func12 #[.agg #[.string a,.string b,.slice AP12 qs.length kP12,.slice AS12 us.length kS12,.bool t,.string c],.agg #[.int .i64 (ci),.int .i64 (sq),.int .i64 (k),.string x,.int .i64 (v),.int .i64 (o)]] ?_
     with_reducible refine c2r (impl_ApplyEntry.Mr a b _ _ qs _ _ us t c ci sq k x v o xa xb xp xs xt xc nn HM.out w17 (rc RP12) (rc RS12) (rl RP12) (rl RS12)) B fun APs40 kPs40 ASs40 kSs40 w18 hb B RPs40 QPs40 RSs40 QSs40=>?_
     have DPs31_Ps40:=fr QPs40 RPs31
     have DSs31_Ps40:=fr QPs40 RSs31
     have DP12_Ps40:=fr QPs40 RP12
     have DS12_Ps40:=fr QPs40 RS12
     have DPs31_Ss40:=fr QSs40 RPs31
     have DSs31_Ss40:=fr QSs40 RSs31
     have DP12_Ss40:=fr QSs40 RP12
     have DS12_Ss40:=fr QSs40 RS12
     replace F2:=bn F2 hb
     replace F3:=bn F3 hb
     replace F6:=bn F6 hb
     replace F8:=bn F8 hb
     replace F9:=bn F9 hb
     replace RPs31:=rn RPs31 hb
     replace RSs31:=rn RSs31 hb
     replace RP12:=rn RP12 hb
     replace RS12:=rn RS12 hb
     clear hb
     refine ⟨_,rfl,?_⟩
     refine hK.out _ _ ⟨F8.out,F3.out⟩ (fun hHeld=>?_)
     clear hK K
     refine npq (some 40) ?_
     clear QPs40 QSs40
     refine pvq 4 (some 36) (bits 10 159) HT_ ?_
     refine pvq 5 (some 41) (bits 10 191) HT_ ?_
     refine pvq 6 (some 42) (bits 10 255) HT_ ?_
     refine nmq ?_
     refine norm_ (a':=_) ?_ (J ⟨APs40,kPs40,ASs40,kSs40,g9⟩ _ ⟨B,F2,F3,F6,F8,F9,L9,N2_9,N3_9,N6_9,N8_9,RPs31,RSs31,RP12,RS12,RPs40,RSs40,DPs31_Ps40,DP12_Ps40,DSs31_Ss40,DS12_Ss40⟩)
     simp only [putAll,Act.put,za,zb,zc]
     try rfl
   rintro ⟨APs40,kPs40,ASs40,kSs40,g9⟩ w19 ⟨B,F2,F3,F6,F8,F9,L9,N2_9,N3_9,N6_9,N8_9,RPs31,RSs31,RP12,RS12,RPs40,RSs40,DPs31_Ps40,DP12_Ps40,DSs31_Ss40,DS12_Ss40⟩
   refine norm_ (a':=?_) ?_ ?_
   rotate_left
   ·simp only [putAll,Act.put,za,zb,zc]
    rfl
   refine one_ (i:=8) (N:=none) (bits 10 511) rfl rfl (one_of HT_.out (by kernel_rfl)) (by decide) (fun K hK=>?_)
   obtain ⟨y0,y1,y2,y3,y4,y5,z0,z1,z2,z3,z4,z5⟩:=cz6 F9
   refine sxs (g:=g9) 0 [.string xa,.string xb,.slice APs40 xp.length kPs40,.slice ASs40 xs.length kSs40,.bool xt,.string xc] [.string xa,.string xb,.slice APs40 xp.length kPs40,.slice ASs40 xs.length kSs40,.bool xt,.string xc] (by rfl) rfl ?hr B F9 L9 rfl (Nat.le_of_ble_eq_true rfl) (fun w20 hk B G=>?_)
   (case hr=>go_simp;first | done | rfl)
   replace F2:=bk F2 hk N2_9.out
   replace F3:=bk F3 hk N3_9.out
   replace F6:=bk F6 hk N6_9.out
   replace F8:=bk F8 hk N8_9.out
   replace RPs31:=rk RPs31 F9 (by decide) hk
   replace RSs31:=rk RSs31 F9 (by decide) hk
   replace RP12:=rk RP12 F9 (by decide) hk
   replace RS12:=rk RS12 F9 (by decide) hk
   replace RPs40:=rk RPs40 F9 (by decide) hk
   replace RSs40:=rk RSs40 F9 (by decide) hk
   replace F9:=G
   clear hk y0 z0 y1 z1 y2 z2 y3 z3 y4 z4 y5 z5
   refine hK.out _ _ ⟨F8.out,F3.out⟩ (fun hHeld=>?_)
   clear hK K
   refine pvq 9 (some 10) (bits 10 1023) HT_ ?_
   refine nmq ?_
   refine done_ (done_of HT_.out (by kernel_rfl)) ?_
   clear c2_0 c2_1 c2_2 c2_3 c2_4 c2_5
   obtain ⟨c2_0,c2_1,c2_2,c2_3,c2_4,c2_5⟩:=cs6 F2
   clear c3_0 c3_1 c3_2 c3_3 c3_4 c3_5
   obtain ⟨c3_0,c3_1,c3_2,c3_3,c3_4,c3_5⟩:=cs6 F3
   clear c6_0 c6_1 c6_2 c6_3 c6_4 c6_5
   obtain ⟨c6_0,c6_1,c6_2,c6_3,c6_4,c6_5⟩:=cs6 F6
   clear c8_0 c8_1 c8_2 c8_3 c8_4 c8_5
   obtain ⟨c8_0,c8_1,c8_2,c8_3,c8_4,c8_5⟩:=cs6 F8
   obtain ⟨c9_0,c9_1,c9_2,c9_3,c9_4,c9_5⟩:=cs6 F9)
  all_goals go_wp2_with (first
   | (go_at_call 13;with_reducible refine cl (laws_eqState.M xa xb _ _ _ _ xp _ _ _ _ xs xt xc w20 (rc RPs40) (rc RPs31) (rc RSs40) (rc RSs31)) B fun w21 hb B=>?_;replace F2:=bn F2 hb;replace F3:=bn F3 hb;replace F6:=bn F6 hb;replace F8:=bn F8 hb;replace F9:=bn F9 hb;replace RPs31:=rn RPs31 hb;replace RSs31:=rn RSs31 hb;replace RP12:=rn RP12 hb;replace RS12:=rn RS12 hb;replace RPs40:=rn RPs40 hb;replace RSs40:=rn RSs40 hb;clear c2_0 c2_1 c2_2 c2_3 c2_4 c2_5;obtain ⟨c2_0,c2_1,c2_2,c2_3,c2_4,c2_5⟩:=cs6 F2;clear c3_0 c3_1 c3_2 c3_3 c3_4 c3_5;obtain ⟨c3_0,c3_1,c3_2,c3_3,c3_4,c3_5⟩:=cs6 F3;clear c6_0 c6_1 c6_2 c6_3 c6_4 c6_5;obtain ⟨c6_0,c6_1,c6_2,c6_3,c6_4,c6_5⟩:=cs6 F6;clear c8_0 c8_1 c8_2 c8_3 c8_4 c8_5;obtain ⟨c8_0,c8_1,c8_2,c8_3,c8_4,c8_5⟩:=cs6 F8;clear c9_0 c9_1 c9_2 c9_3 c9_4 c9_5;obtain ⟨c9_0,c9_1,c9_2,c9_3,c9_4,c9_5⟩:=cs6 F9;clear hb))
  all_goals try (go_ret;exact ⟨rfl,B.out⟩)
  all_goals (
   refine rg (n:=5) (S:=fun W=>W.heap[g8]?=some (.cells #[.string a,.string b,.slice AP12 qs.length kP12,.slice AS12 us.length kS12,.bool t,.string c] 38 (0,0))∧W.heap[g2]?=some (.cells #[.string a,.string b,.slice AP ps.length cP,.slice AS ss.length cS,.bool t,.string c] 27 (0,0))) (ds:=[]) #[false,false,false,false,false] (by kernel_rfl) rfl rfl ⟨F8.out,F2.out⟩ id B (fun w22 hb B hHeld=>?_)
   refine with_tabW laws_FnExactApplyEntry.tab13 laws_FnExactApplyEntry.bits13 (fun HT_ HW_=>?_)
   replace F2:=bn F2 hb
   replace F3:=bn F3 hb
   replace F6:=bn F6 hb
   replace F8:=bn F8 hb
   replace F9:=bn F9 hb
   replace RPs31:=rn RPs31 hb
   replace RSs31:=rn RSs31 hb
   replace RP12:=rn RP12 hb
   replace RS12:=rn RS12 hb
   replace RPs40:=rn RPs40 hb
   replace RSs40:=rn RSs40 hb
   clear hb
   refine tvq 0 (some 52) (bits 5 1) HT_ HW_ rfl hHeld (by intro w' hS;obtain ⟨s0,s1⟩:=hS;obtain ⟨q0,q1,q2,q3,q4,q5⟩:=cs6 (Aside0.mk s0);go_simp;with_reducible rfl) ?_
   refine tvq 1 (some 53) (bits 5 3) HT_ HW_ rfl hHeld (by intro w' hS;obtain ⟨s0,s1⟩:=hS;obtain ⟨q0,q1,q2,q3,q4,q5⟩:=cs6 (Aside0.mk s1);go_simp;with_reducible rfl) ?_
   refine nmq ?_
   refine one_ (i:=2) (N:=some 54) (bits 5 7) rfl rfl (one_of HT_.out (by kernel_rfl)) (by decide) (fun K hK=>?_)
   refine gsq Try.func10 #[.agg #[.string a,.string b,.slice AP ps.length cP,.slice AS ss.length cS,.bool t,.string c]] ?_
   with_reducible refine c2r (laws_toState.M a b _ _ ps _ _ ss t c qs us w22 (cb HRP B) (cb HRS B) ⟨by omega,by omega⟩ HQS.out HUS.out) B fun AP23 kP23 AS23 kS23 w23 hb B RP23 QP23 RS23 QS23=>?_
   have DPs31_P23:=fr QP23 RPs31
   have DSs31_P23:=fr QP23 RSs31
   have DP12_P23:=fr QP23 RP12
   have DS12_P23:=fr QP23 RS12
   have DPs40_P23:=fr QP23 RPs40
   have DSs40_P23:=fr QP23 RSs40
   have DPs31_S23:=fr QS23 RPs31
   have DSs31_S23:=fr QS23 RSs31
   have DP12_S23:=fr QS23 RP12
   have DS12_S23:=fr QS23 RS12
   have DPs40_S23:=fr QS23 RPs40
   have DSs40_S23:=fr QS23 RSs40
   replace F2:=bn F2 hb
   replace F3:=bn F3 hb
   replace F6:=bn F6 hb
   replace F8:=bn F8 hb
   replace F9:=bn F9 hb
   replace RPs31:=rn RPs31 hb
   replace RSs31:=rn RSs31 hb
   replace RP12:=rn RP12 hb
   replace RS12:=rn RS12 hb
   replace RPs40:=rn RPs40 hb
   replace RSs40:=rn RSs40 hb
   clear hb
   refine ⟨_,rfl,?_⟩
   refine hK.out _ _ ⟨F8.out,F2.out⟩ (fun hHeld=>?_)
   clear hK K
   refine npq (some 54) ?_
   clear QP23 QS23
   refine one_ (i:=3) (N:=some 55) (bits 5 15) rfl rfl (one_of HT_.out (by kernel_rfl)) (by decide) (fun K hK=>?_)
   refine gsq Try.func13 #[.agg #[.string a,.string b,.slice AP12 qs.length kP12,.slice AS12 us.length kS12,.bool t,.string c],.agg #[.string a,.string b,.slice AP23 qs.length kP23,.slice AS23 us.length kS23,.bool t,.string c]] ?_
   with_reducible refine cl (laws_eqState.M a b _ _ _ _ qs _ _ _ _ us t c w23 (rc RP12) (rc RP23) (rc RS12) (rc RS23)) B fun w24 hb B=>?_
   replace F2:=bn F2 hb
   replace F3:=bn F3 hb
   replace F6:=bn F6 hb
   replace F8:=bn F8 hb
   replace F9:=bn F9 hb
   replace RPs31:=rn RPs31 hb
   replace RSs31:=rn RSs31 hb
   replace RP12:=rn RP12 hb
   replace RS12:=rn RS12 hb
   replace RPs40:=rn RPs40 hb
   replace RSs40:=rn RSs40 hb
   clear hb
   refine ⟨_,rfl,?_⟩
   refine hK.out _ _ ⟨F8.out,F2.out⟩ (fun hHeld=>?_)
   clear hK K
   refine npq (some 55) ?_
   refine pvq 4 (some 56) (bits 5 31) HT_ ?_
   refine nmq ?_
   refine done_ (done_of HT_.out (by kernel_rfl)) ?_
   clear c2_0 c2_1 c2_2 c2_3 c2_4 c2_5
   obtain ⟨c2_0,c2_1,c2_2,c2_3,c2_4,c2_5⟩:=cs6 F2
   clear c3_0 c3_1 c3_2 c3_3 c3_4 c3_5
   obtain ⟨c3_0,c3_1,c3_2,c3_3,c3_4,c3_5⟩:=cs6 F3
   clear c6_0 c6_1 c6_2 c6_3 c6_4 c6_5
   obtain ⟨c6_0,c6_1,c6_2,c6_3,c6_4,c6_5⟩:=cs6 F6
   clear c8_0 c8_1 c8_2 c8_3 c8_4 c8_5
   obtain ⟨c8_0,c8_1,c8_2,c8_3,c8_4,c8_5⟩:=cs6 F8
   clear c9_0 c9_1 c9_2 c9_3 c9_4 c9_5
   obtain ⟨c9_0,c9_1,c9_2,c9_3,c9_4,c9_5⟩:=cs6 F9)
  all_goals go_wp2_with (first
   | (go_at_call 14;with_reducible refine cm2 (laws_markState.M a b _ _ qs _ _ us t c 1 w w24 B RP12 RS12 (by assumption) (by assumption) (by assumption) (by assumption)) fun w25 hk B RX RY=>?_;replace F2:=bkp2 F2 hk RP12 RS12 (by decide) (by decide);replace F3:=bkp2 F3 hk RP12 RS12 (by decide) (by decide);replace F6:=bkp2 F6 hk RP12 RS12 (by decide) (by decide);replace F9:=bkp2 F9 hk RP12 RS12 (by decide) (by decide);replace RPs31:=rkp2 RPs31 rfl hk (fun k p q=>DPs31_P12.out k q p) (dty RS12 RPs31 (by decide));replace RSs31:=rkp2 RSs31 rfl hk (dty RP12 RSs31 (by decide)) (fun k p q=>DSs31_S12.out k q p);replace RPs40:=rkp2 RPs40 rfl hk DP12_Ps40.out (dty RS12 RPs40 (by decide));replace RSs40:=rkp2 RSs40 rfl hk (dty RP12 RSs40 (by decide)) DS12_Ss40.out;clear RX;clear RY;clear hk;clear c2_0 c2_1 c2_2 c2_3 c2_4 c2_5;obtain ⟨c2_0,c2_1,c2_2,c2_3,c2_4,c2_5⟩:=cs6 F2;clear c3_0 c3_1 c3_2 c3_3 c3_4 c3_5;obtain ⟨c3_0,c3_1,c3_2,c3_3,c3_4,c3_5⟩:=cs6 F3;clear c6_0 c6_1 c6_2 c6_3 c6_4 c6_5;obtain ⟨c6_0,c6_1,c6_2,c6_3,c6_4,c6_5⟩:=cs6 F6;clear c9_0 c9_1 c9_2 c9_3 c9_4 c9_5;obtain ⟨c9_0,c9_1,c9_2,c9_3,c9_4,c9_5⟩:=cs6 F9;skip)
   | (go_at_call 13;with_reducible refine cl (laws_eqState.M xa xb _ _ _ _ xp _ _ _ _ xs xt xc w25 (rc RPs40) (rc RPs31) (rc RSs40) (rc RSs31)) B fun w26 hb B=>?_;replace F2:=bn F2 hb;replace F3:=bn F3 hb;replace F6:=bn F6 hb;replace F9:=bn F9 hb;replace RPs31:=rn RPs31 hb;replace RSs31:=rn RSs31 hb;replace RPs40:=rn RPs40 hb;replace RSs40:=rn RSs40 hb;clear c2_0 c2_1 c2_2 c2_3 c2_4 c2_5;obtain ⟨c2_0,c2_1,c2_2,c2_3,c2_4,c2_5⟩:=cs6 F2;clear c3_0 c3_1 c3_2 c3_3 c3_4 c3_5;obtain ⟨c3_0,c3_1,c3_2,c3_3,c3_4,c3_5⟩:=cs6 F3;clear c6_0 c6_1 c6_2 c6_3 c6_4 c6_5;obtain ⟨c6_0,c6_1,c6_2,c6_3,c6_4,c6_5⟩:=cs6 F6;clear c9_0 c9_1 c9_2 c9_3 c9_4 c9_5;obtain ⟨c9_0,c9_1,c9_2,c9_3,c9_4,c9_5⟩:=cs6 F9;clear hb)
   | (go_at_call 14;with_reducible refine cm2 (laws_markState.M xa xb _ _ xp _ _ xs xt xc 1 w w26 B RPs40 RSs40 (by assumption) (by assumption) (by assumption) (by assumption)) fun w27 hk B RX RY=>?_;replace F2:=bkp2 F2 hk RPs40 RSs40 (by decide) (by decide);replace F3:=bkp2 F3 hk RPs40 RSs40 (by decide) (by decide);replace F6:=bkp2 F6 hk RPs40 RSs40 (by decide) (by decide);replace F9:=bkp2 F9 hk RPs40 RSs40 (by decide) (by decide);replace RPs31:=rkp2 RPs31 rfl hk (fun k p q=>DPs31_Ps40.out k q p) (dty RSs40 RPs31 (by decide));replace RSs31:=rkp2 RSs31 rfl hk (dty RPs40 RSs31 (by decide)) (fun k p q=>DSs31_Ss40.out k q p);replace RPs40:=RX;replace RSs40:=RY;clear hk;clear c2_0 c2_1 c2_2 c2_3 c2_4 c2_5;obtain ⟨c2_0,c2_1,c2_2,c2_3,c2_4,c2_5⟩:=cs6 F2;clear c3_0 c3_1 c3_2 c3_3 c3_4 c3_5;obtain ⟨c3_0,c3_1,c3_2,c3_3,c3_4,c3_5⟩:=cs6 F3;clear c6_0 c6_1 c6_2 c6_3 c6_4 c6_5;obtain ⟨c6_0,c6_1,c6_2,c6_3,c6_4,c6_5⟩:=cs6 F6;clear c9_0 c9_1 c9_2 c9_3 c9_4 c9_5;obtain ⟨c9_0,c9_1,c9_2,c9_3,c9_4,c9_5⟩:=cs6 F9;skip)
   | (go_at_call 15;with_reducible refine cl (laws_heldState.M xa xb _ _ xp _ _ xs xt xc 1 w27 (rc RPs40) (rl2 RPs40) (rc RSs40) (rl2 RSs40) (by assumption) (by assumption) (by assumption) (by assumption)) B fun w28 hb B=>?_;replace F2:=bn F2 hb;replace F3:=bn F3 hb;replace F6:=bn F6 hb;replace F9:=bn F9 hb;replace RPs31:=rn RPs31 hb;replace RSs31:=rn RSs31 hb;replace RPs40:=rn RPs40 hb;replace RSs40:=rn RSs40 hb;clear c2_0 c2_1 c2_2 c2_3 c2_4 c2_5;obtain ⟨c2_0,c2_1,c2_2,c2_3,c2_4,c2_5⟩:=cs6 F2;clear c3_0 c3_1 c3_2 c3_3 c3_4 c3_5;obtain ⟨c3_0,c3_1,c3_2,c3_3,c3_4,c3_5⟩:=cs6 F3;clear c6_0 c6_1 c6_2 c6_3 c6_4 c6_5;obtain ⟨c6_0,c6_1,c6_2,c6_3,c6_4,c6_5⟩:=cs6 F6;clear c9_0 c9_1 c9_2 c9_3 c9_4 c9_5;obtain ⟨c9_0,c9_1,c9_2,c9_3,c9_4,c9_5⟩:=cs6 F9;clear hb))
  all_goals try (go_ret;exact ⟨rfl,B.out⟩)
  all_goals (
   refine rg (n:=11) (S:=fun W=>W.heap[g2]?=some (.cells #[.string a,.string b,.slice AP ps.length cP,.slice AS ss.length cS,.bool t,.string c] 27 (0,0))∧W.heap[g3]?=some (.cells #[.int .i64 (ci),.int .i64 (sq),.int .i64 (k),.string x,.int .i64 (v),.int .i64 (o)] 31 (0,0))) (ds:=[]) #[false,false,false,false,false,false,false,false,false,false,false] (by kernel_rfl) rfl rfl ⟨F2.out,F3.out⟩ id B (fun w29 hb B hHeld=>?_)
   refine with_tabW laws_FnExactApplyEntry.tab27 laws_FnExactApplyEntry.bits27 (fun HT_ HW_=>?_)
   replace F2:=bn F2 hb
   replace F3:=bn F3 hb
   replace F6:=bn F6 hb
   replace F9:=bn F9 hb
   replace RPs31:=rn RPs31 hb
   replace RSs31:=rn RSs31 hb
   replace RPs40:=rn RPs40 hb
   replace RSs40:=rn RSs40 hb
   clear hb
   refine join_ 2 (bits 11 511) (σ:=Option Addr × Nat × Option Addr × Nat × Option Addr × Nat × Option Addr × Nat × Nat) (fun (APs86,kPs86,ASs86,kSs86,APs89,kPs89,ASs89,kSs89,g14)=>[(85,.agg #[.string a,.string b,.slice AP ps.length cP,.slice AS ss.length cS,.bool t,.string c]),(86,.agg #[.string a,.string b,.slice APs86 qs.length kPs86,.slice ASs86 us.length kSs86,.bool t,.string c]),(87,.agg #[.int .i64 (ci),.int .i64 (sq),.int .i64 (k),.string x,.int .i64 (v),.int .i64 (o)]),(88,.agg #[.int .i64 (ci),.int .i64 (sq),.int .i64 (k),.string x,.int .i64 (v),.int .i64 (o)]),(89,.tuple #[.agg #[.string xa,.string xb,.slice APs89 xp.length kPs89,.slice ASs89 xs.length kSs89,.bool xt,.string xc],.int .i64 (nn)]),(84,.tuple #[.agg #[.string xa,.string xb,.slice APs89 xp.length kPs89,.slice ASs89 xs.length kSs89,.bool xt,.string xc],.int .i64 (nn)]),(90,.agg #[.string xa,.string xb,.slice APs89 xp.length kPs89,.slice ASs89 xs.length kSs89,.bool xt,.string xc]),(91,.int .i64 (nn)),(14,.pointer (some ⟨g14,0,none⟩))]) (fun (APs86,kPs86,ASs86,kSs86,APs89,kPs89,ASs89,kSs89,g14) W=>Aside0 (Below w.heap.size w W)∧Aside0 (W.heap[g2]?=some (.cells #[.string a,.string b,.slice AP ps.length cP,.slice AS ss.length cS,.bool t,.string c] 27 (0,0)))∧Aside0 (W.heap[g3]?=some (.cells #[.int .i64 (ci),.int .i64 (sq),.int .i64 (k),.string x,.int .i64 (v),.int .i64 (o)] 31 (0,0)))∧Aside0 (W.heap[g6]?=some (.cells #[.string xa,.string xb,.slice APs31 xp.length kPs31,.slice ASs31 xs.length kSs31,.bool xt,.string xc] 38 (0,0)))∧Aside0 (W.heap[g9]?=some (.cells #[.string xa,.string xb,.slice APs40 xp.length kPs40,.slice ASs40 xs.length kSs40,.bool xt,.string xc] 38 (0,0)))∧Aside0 (W.heap[g14]?=some (.cells #[.string (⟨#[]⟩ : ByteArray),.string (⟨#[]⟩ : ByteArray),.slice none 0 0,.slice none 0 0,.bool false,.string (⟨#[]⟩ : ByteArray)] 38 (0,0)))∧Aside0 (w.heap.size≤g14)∧Aside0 (g2 ≠ g14)∧Aside0 (g3 ≠ g14)∧Aside0 (g6 ≠ g14)∧Aside0 (g9 ≠ g14)∧Aside0 (Ow k105 105 W w.heap.size (.slice APs31 xp.length kPs31) xp)∧Aside0 (Ow k76 76 W w.heap.size (.slice ASs31 xs.length kSs31) xs)∧Aside0 (Ow k105 105 W w.heap.size (.slice APs40 xp.length kPs40) (prTo xp.length 1))∧Aside0 (Ow k76 76 W w.heap.size (.slice ASs40 xs.length kSs40) (sesTo xs.length (1 + 2 * (xp.length : Int))))∧Aside0 (Ow k105 105 W w.heap.size (.slice APs89 xp.length kPs89) xp)∧Aside0 (Ow k76 76 W w.heap.size (.slice ASs89 xs.length kSs89) xs)∧Aside0 (∀ k_,(.slice APs89 xp.length kPs89 : Value).ownBlock=some k_→(.slice APs31 xp.length kPs31 : Value).ownBlock=some k_→False)∧Aside0 (∀ k_,(.slice APs89 xp.length kPs89 : Value).ownBlock=some k_→(.slice APs40 xp.length kPs40 : Value).ownBlock=some k_→False)∧Aside0 (∀ k_,(.slice ASs89 xs.length kSs89 : Value).ownBlock=some k_→(.slice ASs31 xs.length kSs31 : Value).ownBlock=some k_→False)∧Aside0 (∀ k_,(.slice ASs89 xs.length kSs89 : Value).ownBlock=some k_→(.slice ASs40 xs.length kSs40 : Value).ownBlock=some k_→False)) ?_ (fun J=>?_)
   rotate_left
   ·refine tvq 0 (some 85) (bits 11 1) HT_ HW_ rfl hHeld (by intro w' hS;obtain ⟨s0,s1⟩:=hS;obtain ⟨q0,q1,q2,q3,q4,q5⟩:=cs6 (Aside0.mk s0);go_simp;with_reducible rfl) ?_
    refine tvq 2 (some 87) (bits 11 5) HT_ HW_ rfl hHeld (by intro w' hS;obtain ⟨s0,s1⟩:=hS;obtain ⟨q0,q1,q2,q3,q4,q5⟩:=cs6 (Aside0.mk s1);go_simp;with_reducible rfl) ?_
    refine nmq ?_
    refine two_ (i:=1) (j:=8) (Ni:=some 86) (Nj:=some 14) (bits 11 7) (bits 11 261) rfl rfl rfl rfl (two_of HT_.out (by kernel_rfl)) (by decide) (by decide) (fun K hK=>?_) (fun K hK=>?_)
    ·refine gsq Try.func10 #[.agg #[.string a,.string b,.slice AP ps.length cP,.slice AS ss.length cS,.bool t,.string c]] ?_
     with_reducible refine c2r (laws_toState.M a b _ _ ps _ _ ss t c qs us w29 (cb HRP B) (cb HRS B) ⟨by omega,by omega⟩ HQS.out HUS.out) B fun APs86 kPs86 ASs86 kSs86 w30 hb B RPs86 QPs86 RSs86 QSs86=>?_
     have DPs31_Ps86:=fr QPs86 RPs31
     have DSs31_Ps86:=fr QPs86 RSs31
     have DPs40_Ps86:=fr QPs86 RPs40
     have DSs40_Ps86:=fr QPs86 RSs40
     have DPs31_Ss86:=fr QSs86 RPs31
     have DSs31_Ss86:=fr QSs86 RSs31
     have DPs40_Ss86:=fr QSs86 RPs40
     have DSs40_Ss86:=fr QSs86 RSs40
     replace F2:=bn F2 hb
     replace F3:=bn F3 hb
     replace F6:=bn F6 hb
     replace F9:=bn F9 hb
     replace RPs31:=rn RPs31 hb
     replace RSs31:=rn RSs31 hb
     replace RPs40:=rn RPs40 hb
     replace RSs40:=rn RSs40 hb
     clear hb
     refine ⟨_,rfl,?_⟩
     refine hK.out _ _ ⟨F2.out,F3.out⟩ (fun hHeld=>?_)
     clear hK K
     refine npq (some 86) ?_
     clear QPs86 QSs86
     refine two_ (i:=3) (j:=8) (Ni:=some 88) (Nj:=some 14) (bits 11 15) (bits 11 263) rfl rfl rfl rfl (two_of HT_.out (by kernel_rfl)) (by decide) (by decide) (fun K hK=>?_) (fun K hK=>?_)
     ·refine gsq Try.func11 #[.agg #[.int .i64 (ci),.int .i64 (sq),.int .i64 (k),.string x,.int .i64 (v),.int .i64 (o)]] ?_
      with_reducible refine cl (laws_toEntry.M ci sq k x v o w30) B fun w31 hb B=>?_
      replace F2:=bn F2 hb
      replace F3:=bn F3 hb
      replace F6:=bn F6 hb
      replace F9:=bn F9 hb
      replace RPs31:=rn RPs31 hb
      replace RSs31:=rn RSs31 hb
      replace RPs40:=rn RPs40 hb
      replace RSs40:=rn RSs40 hb
      replace RPs86:=rn RPs86 hb
      replace RSs86:=rn RSs86 hb
      clear hb
      refine ⟨_,rfl,?_⟩
      refine hK.out _ _ ⟨F2.out,F3.out⟩ (fun hHeld=>?_)
      clear hK K
      refine npq (some 88) ?_
      refine two_ (i:=4) (j:=8) (Ni:=some 89) (Nj:=some 14) (bits 11 31) (bits 11 271) rfl rfl rfl rfl (two_of HT_.out (by kernel_rfl)) (by decide) (by decide) (fun K hK=>?_) (fun K hK=>?_)
      ·refine gsq Try.func12 #[.agg #[.string a,.string b,.slice APs86 qs.length kPs86,.slice ASs86 us.length kSs86,.bool t,.string c],.agg #[.int .i64 (ci),.int .i64 (sq),.int .i64 (k),.string x,.int .i64 (v),.int .i64 (o)]] ?_
       with_reducible refine c2r (impl_ApplyEntry.Mr a b _ _ qs _ _ us t c ci sq k x v o xa xb xp xs xt xc nn HM.out w31 (rc RPs86) (rc RSs86) (rl RPs86) (rl RSs86)) B fun APs89 kPs89 ASs89 kSs89 w32 hb B RPs89 QPs89 RSs89 QSs89=>?_
       have DPs31_Ps89:=fr QPs89 RPs31
       have DSs31_Ps89:=fr QPs89 RSs31
       have DPs40_Ps89:=fr QPs89 RPs40
       have DSs40_Ps89:=fr QPs89 RSs40
       have DPs31_Ss89:=fr QSs89 RPs31
       have DSs31_Ss89:=fr QSs89 RSs31
       have DPs40_Ss89:=fr QSs89 RPs40
       have DSs40_Ss89:=fr QSs89 RSs40
       replace F2:=bn F2 hb
       replace F3:=bn F3 hb
       replace F6:=bn F6 hb
       replace F9:=bn F9 hb
       replace RPs31:=rn RPs31 hb
       replace RSs31:=rn RSs31 hb
       replace RPs40:=rn RPs40 hb
       replace RSs40:=rn RSs40 hb
       clear hb
       refine ⟨_,rfl,?_⟩
       refine hK.out _ _ ⟨F2.out,F3.out⟩ (fun hHeld=>?_)
       clear hK K
       refine npq (some 89) ?_
       clear QPs89 QSs89
       refine pvq 5 (some 84) (bits 11 63) HT_ ?_
       refine pvq 6 (some 90) (bits 11 127) HT_ ?_
       refine pvq 7 (some 91) (bits 11 255) HT_ ?_
       refine nmq ?_
       refine one_ (i:=8) (N:=some 14) (bits 11 511) rfl rfl (one_of HT_.out (by kernel_rfl)) (by decide) (fun K hK=>?_)
       refine bxs (cs:=#[.string (⟨#[]⟩ : ByteArray),.string (⟨#[]⟩ : ByteArray),.slice none 0 0,.slice none 0 0,.bool false,.string (⟨#[]⟩ : ByteArray)]) (t:=38) (by rfl) rfl ?hr B (fun g14 w33 hb B F14 L14 E14=>?_)
       (case hr=>go_simp;first | done | rfl)
       have N2_14:=ne1 E14 F2
       have N3_14:=ne1 E14 F3
       have N6_14:=ne1 E14 F6
       have N9_14:=ne1 E14 F9
       replace F2:=bn F2 hb
       replace F3:=bn F3 hb
       replace F6:=bn F6 hb
       replace F9:=bn F9 hb
       replace RPs31:=rn RPs31 hb
       replace RSs31:=rn RSs31 hb
       replace RPs40:=rn RPs40 hb
       replace RSs40:=rn RSs40 hb
       replace RPs89:=rn RPs89 hb
       replace RSs89:=rn RSs89 hb
       clear hb E14
       refine hK.out _ _ ⟨F2.out,F3.out⟩ (fun hHeld=>?_)
       clear hK K
       refine npq (some 14) ?_
       refine norm_ (a':=_) ?_ (J ⟨APs86,kPs86,ASs86,kSs86,APs89,kPs89,ASs89,kSs89,g14⟩ _ ⟨B,F2,F3,F6,F9,F14,L14,N2_14,N3_14,N6_14,N9_14,RPs31,RSs31,RPs40,RSs40,RPs89,RSs89,DPs31_Ps89,DPs40_Ps89,DSs31_Ss89,DSs40_Ss89⟩)
       simp only [putAll,Act.put,za,zb,zc]
       try rfl
      ·refine bxs (cs:=#[.string (⟨#[]⟩ : ByteArray),.string (⟨#[]⟩ : ByteArray),.slice none 0 0,.slice none 0 0,.bool false,.string (⟨#[]⟩ : ByteArray)]) (t:=38) (by rfl) rfl ?hr B (fun g14 w32 hb B F14 L14 E14=>?_)
       (case hr=>go_simp;first | done | rfl)
       have N2_14:=ne1 E14 F2
       have N3_14:=ne1 E14 F3
       have N6_14:=ne1 E14 F6
       have N9_14:=ne1 E14 F9
       replace F2:=bn F2 hb
       replace F3:=bn F3 hb
       replace F6:=bn F6 hb
       replace F9:=bn F9 hb
       replace RPs31:=rn RPs31 hb
       replace RSs31:=rn RSs31 hb
       replace RPs40:=rn RPs40 hb
       replace RSs40:=rn RSs40 hb
       replace RPs86:=rn RPs86 hb
       replace RSs86:=rn RSs86 hb
       clear hb E14
       refine hK.out _ _ ⟨F2.out,F3.out⟩ (fun hHeld=>?_)
       clear hK K
       refine npq (some 14) ?_
       refine one_ (i:=4) (N:=some 89) (bits 11 287) rfl rfl (one_of HT_.out (by kernel_rfl)) (by decide) (fun K hK=>?_)
       refine gsq Try.func12 #[.agg #[.string a,.string b,.slice APs86 qs.length kPs86,.slice ASs86 us.length kSs86,.bool t,.string c],.agg #[.int .i64 (ci),.int .i64 (sq),.int .i64 (k),.string x,.int .i64 (v),.int .i64 (o)]] ?_
       with_reducible refine c2r (impl_ApplyEntry.Mr a b _ _ qs _ _ us t c ci sq k x v o xa xb xp xs xt xc nn HM.out w32 (rc RPs86) (rc RSs86) (rl RPs86) (rl RSs86)) B fun APs89 kPs89 ASs89 kSs89 w33 hb B RPs89 QPs89 RSs89 QSs89=>?_
       have DPs31_Ps89:=fr QPs89 RPs31
       have DSs31_Ps89:=fr QPs89 RSs31
       have DPs40_Ps89:=fr QPs89 RPs40
       have DSs40_Ps89:=fr QPs89 RSs40
       have DPs31_Ss89:=fr QSs89 RPs31
       have DSs31_Ss89:=fr QSs89 RSs31
       have DPs40_Ss89:=fr QSs89 RPs40
       have DSs40_Ss89:=fr QSs89 RSs40
       replace F2:=bn F2 hb
       replace F3:=bn F3 hb
       replace F6:=bn F6 hb
       replace F9:=bn F9 hb
       replace F14:=bn F14 hb
       replace RPs31:=rn RPs31 hb
       replace RSs31:=rn RSs31 hb
       replace RPs40:=rn RPs40 hb
       replace RSs40:=rn RSs40 hb
       clear hb
       refine ⟨_,rfl,?_⟩
       refine hK.out _ _ ⟨F2.out,F3.out⟩ (fun hHeld=>?_)
       clear hK K
       refine npq (some 89) ?_
       clear QPs89 QSs89
       refine pvq 5 (some 84) (bits 11 319) HT_ ?_
       refine pvq 6 (some 90) (bits 11 383) HT_ ?_
       refine pvq 7 (some 91) (bits 11 511) HT_ ?_
       refine nmq ?_
       refine norm_ (a':=_) ?_ (J ⟨APs86,kPs86,ASs86,kSs86,APs89,kPs89,ASs89,kSs89,g14⟩ _ ⟨B,F2,F3,F6,F9,F14,L14,N2_14,N3_14,N6_14,N9_14,RPs31,RSs31,RPs40,RSs40,RPs89,RSs89,DPs31_Ps89,DPs40_Ps89,DSs31_Ss89,DSs40_Ss89⟩)
       simp only [putAll,Act.put,za,zb,zc]
       try rfl
     ·refine bxs (cs:=#[.string (⟨#[]⟩ : ByteArray),.string (⟨#[]⟩ : ByteArray),.slice none 0 0,.slice none 0 0,.bool false,.string (⟨#[]⟩ : ByteArray)]) (t:=38) (by rfl) rfl ?hr B (fun g14 w31 hb B F14 L14 E14=>?_)
      (case hr=>go_simp;first | done | rfl)
      have N2_14:=ne1 E14 F2
      have N3_14:=ne1 E14 F3
      have N6_14:=ne1 E14 F6
      have N9_14:=ne1 E14 F9
      replace F2:=bn F2 hb
      replace F3:=bn F3 hb
      replace F6:=bn F6 hb
      replace F9:=bn F9 hb
      replace RPs31:=rn RPs31 hb
      replace RSs31:=rn RSs31 hb
      replace RPs40:=rn RPs40 hb
      replace RSs40:=rn RSs40 hb
      replace RPs86:=rn RPs86 hb
      replace RSs86:=rn RSs86 hb
      clear hb E14
      refine hK.out _ _ ⟨F2.out,F3.out⟩ (fun hHeld=>?_)
      clear hK K
      refine npq (some 14) ?_
      refine one_ (i:=3) (N:=some 88) (bits 11 271) rfl rfl (one_of HT_.out (by kernel_rfl)) (by decide) (fun K hK=>?_)
      refine gsq Try.func11 #[.agg #[.int .i64 (ci),.int .i64 (sq),.int .i64 (k),.string x,.int .i64 (v),.int .i64 (o)]] ?_
      with_reducible refine cl (laws_toEntry.M ci sq k x v o w31) B fun w32 hb B=>?_
      replace F2:=bn F2 hb
      replace F3:=bn F3 hb
      replace F6:=bn F6 hb
      replace F9:=bn F9 hb
      replace F14:=bn F14 hb
      replace RPs31:=rn RPs31 hb
      replace RSs31:=rn RSs31 hb
      replace RPs40:=rn RPs40 hb
      replace RSs40:=rn RSs40 hb
      replace RPs86:=rn RPs86 hb
      replace RSs86:=rn RSs86 hb
      clear hb
      refine ⟨_,rfl,?_⟩
      refine hK.out _ _ ⟨F2.out,F3.out⟩ (fun hHeld=>?_)
      clear hK K
      refine npq (some 88) ?_
      refine one_ (i:=4) (N:=some 89) (bits 11 287) rfl rfl (one_of HT_.out (by kernel_rfl)) (by decide) (fun K hK=>?_)
      refine gsq Try.func12 #[.agg #[.string a,.string b,.slice APs86 qs.length kPs86,.slice ASs86 us.length kSs86,.bool t,.string c],.agg #[.int .i64 (ci),.int .i64 (sq),.int .i64 (k),.string x,.int .i64 (v),.int .i64 (o)]] ?_
      with_reducible refine c2r (impl_ApplyEntry.Mr a b _ _ qs _ _ us t c ci sq k x v o xa xb xp xs xt xc nn HM.out w32 (rc RPs86) (rc RSs86) (rl RPs86) (rl RSs86)) B fun APs89 kPs89 ASs89 kSs89 w33 hb B RPs89 QPs89 RSs89 QSs89=>?_
      have DPs31_Ps89:=fr QPs89 RPs31
      have DSs31_Ps89:=fr QPs89 RSs31
      have DPs40_Ps89:=fr QPs89 RPs40
      have DSs40_Ps89:=fr QPs89 RSs40
      have DPs31_Ss89:=fr QSs89 RPs31
      have DSs31_Ss89:=fr QSs89 RSs31
      have DPs40_Ss89:=fr QSs89 RPs40
      have DSs40_Ss89:=fr QSs89 RSs40
      replace F2:=bn F2 hb
      replace F3:=bn F3 hb
      replace F6:=bn F6 hb
      replace F9:=bn F9 hb
      replace F14:=bn F14 hb
      replace RPs31:=rn RPs31 hb
      replace RSs31:=rn RSs31 hb
      replace RPs40:=rn RPs40 hb
      replace RSs40:=rn RSs40 hb
      clear hb
      refine ⟨_,rfl,?_⟩
      refine hK.out _ _ ⟨F2.out,F3.out⟩ (fun hHeld=>?_)
      clear hK K
      refine npq (some 89) ?_
      clear QPs89 QSs89
      refine pvq 5 (some 84) (bits 11 319) HT_ ?_
      refine pvq 6 (some 90) (bits 11 383) HT_ ?_
      refine pvq 7 (some 91) (bits 11 511) HT_ ?_
      refine nmq ?_
      refine norm_ (a':=_) ?_ (J ⟨APs86,kPs86,ASs86,kSs86,APs89,kPs89,ASs89,kSs89,g14⟩ _ ⟨B,F2,F3,F6,F9,F14,L14,N2_14,N3_14,N6_14,N9_14,RPs31,RSs31,RPs40,RSs40,RPs89,RSs89,DPs31_Ps89,DPs40_Ps89,DSs31_Ss89,DSs40_Ss89⟩)
      simp only [putAll,Act.put,za,zb,zc]
      try rfl
    ·refine bxs (cs:=#[.string (⟨#[]⟩ : ByteArray),.string (⟨#[]⟩ : ByteArray),.slice none 0 0,.slice none 0 0,.bool false,.string (⟨#[]⟩ : ByteArray)]) (t:=38) (by rfl) rfl ?hr B (fun g14 w30 hb B F14 L14 E14=>?_)
     (case hr=>go_simp;first | done | rfl)
     have N2_14:=ne1 E14 F2
     have N3_14:=ne1 E14 F3
     have N6_14:=ne1 E14 F6
     have N9_14:=ne1 E14 F9
     replace F2:=bn F2 hb
     replace F3:=bn F3 hb
     replace F6:=bn F6 hb
     replace F9:=bn F9 hb
     replace RPs31:=rn RPs31 hb
     replace RSs31:=rn RSs31 hb
     replace RPs40:=rn RPs40 hb
     replace RSs40:=rn RSs40 hb
     clear hb E14
     refine hK.out _ _ ⟨F2.out,F3.out⟩ (fun hHeld=>?_)
     clear hK K
     refine npq (some 14) ?_
     refine one_ (i:=1) (N:=some 86) (bits 11 263) rfl rfl (one_of HT_.out (by kernel_rfl)) (by decide) (fun K hK=>?_)
     refine gsq Try.func10 #[.agg #[.string a,.string b,.slice AP ps.length cP,.slice AS ss.length cS,.bool t,.string c]] ?_
     with_reducible refine c2r (laws_toState.M a b _ _ ps _ _ ss t c qs us w30 (cb HRP B) (cb HRS B) ⟨by omega,by omega⟩ HQS.out HUS.out) B fun APs86 kPs86 ASs86 kSs86 w31 hb B RPs86 QPs86 RSs86 QSs86=>?_
     have DPs31_Ps86:=fr QPs86 RPs31
     have DSs31_Ps86:=fr QPs86 RSs31
     have DPs40_Ps86:=fr QPs86 RPs40
     have DSs40_Ps86:=fr QPs86 RSs40
     have DPs31_Ss86:=fr QSs86 RPs31
     have DSs31_Ss86:=fr QSs86 RSs31
     have DPs40_Ss86:=fr QSs86 RPs40
     have DSs40_Ss86:=fr QSs86 RSs40
     replace F2:=bn F2 hb
     replace F3:=bn F3 hb
     replace F6:=bn F6 hb
     replace F9:=bn F9 hb
     replace F14:=bn F14 hb
     replace RPs31:=rn RPs31 hb
     replace RSs31:=rn RSs31 hb
     replace RPs40:=rn RPs40 hb
     replace RSs40:=rn RSs40 hb
     clear hb
     refine ⟨_,rfl,?_⟩
     refine hK.out _ _ ⟨F2.out,F3.out⟩ (fun hHeld=>?_)
     clear hK K
     refine npq (some 86) ?_
     clear QPs86 QSs86
     refine one_ (i:=3) (N:=some 88) (bits 11 271) rfl rfl (one_of HT_.out (by kernel_rfl)) (by decide) (fun K hK=>?_)
     refine gsq Try.func11 #[.agg #[.int .i64 (ci),.int .i64 (sq),.int .i64 (k),.string x,.int .i64 (v),.int .i64 (o)]] ?_
     with_reducible refine cl (laws_toEntry.M ci sq k x v o w31) B fun w32 hb B=>?_
     replace F2:=bn F2 hb
     replace F3:=bn F3 hb
     replace F6:=bn F6 hb
     replace F9:=bn F9 hb
     replace F14:=bn F14 hb
     replace RPs31:=rn RPs31 hb
     replace RSs31:=rn RSs31 hb
     replace RPs40:=rn RPs40 hb
     replace RSs40:=rn RSs40 hb
     replace RPs86:=rn RPs86 hb
     replace RSs86:=rn RSs86 hb
     clear hb
     refine ⟨_,rfl,?_⟩
     refine hK.out _ _ ⟨F2.out,F3.out⟩ (fun hHeld=>?_)
     clear hK K
     refine npq (some 88) ?_
     refine one_ (i:=4) (N:=some 89) (bits 11 287) rfl rfl (one_of HT_.out (by kernel_rfl)) (by decide) (fun K hK=>?_)
     refine gsq Try.func12 #[.agg #[.string a,.string b,.slice APs86 qs.length kPs86,.slice ASs86 us.length kSs86,.bool t,.string c],.agg #[.int .i64 (ci),.int .i64 (sq),.int .i64 (k),.string x,.int .i64 (v),.int .i64 (o)]] ?_
     with_reducible refine c2r (impl_ApplyEntry.Mr a b _ _ qs _ _ us t c ci sq k x v o xa xb xp xs xt xc nn HM.out w32 (rc RPs86) (rc RSs86) (rl RPs86) (rl RSs86)) B fun APs89 kPs89 ASs89 kSs89 w33 hb B RPs89 QPs89 RSs89 QSs89=>?_
     have DPs31_Ps89:=fr QPs89 RPs31
     have DSs31_Ps89:=fr QPs89 RSs31
     have DPs40_Ps89:=fr QPs89 RPs40
     have DSs40_Ps89:=fr QPs89 RSs40
     have DPs31_Ss89:=fr QSs89 RPs31
     have DSs31_Ss89:=fr QSs89 RSs31
     have DPs40_Ss89:=fr QSs89 RPs40
     have DSs40_Ss89:=fr QSs89 RSs40
     replace F2:=bn F2 hb
     replace F3:=bn F3 hb
     replace F6:=bn F6 hb
     replace F9:=bn F9 hb
     replace F14:=bn F14 hb
     replace RPs31:=rn RPs31 hb
     replace RSs31:=rn RSs31 hb
     replace RPs40:=rn RPs40 hb
     replace RSs40:=rn RSs40 hb
     clear hb
     refine ⟨_,rfl,?_⟩
     refine hK.out _ _ ⟨F2.out,F3.out⟩ (fun hHeld=>?_)
     clear hK K
     refine npq (some 89) ?_
     clear QPs89 QSs89
     refine pvq 5 (some 84) (bits 11 319) HT_ ?_
     refine pvq 6 (some 90) (bits 11 383) HT_ ?_
     refine pvq 7 (some 91) (bits 11 511) HT_ ?_
     refine nmq ?_
     refine norm_ (a':=_) ?_ (J ⟨APs86,kPs86,ASs86,kSs86,APs89,kPs89,ASs89,kSs89,g14⟩ _ ⟨B,F2,F3,F6,F9,F14,L14,N2_14,N3_14,N6_14,N9_14,RPs31,RSs31,RPs40,RSs40,RPs89,RSs89,DPs31_Ps89,DPs40_Ps89,DSs31_Ss89,DSs40_Ss89⟩)
     simp only [putAll,Act.put,za,zb,zc]
     try rfl
   rintro ⟨APs86,kPs86,ASs86,kSs86,APs89,kPs89,ASs89,kSs89,g14⟩ w34 ⟨B,F2,F3,F6,F9,F14,L14,N2_14,N3_14,N6_14,N9_14,RPs31,RSs31,RPs40,RSs40,RPs89,RSs89,DPs31_Ps89,DPs40_Ps89,DSs31_Ss89,DSs40_Ss89⟩
   refine norm_ (a':=?_) ?_ ?_
   rotate_left
   ·simp only [putAll,Act.put,za,zb,zc]
    rfl
   refine one_ (i:=9) (N:=none) (bits 11 1023) rfl rfl (one_of HT_.out (by kernel_rfl)) (by decide) (fun K hK=>?_)
   obtain ⟨y0,y1,y2,y3,y4,y5,z0,z1,z2,z3,z4,z5⟩:=cz6 F14
   refine sxs (g:=g14) 0 [.string xa,.string xb,.slice APs89 xp.length kPs89,.slice ASs89 xs.length kSs89,.bool xt,.string xc] [.string xa,.string xb,.slice APs89 xp.length kPs89,.slice ASs89 xs.length kSs89,.bool xt,.string xc] (by rfl) rfl ?hr B F14 L14 rfl (Nat.le_of_ble_eq_true rfl) (fun w35 hk B G=>?_)
   (case hr=>go_simp;first | done | rfl)
   replace F2:=bk F2 hk N2_14.out
   replace F3:=bk F3 hk N3_14.out
   replace F6:=bk F6 hk N6_14.out
   replace F9:=bk F9 hk N9_14.out
   replace RPs31:=rk RPs31 F14 (by decide) hk
   replace RSs31:=rk RSs31 F14 (by decide) hk
   replace RPs40:=rk RPs40 F14 (by decide) hk
   replace RSs40:=rk RSs40 F14 (by decide) hk
   replace RPs89:=rk RPs89 F14 (by decide) hk
   replace RSs89:=rk RSs89 F14 (by decide) hk
   replace F14:=G
   clear hk y0 z0 y1 z1 y2 z2 y3 z3 y4 z4 y5 z5
   refine hK.out _ _ ⟨F2.out,F3.out⟩ (fun hHeld=>?_)
   clear hK K
   refine pvq 10 (some 15) (bits 11 2047) HT_ ?_
   refine nmq ?_
   refine done_ (done_of HT_.out (by kernel_rfl)) ?_
   clear c6_0 c6_1 c6_2 c6_3 c6_4 c6_5
   obtain ⟨c6_0,c6_1,c6_2,c6_3,c6_4,c6_5⟩:=cs6 F6
   clear c9_0 c9_1 c9_2 c9_3 c9_4 c9_5
   obtain ⟨c9_0,c9_1,c9_2,c9_3,c9_4,c9_5⟩:=cs6 F9
   obtain ⟨c14_0,c14_1,c14_2,c14_3,c14_4,c14_5⟩:=cs6 F14)
  all_goals go_wp2_with (first
   | (go_at_call 13;with_reducible refine cl (laws_eqState.M xa xb _ _ _ _ xp _ _ _ _ xs xt xc w35 (rc RPs89) (rc RPs31) (rc RSs89) (rc RSs31)) B fun w36 hb B=>?_;replace F9:=bn F9 hb;replace RPs40:=rn RPs40 hb;replace RSs40:=rn RSs40 hb;clear c9_0 c9_1 c9_2 c9_3 c9_4 c9_5;obtain ⟨c9_0,c9_1,c9_2,c9_3,c9_4,c9_5⟩:=cs6 F9;clear hb)
   | (go_at_call 15;with_reducible refine cl (laws_heldState.M xa xb _ _ xp _ _ xs xt xc 1 w36 (rc RPs40) (rl2 RPs40) (rc RSs40) (rl2 RSs40) (by assumption) (by assumption) (by assumption) (by assumption)) B fun w37 hb B=>?_;clear hb))
  all_goals try (go_ret;exact ⟨rfl,B.out⟩)
 ·have HRP:=Aside0.mk hrp
  have HRS:=Aside0.mk hrs
  have HSA:=Aside0.mk hs
  clear hrp hrs hs
  go_enter Try.func3,Try.ntmps3
  go_wp2_with (first
   | ((with_reducible refine gate_dst (N:=2) rfl ?_);refine bxq 2 #[.string a,.string b,.slice AP ps.length cP,.slice AS ss.length cS,.bool t,.string c] 27 B fun g2 w1001 hb B F2 L2 E2=>?_;obtain ⟨c2_0,c2_1,c2_2,c2_3,c2_4,c2_5⟩:=cs6 F2;clear hb E2)
   | ((with_reducible refine gate_dst (N:=3) rfl ?_);refine bxq 3 #[.int .i64 (ci),.int .i64 (sq),.int .i64 (k),.string x,.int .i64 (v),.int .i64 (o)] 31 B fun g3 w1002 hb B F3 L3 E3=>?_;replace F2:=bn F2 hb;clear c2_0 c2_1 c2_2 c2_3 c2_4 c2_5;obtain ⟨c2_0,c2_1,c2_2,c2_3,c2_4,c2_5⟩:=cs6 F2;clear hb E3)
   | (go_at_call 7;with_reducible refine cx (laws_szState.M a b _ _ ps _ _ ss t c 1048576 w1002 (cb HRP B) (cb HRS B) (by omega) HSA.out) B fun v1003 hv1003 w1003 hb B=>?_;clear hb))
  all_goals first
   | (go_ret;exact ⟨rfl,B.out⟩)
   | (exfalso;omega)
def laws_FnExactApplyEntry.f (k : Nat) (a b : ByteArray) (ps : List S114) (ss : List S123) (t : Bool) (c : ByteArray) (ci sq kd : Int) (x : ByteArray) (v o : Int) : Option Bool:=if (a.size≤9223372036854775807∧b.size≤9223372036854775807∧c.size≤9223372036854775807∧∀ y ∈ ps,y.f0.size≤9223372036854775807)∧x.size≤9223372036854775807 then some true else none
theorem laws_FnExactApplyEntry.calls (k : Nat) (a b : ByteArray) (AP : Option Addr) (cP : Nat) (ps : List S114) (AS : Option Addr) (cS : Nat) (ss : List S123) (t : Bool) (c : ByteArray) (ci sq kd : Int) (x : ByteArray) (v o : Int) (r : Bool) (w : World) (hrp : Kd.C k114 w AP ps.length ps) (hcp : ps.length≤cP) (hrs : Kd.C k123 w AS ss.length ss) (hcs : ss.length≤cS) (h : laws_FnExactApplyEntry.f k a b ps ss t c ci sq kd x v o=some r) : Calls Try.prog 3 #[.agg #[.string a,.string b,.slice AP ps.length cP,.slice AS ss.length cS,.bool t,.string c],.agg #[.int .i64 ci,.int .i64 sq,.int .i64 kd,.string x,.int .i64 v,.int .i64 o]] w fun e w'=>e=.returned (.bool r)∧Below w.heap.size w w':=by
 unfold laws_FnExactApplyEntry.f at h
 split at h
 ·rename_i hc
  obtain rfl:=Option.some.inj h
  exact laws_FnExactApplyEntry.M a b AP cP ps AS cS ss t c ci sq kd x v o w hrp hrs hc
 ·cases h

end Go.Proofs.Ythofkheehldioaa.PFnExactApplyEntry
