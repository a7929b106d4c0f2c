/- Walks over models, part 2: iae aer srp irp c3r rpr szst tost entl eqst entr tostate markp marks markst marke marki. -/
import Derived.Test.YthofkheehldioaaPFnExactReplayx0
import Derived.Deep.RegionHeld3
import Derived.Lib.Strings
import Derived.Laws.BytesArg
import Derived.Test.YthofkheehldioaaPFnExactReplayx19
import Derived.Test.YthofkheehldioaaPFnExactReplayx22
import Derived.Test.YthofkheehldioaaPFnExactReplayx20
import Derived.Test.YthofkheehldioaaPFnExactReplayx23
import Derived.Test.YthofkheehldioaaPFnExactReplayx89
import Derived.Test.YthofkheehldioaaPFnExactReplayx90
import Derived.Test.YthofkheehldioaaPFnExactReplayx84
import Derived.Test.YthofkheehldioaaMFnExactReplay0
import Derived.Test.YthofkheehldioaaMFnExactReplay1
namespace Go.Proofs.Ythofkheehldioaa.PFnExactReplay
open Go.RowKit Go.Proofs.YthofkheehldioaaW.PrintWords Go.Proofs.YthofkheehldioaaW.PrintLast Go.Proofs.YthofkheehldioaaW.PrintMore
set_option linter.unusedVariables false
set_option linter.unusedSimpArgs false
set_option maxHeartbeats 4000000
set_option maxRecDepth 100000
attribute [local go_sem] leq_str geq_str gtr_str
theorem impl_sessionPlace.Mb (A0 : Option Addr) (c0 : Nat) (l : List S76) (c : Int) (w : World) (hr0 : Kd.C k76 w A0 l.length l) (hc0 : l.length≤c0) (hv : sesB l=true) (bb : Bool) (hh : hitOf l c=bb) : Calls Try.prog 50 #[.slice A0 l.length c0,.int .i64 c] w fun e w'=>e=.returned (.tuple #[.int .i64 ((plOf l c : Nat) : Int),.bool bb])∧Below w.heap.size w w':=by
 subst hh
 exact impl_sessionPlace.M A0 c0 l c w hr0 hc0 hv
def impl_ApplyEntry.T5 : Bool × List (List Nat × List Nat):=(true,[([],[]),([0],[0]),([1],[1]),([2,1],[1,2]),([1],[1]),([4,1],[1,4]),([1],[1]),([5,6,1],[1,5,6]),([7,1],[1,7]),([8,1],[1,8]),([3,9,1],[1,3,9]),([1,10],[1,10])])
def impl_ApplyEntry.B5 : List Nat:=[0,1,3,7,3,19,3,115,243,499,1023,2047]
theorem impl_ApplyEntry.tab5 : rtab .any (opsOf Try.f12 5)=impl_ApplyEntry.T5:=by kernel_rfl
theorem impl_ApplyEntry.bits5 : waitsOk impl_ApplyEntry.T5.2 impl_ApplyEntry.B5=true:=by kernel_rfl
def impl_ApplyEntry.T6 : Bool × List (List Nat × List Nat):=(true,[([],[]),([0],[0]),([],[]),([2],[2]),([],[]),([3,4],[3,4]),([5],[5]),([6],[6]),([1,7],[1,7])])
def impl_ApplyEntry.B6 : List Nat:=[0,1,0,4,0,28,60,124,255]
theorem impl_ApplyEntry.tab6 : rtab .any (opsOf Try.f12 6)=impl_ApplyEntry.T6:=by kernel_rfl
theorem impl_ApplyEntry.bits6 : waitsOk impl_ApplyEntry.T6.2 impl_ApplyEntry.B6=true:=by kernel_rfl
def impl_ApplyEntry.T7 : Bool × List (List Nat × List Nat):=(true,[([],[]),([],[]),([1],[1]),([],[]),([2,3],[2,3]),([4],[4]),([5],[5]),([0,0],[0]),([6,7,0,1,2,3,4,5,6,7],[6])])
def impl_ApplyEntry.B7 : List Nat:=[0,0,2,0,14,30,62,1,255]
theorem impl_ApplyEntry.tab7 : rtab .any (opsOf Try.f12 7)=impl_ApplyEntry.T7:=by kernel_rfl
theorem impl_ApplyEntry.bits7 : waitsOk impl_ApplyEntry.T7.2 impl_ApplyEntry.B7=true:=by kernel_rfl
theorem impl_ApplyEntry.M (a b : ByteArray) (AP : Option Addr) (cP : Nat) (ps : List S105) (AS : Option Addr) (cS : Nat) (ss : List S76) (t : Bool) (c : ByteArray) (ci sq k : Int) (x : ByteArray) (v o : Int) (w : World) (hrp : Kd.C k105 w AP ps.length ps) (hrs : Kd.C k76 w AS ss.length ss) (hcp : ps.length≤cP) (hcs : ss.length≤cS) : Calls Try.prog 12 #[.agg #[.string a,.string b,.slice AP ps.length cP,.slice AS ss.length cS,.bool t,.string c],.agg #[.int .i64 ci,.int .i64 sq,.int .i64 k,.string x,.int .i64 v,.int .i64 o]] w fun e w'=>∃ v2 v3,e=.returned (.tuple #[.agg #[.string (aeM ⟨a,b,ps,ss,t,c⟩ ci sq k x v o).1.a,.string (aeM ⟨a,b,ps,ss,t,c⟩ ci sq k x v o).1.b,v2,v3,.bool (aeM ⟨a,b,ps,ss,t,c⟩ ci sq k x v o).1.t,.string (aeM ⟨a,b,ps,ss,t,c⟩ ci sq k x v o).1.c],.int .i64 (aeM ⟨a,b,ps,ss,t,c⟩ ci sq k x v o).2])∧Kd.R k105 105 w' w.heap.size (fun _=>True) v2 (aeM ⟨a,b,ps,ss,t,c⟩ ci sq k x v o).1.ps∧Kd.R k76 76 w' w.heap.size (fun _=>True) v3 (aeM ⟨a,b,ps,ss,t,c⟩ ci sq k x v o).1.ss∧Below w.heap.size w w':=by
 have B:=Aside0.mk (Below.refl w.heap.size w)
 have hu:=Try.underlying38
 have hu2:=Try.underlying34
 have HRP:=Aside0.mk hrp
 have HRS:=Aside0.mk hrs
 have HCP:=Aside0.mk hcp
 have HCS:=Aside0.mk hcs
 clear hrp hrs hcp hcs
 have hu3:=Try.underlying44
 have hu4:=Try.underlying42
 have hu5:=Try.underlying76
 cases hs : stB a b ps ss t c with
 | false =>
  rw [aeM_bad (s:=⟨a,b,ps,ss,t,c⟩) (by unfold SM.ok;rw [hs];simp)]
  go_enter Try.func12,Try.ntmps12
  go_wp2_with (first
   | ((with_reducible refine gate_dst (N:=2) rfl ?_);refine bxq 2 #[.string a,.string b,.slice AP ps.length cP,.slice AS ss.length cS,.bool t,.string c] 38 B fun g2 w1 hb B F2 L2 E2=>?_;obtain ⟨c2_0,c2_1,c2_2,c2_3,c2_4,c2_5⟩:=cs6 F2;clear hb E2)
   | ((with_reducible refine gate_dst (N:=3) rfl ?_);refine bxq 3 #[.int .i64 (ci),.int .i64 (sq),.int .i64 (k),.string x,.int .i64 (v),.int .i64 (o)] 44 B fun g3 w2 hb B F3 L3 E3=>?_;replace F2:=bn F2 hb;clear c2_0 c2_1 c2_2 c2_3 c2_4 c2_5;obtain ⟨c2_0,c2_1,c2_2,c2_3,c2_4,c2_5⟩:=cs6 F2;obtain ⟨c3_0,c3_1,c3_2,c3_3,c3_4,c3_5⟩:=cs6 F3;clear hb E3)
   | ((with_reducible refine gate_dst (N:=4) rfl ?_);refine bxq 4 #[.string (⟨#[]⟩ : ByteArray),.string (⟨#[]⟩ : ByteArray),.slice none 0 0,.slice none 0 0,.bool false,.string (⟨#[]⟩ : ByteArray)] 38 B fun g4 w3 hb B F4 L4 E4=>?_;have N2_4:=ne1 E4 F2;have N3_4:=ne1 E4 F3;replace F2:=bn F2 hb;replace F3:=bn F3 hb;clear c2_0 c2_1 c2_2 c2_3 c2_4 c2_5;obtain ⟨c2_0,c2_1,c2_2,c2_3,c2_4,c2_5⟩:=cs6 F2;clear c3_0 c3_1 c3_2 c3_3 c3_4 c3_5;obtain ⟨c3_0,c3_1,c3_2,c3_3,c3_4,c3_5⟩:=cs6 F3;clear hb E4)
   | (go_at_call 18;with_reducible refine cl (impl_StateValid.M a b _ _ ps _ _ ss t c _ (cb HRP B) (cb HRS B)) B fun w4 hb B=>?_;replace F2:=bn F2 hb;replace F3:=bn F3 hb;replace F4:=bn F4 hb;clear c3_0 c3_1 c3_2 c3_3 c3_4 c3_5;obtain ⟨c3_0,c3_1,c3_2,c3_3,c3_4,c3_5⟩:=cs6 F3;clear hb)
   | (go_at_call 19;with_reducible refine cl (impl_EntryValid.M ci sq k x v o _) B fun w5 hb B=>?_;replace F2:=bn F2 hb;replace F3:=bn F3 hb;replace F4:=bn F4 hb;clear hb)
   | ((with_reducible refine gate_store (t:=38) (p:=4) rfl ?_);obtain ⟨y0,y1,y2,y3,y4,y5,z0,z1,z2,z3,z4,z5⟩:=cz6 F4;refine sxq 38 38 4 0 [.string (⟨#[]⟩ : ByteArray),.string (⟨#[]⟩ : ByteArray),.slice none 0 0,.slice none 0 0,.bool false,.string (⟨#[]⟩ : ByteArray)] [.string (⟨#[]⟩ : ByteArray),.string (⟨#[]⟩ : ByteArray),.slice none 0 0,.slice none 0 0,.bool false,.string (⟨#[]⟩ : ByteArray)] B F4 L4 fun w6 hk B G=>?_;replace F2:=bk F2 hk N2_4.out;replace F3:=bk F3 hk N3_4.out;replace F4:=G;clear hk y0 z0 y1 z1 y2 z2 y3 z3 y4 z4 y5 z5))
  all_goals (try (refine bodyPost_ret (results_list (rs:=[.cell 4 38,.tmp 5]) rfl (by simp) (.cell g4 38 _ (0,0) _ rfl F4.out hu rfl (by kernel_rfl) (.tmp .nil))) rfl ?_);exact ⟨_,_,rfl,Kd.R_nil _ _ _ _ _,Kd.R_nil _ _ _ _ _,B.out⟩)
 | true =>
  cases he : entB ci sq k x v o with
  | false =>
   rw [aeM_bad (s:=⟨a,b,ps,ss,t,c⟩) (by rw [he];simp)]
   go_enter Try.func12,Try.ntmps12
   go_wp2_with (first
    | ((with_reducible refine gate_dst (N:=2) rfl ?_);refine bxq 2 #[.string a,.string b,.slice AP ps.length cP,.slice AS ss.length cS,.bool t,.string c] 38 B fun g2 w101 hb B F2 L2 E2=>?_;obtain ⟨c2_0,c2_1,c2_2,c2_3,c2_4,c2_5⟩:=cs6 F2;clear hb E2)
    | ((with_reducible refine gate_dst (N:=3) rfl ?_);refine bxq 3 #[.int .i64 (ci),.int .i64 (sq),.int .i64 (k),.string x,.int .i64 (v),.int .i64 (o)] 44 B fun g3 w102 hb B F3 L3 E3=>?_;replace F2:=bn F2 hb;clear c2_0 c2_1 c2_2 c2_3 c2_4 c2_5;obtain ⟨c2_0,c2_1,c2_2,c2_3,c2_4,c2_5⟩:=cs6 F2;obtain ⟨c3_0,c3_1,c3_2,c3_3,c3_4,c3_5⟩:=cs6 F3;clear hb E3)
    | ((with_reducible refine gate_dst (N:=4) rfl ?_);refine bxq 4 #[.string (⟨#[]⟩ : ByteArray),.string (⟨#[]⟩ : ByteArray),.slice none 0 0,.slice none 0 0,.bool false,.string (⟨#[]⟩ : ByteArray)] 38 B fun g4 w103 hb B F4 L4 E4=>?_;have N2_4:=ne1 E4 F2;have N3_4:=ne1 E4 F3;replace F2:=bn F2 hb;replace F3:=bn F3 hb;clear c2_0 c2_1 c2_2 c2_3 c2_4 c2_5;obtain ⟨c2_0,c2_1,c2_2,c2_3,c2_4,c2_5⟩:=cs6 F2;clear c3_0 c3_1 c3_2 c3_3 c3_4 c3_5;obtain ⟨c3_0,c3_1,c3_2,c3_3,c3_4,c3_5⟩:=cs6 F3;clear hb E4)
    | (go_at_call 18;with_reducible refine cl (impl_StateValid.M a b _ _ ps _ _ ss t c _ (cb HRP B) (cb HRS B)) B fun w104 hb B=>?_;replace F2:=bn F2 hb;replace F3:=bn F3 hb;replace F4:=bn F4 hb;clear c3_0 c3_1 c3_2 c3_3 c3_4 c3_5;obtain ⟨c3_0,c3_1,c3_2,c3_3,c3_4,c3_5⟩:=cs6 F3;clear hb)
    | (go_at_call 19;with_reducible refine cl (impl_EntryValid.M ci sq k x v o _) B fun w105 hb B=>?_;replace F2:=bn F2 hb;replace F3:=bn F3 hb;replace F4:=bn F4 hb;clear hb)
    | ((with_reducible refine gate_store (t:=38) (p:=4) rfl ?_);obtain ⟨y0,y1,y2,y3,y4,y5,z0,z1,z2,z3,z4,z5⟩:=cz6 F4;refine sxq 38 38 4 0 [.string (⟨#[]⟩ : ByteArray),.string (⟨#[]⟩ : ByteArray),.slice none 0 0,.slice none 0 0,.bool false,.string (⟨#[]⟩ : ByteArray)] [.string (⟨#[]⟩ : ByteArray),.string (⟨#[]⟩ : ByteArray),.slice none 0 0,.slice none 0 0,.bool false,.string (⟨#[]⟩ : ByteArray)] B F4 L4 fun w106 hk B G=>?_;replace F2:=bk F2 hk N2_4.out;replace F3:=bk F3 hk N3_4.out;replace F4:=G;clear hk y0 z0 y1 z1 y2 z2 y3 z3 y4 z4 y5 z5))
   all_goals (try (refine bodyPost_ret (results_list (rs:=[.cell 4 38,.tmp 5]) rfl (by simp) (.cell g4 38 _ (0,0) _ rfl F4.out hu rfl (by kernel_rfl) (.tmp .nil))) rfl ?_);exact ⟨_,_,rfl,Kd.R_nil _ _ _ _ _,Kd.R_nil _ _ _ _ _,B.out⟩)
  | true =>
   obtain ⟨hiv,hp,hv,hin,htl⟩:=stB_parts.mp hs
   have hpl : ps.length≤1000000:=by have:=prB_len hp;omega
   have hsl : ss.length≤1000000:=by have:=sesB_len hv;omega
   obtain ⟨hcl,hsq,hcm⟩:=entB_parts he
   have hh : ((SM.mk a b ps ss t c).ok && entB ci sq k x v o)=true:=by unfold SM.ok;rw [hs,he];rfl
   clear hin htl hp hiv
   cases hit : hitOf ss ci with
   | true =>
    have hfy:=hit_findS hv hit
    have hpo:=(plhit hit).1
    obtain ⟨ad,hA,y0,y1,y2⟩:=at_T76 HRS.out ((plOf ss ci : Nat) : Int) (by omega) (by omega)
    cases hA
    clear y0 y1 y2
    have j1:=eq_true (show ((plOf ss ci : Nat) : Int) < (ss.length : Int) by omega)
    have j2:=eq_true hpo
    generalize hy : rd_T76 ss ((plOf ss ci : Nat) : Int)=y at *
    by_cases q1 : sq≤y.f1
    ·have d1 : decide (sq≤y.f1)=true:=decide_eq_true q1
     have hi : idleB ⟨a,b,ps,ss,t,c⟩ ci sq k x=true:=by unfold idleB;rw [← hfy,decide_eq_true q1];rfl
     by_cases q2 : y.f1=sq
     ·have d2 : (sq == y.f1)=true:=by rw [q2];simp
      rw [aeM_idle hh hi,show idleN ⟨a,b,ps,ss,t,c⟩ ci sq=y.f2 from by unfold idleN;rw [← hfy];exact if_pos q2]
      clear hh hcm hsq hi hfy hcl q1 q2
      go_enter Try.func12,Try.ntmps12
      go_wp2_with (first
       | ((with_reducible refine gate_dst (N:=2) rfl ?_);refine bxq 2 #[.string a,.string b,.slice AP ps.length cP,.slice (some ad) ss.length cS,.bool t,.string c] 38 B fun g2 w201 hb B F2 L2 E2=>?_;obtain ⟨c2_0,c2_1,c2_2,c2_3,c2_4,c2_5⟩:=cs6 F2;clear hb E2)
       | ((with_reducible refine gate_dst (N:=3) rfl ?_);refine bxq 3 #[.int .i64 (ci),.int .i64 (sq),.int .i64 (k),.string x,.int .i64 (v),.int .i64 (o)] 44 B fun g3 w202 hb B F3 L3 E3=>?_;replace F2:=bn F2 hb;clear c2_0 c2_1 c2_2 c2_3 c2_4 c2_5;obtain ⟨c2_0,c2_1,c2_2,c2_3,c2_4,c2_5⟩:=cs6 F2;obtain ⟨c3_0,c3_1,c3_2,c3_3,c3_4,c3_5⟩:=cs6 F3;clear hb E3)
       | ((with_reducible refine gate_dst (N:=4) rfl ?_);refine bxq 4 #[.string (⟨#[]⟩ : ByteArray),.string (⟨#[]⟩ : ByteArray),.slice none 0 0,.slice none 0 0,.bool false,.string (⟨#[]⟩ : ByteArray)] 38 B fun g4 w203 hb B F4 L4 E4=>?_;have N2_4:=ne1 E4 F2;have N3_4:=ne1 E4 F3;replace F2:=bn F2 hb;replace F3:=bn F3 hb;clear c2_0 c2_1 c2_2 c2_3 c2_4 c2_5;obtain ⟨c2_0,c2_1,c2_2,c2_3,c2_4,c2_5⟩:=cs6 F2;clear c3_0 c3_1 c3_2 c3_3 c3_4 c3_5;obtain ⟨c3_0,c3_1,c3_2,c3_3,c3_4,c3_5⟩:=cs6 F3;clear hb E4)
       | (go_at_call 18;with_reducible refine cl (impl_StateValid.M a b _ _ ps _ _ ss t c _ (cb HRP B) (cb HRS B)) B fun w204 hb B=>?_;replace F2:=bn F2 hb;replace F3:=bn F3 hb;replace F4:=bn F4 hb;clear c2_0 c2_1 c2_2 c2_3 c2_4 c2_5;obtain ⟨c2_0,c2_1,c2_2,c2_3,c2_4,c2_5⟩:=cs6 F2;clear c3_0 c3_1 c3_2 c3_3 c3_4 c3_5;obtain ⟨c3_0,c3_1,c3_2,c3_3,c3_4,c3_5⟩:=cs6 F3;clear hb)
       | (go_at_call 19;with_reducible refine cl (impl_EntryValid.M ci sq k x v o _) B fun w205 hb B=>?_;replace F2:=bn F2 hb;replace F3:=bn F3 hb;replace F4:=bn F4 hb;clear c2_0 c2_1 c2_2 c2_3 c2_4 c2_5;obtain ⟨c2_0,c2_1,c2_2,c2_3,c2_4,c2_5⟩:=cs6 F2;clear c3_0 c3_1 c3_2 c3_3 c3_4 c3_5;obtain ⟨c3_0,c3_1,c3_2,c3_3,c3_4,c3_5⟩:=cs6 F3;clear hb)
       | (go_at_call 49;with_reducible refine c2r (impl_copyState.M a b _ _ ps _ _ ss t c _ (cb HRP B) (cb HRS B) HCP.out HCS.out (by omega) (by omega)) B fun AP206 kP206 AS206 kS206 w206 hb B RP206 QP206 RS206 QS206=>?_;have DP206_S206:=Aside0.mk (dty RP206 RS206 (by decide));replace F2:=bn F2 hb;replace F3:=bn F3 hb;replace F4:=bn F4 hb;clear QP206 QS206;clear c2_0 c2_1 c2_2 c2_3 c2_4 c2_5;obtain ⟨c2_0,c2_1,c2_2,c2_3,c2_4,c2_5⟩:=cs6 F2;clear c3_0 c3_1 c3_2 c3_3 c3_4 c3_5;obtain ⟨c3_0,c3_1,c3_2,c3_3,c3_4,c3_5⟩:=cs6 F3;clear hb)
       | ((with_reducible refine gate_dst (N:=6) rfl ?_);refine bxq 6 #[.string (⟨#[]⟩ : ByteArray),.string (⟨#[]⟩ : ByteArray),.slice none 0 0,.slice none 0 0,.bool false,.string (⟨#[]⟩ : ByteArray)] 38 B fun g6 w207 hb B F6 L6 E6=>?_;have N2_6:=ne1 E6 F2;have N3_6:=ne1 E6 F3;have N4_6:=ne1 E6 F4;replace F2:=bn F2 hb;replace F3:=bn F3 hb;replace F4:=bn F4 hb;replace RP206:=rn RP206 hb;replace RS206:=rn RS206 hb;clear c2_0 c2_1 c2_2 c2_3 c2_4 c2_5;obtain ⟨c2_0,c2_1,c2_2,c2_3,c2_4,c2_5⟩:=cs6 F2;clear c3_0 c3_1 c3_2 c3_3 c3_4 c3_5;obtain ⟨c3_0,c3_1,c3_2,c3_3,c3_4,c3_5⟩:=cs6 F3;obtain ⟨c6_0,c6_1,c6_2,c6_3,c6_4,c6_5⟩:=cs6 F6;clear hb E6)
       | ((with_reducible refine gate_store (t:=38) (p:=6) rfl ?_);obtain ⟨y0,y1,y2,y3,y4,y5,z0,z1,z2,z3,z4,z5⟩:=cz6 F6;refine sxq 38 38 6 0 [.string a,.string b,.slice AP206 ps.length kP206,.slice AS206 ss.length kS206,.bool t,.string c] [.string a,.string b,.slice AP206 ps.length kP206,.slice AS206 ss.length kS206,.bool t,.string c] B F6 L6 fun w208 hk B G=>?_;replace F2:=bk F2 hk N2_6.out;replace F3:=bk F3 hk N3_6.out;replace F4:=bk F4 hk N4_6.out;replace RP206:=rk RP206 F6 (by decide) hk;replace RS206:=rk RS206 F6 (by decide) hk;replace F6:=G;clear c2_0 c2_1 c2_2 c2_3 c2_4 c2_5;obtain ⟨c2_0,c2_1,c2_2,c2_3,c2_4,c2_5⟩:=cs6 F2;clear c3_0 c3_1 c3_2 c3_3 c3_4 c3_5;obtain ⟨c3_0,c3_1,c3_2,c3_3,c3_4,c3_5⟩:=cs6 F3;clear c6_0 c6_1 c6_2 c6_3 c6_4 c6_5;obtain ⟨c6_0,c6_1,c6_2,c6_3,c6_4,c6_5⟩:=cs6 F6;clear hk y0 z0 y1 z1 y2 z2 y3 z3 y4 z4 y5 z5)
       | (go_at_call 50;with_reducible refine cl (impl_sessionPlace.Mb _ _ ss ci _ (cb HRS B) HCS.out hv true hit) B fun w209 hb B=>?_;replace F2:=bn F2 hb;replace F3:=bn F3 hb;replace F4:=bn F4 hb;replace F6:=bn F6 hb;replace RP206:=rn RP206 hb;replace RS206:=rn RS206 hb;clear c2_0 c2_1 c2_2 c2_3 c2_4 c2_5;obtain ⟨c2_0,c2_1,c2_2,c2_3,c2_4,c2_5⟩:=cs6 F2;clear c3_0 c3_1 c3_2 c3_3 c3_4 c3_5;obtain ⟨c3_0,c3_1,c3_2,c3_3,c3_4,c3_5⟩:=cs6 F3;clear c6_0 c6_1 c6_2 c6_3 c6_4 c6_5;obtain ⟨c6_0,c6_1,c6_2,c6_3,c6_4,c6_5⟩:=cs6 F6;clear hb))
      all_goals (
       refine rg (n:=12) (S:=fun W=>W.heap[g3]?=some (.cells #[.int .i64 (ci),.int .i64 (sq),.int .i64 (k),.string x,.int .i64 (v),.int .i64 (o)] 44 (0,0))∧W.heap[g2]?=some (.cells #[.string a,.string b,.slice AP ps.length cP,.slice (some ad) ss.length cS,.bool t,.string c] 38 (0,0))∧Kd.C k76 W (some ad) ss.length ss) (ds:=[]) #[false,false,false,false,false,false,false,false,false,false,false,false] (by kernel_rfl) rfl rfl ⟨F3.out,F2.out,(cb HRS B)⟩ id B (fun w210 hb B hHeld=>?_)
       refine with_tabW impl_ApplyEntry.tab5 impl_ApplyEntry.bits5 (fun HT_ HW_=>?_)
       replace F2:=bn F2 hb
       replace F3:=bn F3 hb
       replace F4:=bn F4 hb
       replace F6:=bn F6 hb
       replace RP206:=rn RP206 hb
       replace RS206:=rn RS206 hb
       clear hb
       refine pvq 0 (some 29) (bits 12 1) HT_ ?_
       refine pvq 1 (some 30) (bits 12 3) HT_ ?_
       refine pvq 2 (some 31) (bits 12 7) HT_ ?_
       refine tvq 3 (some 32) (bits 12 15) HT_ HW_ rfl hHeld (by intro w' hS;obtain ⟨s0,s1,s2⟩:=hS;obtain ⟨q0,q1,q2,q3,q4,q5⟩:=cs6 (Aside0.mk s0);go_simp;with_reducible rfl) ?_
       refine pvq 4 (some 33) (bits 12 31) HT_ ?_
       refine tvq 5 (some 34) (bits 12 63) HT_ HW_ rfl hHeld (by intro w' hS;obtain ⟨s0,s1,s2⟩:=hS;obtain ⟨q0,q1,q2,q3,q4,q5⟩:=cs6 (Aside0.mk s1);go_simp;with_reducible rfl) ?_
       refine pvq 6 (some 35) (bits 12 127) HT_ ?_
       refine pvq 7 (some 36) (bits 12 255) HT_ ?_
       refine pvq 8 (some 37) (bits 12 511) HT_ ?_
       refine tvq 9 (some 38) (bits 12 1023) HT_ HW_ rfl hHeld (by intro w' hS;obtain ⟨s0,s1,s2⟩:=hS;obtain ⟨_,hA,q0,q1,q2⟩:=at_T76 s2 ((plOf ss ci : Nat) : Int) (by omega) (by omega);cases hA;rw [Int.toNat_natCast] at q0 q1 q2;rw [hy] at q0 q1 q2;go_simp;with_reducible rfl) ?_
       refine pvq 10 (some 39) (bits 12 2047) HT_ ?_
       refine pvq 11 (some 40) (bits 12 4095) HT_ ?_
       refine nmq ?_
       refine done_ (done_of HT_.out (by kernel_rfl)) ?_
       clear c2_0 c2_1 c2_2 c2_3 c2_4 c2_5
       obtain ⟨c2_0,c2_1,c2_2,c2_3,c2_4,c2_5⟩:=cs6 F2
       clear c3_0 c3_1 c3_2 c3_3 c3_4 c3_5
       obtain ⟨c3_0,c3_1,c3_2,c3_3,c3_4,c3_5⟩:=cs6 F3
       clear c6_0 c6_1 c6_2 c6_3 c6_4 c6_5
       obtain ⟨c6_0,c6_1,c6_2,c6_3,c6_4,c6_5⟩:=cs6 F6)
      all_goals try go_wp2
      all_goals (
       refine rg (n:=9) (S:=fun W=>W.heap[g3]?=some (.cells #[.int .i64 (ci),.int .i64 (sq),.int .i64 (k),.string x,.int .i64 (v),.int .i64 (o)] 44 (0,0))∧W.heap[g2]?=some (.cells #[.string a,.string b,.slice AP ps.length cP,.slice (some ad) ss.length cS,.bool t,.string c] 38 (0,0))∧Kd.C k76 W (some ad) ss.length ss) (ds:=[]) #[false,false,false,false,false,false,false,false,false] (by kernel_rfl) rfl rfl ⟨F3.out,F2.out,(cb HRS B)⟩ id B (fun w211 hb B hHeld=>?_)
       refine with_tabW impl_ApplyEntry.tab6 impl_ApplyEntry.bits6 (fun HT_ HW_=>?_)
       replace F2:=bn F2 hb
       replace F3:=bn F3 hb
       replace F4:=bn F4 hb
       replace F6:=bn F6 hb
       replace RP206:=rn RP206 hb
       replace RS206:=rn RS206 hb
       clear hb
       refine pvq 0 (some 41) (bits 9 1) HT_ ?_
       refine tvq 1 (some 42) (bits 9 3) HT_ HW_ rfl hHeld (by intro w' hS;obtain ⟨s0,s1,s2⟩:=hS;obtain ⟨q0,q1,q2,q3,q4,q5⟩:=cs6 (Aside0.mk s0);go_simp;with_reducible rfl) ?_
       refine pvq 2 (some 43) (bits 9 7) HT_ ?_
       refine tvq 3 (some 44) (bits 9 15) HT_ HW_ rfl hHeld (by intro w' hS;obtain ⟨s0,s1,s2⟩:=hS;obtain ⟨q0,q1,q2,q3,q4,q5⟩:=cs6 (Aside0.mk s1);go_simp;with_reducible rfl) ?_
       refine pvq 4 (some 45) (bits 9 31) HT_ ?_
       refine pvq 5 (some 46) (bits 9 63) HT_ ?_
       refine pvq 6 (some 47) (bits 9 127) HT_ ?_
       refine tvq 7 (some 48) (bits 9 255) HT_ HW_ rfl hHeld (by intro w' hS;obtain ⟨s0,s1,s2⟩:=hS;obtain ⟨_,hA,q0,q1,q2⟩:=at_T76 s2 ((plOf ss ci : Nat) : Int) (by omega) (by omega);cases hA;rw [Int.toNat_natCast] at q0 q1 q2;rw [hy] at q0 q1 q2;go_simp;with_reducible rfl) ?_
       refine pvq 8 (some 49) (bits 9 511) HT_ ?_
       refine nmq ?_
       refine done_ (done_of HT_.out (by kernel_rfl)) ?_
       clear c2_0 c2_1 c2_2 c2_3 c2_4 c2_5
       obtain ⟨c2_0,c2_1,c2_2,c2_3,c2_4,c2_5⟩:=cs6 F2
       clear c6_0 c6_1 c6_2 c6_3 c6_4 c6_5
       obtain ⟨c6_0,c6_1,c6_2,c6_3,c6_4,c6_5⟩:=cs6 F6)
      all_goals try go_wp2
      all_goals (
       refine rg (n:=9) (S:=fun W=>W.heap[g6]?=some (.cells #[.string a,.string b,.slice AP206 ps.length kP206,.slice AS206 ss.length kS206,.bool t,.string c] 38 (0,0))∧W.heap[g2]?=some (.cells #[.string a,.string b,.slice AP ps.length cP,.slice (some ad) ss.length cS,.bool t,.string c] 38 (0,0))∧Kd.C k76 W (some ad) ss.length ss) (ds:=[]) #[false,false,false,false,false,false,false,false,false] (by kernel_rfl) rfl rfl ⟨F6.out,F2.out,(cb HRS B)⟩ id B (fun w212 hb B hHeld=>?_)
       refine with_tabW impl_ApplyEntry.tab7 impl_ApplyEntry.bits7 (fun HT_ HW_=>?_)
       replace F2:=bn F2 hb
       replace F4:=bn F4 hb
       replace F6:=bn F6 hb
       replace RP206:=rn RP206 hb
       replace RS206:=rn RS206 hb
       clear hb
       refine tvq 0 (some 50) (bits 9 1) HT_ HW_ rfl hHeld (by intro w' hS;obtain ⟨s0,s1,s2⟩:=hS;obtain ⟨q0,q1,q2,q3,q4,q5⟩:=cs6 (Aside0.mk s0);go_simp;with_reducible rfl) ?_
       refine pvq 1 (some 51) (bits 9 3) HT_ ?_
       refine tvq 2 (some 52) (bits 9 7) HT_ HW_ rfl hHeld (by intro w' hS;obtain ⟨s0,s1,s2⟩:=hS;obtain ⟨q0,q1,q2,q3,q4,q5⟩:=cs6 (Aside0.mk s1);go_simp;with_reducible rfl) ?_
       refine pvq 3 (some 53) (bits 9 15) HT_ ?_
       refine pvq 4 (some 54) (bits 9 31) HT_ ?_
       refine pvq 5 (some 55) (bits 9 63) HT_ ?_
       refine tvq 6 (some 56) (bits 9 127) HT_ HW_ rfl hHeld (by intro w' hS;obtain ⟨s0,s1,s2⟩:=hS;obtain ⟨_,hA,q0,q1,q2⟩:=at_T76 s2 ((plOf ss ci : Nat) : Int) (by omega) (by omega);cases hA;rw [Int.toNat_natCast] at q0 q1 q2;rw [hy] at q0 q1 q2;go_simp;with_reducible rfl) ?_
       refine nmq ?_
       refine one_ (i:=7) (N:=none) (bits 9 255) rfl rfl (one_of HT_.out (by kernel_rfl)) (by decide) (fun K hK=>?_)
       obtain ⟨y0,y1,y2,y3,y4,y5,z0,z1,z2,z3,z4,z5⟩:=cz6 F4
       refine sxs (g:=g4) 0 [.string a,.string b,.slice AP206 ps.length kP206,.slice AS206 ss.length kS206,.bool t,.string c] [.string a,.string b,.slice AP206 ps.length kP206,.slice AS206 ss.length kS206,.bool t,.string c] (by rfl) rfl ?hr B F4 L4 rfl (Nat.le_of_ble_eq_true rfl) (fun w213 hk B G=>?_)
       (case hr=>go_simp;first | done | rfl)
       replace F2:=bk F2 hk N2_4.out
       replace F6:=bk F6 hk N4_6.out.symm
       replace RP206:=rk RP206 F4 (by decide) hk
       replace RS206:=rk RS206 F4 (by decide) hk
       replace F4:=G
       clear hk y0 z0 y1 z1 y2 z2 y3 z3 y4 z4 y5 z5
       refine hK.out _ _ ⟨F6.out,F2.out,(cb HRS B)⟩ (fun hHeld=>?_)
       clear hK K
       refine pvq 8 (some 5) (bits 9 511) HT_ ?_
       refine nmq ?_
       refine done_ (done_of HT_.out (by kernel_rfl)) ?_)
      all_goals try go_wp2
      all_goals (try (refine bodyPost_ret (results_list (rs:=[.cell 4 38,.tmp 5]) rfl (by simp) (.cell g4 38 _ (0,0) _ rfl F4.out hu rfl (by kernel_rfl) (.tmp .nil))) rfl ?_);exact ⟨_,_,rfl,RP206.out,RS206.out,B.out⟩)
     ·have d2 : (sq == y.f1)=false:=beq_eq_false_iff_ne.mpr (fun h=>q2 h.symm)
      rw [aeM_idle hh hi,show idleN ⟨a,b,ps,ss,t,c⟩ ci sq=-4 from by unfold idleN;rw [← hfy];exact (if_neg q2).trans (if_pos (by omega))]
      clear hh hcm hsq hi hfy hcl q1 q2
      go_enter Try.func12,Try.ntmps12
      go_wp2_with (first
       | ((with_reducible refine gate_dst (N:=2) rfl ?_);refine bxq 2 #[.string a,.string b,.slice AP ps.length cP,.slice (some ad) ss.length cS,.bool t,.string c] 38 B fun g2 w301 hb B F2 L2 E2=>?_;obtain ⟨c2_0,c2_1,c2_2,c2_3,c2_4,c2_5⟩:=cs6 F2;clear hb E2)
       | ((with_reducible refine gate_dst (N:=3) rfl ?_);refine bxq 3 #[.int .i64 (ci),.int .i64 (sq),.int .i64 (k),.string x,.int .i64 (v),.int .i64 (o)] 44 B fun g3 w302 hb B F3 L3 E3=>?_;replace F2:=bn F2 hb;clear c2_0 c2_1 c2_2 c2_3 c2_4 c2_5;obtain ⟨c2_0,c2_1,c2_2,c2_3,c2_4,c2_5⟩:=cs6 F2;obtain ⟨c3_0,c3_1,c3_2,c3_3,c3_4,c3_5⟩:=cs6 F3;clear hb E3)
       | ((with_reducible refine gate_dst (N:=4) rfl ?_);refine bxq 4 #[.string (⟨#[]⟩ : ByteArray),.string (⟨#[]⟩ : ByteArray),.slice none 0 0,.slice none 0 0,.bool false,.string (⟨#[]⟩ : ByteArray)] 38 B fun g4 w303 hb B F4 L4 E4=>?_;have N2_4:=ne1 E4 F2;have N3_4:=ne1 E4 F3;replace F2:=bn F2 hb;replace F3:=bn F3 hb;clear c2_0 c2_1 c2_2 c2_3 c2_4 c2_5;obtain ⟨c2_0,c2_1,c2_2,c2_3,c2_4,c2_5⟩:=cs6 F2;clear c3_0 c3_1 c3_2 c3_3 c3_4 c3_5;obtain ⟨c3_0,c3_1,c3_2,c3_3,c3_4,c3_5⟩:=cs6 F3;clear hb E4)
       | (go_at_call 18;with_reducible refine cl (impl_StateValid.M a b _ _ ps _ _ ss t c _ (cb HRP B) (cb HRS B)) B fun w304 hb B=>?_;replace F2:=bn F2 hb;replace F3:=bn F3 hb;replace F4:=bn F4 hb;clear c2_0 c2_1 c2_2 c2_3 c2_4 c2_5;obtain ⟨c2_0,c2_1,c2_2,c2_3,c2_4,c2_5⟩:=cs6 F2;clear c3_0 c3_1 c3_2 c3_3 c3_4 c3_5;obtain ⟨c3_0,c3_1,c3_2,c3_3,c3_4,c3_5⟩:=cs6 F3;clear hb)
       | (go_at_call 19;with_reducible refine cl (impl_EntryValid.M ci sq k x v o _) B fun w305 hb B=>?_;replace F2:=bn F2 hb;replace F3:=bn F3 hb;replace F4:=bn F4 hb;clear c2_0 c2_1 c2_2 c2_3 c2_4 c2_5;obtain ⟨c2_0,c2_1,c2_2,c2_3,c2_4,c2_5⟩:=cs6 F2;clear c3_0 c3_1 c3_2 c3_3 c3_4 c3_5;obtain ⟨c3_0,c3_1,c3_2,c3_3,c3_4,c3_5⟩:=cs6 F3;clear hb)
       | (go_at_call 49;with_reducible refine c2r (impl_copyState.M a b _ _ ps _ _ ss t c _ (cb HRP B) (cb HRS B) HCP.out HCS.out (by omega) (by omega)) B fun AP306 kP306 AS306 kS306 w306 hb B RP306 QP306 RS306 QS306=>?_;have DP306_S306:=Aside0.mk (dty RP306 RS306 (by decide));replace F2:=bn F2 hb;replace F3:=bn F3 hb;replace F4:=bn F4 hb;clear QP306 QS306;clear c2_0 c2_1 c2_2 c2_3 c2_4 c2_5;obtain ⟨c2_0,c2_1,c2_2,c2_3,c2_4,c2_5⟩:=cs6 F2;clear c3_0 c3_1 c3_2 c3_3 c3_4 c3_5;obtain ⟨c3_0,c3_1,c3_2,c3_3,c3_4,c3_5⟩:=cs6 F3;clear hb)
       | ((with_reducible refine gate_dst (N:=6) rfl ?_);refine bxq 6 #[.string (⟨#[]⟩ : ByteArray),.string (⟨#[]⟩ : ByteArray),.slice none 0 0,.slice none 0 0,.bool false,.string (⟨#[]⟩ : ByteArray)] 38 B fun g6 w307 hb B F6 L6 E6=>?_;have N2_6:=ne1 E6 F2;have N3_6:=ne1 E6 F3;have N4_6:=ne1 E6 F4;replace F2:=bn F2 hb;replace F3:=bn F3 hb;replace F4:=bn F4 hb;replace RP306:=rn RP306 hb;replace RS306:=rn RS306 hb;clear c2_0 c2_1 c2_2 c2_3 c2_4 c2_5;obtain ⟨c2_0,c2_1,c2_2,c2_3,c2_4,c2_5⟩:=cs6 F2;clear c3_0 c3_1 c3_2 c3_3 c3_4 c3_5;obtain ⟨c3_0,c3_1,c3_2,c3_3,c3_4,c3_5⟩:=cs6 F3;obtain ⟨c6_0,c6_1,c6_2,c6_3,c6_4,c6_5⟩:=cs6 F6;clear hb E6)
       | ((with_reducible refine gate_store (t:=38) (p:=6) rfl ?_);obtain ⟨y0,y1,y2,y3,y4,y5,z0,z1,z2,z3,z4,z5⟩:=cz6 F6;refine sxq 38 38 6 0 [.string a,.string b,.slice AP306 ps.length kP306,.slice AS306 ss.length kS306,.bool t,.string c] [.string a,.string b,.slice AP306 ps.length kP306,.slice AS306 ss.length kS306,.bool t,.string c] B F6 L6 fun w308 hk B G=>?_;replace F2:=bk F2 hk N2_6.out;replace F3:=bk F3 hk N3_6.out;replace F4:=bk F4 hk N4_6.out;replace RP306:=rk RP306 F6 (by decide) hk;replace RS306:=rk RS306 F6 (by decide) hk;replace F6:=G;clear c2_0 c2_1 c2_2 c2_3 c2_4 c2_5;obtain ⟨c2_0,c2_1,c2_2,c2_3,c2_4,c2_5⟩:=cs6 F2;clear c3_0 c3_1 c3_2 c3_3 c3_4 c3_5;obtain ⟨c3_0,c3_1,c3_2,c3_3,c3_4,c3_5⟩:=cs6 F3;clear c6_0 c6_1 c6_2 c6_3 c6_4 c6_5;obtain ⟨c6_0,c6_1,c6_2,c6_3,c6_4,c6_5⟩:=cs6 F6;clear hk y0 z0 y1 z1 y2 z2 y3 z3 y4 z4 y5 z5)
       | (go_at_call 50;with_reducible refine cl (impl_sessionPlace.Mb _ _ ss ci _ (cb HRS B) HCS.out hv true hit) B fun w309 hb B=>?_;replace F2:=bn F2 hb;replace F3:=bn F3 hb;replace F4:=bn F4 hb;replace F6:=bn F6 hb;replace RP306:=rn RP306 hb;replace RS306:=rn RS306 hb;clear c2_0 c2_1 c2_2 c2_3 c2_4 c2_5;obtain ⟨c2_0,c2_1,c2_2,c2_3,c2_4,c2_5⟩:=cs6 F2;clear c3_0 c3_1 c3_2 c3_3 c3_4 c3_5;obtain ⟨c3_0,c3_1,c3_2,c3_3,c3_4,c3_5⟩:=cs6 F3;clear c6_0 c6_1 c6_2 c6_3 c6_4 c6_5;obtain ⟨c6_0,c6_1,c6_2,c6_3,c6_4,c6_5⟩:=cs6 F6;clear hb))
      all_goals (
       refine rg (n:=12) (S:=fun W=>W.heap[g3]?=some (.cells #[.int .i64 (ci),.int .i64 (sq),.int .i64 (k),.string x,.int .i64 (v),.int .i64 (o)] 44 (0,0))∧W.heap[g2]?=some (.cells #[.string a,.string b,.slice AP ps.length cP,.slice (some ad) ss.length cS,.bool t,.string c] 38 (0,0))∧Kd.C k76 W (some ad) ss.length ss) (ds:=[]) #[false,false,false,false,false,false,false,false,false,false,false,false] (by kernel_rfl) rfl rfl ⟨F3.out,F2.out,(cb HRS B)⟩ id B (fun w310 hb B hHeld=>?_)
       refine with_tabW impl_ApplyEntry.tab5 impl_ApplyEntry.bits5 (fun HT_ HW_=>?_)
       replace F2:=bn F2 hb
       replace F3:=bn F3 hb
       replace F4:=bn F4 hb
       replace F6:=bn F6 hb
       replace RP306:=rn RP306 hb
       replace RS306:=rn RS306 hb
       clear hb
       refine pvq 0 (some 29) (bits 12 1) HT_ ?_
       refine pvq 1 (some 30) (bits 12 3) HT_ ?_
       refine pvq 2 (some 31) (bits 12 7) HT_ ?_
       refine tvq 3 (some 32) (bits 12 15) HT_ HW_ rfl hHeld (by intro w' hS;obtain ⟨s0,s1,s2⟩:=hS;obtain ⟨q0,q1,q2,q3,q4,q5⟩:=cs6 (Aside0.mk s0);go_simp;with_reducible rfl) ?_
       refine pvq 4 (some 33) (bits 12 31) HT_ ?_
       refine tvq 5 (some 34) (bits 12 63) HT_ HW_ rfl hHeld (by intro w' hS;obtain ⟨s0,s1,s2⟩:=hS;obtain ⟨q0,q1,q2,q3,q4,q5⟩:=cs6 (Aside0.mk s1);go_simp;with_reducible rfl) ?_
       refine pvq 6 (some 35) (bits 12 127) HT_ ?_
       refine pvq 7 (some 36) (bits 12 255) HT_ ?_
       refine pvq 8 (some 37) (bits 12 511) HT_ ?_
       refine tvq 9 (some 38) (bits 12 1023) HT_ HW_ rfl hHeld (by intro w' hS;obtain ⟨s0,s1,s2⟩:=hS;obtain ⟨_,hA,q0,q1,q2⟩:=at_T76 s2 ((plOf ss ci : Nat) : Int) (by omega) (by omega);cases hA;rw [Int.toNat_natCast] at q0 q1 q2;rw [hy] at q0 q1 q2;go_simp;with_reducible rfl) ?_
       refine pvq 10 (some 39) (bits 12 2047) HT_ ?_
       refine pvq 11 (some 40) (bits 12 4095) HT_ ?_
       refine nmq ?_
       refine done_ (done_of HT_.out (by kernel_rfl)) ?_
       clear c2_0 c2_1 c2_2 c2_3 c2_4 c2_5
       obtain ⟨c2_0,c2_1,c2_2,c2_3,c2_4,c2_5⟩:=cs6 F2
       clear c3_0 c3_1 c3_2 c3_3 c3_4 c3_5
       obtain ⟨c3_0,c3_1,c3_2,c3_3,c3_4,c3_5⟩:=cs6 F3
       clear c6_0 c6_1 c6_2 c6_3 c6_4 c6_5
       obtain ⟨c6_0,c6_1,c6_2,c6_3,c6_4,c6_5⟩:=cs6 F6)
      all_goals try go_wp2
      all_goals (
       refine rg (n:=9) (S:=fun W=>W.heap[g3]?=some (.cells #[.int .i64 (ci),.int .i64 (sq),.int .i64 (k),.string x,.int .i64 (v),.int .i64 (o)] 44 (0,0))∧W.heap[g2]?=some (.cells #[.string a,.string b,.slice AP ps.length cP,.slice (some ad) ss.length cS,.bool t,.string c] 38 (0,0))∧Kd.C k76 W (some ad) ss.length ss) (ds:=[]) #[false,false,false,false,false,false,false,false,false] (by kernel_rfl) rfl rfl ⟨F3.out,F2.out,(cb HRS B)⟩ id B (fun w311 hb B hHeld=>?_)
       refine with_tabW impl_ApplyEntry.tab6 impl_ApplyEntry.bits6 (fun HT_ HW_=>?_)
       replace F2:=bn F2 hb
       replace F3:=bn F3 hb
       replace F4:=bn F4 hb
       replace F6:=bn F6 hb
       replace RP306:=rn RP306 hb
       replace RS306:=rn RS306 hb
       clear hb
       refine pvq 0 (some 41) (bits 9 1) HT_ ?_
       refine tvq 1 (some 42) (bits 9 3) HT_ HW_ rfl hHeld (by intro w' hS;obtain ⟨s0,s1,s2⟩:=hS;obtain ⟨q0,q1,q2,q3,q4,q5⟩:=cs6 (Aside0.mk s0);go_simp;with_reducible rfl) ?_
       refine pvq 2 (some 43) (bits 9 7) HT_ ?_
       refine tvq 3 (some 44) (bits 9 15) HT_ HW_ rfl hHeld (by intro w' hS;obtain ⟨s0,s1,s2⟩:=hS;obtain ⟨q0,q1,q2,q3,q4,q5⟩:=cs6 (Aside0.mk s1);go_simp;with_reducible rfl) ?_
       refine pvq 4 (some 45) (bits 9 31) HT_ ?_
       refine pvq 5 (some 46) (bits 9 63) HT_ ?_
       refine pvq 6 (some 47) (bits 9 127) HT_ ?_
       refine tvq 7 (some 48) (bits 9 255) HT_ HW_ rfl hHeld (by intro w' hS;obtain ⟨s0,s1,s2⟩:=hS;obtain ⟨_,hA,q0,q1,q2⟩:=at_T76 s2 ((plOf ss ci : Nat) : Int) (by omega) (by omega);cases hA;rw [Int.toNat_natCast] at q0 q1 q2;rw [hy] at q0 q1 q2;go_simp;with_reducible rfl) ?_
       refine pvq 8 (some 49) (bits 9 511) HT_ ?_
       refine nmq ?_
       refine done_ (done_of HT_.out (by kernel_rfl)) ?_
       clear c6_0 c6_1 c6_2 c6_3 c6_4 c6_5
       obtain ⟨c6_0,c6_1,c6_2,c6_3,c6_4,c6_5⟩:=cs6 F6)
      all_goals go_wp2_with (first
       | ((with_reducible refine gate_store (t:=38) (p:=4) rfl ?_);obtain ⟨y0,y1,y2,y3,y4,y5,z0,z1,z2,z3,z4,z5⟩:=cz6 F4;refine sxq 38 38 4 0 [.string a,.string b,.slice AP306 ps.length kP306,.slice AS306 ss.length kS306,.bool t,.string c] [.string a,.string b,.slice AP306 ps.length kP306,.slice AS306 ss.length kS306,.bool t,.string c] B F4 L4 fun w312 hk B G=>?_;replace F2:=bk F2 hk N2_4.out;replace F3:=bk F3 hk N3_4.out;replace RP306:=rk RP306 F4 (by decide) hk;replace RS306:=rk RS306 F4 (by decide) hk;replace F4:=G;clear hk y0 z0 y1 z1 y2 z2 y3 z3 y4 z4 y5 z5))
      all_goals (try (refine bodyPost_ret (results_list (rs:=[.cell 4 38,.tmp 5]) rfl (by simp) (.cell g4 38 _ (0,0) _ rfl F4.out hu rfl (by kernel_rfl) (.tmp .nil))) rfl ?_);exact ⟨_,_,rfl,RP306.out,RS306.out,B.out⟩)
    ·have d1 : decide (sq≤y.f1)=false:=decide_eq_false q1
     have hN : idleN ⟨a,b,ps,ss,t,c⟩ ci sq=-3:=by unfold idleN;rw [← hfy];exact (if_neg (by omega)).trans (if_neg (by omega))
     have hle : decide (sq≤(findS ss ci).f1)=false:=by rw [← hfy];exact d1
     clear hfy hcl q1
     cases t with
     | true =>
      rw [aeM_idle hh (by unfold idleB;simp),hN]
      clear hh hcm hsq hN hle
      go_enter Try.func12,Try.ntmps12
      go_wp2_with (first
       | ((with_reducible refine gate_dst (N:=2) rfl ?_);refine bxq 2 #[.string a,.string b,.slice AP ps.length cP,.slice (some ad) ss.length cS,.bool true,.string c] 38 B fun g2 w1001 hb B F2 L2 E2=>?_;obtain ⟨c2_0,c2_1,c2_2,c2_3,c2_4,c2_5⟩:=cs6 F2;clear hb E2)
       | ((with_reducible refine gate_dst (N:=3) rfl ?_);refine bxq 3 #[.int .i64 (ci),.int .i64 (sq),.int .i64 (k),.string x,.int .i64 (v),.int .i64 (o)] 44 B fun g3 w1002 hb B F3 L3 E3=>?_;replace F2:=bn F2 hb;clear c2_0 c2_1 c2_2 c2_3 c2_4 c2_5;obtain ⟨c2_0,c2_1,c2_2,c2_3,c2_4,c2_5⟩:=cs6 F2;obtain ⟨c3_0,c3_1,c3_2,c3_3,c3_4,c3_5⟩:=cs6 F3;clear hb E3)
       | ((with_reducible refine gate_dst (N:=4) rfl ?_);refine bxq 4 #[.string (⟨#[]⟩ : ByteArray),.string (⟨#[]⟩ : ByteArray),.slice none 0 0,.slice none 0 0,.bool false,.string (⟨#[]⟩ : ByteArray)] 38 B fun g4 w1003 hb B F4 L4 E4=>?_;have N2_4:=ne1 E4 F2;have N3_4:=ne1 E4 F3;replace F2:=bn F2 hb;replace F3:=bn F3 hb;clear c2_0 c2_1 c2_2 c2_3 c2_4 c2_5;obtain ⟨c2_0,c2_1,c2_2,c2_3,c2_4,c2_5⟩:=cs6 F2;clear c3_0 c3_1 c3_2 c3_3 c3_4 c3_5;obtain ⟨c3_0,c3_1,c3_2,c3_3,c3_4,c3_5⟩:=cs6 F3;clear hb E4)
       | (go_at_call 18;with_reducible refine cl (impl_StateValid.M a b _ _ ps _ _ ss true c _ (cb HRP B) (cb HRS B)) B fun w1004 hb B=>?_;replace F2:=bn F2 hb;replace F3:=bn F3 hb;replace F4:=bn F4 hb;clear c2_0 c2_1 c2_2 c2_3 c2_4 c2_5;obtain ⟨c2_0,c2_1,c2_2,c2_3,c2_4,c2_5⟩:=cs6 F2;clear c3_0 c3_1 c3_2 c3_3 c3_4 c3_5;obtain ⟨c3_0,c3_1,c3_2,c3_3,c3_4,c3_5⟩:=cs6 F3;clear hb)
       | (go_at_call 19;with_reducible refine cl (impl_EntryValid.M ci sq k x v o _) B fun w1005 hb B=>?_;replace F2:=bn F2 hb;replace F3:=bn F3 hb;replace F4:=bn F4 hb;clear c2_0 c2_1 c2_2 c2_3 c2_4 c2_5;obtain ⟨c2_0,c2_1,c2_2,c2_3,c2_4,c2_5⟩:=cs6 F2;clear c3_0 c3_1 c3_2 c3_3 c3_4 c3_5;obtain ⟨c3_0,c3_1,c3_2,c3_3,c3_4,c3_5⟩:=cs6 F3;clear hb)
       | (go_at_call 49;with_reducible refine c2r (impl_copyState.M a b _ _ ps _ _ ss true c _ (cb HRP B) (cb HRS B) HCP.out HCS.out (by omega) (by omega)) B fun AP1006 kP1006 AS1006 kS1006 w1006 hb B RP1006 QP1006 RS1006 QS1006=>?_;have DP1006_S1006:=Aside0.mk (dty RP1006 RS1006 (by decide));replace F2:=bn F2 hb;replace F3:=bn F3 hb;replace F4:=bn F4 hb;clear QP1006 QS1006;clear c2_0 c2_1 c2_2 c2_3 c2_4 c2_5;obtain ⟨c2_0,c2_1,c2_2,c2_3,c2_4,c2_5⟩:=cs6 F2;clear c3_0 c3_1 c3_2 c3_3 c3_4 c3_5;obtain ⟨c3_0,c3_1,c3_2,c3_3,c3_4,c3_5⟩:=cs6 F3;clear hb)
       | ((with_reducible refine gate_dst (N:=6) rfl ?_);refine bxq 6 #[.string (⟨#[]⟩ : ByteArray),.string (⟨#[]⟩ : ByteArray),.slice none 0 0,.slice none 0 0,.bool false,.string (⟨#[]⟩ : ByteArray)] 38 B fun g6 w1007 hb B F6 L6 E6=>?_;have N2_6:=ne1 E6 F2;have N3_6:=ne1 E6 F3;have N4_6:=ne1 E6 F4;replace F2:=bn F2 hb;replace F3:=bn F3 hb;replace F4:=bn F4 hb;replace RP1006:=rn RP1006 hb;replace RS1006:=rn RS1006 hb;clear c2_0 c2_1 c2_2 c2_3 c2_4 c2_5;obtain ⟨c2_0,c2_1,c2_2,c2_3,c2_4,c2_5⟩:=cs6 F2;clear c3_0 c3_1 c3_2 c3_3 c3_4 c3_5;obtain ⟨c3_0,c3_1,c3_2,c3_3,c3_4,c3_5⟩:=cs6 F3;obtain ⟨c6_0,c6_1,c6_2,c6_3,c6_4,c6_5⟩:=cs6 F6;clear hb E6)
       | ((with_reducible refine gate_store (t:=38) (p:=6) rfl ?_);obtain ⟨y0,y1,y2,y3,y4,y5,z0,z1,z2,z3,z4,z5⟩:=cz6 F6;refine sxq 38 38 6 0 [.string a,.string b,.slice AP1006 ps.length kP1006,.slice AS1006 ss.length kS1006,.bool true,.string c] [.string a,.string b,.slice AP1006 ps.length kP1006,.slice AS1006 ss.length kS1006,.bool true,.string c] B F6 L6 fun w1008 hk B G=>?_;replace F2:=bk F2 hk N2_6.out;replace F3:=bk F3 hk N3_6.out;replace F4:=bk F4 hk N4_6.out;replace RP1006:=rk RP1006 F6 (by decide) hk;replace RS1006:=rk RS1006 F6 (by decide) hk;replace F6:=G;clear c2_0 c2_1 c2_2 c2_3 c2_4 c2_5;obtain ⟨c2_0,c2_1,c2_2,c2_3,c2_4,c2_5⟩:=cs6 F2;clear c3_0 c3_1 c3_2 c3_3 c3_4 c3_5;obtain ⟨c3_0,c3_1,c3_2,c3_3,c3_4,c3_5⟩:=cs6 F3;clear c6_0 c6_1 c6_2 c6_3 c6_4 c6_5;obtain ⟨c6_0,c6_1,c6_2,c6_3,c6_4,c6_5⟩:=cs6 F6;clear hk y0 z0 y1 z1 y2 z2 y3 z3 y4 z4 y5 z5)
       | (go_at_call 50;with_reducible refine cl (impl_sessionPlace.Mb _ _ ss ci _ (cb HRS B) HCS.out hv true hit) B fun w1009 hb B=>?_;replace F2:=bn F2 hb;replace F3:=bn F3 hb;replace F4:=bn F4 hb;replace F6:=bn F6 hb;replace RP1006:=rn RP1006 hb;replace RS1006:=rn RS1006 hb;clear c2_0 c2_1 c2_2 c2_3 c2_4 c2_5;obtain ⟨c2_0,c2_1,c2_2,c2_3,c2_4,c2_5⟩:=cs6 F2;clear c3_0 c3_1 c3_2 c3_3 c3_4 c3_5;obtain ⟨c3_0,c3_1,c3_2,c3_3,c3_4,c3_5⟩:=cs6 F3;clear c6_0 c6_1 c6_2 c6_3 c6_4 c6_5;obtain ⟨c6_0,c6_1,c6_2,c6_3,c6_4,c6_5⟩:=cs6 F6;clear hb))
      all_goals (
       refine rg (n:=12) (S:=fun W=>W.heap[g3]?=some (.cells #[.int .i64 (ci),.int .i64 (sq),.int .i64 (k),.string x,.int .i64 (v),.int .i64 (o)] 44 (0,0))∧W.heap[g2]?=some (.cells #[.string a,.string b,.slice AP ps.length cP,.slice (some ad) ss.length cS,.bool true,.string c] 38 (0,0))∧Kd.C k76 W (some ad) ss.length ss) (ds:=[]) #[false,false,false,false,false,false,false,false,false,false,false,false] (by kernel_rfl) rfl rfl ⟨F3.out,F2.out,(cb HRS B)⟩ id B (fun w1010 hb B hHeld=>?_)
       refine with_tabW impl_ApplyEntry.tab5 impl_ApplyEntry.bits5 (fun HT_ HW_=>?_)
       replace F2:=bn F2 hb
       replace F3:=bn F3 hb
       replace F4:=bn F4 hb
       replace F6:=bn F6 hb
       replace RP1006:=rn RP1006 hb
       replace RS1006:=rn RS1006 hb
       clear hb
       refine pvq 0 (some 29) (bits 12 1) HT_ ?_
       refine pvq 1 (some 30) (bits 12 3) HT_ ?_
       refine pvq 2 (some 31) (bits 12 7) HT_ ?_
       refine tvq 3 (some 32) (bits 12 15) HT_ HW_ rfl hHeld (by intro w' hS;obtain ⟨s0,s1,s2⟩:=hS;obtain ⟨q0,q1,q2,q3,q4,q5⟩:=cs6 (Aside0.mk s0);go_simp;with_reducible rfl) ?_
       refine pvq 4 (some 33) (bits 12 31) HT_ ?_
       refine tvq 5 (some 34) (bits 12 63) HT_ HW_ rfl hHeld (by intro w' hS;obtain ⟨s0,s1,s2⟩:=hS;obtain ⟨q0,q1,q2,q3,q4,q5⟩:=cs6 (Aside0.mk s1);go_simp;with_reducible rfl) ?_
       refine pvq 6 (some 35) (bits 12 127) HT_ ?_
       refine pvq 7 (some 36) (bits 12 255) HT_ ?_
       refine pvq 8 (some 37) (bits 12 511) HT_ ?_
       refine tvq 9 (some 38) (bits 12 1023) HT_ HW_ rfl hHeld (by intro w' hS;obtain ⟨s0,s1,s2⟩:=hS;obtain ⟨_,hA,q0,q1,q2⟩:=at_T76 s2 ((plOf ss ci : Nat) : Int) (by omega) (by omega);cases hA;rw [Int.toNat_natCast] at q0 q1 q2;rw [hy] at q0 q1 q2;go_simp;with_reducible rfl) ?_
       refine pvq 10 (some 39) (bits 12 2047) HT_ ?_
       refine pvq 11 (some 40) (bits 12 4095) HT_ ?_
       refine nmq ?_
       refine done_ (done_of HT_.out (by kernel_rfl)) ?_
       clear c2_0 c2_1 c2_2 c2_3 c2_4 c2_5
       obtain ⟨c2_0,c2_1,c2_2,c2_3,c2_4,c2_5⟩:=cs6 F2
       clear c3_0 c3_1 c3_2 c3_3 c3_4 c3_5
       obtain ⟨c3_0,c3_1,c3_2,c3_3,c3_4,c3_5⟩:=cs6 F3
       clear c6_0 c6_1 c6_2 c6_3 c6_4 c6_5
       obtain ⟨c6_0,c6_1,c6_2,c6_3,c6_4,c6_5⟩:=cs6 F6)
      all_goals go_wp2_with (first
       | (go_at_call 51;with_reducible refine cl (impl_stateTakes.M a b _ _ ps _ _ ss true c k x v o _ (cb HRP B) (cb HRS B)) B fun w1011 hb B=>?_;replace F2:=bn F2 hb;replace F3:=bn F3 hb;replace F4:=bn F4 hb;replace F6:=bn F6 hb;replace RP1006:=rn RP1006 hb;replace RS1006:=rn RS1006 hb;clear c6_0 c6_1 c6_2 c6_3 c6_4 c6_5;obtain ⟨c6_0,c6_1,c6_2,c6_3,c6_4,c6_5⟩:=cs6 F6;clear hb)
       | ((with_reducible refine gate_store (t:=38) (p:=4) rfl ?_);obtain ⟨y0,y1,y2,y3,y4,y5,z0,z1,z2,z3,z4,z5⟩:=cz6 F4;refine sxq 38 38 4 0 [.string a,.string b,.slice AP1006 ps.length kP1006,.slice AS1006 ss.length kS1006,.bool true,.string c] [.string a,.string b,.slice AP1006 ps.length kP1006,.slice AS1006 ss.length kS1006,.bool true,.string c] B F4 L4 fun w1012 hk B G=>?_;replace F2:=bk F2 hk N2_4.out;replace F3:=bk F3 hk N3_4.out;replace RP1006:=rk RP1006 F4 (by decide) hk;replace RS1006:=rk RS1006 F4 (by decide) hk;replace F4:=G;clear hk y0 z0 y1 z1 y2 z2 y3 z3 y4 z4 y5 z5))
      all_goals (try (refine bodyPost_ret (results_list (rs:=[.cell 4 38,.tmp 5]) rfl (by simp) (.cell g4 38 _ (0,0) _ rfl F4.out hu rfl (by kernel_rfl) (.tmp .nil))) rfl ?_);exact ⟨_,_,rfl,RP1006.out,RS1006.out,B.out⟩)
     | false =>
      have hid : idleB ⟨a,b,ps,ss,false,c⟩ ci sq k x=!takesB a b k x:=by unfold idleB;rw [hle];rfl
      clear hle
      cases htk : takesB a b k x with
      | false =>
       rw [aeM_idle hh (by rw [hid,htk];rfl),hN]
       clear hh hcm hsq hN hid
       go_enter Try.func12,Try.ntmps12
       go_wp2_with (first
        | ((with_reducible refine gate_dst (N:=2) rfl ?_);refine bxq 2 #[.string a,.string b,.slice AP ps.length cP,.slice (some ad) ss.length cS,.bool false,.string c] 38 B fun g2 w1101 hb B F2 L2 E2=>?_;obtain ⟨c2_0,c2_1,c2_2,c2_3,c2_4,c2_5⟩:=cs6 F2;clear hb E2)
        | ((with_reducible refine gate_dst (N:=3) rfl ?_);refine bxq 3 #[.int .i64 (ci),.int .i64 (sq),.int .i64 (k),.string x,.int .i64 (v),.int .i64 (o)] 44 B fun g3 w1102 hb B F3 L3 E3=>?_;replace F2:=bn F2 hb;clear c2_0 c2_1 c2_2 c2_3 c2_4 c2_5;obtain ⟨c2_0,c2_1,c2_2,c2_3,c2_4,c2_5⟩:=cs6 F2;obtain ⟨c3_0,c3_1,c3_2,c3_3,c3_4,c3_5⟩:=cs6 F3;clear hb E3)
        | ((with_reducible refine gate_dst (N:=4) rfl ?_);refine bxq 4 #[.string (⟨#[]⟩ : ByteArray),.string (⟨#[]⟩ : ByteArray),.slice none 0 0,.slice none 0 0,.bool false,.string (⟨#[]⟩ : ByteArray)] 38 B fun g4 w1103 hb B F4 L4 E4=>?_;have N2_4:=ne1 E4 F2;have N3_4:=ne1 E4 F3;replace F2:=bn F2 hb;replace F3:=bn F3 hb;clear c2_0 c2_1 c2_2 c2_3 c2_4 c2_5;obtain ⟨c2_0,c2_1,c2_2,c2_3,c2_4,c2_5⟩:=cs6 F2;clear c3_0 c3_1 c3_2 c3_3 c3_4 c3_5;obtain ⟨c3_0,c3_1,c3_2,c3_3,c3_4,c3_5⟩:=cs6 F3;clear hb E4)
        | (go_at_call 18;with_reducible refine cl (impl_StateValid.M a b _ _ ps _ _ ss false c _ (cb HRP B) (cb HRS B)) B fun w1104 hb B=>?_;replace F2:=bn F2 hb;replace F3:=bn F3 hb;replace F4:=bn F4 hb;clear c2_0 c2_1 c2_2 c2_3 c2_4 c2_5;obtain ⟨c2_0,c2_1,c2_2,c2_3,c2_4,c2_5⟩:=cs6 F2;clear c3_0 c3_1 c3_2 c3_3 c3_4 c3_5;obtain ⟨c3_0,c3_1,c3_2,c3_3,c3_4,c3_5⟩:=cs6 F3;clear hb)
        | (go_at_call 19;with_reducible refine cl (impl_EntryValid.M ci sq k x v o _) B fun w1105 hb B=>?_;replace F2:=bn F2 hb;replace F3:=bn F3 hb;replace F4:=bn F4 hb;clear c2_0 c2_1 c2_2 c2_3 c2_4 c2_5;obtain ⟨c2_0,c2_1,c2_2,c2_3,c2_4,c2_5⟩:=cs6 F2;clear c3_0 c3_1 c3_2 c3_3 c3_4 c3_5;obtain ⟨c3_0,c3_1,c3_2,c3_3,c3_4,c3_5⟩:=cs6 F3;clear hb)
        | (go_at_call 49;with_reducible refine c2r (impl_copyState.M a b _ _ ps _ _ ss false c _ (cb HRP B) (cb HRS B) HCP.out HCS.out (by omega) (by omega)) B fun AP1106 kP1106 AS1106 kS1106 w1106 hb B RP1106 QP1106 RS1106 QS1106=>?_;have DP1106_S1106:=Aside0.mk (dty RP1106 RS1106 (by decide));replace F2:=bn F2 hb;replace F3:=bn F3 hb;replace F4:=bn F4 hb;clear QP1106 QS1106;clear c2_0 c2_1 c2_2 c2_3 c2_4 c2_5;obtain ⟨c2_0,c2_1,c2_2,c2_3,c2_4,c2_5⟩:=cs6 F2;clear c3_0 c3_1 c3_2 c3_3 c3_4 c3_5;obtain ⟨c3_0,c3_1,c3_2,c3_3,c3_4,c3_5⟩:=cs6 F3;clear hb)
        | ((with_reducible refine gate_dst (N:=6) rfl ?_);refine bxq 6 #[.string (⟨#[]⟩ : ByteArray),.string (⟨#[]⟩ : ByteArray),.slice none 0 0,.slice none 0 0,.bool false,.string (⟨#[]⟩ : ByteArray)] 38 B fun g6 w1107 hb B F6 L6 E6=>?_;have N2_6:=ne1 E6 F2;have N3_6:=ne1 E6 F3;have N4_6:=ne1 E6 F4;replace F2:=bn F2 hb;replace F3:=bn F3 hb;replace F4:=bn F4 hb;replace RP1106:=rn RP1106 hb;replace RS1106:=rn RS1106 hb;clear c2_0 c2_1 c2_2 c2_3 c2_4 c2_5;obtain ⟨c2_0,c2_1,c2_2,c2_3,c2_4,c2_5⟩:=cs6 F2;clear c3_0 c3_1 c3_2 c3_3 c3_4 c3_5;obtain ⟨c3_0,c3_1,c3_2,c3_3,c3_4,c3_5⟩:=cs6 F3;obtain ⟨c6_0,c6_1,c6_2,c6_3,c6_4,c6_5⟩:=cs6 F6;clear hb E6)
        | ((with_reducible refine gate_store (t:=38) (p:=6) rfl ?_);obtain ⟨y0,y1,y2,y3,y4,y5,z0,z1,z2,z3,z4,z5⟩:=cz6 F6;refine sxq 38 38 6 0 [.string a,.string b,.slice AP1106 ps.length kP1106,.slice AS1106 ss.length kS1106,.bool false,.string c] [.string a,.string b,.slice AP1106 ps.length kP1106,.slice AS1106 ss.length kS1106,.bool false,.string c] B F6 L6 fun w1108 hk B G=>?_;replace F2:=bk F2 hk N2_6.out;replace F3:=bk F3 hk N3_6.out;replace F4:=bk F4 hk N4_6.out;replace RP1106:=rk RP1106 F6 (by decide) hk;replace RS1106:=rk RS1106 F6 (by decide) hk;replace F6:=G;clear c2_0 c2_1 c2_2 c2_3 c2_4 c2_5;obtain ⟨c2_0,c2_1,c2_2,c2_3,c2_4,c2_5⟩:=cs6 F2;clear c3_0 c3_1 c3_2 c3_3 c3_4 c3_5;obtain ⟨c3_0,c3_1,c3_2,c3_3,c3_4,c3_5⟩:=cs6 F3;clear c6_0 c6_1 c6_2 c6_3 c6_4 c6_5;obtain ⟨c6_0,c6_1,c6_2,c6_3,c6_4,c6_5⟩:=cs6 F6;clear hk y0 z0 y1 z1 y2 z2 y3 z3 y4 z4 y5 z5)
        | (go_at_call 50;with_reducible refine cl (impl_sessionPlace.Mb _ _ ss ci _ (cb HRS B) HCS.out hv true hit) B fun w1109 hb B=>?_;replace F2:=bn F2 hb;replace F3:=bn F3 hb;replace F4:=bn F4 hb;replace F6:=bn F6 hb;replace RP1106:=rn RP1106 hb;replace RS1106:=rn RS1106 hb;clear c2_0 c2_1 c2_2 c2_3 c2_4 c2_5;obtain ⟨c2_0,c2_1,c2_2,c2_3,c2_4,c2_5⟩:=cs6 F2;clear c3_0 c3_1 c3_2 c3_3 c3_4 c3_5;obtain ⟨c3_0,c3_1,c3_2,c3_3,c3_4,c3_5⟩:=cs6 F3;clear c6_0 c6_1 c6_2 c6_3 c6_4 c6_5;obtain ⟨c6_0,c6_1,c6_2,c6_3,c6_4,c6_5⟩:=cs6 F6;clear hb))
       all_goals (
        refine rg (n:=12) (S:=fun W=>W.heap[g3]?=some (.cells #[.int .i64 (ci),.int .i64 (sq),.int .i64 (k),.string x,.int .i64 (v),.int .i64 (o)] 44 (0,0))∧W.heap[g2]?=some (.cells #[.string a,.string b,.slice AP ps.length cP,.slice (some ad) ss.length cS,.bool false,.string c] 38 (0,0))∧Kd.C k76 W (some ad) ss.length ss) (ds:=[]) #[false,false,false,false,false,false,false,false,false,false,false,false] (by kernel_rfl) rfl rfl ⟨F3.out,F2.out,(cb HRS B)⟩ id B (fun w1110 hb B hHeld=>?_)
        refine with_tabW impl_ApplyEntry.tab5 impl_ApplyEntry.bits5 (fun HT_ HW_=>?_)
        replace F2:=bn F2 hb
        replace F3:=bn F3 hb
        replace F4:=bn F4 hb
        replace F6:=bn F6 hb
        replace RP1106:=rn RP1106 hb
        replace RS1106:=rn RS1106 hb
        clear hb
        refine pvq 0 (some 29) (bits 12 1) HT_ ?_
        refine pvq 1 (some 30) (bits 12 3) HT_ ?_
        refine pvq 2 (some 31) (bits 12 7) HT_ ?_
        refine tvq 3 (some 32) (bits 12 15) HT_ HW_ rfl hHeld (by intro w' hS;obtain ⟨s0,s1,s2⟩:=hS;obtain ⟨q0,q1,q2,q3,q4,q5⟩:=cs6 (Aside0.mk s0);go_simp;with_reducible rfl) ?_
        refine pvq 4 (some 33) (bits 12 31) HT_ ?_
        refine tvq 5 (some 34) (bits 12 63) HT_ HW_ rfl hHeld (by intro w' hS;obtain ⟨s0,s1,s2⟩:=hS;obtain ⟨q0,q1,q2,q3,q4,q5⟩:=cs6 (Aside0.mk s1);go_simp;with_reducible rfl) ?_
        refine pvq 6 (some 35) (bits 12 127) HT_ ?_
        refine pvq 7 (some 36) (bits 12 255) HT_ ?_
        refine pvq 8 (some 37) (bits 12 511) HT_ ?_
        refine tvq 9 (some 38) (bits 12 1023) HT_ HW_ rfl hHeld (by intro w' hS;obtain ⟨s0,s1,s2⟩:=hS;obtain ⟨_,hA,q0,q1,q2⟩:=at_T76 s2 ((plOf ss ci : Nat) : Int) (by omega) (by omega);cases hA;rw [Int.toNat_natCast] at q0 q1 q2;rw [hy] at q0 q1 q2;go_simp;with_reducible rfl) ?_
        refine pvq 10 (some 39) (bits 12 2047) HT_ ?_
        refine pvq 11 (some 40) (bits 12 4095) HT_ ?_
        refine nmq ?_
        refine done_ (done_of HT_.out (by kernel_rfl)) ?_
        clear c2_0 c2_1 c2_2 c2_3 c2_4 c2_5
        obtain ⟨c2_0,c2_1,c2_2,c2_3,c2_4,c2_5⟩:=cs6 F2
        clear c3_0 c3_1 c3_2 c3_3 c3_4 c3_5
        obtain ⟨c3_0,c3_1,c3_2,c3_3,c3_4,c3_5⟩:=cs6 F3
        clear c6_0 c6_1 c6_2 c6_3 c6_4 c6_5
        obtain ⟨c6_0,c6_1,c6_2,c6_3,c6_4,c6_5⟩:=cs6 F6)
       all_goals go_wp2_with (first
        | (go_at_call 51;with_reducible refine cl (impl_stateTakes.M a b _ _ ps _ _ ss false c k x v o _ (cb HRP B) (cb HRS B)) B fun w1111 hb B=>?_;replace F2:=bn F2 hb;replace F3:=bn F3 hb;replace F4:=bn F4 hb;replace F6:=bn F6 hb;replace RP1106:=rn RP1106 hb;replace RS1106:=rn RS1106 hb;clear c6_0 c6_1 c6_2 c6_3 c6_4 c6_5;obtain ⟨c6_0,c6_1,c6_2,c6_3,c6_4,c6_5⟩:=cs6 F6;clear hb)
        | ((with_reducible refine gate_store (t:=38) (p:=4) rfl ?_);obtain ⟨y0,y1,y2,y3,y4,y5,z0,z1,z2,z3,z4,z5⟩:=cz6 F4;refine sxq 38 38 4 0 [.string a,.string b,.slice AP1106 ps.length kP1106,.slice AS1106 ss.length kS1106,.bool false,.string c] [.string a,.string b,.slice AP1106 ps.length kP1106,.slice AS1106 ss.length kS1106,.bool false,.string c] B F4 L4 fun w1112 hk B G=>?_;replace F2:=bk F2 hk N2_4.out;replace F3:=bk F3 hk N3_4.out;replace RP1106:=rk RP1106 F4 (by decide) hk;replace RS1106:=rk RS1106 F4 (by decide) hk;replace F4:=G;clear hk y0 z0 y1 z1 y2 z2 y3 z3 y4 z4 y5 z5))
       all_goals (try (refine bodyPost_ret (results_list (rs:=[.cell 4 38,.tmp 5]) rfl (by simp) (.cell g4 38 _ (0,0) _ rfl F4.out hu rfl (by kernel_rfl) (.tmp .nil))) rfl ?_);exact ⟨_,_,rfl,RP1106.out,RS1106.out,B.out⟩)
      | true =>
       rw [aeM_go hh (by rw [hid,htk];rfl)]
       by_cases h5 : k=5
       ·have d5 : (k == 5)=true:=by rw [h5];rfl
        rw [show applM ⟨a,b,ps,ss,false,c⟩ ci sq k x v o=(⟨a,b,ps,(putB ss ⟨ci,sq,0⟩).1,true,x⟩,0) from if_pos h5]
        clear hh hcm hsq hN hid h5
        go_enter Try.func12,Try.ntmps12
        go_wp2_with (first
         | ((with_reducible refine gate_dst (N:=2) rfl ?_);refine bxq 2 #[.string a,.string b,.slice AP ps.length cP,.slice (some ad) ss.length cS,.bool false,.string c] 38 B fun g2 w1201 hb B F2 L2 E2=>?_;obtain ⟨c2_0,c2_1,c2_2,c2_3,c2_4,c2_5⟩:=cs6 F2;clear hb E2)
         | ((with_reducible refine gate_dst (N:=3) rfl ?_);refine bxq 3 #[.int .i64 (ci),.int .i64 (sq),.int .i64 (k),.string x,.int .i64 (v),.int .i64 (o)] 44 B fun g3 w1202 hb B F3 L3 E3=>?_;replace F2:=bn F2 hb;clear c2_0 c2_1 c2_2 c2_3 c2_4 c2_5;obtain ⟨c2_0,c2_1,c2_2,c2_3,c2_4,c2_5⟩:=cs6 F2;obtain ⟨c3_0,c3_1,c3_2,c3_3,c3_4,c3_5⟩:=cs6 F3;clear hb E3)
         | ((with_reducible refine gate_dst (N:=4) rfl ?_);refine bxq 4 #[.string (⟨#[]⟩ : ByteArray),.string (⟨#[]⟩ : ByteArray),.slice none 0 0,.slice none 0 0,.bool false,.string (⟨#[]⟩ : ByteArray)] 38 B fun g4 w1203 hb B F4 L4 E4=>?_;have N2_4:=ne1 E4 F2;have N3_4:=ne1 E4 F3;replace F2:=bn F2 hb;replace F3:=bn F3 hb;clear c2_0 c2_1 c2_2 c2_3 c2_4 c2_5;obtain ⟨c2_0,c2_1,c2_2,c2_3,c2_4,c2_5⟩:=cs6 F2;clear c3_0 c3_1 c3_2 c3_3 c3_4 c3_5;obtain ⟨c3_0,c3_1,c3_2,c3_3,c3_4,c3_5⟩:=cs6 F3;clear hb E4)
         | (go_at_call 18;with_reducible refine cl (impl_StateValid.M a b _ _ ps _ _ ss false c _ (cb HRP B) (cb HRS B)) B fun w1204 hb B=>?_;replace F2:=bn F2 hb;replace F3:=bn F3 hb;replace F4:=bn F4 hb;clear c2_0 c2_1 c2_2 c2_3 c2_4 c2_5;obtain ⟨c2_0,c2_1,c2_2,c2_3,c2_4,c2_5⟩:=cs6 F2;clear c3_0 c3_1 c3_2 c3_3 c3_4 c3_5;obtain ⟨c3_0,c3_1,c3_2,c3_3,c3_4,c3_5⟩:=cs6 F3;clear hb)
         | (go_at_call 19;with_reducible refine cl (impl_EntryValid.M ci sq k x v o _) B fun w1205 hb B=>?_;replace F2:=bn F2 hb;replace F3:=bn F3 hb;replace F4:=bn F4 hb;clear c2_0 c2_1 c2_2 c2_3 c2_4 c2_5;obtain ⟨c2_0,c2_1,c2_2,c2_3,c2_4,c2_5⟩:=cs6 F2;clear c3_0 c3_1 c3_2 c3_3 c3_4 c3_5;obtain ⟨c3_0,c3_1,c3_2,c3_3,c3_4,c3_5⟩:=cs6 F3;clear hb)
         | (go_at_call 49;with_reducible refine c2r (impl_copyState.M a b _ _ ps _ _ ss false c _ (cb HRP B) (cb HRS B) HCP.out HCS.out (by omega) (by omega)) B fun AP1206 kP1206 AS1206 kS1206 w1206 hb B RP1206 QP1206 RS1206 QS1206=>?_;have DP1206_S1206:=Aside0.mk (dty RP1206 RS1206 (by decide));replace F2:=bn F2 hb;replace F3:=bn F3 hb;replace F4:=bn F4 hb;clear QP1206 QS1206;clear c2_0 c2_1 c2_2 c2_3 c2_4 c2_5;obtain ⟨c2_0,c2_1,c2_2,c2_3,c2_4,c2_5⟩:=cs6 F2;clear c3_0 c3_1 c3_2 c3_3 c3_4 c3_5;obtain ⟨c3_0,c3_1,c3_2,c3_3,c3_4,c3_5⟩:=cs6 F3;clear hb)
         | ((with_reducible refine gate_dst (N:=6) rfl ?_);refine bxq 6 #[.string (⟨#[]⟩ : ByteArray),.string (⟨#[]⟩ : ByteArray),.slice none 0 0,.slice none 0 0,.bool false,.string (⟨#[]⟩ : ByteArray)] 38 B fun g6 w1207 hb B F6 L6 E6=>?_;have N2_6:=ne1 E6 F2;have N3_6:=ne1 E6 F3;have N4_6:=ne1 E6 F4;replace F2:=bn F2 hb;replace F3:=bn F3 hb;replace F4:=bn F4 hb;replace RP1206:=rn RP1206 hb;replace RS1206:=rn RS1206 hb;clear c2_0 c2_1 c2_2 c2_3 c2_4 c2_5;obtain ⟨c2_0,c2_1,c2_2,c2_3,c2_4,c2_5⟩:=cs6 F2;clear c3_0 c3_1 c3_2 c3_3 c3_4 c3_5;obtain ⟨c3_0,c3_1,c3_2,c3_3,c3_4,c3_5⟩:=cs6 F3;obtain ⟨c6_0,c6_1,c6_2,c6_3,c6_4,c6_5⟩:=cs6 F6;clear hb E6)
         | ((with_reducible refine gate_store (t:=38) (p:=6) rfl ?_);obtain ⟨y0,y1,y2,y3,y4,y5,z0,z1,z2,z3,z4,z5⟩:=cz6 F6;refine sxq 38 38 6 0 [.string a,.string b,.slice AP1206 ps.length kP1206,.slice AS1206 ss.length kS1206,.bool false,.string c] [.string a,.string b,.slice AP1206 ps.length kP1206,.slice AS1206 ss.length kS1206,.bool false,.string c] B F6 L6 fun w1208 hk B G=>?_;replace F2:=bk F2 hk N2_6.out;replace F3:=bk F3 hk N3_6.out;replace F4:=bk F4 hk N4_6.out;replace RP1206:=rk RP1206 F6 (by decide) hk;replace RS1206:=rk RS1206 F6 (by decide) hk;replace F6:=G;clear c2_0 c2_1 c2_2 c2_3 c2_4 c2_5;obtain ⟨c2_0,c2_1,c2_2,c2_3,c2_4,c2_5⟩:=cs6 F2;clear c3_0 c3_1 c3_2 c3_3 c3_4 c3_5;obtain ⟨c3_0,c3_1,c3_2,c3_3,c3_4,c3_5⟩:=cs6 F3;clear c6_0 c6_1 c6_2 c6_3 c6_4 c6_5;obtain ⟨c6_0,c6_1,c6_2,c6_3,c6_4,c6_5⟩:=cs6 F6;clear hk y0 z0 y1 z1 y2 z2 y3 z3 y4 z4 y5 z5)
         | (go_at_call 50;with_reducible refine cl (impl_sessionPlace.Mb _ _ ss ci _ (cb HRS B) HCS.out hv true hit) B fun w1209 hb B=>?_;replace F2:=bn F2 hb;replace F3:=bn F3 hb;replace F4:=bn F4 hb;replace F6:=bn F6 hb;replace RP1206:=rn RP1206 hb;replace RS1206:=rn RS1206 hb;clear c2_0 c2_1 c2_2 c2_3 c2_4 c2_5;obtain ⟨c2_0,c2_1,c2_2,c2_3,c2_4,c2_5⟩:=cs6 F2;clear c3_0 c3_1 c3_2 c3_3 c3_4 c3_5;obtain ⟨c3_0,c3_1,c3_2,c3_3,c3_4,c3_5⟩:=cs6 F3;clear c6_0 c6_1 c6_2 c6_3 c6_4 c6_5;obtain ⟨c6_0,c6_1,c6_2,c6_3,c6_4,c6_5⟩:=cs6 F6;clear hb))
        all_goals (
         refine rg (n:=12) (S:=fun W=>W.heap[g3]?=some (.cells #[.int .i64 (ci),.int .i64 (sq),.int .i64 (k),.string x,.int .i64 (v),.int .i64 (o)] 44 (0,0))∧W.heap[g2]?=some (.cells #[.string a,.string b,.slice AP ps.length cP,.slice (some ad) ss.length cS,.bool false,.string c] 38 (0,0))∧Kd.C k76 W (some ad) ss.length ss) (ds:=[]) #[false,false,false,false,false,false,false,false,false,false,false,false] (by kernel_rfl) rfl rfl ⟨F3.out,F2.out,(cb HRS B)⟩ id B (fun w1210 hb B hHeld=>?_)
         refine with_tabW impl_ApplyEntry.tab5 impl_ApplyEntry.bits5 (fun HT_ HW_=>?_)
         replace F2:=bn F2 hb
         replace F3:=bn F3 hb
         replace F4:=bn F4 hb
         replace F6:=bn F6 hb
         replace RP1206:=rn RP1206 hb
         replace RS1206:=rn RS1206 hb
         clear hb
         refine pvq 0 (some 29) (bits 12 1) HT_ ?_
         refine pvq 1 (some 30) (bits 12 3) HT_ ?_
         refine pvq 2 (some 31) (bits 12 7) HT_ ?_
         refine tvq 3 (some 32) (bits 12 15) HT_ HW_ rfl hHeld (by intro w' hS;obtain ⟨s0,s1,s2⟩:=hS;obtain ⟨q0,q1,q2,q3,q4,q5⟩:=cs6 (Aside0.mk s0);go_simp;with_reducible rfl) ?_
         refine pvq 4 (some 33) (bits 12 31) HT_ ?_
         refine tvq 5 (some 34) (bits 12 63) HT_ HW_ rfl hHeld (by intro w' hS;obtain ⟨s0,s1,s2⟩:=hS;obtain ⟨q0,q1,q2,q3,q4,q5⟩:=cs6 (Aside0.mk s1);go_simp;with_reducible rfl) ?_
         refine pvq 6 (some 35) (bits 12 127) HT_ ?_
         refine pvq 7 (some 36) (bits 12 255) HT_ ?_
         refine pvq 8 (some 37) (bits 12 511) HT_ ?_
         refine tvq 9 (some 38) (bits 12 1023) HT_ HW_ rfl hHeld (by intro w' hS;obtain ⟨s0,s1,s2⟩:=hS;obtain ⟨_,hA,q0,q1,q2⟩:=at_T76 s2 ((plOf ss ci : Nat) : Int) (by omega) (by omega);cases hA;rw [Int.toNat_natCast] at q0 q1 q2;rw [hy] at q0 q1 q2;go_simp;with_reducible rfl) ?_
         refine pvq 10 (some 39) (bits 12 2047) HT_ ?_
         refine pvq 11 (some 40) (bits 12 4095) HT_ ?_
         refine nmq ?_
         refine done_ (done_of HT_.out (by kernel_rfl)) ?_
         clear c2_0 c2_1 c2_2 c2_3 c2_4 c2_5
         obtain ⟨c2_0,c2_1,c2_2,c2_3,c2_4,c2_5⟩:=cs6 F2
         clear c3_0 c3_1 c3_2 c3_3 c3_4 c3_5
         obtain ⟨c3_0,c3_1,c3_2,c3_3,c3_4,c3_5⟩:=cs6 F3
         clear c6_0 c6_1 c6_2 c6_3 c6_4 c6_5
         obtain ⟨c6_0,c6_1,c6_2,c6_3,c6_4,c6_5⟩:=cs6 F6)
        all_goals go_wp2_with (first
         | (go_at_call 51;with_reducible refine cl (impl_stateTakes.M a b _ _ ps _ _ ss false c k x v o _ (cb HRP B) (cb HRS B)) B fun w1211 hb B=>?_;replace F2:=bn F2 hb;replace F3:=bn F3 hb;replace F4:=bn F4 hb;replace F6:=bn F6 hb;replace RP1206:=rn RP1206 hb;replace RS1206:=rn RS1206 hb;clear c2_0 c2_1 c2_2 c2_3 c2_4 c2_5;obtain ⟨c2_0,c2_1,c2_2,c2_3,c2_4,c2_5⟩:=cs6 F2;clear c3_0 c3_1 c3_2 c3_3 c3_4 c3_5;obtain ⟨c3_0,c3_1,c3_2,c3_3,c3_4,c3_5⟩:=cs6 F3;clear c6_0 c6_1 c6_2 c6_3 c6_4 c6_5;obtain ⟨c6_0,c6_1,c6_2,c6_3,c6_4,c6_5⟩:=cs6 F6;clear hb)
         | ((with_reducible refine gate_store (t:=4) (p:=72) rfl ?_);obtain ⟨y0,y1,y2,y3,y4,y5,z0,z1,z2,z3,z4,z5⟩:=cz6 F6;refine sxq 38 4 72 4 [.bool true] [.string a,.string b,.slice AP1206 ps.length kP1206,.slice AS1206 ss.length kS1206,.bool true,.string c] B F6 L6 fun w1212 hk B G=>?_;replace F2:=bk F2 hk N2_6.out;replace F3:=bk F3 hk N3_6.out;replace F4:=bk F4 hk N4_6.out;replace RP1206:=rk RP1206 F6 (by decide) hk;replace RS1206:=rk RS1206 F6 (by decide) hk;replace F6:=G;clear c2_0 c2_1 c2_2 c2_3 c2_4 c2_5;obtain ⟨c2_0,c2_1,c2_2,c2_3,c2_4,c2_5⟩:=cs6 F2;clear c3_0 c3_1 c3_2 c3_3 c3_4 c3_5;obtain ⟨c3_0,c3_1,c3_2,c3_3,c3_4,c3_5⟩:=cs6 F3;clear c6_0 c6_1 c6_2 c6_3 c6_4 c6_5;obtain ⟨c6_0,c6_1,c6_2,c6_3,c6_4,c6_5⟩:=cs6 F6;clear hk y0 z0 y1 z1 y2 z2 y3 z3 y4 z4 y5 z5)
         | ((with_reducible refine gate_store (t:=9) (p:=76) rfl ?_);obtain ⟨y0,y1,y2,y3,y4,y5,z0,z1,z2,z3,z4,z5⟩:=cz6 F6;refine sxq 38 9 76 5 [.string x] [.string a,.string b,.slice AP1206 ps.length kP1206,.slice AS1206 ss.length kS1206,.bool true,.string x] B F6 L6 fun w1213 hk B G=>?_;replace F2:=bk F2 hk N2_6.out;replace F3:=bk F3 hk N3_6.out;replace F4:=bk F4 hk N4_6.out;replace RP1206:=rk RP1206 F6 (by decide) hk;replace RS1206:=rk RS1206 F6 (by decide) hk;replace F6:=G;clear c2_0 c2_1 c2_2 c2_3 c2_4 c2_5;obtain ⟨c2_0,c2_1,c2_2,c2_3,c2_4,c2_5⟩:=cs6 F2;clear c3_0 c3_1 c3_2 c3_3 c3_4 c3_5;obtain ⟨c3_0,c3_1,c3_2,c3_3,c3_4,c3_5⟩:=cs6 F3;clear c6_0 c6_1 c6_2 c6_3 c6_4 c6_5;obtain ⟨c6_0,c6_1,c6_2,c6_3,c6_4,c6_5⟩:=cs6 F6;clear hk y0 z0 y1 z1 y2 z2 y3 z3 y4 z4 y5 z5)
         | (go_at_call 53;with_reducible refine cr (impl_SessionPut.M _ _ ss ci sq 0 _ (cb HRS B) HCS.out) B fun AU1214 kU1214 w1214 hb B RU1214 QU1214=>?_;have DP1206_U1214:=fr QU1214 RP1206;have DS1206_U1214:=fr QU1214 RS1206;replace F2:=bn F2 hb;replace F3:=bn F3 hb;replace F4:=bn F4 hb;replace F6:=bn F6 hb;replace RP1206:=rn RP1206 hb;replace RS1206:=rn RS1206 hb;clear QU1214;clear c6_0 c6_1 c6_2 c6_3 c6_4 c6_5;obtain ⟨c6_0,c6_1,c6_2,c6_3,c6_4,c6_5⟩:=cs6 F6;clear hb)
         | ((with_reducible refine gate_store (t:=36) (p:=98) rfl ?_);obtain ⟨y0,y1,y2,y3,y4,y5,z0,z1,z2,z3,z4,z5⟩:=cz6 F6;refine sxq 38 36 98 3 [.slice AU1214 (putB ss ⟨ci,sq,0⟩).1.length kU1214] [.string a,.string b,.slice AP1206 ps.length kP1206,.slice AU1214 (putB ss ⟨ci,sq,0⟩).1.length kU1214,.bool true,.string x] B F6 L6 fun w1215 hk B G=>?_;replace F2:=bk F2 hk N2_6.out;replace F3:=bk F3 hk N3_6.out;replace F4:=bk F4 hk N4_6.out;replace RP1206:=rk RP1206 F6 (by decide) hk;replace RS1206:=rk RS1206 F6 (by decide) hk;replace RU1214:=rk RU1214 F6 (by decide) hk;replace F6:=G;clear c6_0 c6_1 c6_2 c6_3 c6_4 c6_5;obtain ⟨c6_0,c6_1,c6_2,c6_3,c6_4,c6_5⟩:=cs6 F6;clear hk y0 z0 y1 z1 y2 z2 y3 z3 y4 z4 y5 z5)
         | ((with_reducible refine gate_store (t:=38) (p:=4) rfl ?_);obtain ⟨y0,y1,y2,y3,y4,y5,z0,z1,z2,z3,z4,z5⟩:=cz6 F4;refine sxq 38 38 4 0 [.string a,.string b,.slice AP1206 ps.length kP1206,.slice AU1214 (putB ss ⟨ci,sq,0⟩).1.length kU1214,.bool true,.string x] [.string a,.string b,.slice AP1206 ps.length kP1206,.slice AU1214 (putB ss ⟨ci,sq,0⟩).1.length kU1214,.bool true,.string x] B F4 L4 fun w1216 hk B G=>?_;replace F2:=bk F2 hk N2_4.out;replace F3:=bk F3 hk N3_4.out;replace RP1206:=rk RP1206 F4 (by decide) hk;replace RS1206:=rk RS1206 F4 (by decide) hk;replace RU1214:=rk RU1214 F4 (by decide) hk;replace F4:=G;clear hk y0 z0 y1 z1 y2 z2 y3 z3 y4 z4 y5 z5))
        all_goals (try (refine bodyPost_ret (results_list (rs:=[.cell 4 38,.tmp 5]) rfl (by simp) (.cell g4 38 _ (0,0) _ rfl F4.out hu rfl (by kernel_rfl) (.tmp .nil))) rfl ?_);exact ⟨_,_,rfl,RP1206.out,RU1214.out,B.out⟩)
       ·have d5 : (k == 5)=false:=beq_eq_false_iff_ne.mpr h5
        rw [show applM ⟨a,b,ps,ss,false,c⟩ ci sq k x v o=(⟨a,b,(apM ps k x v o).1,(putB ss ⟨ci,sq,(apM ps k x v o).2⟩).1,false,c⟩,(apM ps k x v o).2) from if_neg h5]
        clear hh hcm hsq hN hid h5
        go_enter Try.func12,Try.ntmps12
        go_wp2_with (first
         | ((with_reducible refine gate_dst (N:=2) rfl ?_);refine bxq 2 #[.string a,.string b,.slice AP ps.length cP,.slice (some ad) ss.length cS,.bool false,.string c] 38 B fun g2 w1301 hb B F2 L2 E2=>?_;obtain ⟨c2_0,c2_1,c2_2,c2_3,c2_4,c2_5⟩:=cs6 F2;clear hb E2)
         | ((with_reducible refine gate_dst (N:=3) rfl ?_);refine bxq 3 #[.int .i64 (ci),.int .i64 (sq),.int .i64 (k),.string x,.int .i64 (v),.int .i64 (o)] 44 B fun g3 w1302 hb B F3 L3 E3=>?_;replace F2:=bn F2 hb;clear c2_0 c2_1 c2_2 c2_3 c2_4 c2_5;obtain ⟨c2_0,c2_1,c2_2,c2_3,c2_4,c2_5⟩:=cs6 F2;obtain ⟨c3_0,c3_1,c3_2,c3_3,c3_4,c3_5⟩:=cs6 F3;clear hb E3)
         | ((with_reducible refine gate_dst (N:=4) rfl ?_);refine bxq 4 #[.string (⟨#[]⟩ : ByteArray),.string (⟨#[]⟩ : ByteArray),.slice none 0 0,.slice none 0 0,.bool false,.string (⟨#[]⟩ : ByteArray)] 38 B fun g4 w1303 hb B F4 L4 E4=>?_;have N2_4:=ne1 E4 F2;have N3_4:=ne1 E4 F3;replace F2:=bn F2 hb;replace F3:=bn F3 hb;clear c2_0 c2_1 c2_2 c2_3 c2_4 c2_5;obtain ⟨c2_0,c2_1,c2_2,c2_3,c2_4,c2_5⟩:=cs6 F2;clear c3_0 c3_1 c3_2 c3_3 c3_4 c3_5;obtain ⟨c3_0,c3_1,c3_2,c3_3,c3_4,c3_5⟩:=cs6 F3;clear hb E4)
         | (go_at_call 18;with_reducible refine cl (impl_StateValid.M a b _ _ ps _ _ ss false c _ (cb HRP B) (cb HRS B)) B fun w1304 hb B=>?_;replace F2:=bn F2 hb;replace F3:=bn F3 hb;replace F4:=bn F4 hb;clear c2_0 c2_1 c2_2 c2_3 c2_4 c2_5;obtain ⟨c2_0,c2_1,c2_2,c2_3,c2_4,c2_5⟩:=cs6 F2;clear c3_0 c3_1 c3_2 c3_3 c3_4 c3_5;obtain ⟨c3_0,c3_1,c3_2,c3_3,c3_4,c3_5⟩:=cs6 F3;clear hb)
         | (go_at_call 19;with_reducible refine cl (impl_EntryValid.M ci sq k x v o _) B fun w1305 hb B=>?_;replace F2:=bn F2 hb;replace F3:=bn F3 hb;replace F4:=bn F4 hb;clear c2_0 c2_1 c2_2 c2_3 c2_4 c2_5;obtain ⟨c2_0,c2_1,c2_2,c2_3,c2_4,c2_5⟩:=cs6 F2;clear c3_0 c3_1 c3_2 c3_3 c3_4 c3_5;obtain ⟨c3_0,c3_1,c3_2,c3_3,c3_4,c3_5⟩:=cs6 F3;clear hb)
         | (go_at_call 49;with_reducible refine c2r (impl_copyState.M a b _ _ ps _ _ ss false c _ (cb HRP B) (cb HRS B) HCP.out HCS.out (by omega) (by omega)) B fun AP1306 kP1306 AS1306 kS1306 w1306 hb B RP1306 QP1306 RS1306 QS1306=>?_;have DP1306_S1306:=Aside0.mk (dty RP1306 RS1306 (by decide));replace F2:=bn F2 hb;replace F3:=bn F3 hb;replace F4:=bn F4 hb;clear QP1306 QS1306;clear c2_0 c2_1 c2_2 c2_3 c2_4 c2_5;obtain ⟨c2_0,c2_1,c2_2,c2_3,c2_4,c2_5⟩:=cs6 F2;clear c3_0 c3_1 c3_2 c3_3 c3_4 c3_5;obtain ⟨c3_0,c3_1,c3_2,c3_3,c3_4,c3_5⟩:=cs6 F3;clear hb)
         | ((with_reducible refine gate_dst (N:=6) rfl ?_);refine bxq 6 #[.string (⟨#[]⟩ : ByteArray),.string (⟨#[]⟩ : ByteArray),.slice none 0 0,.slice none 0 0,.bool false,.string (⟨#[]⟩ : ByteArray)] 38 B fun g6 w1307 hb B F6 L6 E6=>?_;have N2_6:=ne1 E6 F2;have N3_6:=ne1 E6 F3;have N4_6:=ne1 E6 F4;replace F2:=bn F2 hb;replace F3:=bn F3 hb;replace F4:=bn F4 hb;replace RP1306:=rn RP1306 hb;replace RS1306:=rn RS1306 hb;clear c2_0 c2_1 c2_2 c2_3 c2_4 c2_5;obtain ⟨c2_0,c2_1,c2_2,c2_3,c2_4,c2_5⟩:=cs6 F2;clear c3_0 c3_1 c3_2 c3_3 c3_4 c3_5;obtain ⟨c3_0,c3_1,c3_2,c3_3,c3_4,c3_5⟩:=cs6 F3;obtain ⟨c6_0,c6_1,c6_2,c6_3,c6_4,c6_5⟩:=cs6 F6;clear hb E6)
         | ((with_reducible refine gate_store (t:=38) (p:=6) rfl ?_);obtain ⟨y0,y1,y2,y3,y4,y5,z0,z1,z2,z3,z4,z5⟩:=cz6 F6;refine sxq 38 38 6 0 [.string a,.string b,.slice AP1306 ps.length kP1306,.slice AS1306 ss.length kS1306,.bool false,.string c] [.string a,.string b,.slice AP1306 ps.length kP1306,.slice AS1306 ss.length kS1306,.bool false,.string c] B F6 L6 fun w1308 hk B G=>?_;replace F2:=bk F2 hk N2_6.out;replace F3:=bk F3 hk N3_6.out;replace F4:=bk F4 hk N4_6.out;replace RP1306:=rk RP1306 F6 (by decide) hk;replace RS1306:=rk RS1306 F6 (by decide) hk;replace F6:=G;clear c2_0 c2_1 c2_2 c2_3 c2_4 c2_5;obtain ⟨c2_0,c2_1,c2_2,c2_3,c2_4,c2_5⟩:=cs6 F2;clear c3_0 c3_1 c3_2 c3_3 c3_4 c3_5;obtain ⟨c3_0,c3_1,c3_2,c3_3,c3_4,c3_5⟩:=cs6 F3;clear c6_0 c6_1 c6_2 c6_3 c6_4 c6_5;obtain ⟨c6_0,c6_1,c6_2,c6_3,c6_4,c6_5⟩:=cs6 F6;clear hk y0 z0 y1 z1 y2 z2 y3 z3 y4 z4 y5 z5)
         | (go_at_call 50;with_reducible refine cl (impl_sessionPlace.Mb _ _ ss ci _ (cb HRS B) HCS.out hv true hit) B fun w1309 hb B=>?_;replace F2:=bn F2 hb;replace F3:=bn F3 hb;replace F4:=bn F4 hb;replace F6:=bn F6 hb;replace RP1306:=rn RP1306 hb;replace RS1306:=rn RS1306 hb;clear c2_0 c2_1 c2_2 c2_3 c2_4 c2_5;obtain ⟨c2_0,c2_1,c2_2,c2_3,c2_4,c2_5⟩:=cs6 F2;clear c3_0 c3_1 c3_2 c3_3 c3_4 c3_5;obtain ⟨c3_0,c3_1,c3_2,c3_3,c3_4,c3_5⟩:=cs6 F3;clear c6_0 c6_1 c6_2 c6_3 c6_4 c6_5;obtain ⟨c6_0,c6_1,c6_2,c6_3,c6_4,c6_5⟩:=cs6 F6;clear hb))
        all_goals (
         refine rg (n:=12) (S:=fun W=>W.heap[g3]?=some (.cells #[.int .i64 (ci),.int .i64 (sq),.int .i64 (k),.string x,.int .i64 (v),.int .i64 (o)] 44 (0,0))∧W.heap[g2]?=some (.cells #[.string a,.string b,.slice AP ps.length cP,.slice (some ad) ss.length cS,.bool false,.string c] 38 (0,0))∧Kd.C k76 W (some ad) ss.length ss) (ds:=[]) #[false,false,false,false,false,false,false,false,false,false,false,false] (by kernel_rfl) rfl rfl ⟨F3.out,F2.out,(cb HRS B)⟩ id B (fun w1310 hb B hHeld=>?_)
         refine with_tabW impl_ApplyEntry.tab5 impl_ApplyEntry.bits5 (fun HT_ HW_=>?_)
         replace F2:=bn F2 hb
         replace F3:=bn F3 hb
         replace F4:=bn F4 hb
         replace F6:=bn F6 hb
         replace RP1306:=rn RP1306 hb
         replace RS1306:=rn RS1306 hb
         clear hb
         refine pvq 0 (some 29) (bits 12 1) HT_ ?_
         refine pvq 1 (some 30) (bits 12 3) HT_ ?_
         refine pvq 2 (some 31) (bits 12 7) HT_ ?_
         refine tvq 3 (some 32) (bits 12 15) HT_ HW_ rfl hHeld (by intro w' hS;obtain ⟨s0,s1,s2⟩:=hS;obtain ⟨q0,q1,q2,q3,q4,q5⟩:=cs6 (Aside0.mk s0);go_simp;with_reducible rfl) ?_
         refine pvq 4 (some 33) (bits 12 31) HT_ ?_
         refine tvq 5 (some 34) (bits 12 63) HT_ HW_ rfl hHeld (by intro w' hS;obtain ⟨s0,s1,s2⟩:=hS;obtain ⟨q0,q1,q2,q3,q4,q5⟩:=cs6 (Aside0.mk s1);go_simp;with_reducible rfl) ?_
         refine pvq 6 (some 35) (bits 12 127) HT_ ?_
         refine pvq 7 (some 36) (bits 12 255) HT_ ?_
         refine pvq 8 (some 37) (bits 12 511) HT_ ?_
         refine tvq 9 (some 38) (bits 12 1023) HT_ HW_ rfl hHeld (by intro w' hS;obtain ⟨s0,s1,s2⟩:=hS;obtain ⟨_,hA,q0,q1,q2⟩:=at_T76 s2 ((plOf ss ci : Nat) : Int) (by omega) (by omega);cases hA;rw [Int.toNat_natCast] at q0 q1 q2;rw [hy] at q0 q1 q2;go_simp;with_reducible rfl) ?_
         refine pvq 10 (some 39) (bits 12 2047) HT_ ?_
         refine pvq 11 (some 40) (bits 12 4095) HT_ ?_
         refine nmq ?_
         refine done_ (done_of HT_.out (by kernel_rfl)) ?_
         clear c2_0 c2_1 c2_2 c2_3 c2_4 c2_5
         obtain ⟨c2_0,c2_1,c2_2,c2_3,c2_4,c2_5⟩:=cs6 F2
         clear c3_0 c3_1 c3_2 c3_3 c3_4 c3_5
         obtain ⟨c3_0,c3_1,c3_2,c3_3,c3_4,c3_5⟩:=cs6 F3
         clear c6_0 c6_1 c6_2 c6_3 c6_4 c6_5
         obtain ⟨c6_0,c6_1,c6_2,c6_3,c6_4,c6_5⟩:=cs6 F6)
        all_goals go_wp2_with (first
         | (go_at_call 51;with_reducible refine cl (impl_stateTakes.M a b _ _ ps _ _ ss false c k x v o _ (cb HRP B) (cb HRS B)) B fun w1311 hb B=>?_;replace F2:=bn F2 hb;replace F3:=bn F3 hb;replace F4:=bn F4 hb;replace F6:=bn F6 hb;replace RP1306:=rn RP1306 hb;replace RS1306:=rn RS1306 hb;clear c2_0 c2_1 c2_2 c2_3 c2_4 c2_5;obtain ⟨c2_0,c2_1,c2_2,c2_3,c2_4,c2_5⟩:=cs6 F2;clear c3_0 c3_1 c3_2 c3_3 c3_4 c3_5;obtain ⟨c3_0,c3_1,c3_2,c3_3,c3_4,c3_5⟩:=cs6 F3;clear c6_0 c6_1 c6_2 c6_3 c6_4 c6_5;obtain ⟨c6_0,c6_1,c6_2,c6_3,c6_4,c6_5⟩:=cs6 F6;clear hb)
         | (go_at_call 52;with_reducible refine cr (impl_ApplyCommand.M _ _ ps k x v o _ (cb HRP B) HCP.out) B fun AC1312 kC1312 w1312 hb B RC1312 QC1312=>?_;have DP1306_C1312:=fr QC1312 RP1306;have DS1306_C1312:=fr QC1312 RS1306;replace F2:=bn F2 hb;replace F3:=bn F3 hb;replace F4:=bn F4 hb;replace F6:=bn F6 hb;replace RP1306:=rn RP1306 hb;replace RS1306:=rn RS1306 hb;clear QC1312;clear c2_0 c2_1 c2_2 c2_3 c2_4 c2_5;obtain ⟨c2_0,c2_1,c2_2,c2_3,c2_4,c2_5⟩:=cs6 F2;clear c3_0 c3_1 c3_2 c3_3 c3_4 c3_5;obtain ⟨c3_0,c3_1,c3_2,c3_3,c3_4,c3_5⟩:=cs6 F3;clear c6_0 c6_1 c6_2 c6_3 c6_4 c6_5;obtain ⟨c6_0,c6_1,c6_2,c6_3,c6_4,c6_5⟩:=cs6 F6;clear hb)
         | ((with_reducible refine gate_store (t:=35) (p:=85) rfl ?_);obtain ⟨y0,y1,y2,y3,y4,y5,z0,z1,z2,z3,z4,z5⟩:=cz6 F6;refine sxq 38 35 85 2 [.slice AC1312 (apM ps k x v o).1.length kC1312] [.string a,.string b,.slice AC1312 (apM ps k x v o).1.length kC1312,.slice AS1306 ss.length kS1306,.bool false,.string c] B F6 L6 fun w1313 hk B G=>?_;replace F2:=bk F2 hk N2_6.out;replace F3:=bk F3 hk N3_6.out;replace F4:=bk F4 hk N4_6.out;replace RP1306:=rk RP1306 F6 (by decide) hk;replace RS1306:=rk RS1306 F6 (by decide) hk;replace RC1312:=rk RC1312 F6 (by decide) hk;replace F6:=G;clear c2_0 c2_1 c2_2 c2_3 c2_4 c2_5;obtain ⟨c2_0,c2_1,c2_2,c2_3,c2_4,c2_5⟩:=cs6 F2;clear c3_0 c3_1 c3_2 c3_3 c3_4 c3_5;obtain ⟨c3_0,c3_1,c3_2,c3_3,c3_4,c3_5⟩:=cs6 F3;clear c6_0 c6_1 c6_2 c6_3 c6_4 c6_5;obtain ⟨c6_0,c6_1,c6_2,c6_3,c6_4,c6_5⟩:=cs6 F6;clear hk y0 z0 y1 z1 y2 z2 y3 z3 y4 z4 y5 z5)
         | (go_at_call 53;with_reducible refine cr (impl_SessionPut.M _ _ ss ci sq (apM ps k x v o).2 _ (cb HRS B) HCS.out) B fun AU1314 kU1314 w1314 hb B RU1314 QU1314=>?_;have DP1306_U1314:=fr QU1314 RP1306;have DS1306_U1314:=fr QU1314 RS1306;have DC1312_U1314:=fr QU1314 RC1312;replace F2:=bn F2 hb;replace F3:=bn F3 hb;replace F4:=bn F4 hb;replace F6:=bn F6 hb;replace RS1306:=rn RS1306 hb;replace RC1312:=rn RC1312 hb;clear QU1314;clear c6_0 c6_1 c6_2 c6_3 c6_4 c6_5;obtain ⟨c6_0,c6_1,c6_2,c6_3,c6_4,c6_5⟩:=cs6 F6;clear hb)
         | ((with_reducible refine gate_store (t:=36) (p:=98) rfl ?_);obtain ⟨y0,y1,y2,y3,y4,y5,z0,z1,z2,z3,z4,z5⟩:=cz6 F6;refine sxq 38 36 98 3 [.slice AU1314 (putB ss ⟨ci,sq,(apM ps k x v o).2⟩).1.length kU1314] [.string a,.string b,.slice AC1312 (apM ps k x v o).1.length kC1312,.slice AU1314 (putB ss ⟨ci,sq,(apM ps k x v o).2⟩).1.length kU1314,.bool false,.string c] B F6 L6 fun w1315 hk B G=>?_;replace F2:=bk F2 hk N2_6.out;replace F3:=bk F3 hk N3_6.out;replace F4:=bk F4 hk N4_6.out;replace RS1306:=rk RS1306 F6 (by decide) hk;replace RC1312:=rk RC1312 F6 (by decide) hk;replace RU1314:=rk RU1314 F6 (by decide) hk;replace F6:=G;clear c6_0 c6_1 c6_2 c6_3 c6_4 c6_5;obtain ⟨c6_0,c6_1,c6_2,c6_3,c6_4,c6_5⟩:=cs6 F6;clear hk y0 z0 y1 z1 y2 z2 y3 z3 y4 z4 y5 z5)
         | ((with_reducible refine gate_store (t:=38) (p:=4) rfl ?_);obtain ⟨y0,y1,y2,y3,y4,y5,z0,z1,z2,z3,z4,z5⟩:=cz6 F4;refine sxq 38 38 4 0 [.string a,.string b,.slice AC1312 (apM ps k x v o).1.length kC1312,.slice AU1314 (putB ss ⟨ci,sq,(apM ps k x v o).2⟩).1.length kU1314,.bool false,.string c] [.string a,.string b,.slice AC1312 (apM ps k x v o).1.length kC1312,.slice AU1314 (putB ss ⟨ci,sq,(apM ps k x v o).2⟩).1.length kU1314,.bool false,.string c] B F4 L4 fun w1316 hk B G=>?_;replace F2:=bk F2 hk N2_4.out;replace F3:=bk F3 hk N3_4.out;replace RS1306:=rk RS1306 F4 (by decide) hk;replace RC1312:=rk RC1312 F4 (by decide) hk;replace RU1314:=rk RU1314 F4 (by decide) hk;replace F4:=G;clear hk y0 z0 y1 z1 y2 z2 y3 z3 y4 z4 y5 z5))
        all_goals (try (refine bodyPost_ret (results_list (rs:=[.cell 4 38,.tmp 5]) rfl (by simp) (.cell g4 38 _ (0,0) _ rfl F4.out hu rfl (by kernel_rfl) (.tmp .nil))) rfl ?_);exact ⟨_,_,rfl,RC1312.out,RU1314.out,B.out⟩)
   | false =>
    have hf0:=miss_findS hv hit
    have hN : idleN ⟨a,b,ps,ss,t,c⟩ ci sq=-3:=(if_neg (show ¬ (findS ss ci).f1=sq by omega)).trans (if_neg (show ¬ sq < (findS ss ci).f1 by omega))
    have hle : decide (sq≤(findS ss ci).f1)=false:=decide_eq_false (by omega)
    clear hf0 hcl
    cases t with
    | true =>
     rw [aeM_idle hh (by unfold idleB;simp),hN]
     clear hh hcm hsq hN hle
     go_enter Try.func12,Try.ntmps12
     go_wp2_with (first
      | ((with_reducible refine gate_dst (N:=2) rfl ?_);refine bxq 2 #[.string a,.string b,.slice AP ps.length cP,.slice AS ss.length cS,.bool true,.string c] 38 B fun g2 w2001 hb B F2 L2 E2=>?_;obtain ⟨c2_0,c2_1,c2_2,c2_3,c2_4,c2_5⟩:=cs6 F2;clear hb E2)
      | ((with_reducible refine gate_dst (N:=3) rfl ?_);refine bxq 3 #[.int .i64 (ci),.int .i64 (sq),.int .i64 (k),.string x,.int .i64 (v),.int .i64 (o)] 44 B fun g3 w2002 hb B F3 L3 E3=>?_;replace F2:=bn F2 hb;clear c2_0 c2_1 c2_2 c2_3 c2_4 c2_5;obtain ⟨c2_0,c2_1,c2_2,c2_3,c2_4,c2_5⟩:=cs6 F2;obtain ⟨c3_0,c3_1,c3_2,c3_3,c3_4,c3_5⟩:=cs6 F3;clear hb E3)
      | ((with_reducible refine gate_dst (N:=4) rfl ?_);refine bxq 4 #[.string (⟨#[]⟩ : ByteArray),.string (⟨#[]⟩ : ByteArray),.slice none 0 0,.slice none 0 0,.bool false,.string (⟨#[]⟩ : ByteArray)] 38 B fun g4 w2003 hb B F4 L4 E4=>?_;have N2_4:=ne1 E4 F2;have N3_4:=ne1 E4 F3;replace F2:=bn F2 hb;replace F3:=bn F3 hb;clear c2_0 c2_1 c2_2 c2_3 c2_4 c2_5;obtain ⟨c2_0,c2_1,c2_2,c2_3,c2_4,c2_5⟩:=cs6 F2;clear c3_0 c3_1 c3_2 c3_3 c3_4 c3_5;obtain ⟨c3_0,c3_1,c3_2,c3_3,c3_4,c3_5⟩:=cs6 F3;clear hb E4)
      | (go_at_call 18;with_reducible refine cl (impl_StateValid.M a b _ _ ps _ _ ss true c _ (cb HRP B) (cb HRS B)) B fun w2004 hb B=>?_;replace F2:=bn F2 hb;replace F3:=bn F3 hb;replace F4:=bn F4 hb;clear c2_0 c2_1 c2_2 c2_3 c2_4 c2_5;obtain ⟨c2_0,c2_1,c2_2,c2_3,c2_4,c2_5⟩:=cs6 F2;clear c3_0 c3_1 c3_2 c3_3 c3_4 c3_5;obtain ⟨c3_0,c3_1,c3_2,c3_3,c3_4,c3_5⟩:=cs6 F3;clear hb)
      | (go_at_call 19;with_reducible refine cl (impl_EntryValid.M ci sq k x v o _) B fun w2005 hb B=>?_;replace F2:=bn F2 hb;replace F3:=bn F3 hb;replace F4:=bn F4 hb;clear c2_0 c2_1 c2_2 c2_3 c2_4 c2_5;obtain ⟨c2_0,c2_1,c2_2,c2_3,c2_4,c2_5⟩:=cs6 F2;clear c3_0 c3_1 c3_2 c3_3 c3_4 c3_5;obtain ⟨c3_0,c3_1,c3_2,c3_3,c3_4,c3_5⟩:=cs6 F3;clear hb)
      | (go_at_call 49;with_reducible refine c2r (impl_copyState.M a b _ _ ps _ _ ss true c _ (cb HRP B) (cb HRS B) HCP.out HCS.out (by omega) (by omega)) B fun AP2006 kP2006 AS2006 kS2006 w2006 hb B RP2006 QP2006 RS2006 QS2006=>?_;have DP2006_S2006:=Aside0.mk (dty RP2006 RS2006 (by decide));replace F2:=bn F2 hb;replace F3:=bn F3 hb;replace F4:=bn F4 hb;clear QP2006 QS2006;clear c2_0 c2_1 c2_2 c2_3 c2_4 c2_5;obtain ⟨c2_0,c2_1,c2_2,c2_3,c2_4,c2_5⟩:=cs6 F2;clear c3_0 c3_1 c3_2 c3_3 c3_4 c3_5;obtain ⟨c3_0,c3_1,c3_2,c3_3,c3_4,c3_5⟩:=cs6 F3;clear hb)
      | ((with_reducible refine gate_dst (N:=6) rfl ?_);refine bxq 6 #[.string (⟨#[]⟩ : ByteArray),.string (⟨#[]⟩ : ByteArray),.slice none 0 0,.slice none 0 0,.bool false,.string (⟨#[]⟩ : ByteArray)] 38 B fun g6 w2007 hb B F6 L6 E6=>?_;have N2_6:=ne1 E6 F2;have N3_6:=ne1 E6 F3;have N4_6:=ne1 E6 F4;replace F2:=bn F2 hb;replace F3:=bn F3 hb;replace F4:=bn F4 hb;replace RP2006:=rn RP2006 hb;replace RS2006:=rn RS2006 hb;clear c2_0 c2_1 c2_2 c2_3 c2_4 c2_5;obtain ⟨c2_0,c2_1,c2_2,c2_3,c2_4,c2_5⟩:=cs6 F2;clear c3_0 c3_1 c3_2 c3_3 c3_4 c3_5;obtain ⟨c3_0,c3_1,c3_2,c3_3,c3_4,c3_5⟩:=cs6 F3;obtain ⟨c6_0,c6_1,c6_2,c6_3,c6_4,c6_5⟩:=cs6 F6;clear hb E6)
      | ((with_reducible refine gate_store (t:=38) (p:=6) rfl ?_);obtain ⟨y0,y1,y2,y3,y4,y5,z0,z1,z2,z3,z4,z5⟩:=cz6 F6;refine sxq 38 38 6 0 [.string a,.string b,.slice AP2006 ps.length kP2006,.slice AS2006 ss.length kS2006,.bool true,.string c] [.string a,.string b,.slice AP2006 ps.length kP2006,.slice AS2006 ss.length kS2006,.bool true,.string c] B F6 L6 fun w2008 hk B G=>?_;replace F2:=bk F2 hk N2_6.out;replace F3:=bk F3 hk N3_6.out;replace F4:=bk F4 hk N4_6.out;replace RP2006:=rk RP2006 F6 (by decide) hk;replace RS2006:=rk RS2006 F6 (by decide) hk;replace F6:=G;clear c2_0 c2_1 c2_2 c2_3 c2_4 c2_5;obtain ⟨c2_0,c2_1,c2_2,c2_3,c2_4,c2_5⟩:=cs6 F2;clear c3_0 c3_1 c3_2 c3_3 c3_4 c3_5;obtain ⟨c3_0,c3_1,c3_2,c3_3,c3_4,c3_5⟩:=cs6 F3;clear c6_0 c6_1 c6_2 c6_3 c6_4 c6_5;obtain ⟨c6_0,c6_1,c6_2,c6_3,c6_4,c6_5⟩:=cs6 F6;clear hk y0 z0 y1 z1 y2 z2 y3 z3 y4 z4 y5 z5)
      | (go_at_call 50;with_reducible refine cl (impl_sessionPlace.Mb _ _ ss ci _ (cb HRS B) HCS.out hv false hit) B fun w2009 hb B=>?_;replace F2:=bn F2 hb;replace F3:=bn F3 hb;replace F4:=bn F4 hb;replace F6:=bn F6 hb;replace RP2006:=rn RP2006 hb;replace RS2006:=rn RS2006 hb;clear c2_0 c2_1 c2_2 c2_3 c2_4 c2_5;obtain ⟨c2_0,c2_1,c2_2,c2_3,c2_4,c2_5⟩:=cs6 F2;clear c3_0 c3_1 c3_2 c3_3 c3_4 c3_5;obtain ⟨c3_0,c3_1,c3_2,c3_3,c3_4,c3_5⟩:=cs6 F3;clear c6_0 c6_1 c6_2 c6_3 c6_4 c6_5;obtain ⟨c6_0,c6_1,c6_2,c6_3,c6_4,c6_5⟩:=cs6 F6;clear hb))
     all_goals (
      refine rg (n:=12) (S:=fun W=>W.heap[g3]?=some (.cells #[.int .i64 (ci),.int .i64 (sq),.int .i64 (k),.string x,.int .i64 (v),.int .i64 (o)] 44 (0,0))∧W.heap[g2]?=some (.cells #[.string a,.string b,.slice AP ps.length cP,.slice AS ss.length cS,.bool true,.string c] 38 (0,0))∧Kd.C k76 W AS ss.length ss) (ds:=[]) #[false,false,false,false,false,false,false,false,false,false,false,false] (by kernel_rfl) rfl rfl ⟨F3.out,F2.out,(cb HRS B)⟩ id B (fun w2010 hb B hHeld=>?_)
      refine with_tabW impl_ApplyEntry.tab5 impl_ApplyEntry.bits5 (fun HT_ HW_=>?_)
      replace F2:=bn F2 hb
      replace F3:=bn F3 hb
      replace F4:=bn F4 hb
      replace F6:=bn F6 hb
      replace RP2006:=rn RP2006 hb
      replace RS2006:=rn RS2006 hb
      clear hb
      refine pvq 0 (some 29) (bits 12 1) HT_ ?_
      refine pvq 1 (some 30) (bits 12 3) HT_ ?_
      refine svq 2 (some 31) (bits 12 7) HT_ ?_
      refine svq 3 (some 32) (bits 12 15) HT_ ?_
      refine svq 4 (some 33) (bits 12 31) HT_ ?_
      refine svq 5 (some 34) (bits 12 63) HT_ ?_
      refine svq 6 (some 35) (bits 12 127) HT_ ?_
      refine svq 7 (some 36) (bits 12 255) HT_ ?_
      refine svq 8 (some 37) (bits 12 511) HT_ ?_
      refine svq 9 (some 38) (bits 12 1023) HT_ ?_
      refine svq 10 (some 39) (bits 12 2047) HT_ ?_
      refine pvq 11 (some 40) (bits 12 4095) HT_ ?_
      refine nmq ?_
      refine done_ (done_of HT_.out (by kernel_rfl)) ?_
      clear c2_0 c2_1 c2_2 c2_3 c2_4 c2_5
      obtain ⟨c2_0,c2_1,c2_2,c2_3,c2_4,c2_5⟩:=cs6 F2
      clear c3_0 c3_1 c3_2 c3_3 c3_4 c3_5
      obtain ⟨c3_0,c3_1,c3_2,c3_3,c3_4,c3_5⟩:=cs6 F3
      clear c6_0 c6_1 c6_2 c6_3 c6_4 c6_5
      obtain ⟨c6_0,c6_1,c6_2,c6_3,c6_4,c6_5⟩:=cs6 F6)
     all_goals go_wp2_with (first
      | (go_at_call 51;with_reducible refine cl (impl_stateTakes.M a b _ _ ps _ _ ss true c k x v o _ (cb HRP B) (cb HRS B)) B fun w2011 hb B=>?_;replace F2:=bn F2 hb;replace F3:=bn F3 hb;replace F4:=bn F4 hb;replace F6:=bn F6 hb;replace RP2006:=rn RP2006 hb;replace RS2006:=rn RS2006 hb;clear c6_0 c6_1 c6_2 c6_3 c6_4 c6_5;obtain ⟨c6_0,c6_1,c6_2,c6_3,c6_4,c6_5⟩:=cs6 F6;clear hb)
      | ((with_reducible refine gate_store (t:=38) (p:=4) rfl ?_);obtain ⟨y0,y1,y2,y3,y4,y5,z0,z1,z2,z3,z4,z5⟩:=cz6 F4;refine sxq 38 38 4 0 [.string a,.string b,.slice AP2006 ps.length kP2006,.slice AS2006 ss.length kS2006,.bool true,.string c] [.string a,.string b,.slice AP2006 ps.length kP2006,.slice AS2006 ss.length kS2006,.bool true,.string c] B F4 L4 fun w2012 hk B G=>?_;replace F2:=bk F2 hk N2_4.out;replace F3:=bk F3 hk N3_4.out;replace RP2006:=rk RP2006 F4 (by decide) hk;replace RS2006:=rk RS2006 F4 (by decide) hk;replace F4:=G;clear hk y0 z0 y1 z1 y2 z2 y3 z3 y4 z4 y5 z5))
     all_goals (try (refine bodyPost_ret (results_list (rs:=[.cell 4 38,.tmp 5]) rfl (by simp) (.cell g4 38 _ (0,0) _ rfl F4.out hu rfl (by kernel_rfl) (.tmp .nil))) rfl ?_);exact ⟨_,_,rfl,RP2006.out,RS2006.out,B.out⟩)
    | false =>
     have hid : idleB ⟨a,b,ps,ss,false,c⟩ ci sq k x=!takesB a b k x:=by unfold idleB;rw [hle];rfl
     clear hle
     cases htk : takesB a b k x with
     | false =>
      rw [aeM_idle hh (by rw [hid,htk];rfl),hN]
      clear hh hcm hsq hN hid
      go_enter Try.func12,Try.ntmps12
      go_wp2_with (first
       | ((with_reducible refine gate_dst (N:=2) rfl ?_);refine bxq 2 #[.string a,.string b,.slice AP ps.length cP,.slice AS ss.length cS,.bool false,.string c] 38 B fun g2 w2101 hb B F2 L2 E2=>?_;obtain ⟨c2_0,c2_1,c2_2,c2_3,c2_4,c2_5⟩:=cs6 F2;clear hb E2)
       | ((with_reducible refine gate_dst (N:=3) rfl ?_);refine bxq 3 #[.int .i64 (ci),.int .i64 (sq),.int .i64 (k),.string x,.int .i64 (v),.int .i64 (o)] 44 B fun g3 w2102 hb B F3 L3 E3=>?_;replace F2:=bn F2 hb;clear c2_0 c2_1 c2_2 c2_3 c2_4 c2_5;obtain ⟨c2_0,c2_1,c2_2,c2_3,c2_4,c2_5⟩:=cs6 F2;obtain ⟨c3_0,c3_1,c3_2,c3_3,c3_4,c3_5⟩:=cs6 F3;clear hb E3)
       | ((with_reducible refine gate_dst (N:=4) rfl ?_);refine bxq 4 #[.string (⟨#[]⟩ : ByteArray),.string (⟨#[]⟩ : ByteArray),.slice none 0 0,.slice none 0 0,.bool false,.string (⟨#[]⟩ : ByteArray)] 38 B fun g4 w2103 hb B F4 L4 E4=>?_;have N2_4:=ne1 E4 F2;have N3_4:=ne1 E4 F3;replace F2:=bn F2 hb;replace F3:=bn F3 hb;clear c2_0 c2_1 c2_2 c2_3 c2_4 c2_5;obtain ⟨c2_0,c2_1,c2_2,c2_3,c2_4,c2_5⟩:=cs6 F2;clear c3_0 c3_1 c3_2 c3_3 c3_4 c3_5;obtain ⟨c3_0,c3_1,c3_2,c3_3,c3_4,c3_5⟩:=cs6 F3;clear hb E4)
       | (go_at_call 18;with_reducible refine cl (impl_StateValid.M a b _ _ ps _ _ ss false c _ (cb HRP B) (cb HRS B)) B fun w2104 hb B=>?_;replace F2:=bn F2 hb;replace F3:=bn F3 hb;replace F4:=bn F4 hb;clear c2_0 c2_1 c2_2 c2_3 c2_4 c2_5;obtain ⟨c2_0,c2_1,c2_2,c2_3,c2_4,c2_5⟩:=cs6 F2;clear c3_0 c3_1 c3_2 c3_3 c3_4 c3_5;obtain ⟨c3_0,c3_1,c3_2,c3_3,c3_4,c3_5⟩:=cs6 F3;clear hb)
       | (go_at_call 19;with_reducible refine cl (impl_EntryValid.M ci sq k x v o _) B fun w2105 hb B=>?_;replace F2:=bn F2 hb;replace F3:=bn F3 hb;replace F4:=bn F4 hb;clear c2_0 c2_1 c2_2 c2_3 c2_4 c2_5;obtain ⟨c2_0,c2_1,c2_2,c2_3,c2_4,c2_5⟩:=cs6 F2;clear c3_0 c3_1 c3_2 c3_3 c3_4 c3_5;obtain ⟨c3_0,c3_1,c3_2,c3_3,c3_4,c3_5⟩:=cs6 F3;clear hb)
       | (go_at_call 49;with_reducible refine c2r (impl_copyState.M a b _ _ ps _ _ ss false c _ (cb HRP B) (cb HRS B) HCP.out HCS.out (by omega) (by omega)) B fun AP2106 kP2106 AS2106 kS2106 w2106 hb B RP2106 QP2106 RS2106 QS2106=>?_;have DP2106_S2106:=Aside0.mk (dty RP2106 RS2106 (by decide));replace F2:=bn F2 hb;replace F3:=bn F3 hb;replace F4:=bn F4 hb;clear QP2106 QS2106;clear c2_0 c2_1 c2_2 c2_3 c2_4 c2_5;obtain ⟨c2_0,c2_1,c2_2,c2_3,c2_4,c2_5⟩:=cs6 F2;clear c3_0 c3_1 c3_2 c3_3 c3_4 c3_5;obtain ⟨c3_0,c3_1,c3_2,c3_3,c3_4,c3_5⟩:=cs6 F3;clear hb)
       | ((with_reducible refine gate_dst (N:=6) rfl ?_);refine bxq 6 #[.string (⟨#[]⟩ : ByteArray),.string (⟨#[]⟩ : ByteArray),.slice none 0 0,.slice none 0 0,.bool false,.string (⟨#[]⟩ : ByteArray)] 38 B fun g6 w2107 hb B F6 L6 E6=>?_;have N2_6:=ne1 E6 F2;have N3_6:=ne1 E6 F3;have N4_6:=ne1 E6 F4;replace F2:=bn F2 hb;replace F3:=bn F3 hb;replace F4:=bn F4 hb;replace RP2106:=rn RP2106 hb;replace RS2106:=rn RS2106 hb;clear c2_0 c2_1 c2_2 c2_3 c2_4 c2_5;obtain ⟨c2_0,c2_1,c2_2,c2_3,c2_4,c2_5⟩:=cs6 F2;clear c3_0 c3_1 c3_2 c3_3 c3_4 c3_5;obtain ⟨c3_0,c3_1,c3_2,c3_3,c3_4,c3_5⟩:=cs6 F3;obtain ⟨c6_0,c6_1,c6_2,c6_3,c6_4,c6_5⟩:=cs6 F6;clear hb E6)
       | ((with_reducible refine gate_store (t:=38) (p:=6) rfl ?_);obtain ⟨y0,y1,y2,y3,y4,y5,z0,z1,z2,z3,z4,z5⟩:=cz6 F6;refine sxq 38 38 6 0 [.string a,.string b,.slice AP2106 ps.length kP2106,.slice AS2106 ss.length kS2106,.bool false,.string c] [.string a,.string b,.slice AP2106 ps.length kP2106,.slice AS2106 ss.length kS2106,.bool false,.string c] B F6 L6 fun w2108 hk B G=>?_;replace F2:=bk F2 hk N2_6.out;replace F3:=bk F3 hk N3_6.out;replace F4:=bk F4 hk N4_6.out;replace RP2106:=rk RP2106 F6 (by decide) hk;replace RS2106:=rk RS2106 F6 (by decide) hk;replace F6:=G;clear c2_0 c2_1 c2_2 c2_3 c2_4 c2_5;obtain ⟨c2_0,c2_1,c2_2,c2_3,c2_4,c2_5⟩:=cs6 F2;clear c3_0 c3_1 c3_2 c3_3 c3_4 c3_5;obtain ⟨c3_0,c3_1,c3_2,c3_3,c3_4,c3_5⟩:=cs6 F3;clear c6_0 c6_1 c6_2 c6_3 c6_4 c6_5;obtain ⟨c6_0,c6_1,c6_2,c6_3,c6_4,c6_5⟩:=cs6 F6;clear hk y0 z0 y1 z1 y2 z2 y3 z3 y4 z4 y5 z5)
       | (go_at_call 50;with_reducible refine cl (impl_sessionPlace.Mb _ _ ss ci _ (cb HRS B) HCS.out hv false hit) B fun w2109 hb B=>?_;replace F2:=bn F2 hb;replace F3:=bn F3 hb;replace F4:=bn F4 hb;replace F6:=bn F6 hb;replace RP2106:=rn RP2106 hb;replace RS2106:=rn RS2106 hb;clear c2_0 c2_1 c2_2 c2_3 c2_4 c2_5;obtain ⟨c2_0,c2_1,c2_2,c2_3,c2_4,c2_5⟩:=cs6 F2;clear c3_0 c3_1 c3_2 c3_3 c3_4 c3_5;obtain ⟨c3_0,c3_1,c3_2,c3_3,c3_4,c3_5⟩:=cs6 F3;clear c6_0 c6_1 c6_2 c6_3 c6_4 c6_5;obtain ⟨c6_0,c6_1,c6_2,c6_3,c6_4,c6_5⟩:=cs6 F6;clear hb))
      all_goals (
       refine rg (n:=12) (S:=fun W=>W.heap[g3]?=some (.cells #[.int .i64 (ci),.int .i64 (sq),.int .i64 (k),.string x,.int .i64 (v),.int .i64 (o)] 44 (0,0))∧W.heap[g2]?=some (.cells #[.string a,.string b,.slice AP ps.length cP,.slice AS ss.length cS,.bool false,.string c] 38 (0,0))∧Kd.C k76 W AS ss.length ss) (ds:=[]) #[false,false,false,false,false,false,false,false,false,false,false,false] (by kernel_rfl) rfl rfl ⟨F3.out,F2.out,(cb HRS B)⟩ id B (fun w2110 hb B hHeld=>?_)
       refine with_tabW impl_ApplyEntry.tab5 impl_ApplyEntry.bits5 (fun HT_ HW_=>?_)
       replace F2:=bn F2 hb
       replace F3:=bn F3 hb
       replace F4:=bn F4 hb
       replace F6:=bn F6 hb
       replace RP2106:=rn RP2106 hb
       replace RS2106:=rn RS2106 hb
       clear hb
       refine pvq 0 (some 29) (bits 12 1) HT_ ?_
       refine pvq 1 (some 30) (bits 12 3) HT_ ?_
       refine svq 2 (some 31) (bits 12 7) HT_ ?_
       refine svq 3 (some 32) (bits 12 15) HT_ ?_
       refine svq 4 (some 33) (bits 12 31) HT_ ?_
       refine svq 5 (some 34) (bits 12 63) HT_ ?_
       refine svq 6 (some 35) (bits 12 127) HT_ ?_
       refine svq 7 (some 36) (bits 12 255) HT_ ?_
       refine svq 8 (some 37) (bits 12 511) HT_ ?_
       refine svq 9 (some 38) (bits 12 1023) HT_ ?_
       refine svq 10 (some 39) (bits 12 2047) HT_ ?_
       refine pvq 11 (some 40) (bits 12 4095) HT_ ?_
       refine nmq ?_
       refine done_ (done_of HT_.out (by kernel_rfl)) ?_
       clear c2_0 c2_1 c2_2 c2_3 c2_4 c2_5
       obtain ⟨c2_0,c2_1,c2_2,c2_3,c2_4,c2_5⟩:=cs6 F2
       clear c3_0 c3_1 c3_2 c3_3 c3_4 c3_5
       obtain ⟨c3_0,c3_1,c3_2,c3_3,c3_4,c3_5⟩:=cs6 F3
       clear c6_0 c6_1 c6_2 c6_3 c6_4 c6_5
       obtain ⟨c6_0,c6_1,c6_2,c6_3,c6_4,c6_5⟩:=cs6 F6)
      all_goals go_wp2_with (first
       | (go_at_call 51;with_reducible refine cl (impl_stateTakes.M a b _ _ ps _ _ ss false c k x v o _ (cb HRP B) (cb HRS B)) B fun w2111 hb B=>?_;replace F2:=bn F2 hb;replace F3:=bn F3 hb;replace F4:=bn F4 hb;replace F6:=bn F6 hb;replace RP2106:=rn RP2106 hb;replace RS2106:=rn RS2106 hb;clear c6_0 c6_1 c6_2 c6_3 c6_4 c6_5;obtain ⟨c6_0,c6_1,c6_2,c6_3,c6_4,c6_5⟩:=cs6 F6;clear hb)
       | ((with_reducible refine gate_store (t:=38) (p:=4) rfl ?_);obtain ⟨y0,y1,y2,y3,y4,y5,z0,z1,z2,z3,z4,z5⟩:=cz6 F4;refine sxq 38 38 4 0 [.string a,.string b,.slice AP2106 ps.length kP2106,.slice AS2106 ss.length kS2106,.bool false,.string c] [.string a,.string b,.slice AP2106 ps.length kP2106,.slice AS2106 ss.length kS2106,.bool false,.string c] B F4 L4 fun w2112 hk B G=>?_;replace F2:=bk F2 hk N2_4.out;replace F3:=bk F3 hk N3_4.out;replace RP2106:=rk RP2106 F4 (by decide) hk;replace RS2106:=rk RS2106 F4 (by decide) hk;replace F4:=G;clear hk y0 z0 y1 z1 y2 z2 y3 z3 y4 z4 y5 z5))
      all_goals (try (refine bodyPost_ret (results_list (rs:=[.cell 4 38,.tmp 5]) rfl (by simp) (.cell g4 38 _ (0,0) _ rfl F4.out hu rfl (by kernel_rfl) (.tmp .nil))) rfl ?_);exact ⟨_,_,rfl,RP2106.out,RS2106.out,B.out⟩)
     | true =>
      rw [aeM_go hh (by rw [hid,htk];rfl)]
      by_cases h5 : k=5
      ·have d5 : (k == 5)=true:=by rw [h5];rfl
       rw [show applM ⟨a,b,ps,ss,false,c⟩ ci sq k x v o=(⟨a,b,ps,(putB ss ⟨ci,sq,0⟩).1,true,x⟩,0) from if_pos h5]
       clear hh hcm hsq hN hid h5
       go_enter Try.func12,Try.ntmps12
       go_wp2_with (first
        | ((with_reducible refine gate_dst (N:=2) rfl ?_);refine bxq 2 #[.string a,.string b,.slice AP ps.length cP,.slice AS ss.length cS,.bool false,.string c] 38 B fun g2 w2201 hb B F2 L2 E2=>?_;obtain ⟨c2_0,c2_1,c2_2,c2_3,c2_4,c2_5⟩:=cs6 F2;clear hb E2)
        | ((with_reducible refine gate_dst (N:=3) rfl ?_);refine bxq 3 #[.int .i64 (ci),.int .i64 (sq),.int .i64 (k),.string x,.int .i64 (v),.int .i64 (o)] 44 B fun g3 w2202 hb B F3 L3 E3=>?_;replace F2:=bn F2 hb;clear c2_0 c2_1 c2_2 c2_3 c2_4 c2_5;obtain ⟨c2_0,c2_1,c2_2,c2_3,c2_4,c2_5⟩:=cs6 F2;obtain ⟨c3_0,c3_1,c3_2,c3_3,c3_4,c3_5⟩:=cs6 F3;clear hb E3)
        | ((with_reducible refine gate_dst (N:=4) rfl ?_);refine bxq 4 #[.string (⟨#[]⟩ : ByteArray),.string (⟨#[]⟩ : ByteArray),.slice none 0 0,.slice none 0 0,.bool false,.string (⟨#[]⟩ : ByteArray)] 38 B fun g4 w2203 hb B F4 L4 E4=>?_;have N2_4:=ne1 E4 F2;have N3_4:=ne1 E4 F3;replace F2:=bn F2 hb;replace F3:=bn F3 hb;clear c2_0 c2_1 c2_2 c2_3 c2_4 c2_5;obtain ⟨c2_0,c2_1,c2_2,c2_3,c2_4,c2_5⟩:=cs6 F2;clear c3_0 c3_1 c3_2 c3_3 c3_4 c3_5;obtain ⟨c3_0,c3_1,c3_2,c3_3,c3_4,c3_5⟩:=cs6 F3;clear hb E4)
        | (go_at_call 18;with_reducible refine cl (impl_StateValid.M a b _ _ ps _ _ ss false c _ (cb HRP B) (cb HRS B)) B fun w2204 hb B=>?_;replace F2:=bn F2 hb;replace F3:=bn F3 hb;replace F4:=bn F4 hb;clear c2_0 c2_1 c2_2 c2_3 c2_4 c2_5;obtain ⟨c2_0,c2_1,c2_2,c2_3,c2_4,c2_5⟩:=cs6 F2;clear c3_0 c3_1 c3_2 c3_3 c3_4 c3_5;obtain ⟨c3_0,c3_1,c3_2,c3_3,c3_4,c3_5⟩:=cs6 F3;clear hb)
        | (go_at_call 19;with_reducible refine cl (impl_EntryValid.M ci sq k x v o _) B fun w2205 hb B=>?_;replace F2:=bn F2 hb;replace F3:=bn F3 hb;replace F4:=bn F4 hb;clear c2_0 c2_1 c2_2 c2_3 c2_4 c2_5;obtain ⟨c2_0,c2_1,c2_2,c2_3,c2_4,c2_5⟩:=cs6 F2;clear c3_0 c3_1 c3_2 c3_3 c3_4 c3_5;obtain ⟨c3_0,c3_1,c3_2,c3_3,c3_4,c3_5⟩:=cs6 F3;clear hb)
        | (go_at_call 49;with_reducible refine c2r (impl_copyState.M a b _ _ ps _ _ ss false c _ (cb HRP B) (cb HRS B) HCP.out HCS.out (by omega) (by omega)) B fun AP2206 kP2206 AS2206 kS2206 w2206 hb B RP2206 QP2206 RS2206 QS2206=>?_;have DP2206_S2206:=Aside0.mk (dty RP2206 RS2206 (by decide));replace F2:=bn F2 hb;replace F3:=bn F3 hb;replace F4:=bn F4 hb;clear QP2206 QS2206;clear c2_0 c2_1 c2_2 c2_3 c2_4 c2_5;obtain ⟨c2_0,c2_1,c2_2,c2_3,c2_4,c2_5⟩:=cs6 F2;clear c3_0 c3_1 c3_2 c3_3 c3_4 c3_5;obtain ⟨c3_0,c3_1,c3_2,c3_3,c3_4,c3_5⟩:=cs6 F3;clear hb)
        | ((with_reducible refine gate_dst (N:=6) rfl ?_);refine bxq 6 #[.string (⟨#[]⟩ : ByteArray),.string (⟨#[]⟩ : ByteArray),.slice none 0 0,.slice none 0 0,.bool false,.string (⟨#[]⟩ : ByteArray)] 38 B fun g6 w2207 hb B F6 L6 E6=>?_;have N2_6:=ne1 E6 F2;have N3_6:=ne1 E6 F3;have N4_6:=ne1 E6 F4;replace F2:=bn F2 hb;replace F3:=bn F3 hb;replace F4:=bn F4 hb;replace RP2206:=rn RP2206 hb;replace RS2206:=rn RS2206 hb;clear c2_0 c2_1 c2_2 c2_3 c2_4 c2_5;obtain ⟨c2_0,c2_1,c2_2,c2_3,c2_4,c2_5⟩:=cs6 F2;clear c3_0 c3_1 c3_2 c3_3 c3_4 c3_5;obtain ⟨c3_0,c3_1,c3_2,c3_3,c3_4,c3_5⟩:=cs6 F3;obtain ⟨c6_0,c6_1,c6_2,c6_3,c6_4,c6_5⟩:=cs6 F6;clear hb E6)
        | ((with_reducible refine gate_store (t:=38) (p:=6) rfl ?_);obtain ⟨y0,y1,y2,y3,y4,y5,z0,z1,z2,z3,z4,z5⟩:=cz6 F6;refine sxq 38 38 6 0 [.string a,.string b,.slice AP2206 ps.length kP2206,.slice AS2206 ss.length kS2206,.bool false,.string c] [.string a,.string b,.slice AP2206 ps.length kP2206,.slice AS2206 ss.length kS2206,.bool false,.string c] B F6 L6 fun w2208 hk B G=>?_;replace F2:=bk F2 hk N2_6.out;replace F3:=bk F3 hk N3_6.out;replace F4:=bk F4 hk N4_6.out;replace RP2206:=rk RP2206 F6 (by decide) hk;replace RS2206:=rk RS2206 F6 (by decide) hk;replace F6:=G;clear c2_0 c2_1 c2_2 c2_3 c2_4 c2_5;obtain ⟨c2_0,c2_1,c2_2,c2_3,c2_4,c2_5⟩:=cs6 F2;clear c3_0 c3_1 c3_2 c3_3 c3_4 c3_5;obtain ⟨c3_0,c3_1,c3_2,c3_3,c3_4,c3_5⟩:=cs6 F3;clear c6_0 c6_1 c6_2 c6_3 c6_4 c6_5;obtain ⟨c6_0,c6_1,c6_2,c6_3,c6_4,c6_5⟩:=cs6 F6;clear hk y0 z0 y1 z1 y2 z2 y3 z3 y4 z4 y5 z5)
        | (go_at_call 50;with_reducible refine cl (impl_sessionPlace.Mb _ _ ss ci _ (cb HRS B) HCS.out hv false hit) B fun w2209 hb B=>?_;replace F2:=bn F2 hb;replace F3:=bn F3 hb;replace F4:=bn F4 hb;replace F6:=bn F6 hb;replace RP2206:=rn RP2206 hb;replace RS2206:=rn RS2206 hb;clear c2_0 c2_1 c2_2 c2_3 c2_4 c2_5;obtain ⟨c2_0,c2_1,c2_2,c2_3,c2_4,c2_5⟩:=cs6 F2;clear c3_0 c3_1 c3_2 c3_3 c3_4 c3_5;obtain ⟨c3_0,c3_1,c3_2,c3_3,c3_4,c3_5⟩:=cs6 F3;clear c6_0 c6_1 c6_2 c6_3 c6_4 c6_5;obtain ⟨c6_0,c6_1,c6_2,c6_3,c6_4,c6_5⟩:=cs6 F6;clear hb))
       all_goals (
        refine rg (n:=12) (S:=fun W=>W.heap[g3]?=some (.cells #[.int .i64 (ci),.int .i64 (sq),.int .i64 (k),.string x,.int .i64 (v),.int .i64 (o)] 44 (0,0))∧W.heap[g2]?=some (.cells #[.string a,.string b,.slice AP ps.length cP,.slice AS ss.length cS,.bool false,.string c] 38 (0,0))∧Kd.C k76 W AS ss.length ss) (ds:=[]) #[false,false,false,false,false,false,false,false,false,false,false,false] (by kernel_rfl) rfl rfl ⟨F3.out,F2.out,(cb HRS B)⟩ id B (fun w2210 hb B hHeld=>?_)
        refine with_tabW impl_ApplyEntry.tab5 impl_ApplyEntry.bits5 (fun HT_ HW_=>?_)
        replace F2:=bn F2 hb
        replace F3:=bn F3 hb
        replace F4:=bn F4 hb
        replace F6:=bn F6 hb
        replace RP2206:=rn RP2206 hb
        replace RS2206:=rn RS2206 hb
        clear hb
        refine pvq 0 (some 29) (bits 12 1) HT_ ?_
        refine pvq 1 (some 30) (bits 12 3) HT_ ?_
        refine svq 2 (some 31) (bits 12 7) HT_ ?_
        refine svq 3 (some 32) (bits 12 15) HT_ ?_
        refine svq 4 (some 33) (bits 12 31) HT_ ?_
        refine svq 5 (some 34) (bits 12 63) HT_ ?_
        refine svq 6 (some 35) (bits 12 127) HT_ ?_
        refine svq 7 (some 36) (bits 12 255) HT_ ?_
        refine svq 8 (some 37) (bits 12 511) HT_ ?_
        refine svq 9 (some 38) (bits 12 1023) HT_ ?_
        refine svq 10 (some 39) (bits 12 2047) HT_ ?_
        refine pvq 11 (some 40) (bits 12 4095) HT_ ?_
        refine nmq ?_
        refine done_ (done_of HT_.out (by kernel_rfl)) ?_
        clear c2_0 c2_1 c2_2 c2_3 c2_4 c2_5
        obtain ⟨c2_0,c2_1,c2_2,c2_3,c2_4,c2_5⟩:=cs6 F2
        clear c3_0 c3_1 c3_2 c3_3 c3_4 c3_5
        obtain ⟨c3_0,c3_1,c3_2,c3_3,c3_4,c3_5⟩:=cs6 F3
        clear c6_0 c6_1 c6_2 c6_3 c6_4 c6_5
        obtain ⟨c6_0,c6_1,c6_2,c6_3,c6_4,c6_5⟩:=cs6 F6)
       all_goals go_wp2_with (first
        | (go_at_call 51;with_reducible refine cl (impl_stateTakes.M a b _ _ ps _ _ ss false c k x v o _ (cb HRP B) (cb HRS B)) B fun w2211 hb B=>?_;replace F2:=bn F2 hb;replace F3:=bn F3 hb;replace F4:=bn F4 hb;replace F6:=bn F6 hb;replace RP2206:=rn RP2206 hb;replace RS2206:=rn RS2206 hb;clear c2_0 c2_1 c2_2 c2_3 c2_4 c2_5;obtain ⟨c2_0,c2_1,c2_2,c2_3,c2_4,c2_5⟩:=cs6 F2;clear c3_0 c3_1 c3_2 c3_3 c3_4 c3_5;obtain ⟨c3_0,c3_1,c3_2,c3_3,c3_4,c3_5⟩:=cs6 F3;clear c6_0 c6_1 c6_2 c6_3 c6_4 c6_5;obtain ⟨c6_0,c6_1,c6_2,c6_3,c6_4,c6_5⟩:=cs6 F6;clear hb)
        | ((with_reducible refine gate_store (t:=4) (p:=72) rfl ?_);obtain ⟨y0,y1,y2,y3,y4,y5,z0,z1,z2,z3,z4,z5⟩:=cz6 F6;refine sxq 38 4 72 4 [.bool true] [.string a,.string b,.slice AP2206 ps.length kP2206,.slice AS2206 ss.length kS2206,.bool true,.string c] B F6 L6 fun w2212 hk B G=>?_;replace F2:=bk F2 hk N2_6.out;replace F3:=bk F3 hk N3_6.out;replace F4:=bk F4 hk N4_6.out;replace RP2206:=rk RP2206 F6 (by decide) hk;replace RS2206:=rk RS2206 F6 (by decide) hk;replace F6:=G;clear c2_0 c2_1 c2_2 c2_3 c2_4 c2_5;obtain ⟨c2_0,c2_1,c2_2,c2_3,c2_4,c2_5⟩:=cs6 F2;clear c3_0 c3_1 c3_2 c3_3 c3_4 c3_5;obtain ⟨c3_0,c3_1,c3_2,c3_3,c3_4,c3_5⟩:=cs6 F3;clear c6_0 c6_1 c6_2 c6_3 c6_4 c6_5;obtain ⟨c6_0,c6_1,c6_2,c6_3,c6_4,c6_5⟩:=cs6 F6;clear hk y0 z0 y1 z1 y2 z2 y3 z3 y4 z4 y5 z5)
        | ((with_reducible refine gate_store (t:=9) (p:=76) rfl ?_);obtain ⟨y0,y1,y2,y3,y4,y5,z0,z1,z2,z3,z4,z5⟩:=cz6 F6;refine sxq 38 9 76 5 [.string x] [.string a,.string b,.slice AP2206 ps.length kP2206,.slice AS2206 ss.length kS2206,.bool true,.string x] B F6 L6 fun w2213 hk B G=>?_;replace F2:=bk F2 hk N2_6.out;replace F3:=bk F3 hk N3_6.out;replace F4:=bk F4 hk N4_6.out;replace RP2206:=rk RP2206 F6 (by decide) hk;replace RS2206:=rk RS2206 F6 (by decide) hk;replace F6:=G;clear c2_0 c2_1 c2_2 c2_3 c2_4 c2_5;obtain ⟨c2_0,c2_1,c2_2,c2_3,c2_4,c2_5⟩:=cs6 F2;clear c3_0 c3_1 c3_2 c3_3 c3_4 c3_5;obtain ⟨c3_0,c3_1,c3_2,c3_3,c3_4,c3_5⟩:=cs6 F3;clear c6_0 c6_1 c6_2 c6_3 c6_4 c6_5;obtain ⟨c6_0,c6_1,c6_2,c6_3,c6_4,c6_5⟩:=cs6 F6;clear hk y0 z0 y1 z1 y2 z2 y3 z3 y4 z4 y5 z5)
        | (go_at_call 53;with_reducible refine cr (impl_SessionPut.M _ _ ss ci sq 0 _ (cb HRS B) HCS.out) B fun AU2214 kU2214 w2214 hb B RU2214 QU2214=>?_;have DP2206_U2214:=fr QU2214 RP2206;have DS2206_U2214:=fr QU2214 RS2206;replace F2:=bn F2 hb;replace F3:=bn F3 hb;replace F4:=bn F4 hb;replace F6:=bn F6 hb;replace RP2206:=rn RP2206 hb;replace RS2206:=rn RS2206 hb;clear QU2214;clear c6_0 c6_1 c6_2 c6_3 c6_4 c6_5;obtain ⟨c6_0,c6_1,c6_2,c6_3,c6_4,c6_5⟩:=cs6 F6;clear hb)
        | ((with_reducible refine gate_store (t:=36) (p:=98) rfl ?_);obtain ⟨y0,y1,y2,y3,y4,y5,z0,z1,z2,z3,z4,z5⟩:=cz6 F6;refine sxq 38 36 98 3 [.slice AU2214 (putB ss ⟨ci,sq,0⟩).1.length kU2214] [.string a,.string b,.slice AP2206 ps.length kP2206,.slice AU2214 (putB ss ⟨ci,sq,0⟩).1.length kU2214,.bool true,.string x] B F6 L6 fun w2215 hk B G=>?_;replace F2:=bk F2 hk N2_6.out;replace F3:=bk F3 hk N3_6.out;replace F4:=bk F4 hk N4_6.out;replace RP2206:=rk RP2206 F6 (by decide) hk;replace RS2206:=rk RS2206 F6 (by decide) hk;replace RU2214:=rk RU2214 F6 (by decide) hk;replace F6:=G;clear c6_0 c6_1 c6_2 c6_3 c6_4 c6_5;obtain ⟨c6_0,c6_1,c6_2,c6_3,c6_4,c6_5⟩:=cs6 F6;clear hk y0 z0 y1 z1 y2 z2 y3 z3 y4 z4 y5 z5)
        | ((with_reducible refine gate_store (t:=38) (p:=4) rfl ?_);obtain ⟨y0,y1,y2,y3,y4,y5,z0,z1,z2,z3,z4,z5⟩:=cz6 F4;refine sxq 38 38 4 0 [.string a,.string b,.slice AP2206 ps.length kP2206,.slice AU2214 (putB ss ⟨ci,sq,0⟩).1.length kU2214,.bool true,.string x] [.string a,.string b,.slice AP2206 ps.length kP2206,.slice AU2214 (putB ss ⟨ci,sq,0⟩).1.length kU2214,.bool true,.string x] B F4 L4 fun w2216 hk B G=>?_;replace F2:=bk F2 hk N2_4.out;replace F3:=bk F3 hk N3_4.out;replace RP2206:=rk RP2206 F4 (by decide) hk;replace RS2206:=rk RS2206 F4 (by decide) hk;replace RU2214:=rk RU2214 F4 (by decide) hk;replace F4:=G;clear hk y0 z0 y1 z1 y2 z2 y3 z3 y4 z4 y5 z5))
       all_goals (try (refine bodyPost_ret (results_list (rs:=[.cell 4 38,.tmp 5]) rfl (by simp) (.cell g4 38 _ (0,0) _ rfl F4.out hu rfl (by kernel_rfl) (.tmp .nil))) rfl ?_);exact ⟨_,_,rfl,RP2206.out,RU2214.out,B.out⟩)
      ·have d5 : (k == 5)=false:=beq_eq_false_iff_ne.mpr h5
       rw [show applM ⟨a,b,ps,ss,false,c⟩ ci sq k x v o=(⟨a,b,(apM ps k x v o).1,(putB ss ⟨ci,sq,(apM ps k x v o).2⟩).1,false,c⟩,(apM ps k x v o).2) from if_neg h5]
       clear hh hcm hsq hN hid h5
       go_enter Try.func12,Try.ntmps12
       go_wp2_with (first
        | ((with_reducible refine gate_dst (N:=2) rfl ?_);refine bxq 2 #[.string a,.string b,.slice AP ps.length cP,.slice AS ss.length cS,.bool false,.string c] 38 B fun g2 w2301 hb B F2 L2 E2=>?_;obtain ⟨c2_0,c2_1,c2_2,c2_3,c2_4,c2_5⟩:=cs6 F2;clear hb E2)
        | ((with_reducible refine gate_dst (N:=3) rfl ?_);refine bxq 3 #[.int .i64 (ci),.int .i64 (sq),.int .i64 (k),.string x,.int .i64 (v),.int .i64 (o)] 44 B fun g3 w2302 hb B F3 L3 E3=>?_;replace F2:=bn F2 hb;clear c2_0 c2_1 c2_2 c2_3 c2_4 c2_5;obtain ⟨c2_0,c2_1,c2_2,c2_3,c2_4,c2_5⟩:=cs6 F2;obtain ⟨c3_0,c3_1,c3_2,c3_3,c3_4,c3_5⟩:=cs6 F3;clear hb E3)
        | ((with_reducible refine gate_dst (N:=4) rfl ?_);refine bxq 4 #[.string (⟨#[]⟩ : ByteArray),.string (⟨#[]⟩ : ByteArray),.slice none 0 0,.slice none 0 0,.bool false,.string (⟨#[]⟩ : ByteArray)] 38 B fun g4 w2303 hb B F4 L4 E4=>?_;have N2_4:=ne1 E4 F2;have N3_4:=ne1 E4 F3;replace F2:=bn F2 hb;replace F3:=bn F3 hb;clear c2_0 c2_1 c2_2 c2_3 c2_4 c2_5;obtain ⟨c2_0,c2_1,c2_2,c2_3,c2_4,c2_5⟩:=cs6 F2;clear c3_0 c3_1 c3_2 c3_3 c3_4 c3_5;obtain ⟨c3_0,c3_1,c3_2,c3_3,c3_4,c3_5⟩:=cs6 F3;clear hb E4)
        | (go_at_call 18;with_reducible refine cl (impl_StateValid.M a b _ _ ps _ _ ss false c _ (cb HRP B) (cb HRS B)) B fun w2304 hb B=>?_;replace F2:=bn F2 hb;replace F3:=bn F3 hb;replace F4:=bn F4 hb;clear c2_0 c2_1 c2_2 c2_3 c2_4 c2_5;obtain ⟨c2_0,c2_1,c2_2,c2_3,c2_4,c2_5⟩:=cs6 F2;clear c3_0 c3_1 c3_2 c3_3 c3_4 c3_5;obtain ⟨c3_0,c3_1,c3_2,c3_3,c3_4,c3_5⟩:=cs6 F3;clear hb)
        | (go_at_call 19;with_reducible refine cl (impl_EntryValid.M ci sq k x v o _) B fun w2305 hb B=>?_;replace F2:=bn F2 hb;replace F3:=bn F3 hb;replace F4:=bn F4 hb;clear c2_0 c2_1 c2_2 c2_3 c2_4 c2_5;obtain ⟨c2_0,c2_1,c2_2,c2_3,c2_4,c2_5⟩:=cs6 F2;clear c3_0 c3_1 c3_2 c3_3 c3_4 c3_5;obtain ⟨c3_0,c3_1,c3_2,c3_3,c3_4,c3_5⟩:=cs6 F3;clear hb)
        | (go_at_call 49;with_reducible refine c2r (impl_copyState.M a b _ _ ps _ _ ss false c _ (cb HRP B) (cb HRS B) HCP.out HCS.out (by omega) (by omega)) B fun AP2306 kP2306 AS2306 kS2306 w2306 hb B RP2306 QP2306 RS2306 QS2306=>?_;have DP2306_S2306:=Aside0.mk (dty RP2306 RS2306 (by decide));replace F2:=bn F2 hb;replace F3:=bn F3 hb;replace F4:=bn F4 hb;clear QP2306 QS2306;clear c2_0 c2_1 c2_2 c2_3 c2_4 c2_5;obtain ⟨c2_0,c2_1,c2_2,c2_3,c2_4,c2_5⟩:=cs6 F2;clear c3_0 c3_1 c3_2 c3_3 c3_4 c3_5;obtain ⟨c3_0,c3_1,c3_2,c3_3,c3_4,c3_5⟩:=cs6 F3;clear hb)
        | ((with_reducible refine gate_dst (N:=6) rfl ?_);refine bxq 6 #[.string (⟨#[]⟩ : ByteArray),.string (⟨#[]⟩ : ByteArray),.slice none 0 0,.slice none 0 0,.bool false,.string (⟨#[]⟩ : ByteArray)] 38 B fun g6 w2307 hb B F6 L6 E6=>?_;have N2_6:=ne1 E6 F2;have N3_6:=ne1 E6 F3;have N4_6:=ne1 E6 F4;replace F2:=bn F2 hb;replace F3:=bn F3 hb;replace F4:=bn F4 hb;replace RP2306:=rn RP2306 hb;replace RS2306:=rn RS2306 hb;clear c2_0 c2_1 c2_2 c2_3 c2_4 c2_5;obtain ⟨c2_0,c2_1,c2_2,c2_3,c2_4,c2_5⟩:=cs6 F2;clear c3_0 c3_1 c3_2 c3_3 c3_4 c3_5;obtain ⟨c3_0,c3_1,c3_2,c3_3,c3_4,c3_5⟩:=cs6 F3;obtain ⟨c6_0,c6_1,c6_2,c6_3,c6_4,c6_5⟩:=cs6 F6;clear hb E6)
        | ((with_reducible refine gate_store (t:=38) (p:=6) rfl ?_);obtain ⟨y0,y1,y2,y3,y4,y5,z0,z1,z2,z3,z4,z5⟩:=cz6 F6;refine sxq 38 38 6 0 [.string a,.string b,.slice AP2306 ps.length kP2306,.slice AS2306 ss.length kS2306,.bool false,.string c] [.string a,.string b,.slice AP2306 ps.length kP2306,.slice AS2306 ss.length kS2306,.bool false,.string c] B F6 L6 fun w2308 hk B G=>?_;replace F2:=bk F2 hk N2_6.out;replace F3:=bk F3 hk N3_6.out;replace F4:=bk F4 hk N4_6.out;replace RP2306:=rk RP2306 F6 (by decide) hk;replace RS2306:=rk RS2306 F6 (by decide) hk;replace F6:=G;clear c2_0 c2_1 c2_2 c2_3 c2_4 c2_5;obtain ⟨c2_0,c2_1,c2_2,c2_3,c2_4,c2_5⟩:=cs6 F2;clear c3_0 c3_1 c3_2 c3_3 c3_4 c3_5;obtain ⟨c3_0,c3_1,c3_2,c3_3,c3_4,c3_5⟩:=cs6 F3;clear c6_0 c6_1 c6_2 c6_3 c6_4 c6_5;obtain ⟨c6_0,c6_1,c6_2,c6_3,c6_4,c6_5⟩:=cs6 F6;clear hk y0 z0 y1 z1 y2 z2 y3 z3 y4 z4 y5 z5)
        | (go_at_call 50;with_reducible refine cl (impl_sessionPlace.Mb _ _ ss ci _ (cb HRS B) HCS.out hv false hit) B fun w2309 hb B=>?_;replace F2:=bn F2 hb;replace F3:=bn F3 hb;replace F4:=bn F4 hb;replace F6:=bn F6 hb;replace RP2306:=rn RP2306 hb;replace RS2306:=rn RS2306 hb;clear c2_0 c2_1 c2_2 c2_3 c2_4 c2_5;obtain ⟨c2_0,c2_1,c2_2,c2_3,c2_4,c2_5⟩:=cs6 F2;clear c3_0 c3_1 c3_2 c3_3 c3_4 c3_5;obtain ⟨c3_0,c3_1,c3_2,c3_3,c3_4,c3_5⟩:=cs6 F3;clear c6_0 c6_1 c6_2 c6_3 c6_4 c6_5;obtain ⟨c6_0,c6_1,c6_2,c6_3,c6_4,c6_5⟩:=cs6 F6;clear hb))
       all_goals (
        refine rg (n:=12) (S:=fun W=>W.heap[g3]?=some (.cells #[.int .i64 (ci),.int .i64 (sq),.int .i64 (k),.string x,.int .i64 (v),.int .i64 (o)] 44 (0,0))∧W.heap[g2]?=some (.cells #[.string a,.string b,.slice AP ps.length cP,.slice AS ss.length cS,.bool false,.string c] 38 (0,0))∧Kd.C k76 W AS ss.length ss) (ds:=[]) #[false,false,false,false,false,false,false,false,false,false,false,false] (by kernel_rfl) rfl rfl ⟨F3.out,F2.out,(cb HRS B)⟩ id B (fun w2310 hb B hHeld=>?_)
        refine with_tabW impl_ApplyEntry.tab5 impl_ApplyEntry.bits5 (fun HT_ HW_=>?_)
        replace F2:=bn F2 hb
        replace F3:=bn F3 hb
        replace F4:=bn F4 hb
        replace F6:=bn F6 hb
        replace RP2306:=rn RP2306 hb
        replace RS2306:=rn RS2306 hb
        clear hb
        refine pvq 0 (some 29) (bits 12 1) HT_ ?_
        refine pvq 1 (some 30) (bits 12 3) HT_ ?_
        refine svq 2 (some 31) (bits 12 7) HT_ ?_
        refine svq 3 (some 32) (bits 12 15) HT_ ?_
        refine svq 4 (some 33) (bits 12 31) HT_ ?_
        refine svq 5 (some 34) (bits 12 63) HT_ ?_
        refine svq 6 (some 35) (bits 12 127) HT_ ?_
        refine svq 7 (some 36) (bits 12 255) HT_ ?_
        refine svq 8 (some 37) (bits 12 511) HT_ ?_
        refine svq 9 (some 38) (bits 12 1023) HT_ ?_
        refine svq 10 (some 39) (bits 12 2047) HT_ ?_
        refine pvq 11 (some 40) (bits 12 4095) HT_ ?_
        refine nmq ?_
        refine done_ (done_of HT_.out (by kernel_rfl)) ?_
        clear c2_0 c2_1 c2_2 c2_3 c2_4 c2_5
        obtain ⟨c2_0,c2_1,c2_2,c2_3,c2_4,c2_5⟩:=cs6 F2
        clear c3_0 c3_1 c3_2 c3_3 c3_4 c3_5
        obtain ⟨c3_0,c3_1,c3_2,c3_3,c3_4,c3_5⟩:=cs6 F3
        clear c6_0 c6_1 c6_2 c6_3 c6_4 c6_5
        obtain ⟨c6_0,c6_1,c6_2,c6_3,c6_4,c6_5⟩:=cs6 F6)
       all_goals go_wp2_with (first
        | (go_at_call 51;with_reducible refine cl (impl_stateTakes.M a b _ _ ps _ _ ss false c k x v o _ (cb HRP B) (cb HRS B)) B fun w2311 hb B=>?_;replace F2:=bn F2 hb;replace F3:=bn F3 hb;replace F4:=bn F4 hb;replace F6:=bn F6 hb;replace RP2306:=rn RP2306 hb;replace RS2306:=rn RS2306 hb;clear c2_0 c2_1 c2_2 c2_3 c2_4 c2_5;obtain ⟨c2_0,c2_1,c2_2,c2_3,c2_4,c2_5⟩:=cs6 F2;clear c3_0 c3_1 c3_2 c3_3 c3_4 c3_5;obtain ⟨c3_0,c3_1,c3_2,c3_3,c3_4,c3_5⟩:=cs6 F3;clear c6_0 c6_1 c6_2 c6_3 c6_4 c6_5;obtain ⟨c6_0,c6_1,c6_2,c6_3,c6_4,c6_5⟩:=cs6 F6;clear hb)
        | (go_at_call 52;with_reducible refine cr (impl_ApplyCommand.M _ _ ps k x v o _ (cb HRP B) HCP.out) B fun AC2312 kC2312 w2312 hb B RC2312 QC2312=>?_;have DP2306_C2312:=fr QC2312 RP2306;have DS2306_C2312:=fr QC2312 RS2306;replace F2:=bn F2 hb;replace F3:=bn F3 hb;replace F4:=bn F4 hb;replace F6:=bn F6 hb;replace RP2306:=rn RP2306 hb;replace RS2306:=rn RS2306 hb;clear QC2312;clear c2_0 c2_1 c2_2 c2_3 c2_4 c2_5;obtain ⟨c2_0,c2_1,c2_2,c2_3,c2_4,c2_5⟩:=cs6 F2;clear c3_0 c3_1 c3_2 c3_3 c3_4 c3_5;obtain ⟨c3_0,c3_1,c3_2,c3_3,c3_4,c3_5⟩:=cs6 F3;clear c6_0 c6_1 c6_2 c6_3 c6_4 c6_5;obtain ⟨c6_0,c6_1,c6_2,c6_3,c6_4,c6_5⟩:=cs6 F6;clear hb)
        | ((with_reducible refine gate_store (t:=35) (p:=85) rfl ?_);obtain ⟨y0,y1,y2,y3,y4,y5,z0,z1,z2,z3,z4,z5⟩:=cz6 F6;refine sxq 38 35 85 2 [.slice AC2312 (apM ps k x v o).1.length kC2312] [.string a,.string b,.slice AC2312 (apM ps k x v o).1.length kC2312,.slice AS2306 ss.length kS2306,.bool false,.string c] B F6 L6 fun w2313 hk B G=>?_;replace F2:=bk F2 hk N2_6.out;replace F3:=bk F3 hk N3_6.out;replace F4:=bk F4 hk N4_6.out;replace RP2306:=rk RP2306 F6 (by decide) hk;replace RS2306:=rk RS2306 F6 (by decide) hk;replace RC2312:=rk RC2312 F6 (by decide) hk;replace F6:=G;clear c2_0 c2_1 c2_2 c2_3 c2_4 c2_5;obtain ⟨c2_0,c2_1,c2_2,c2_3,c2_4,c2_5⟩:=cs6 F2;clear c3_0 c3_1 c3_2 c3_3 c3_4 c3_5;obtain ⟨c3_0,c3_1,c3_2,c3_3,c3_4,c3_5⟩:=cs6 F3;clear c6_0 c6_1 c6_2 c6_3 c6_4 c6_5;obtain ⟨c6_0,c6_1,c6_2,c6_3,c6_4,c6_5⟩:=cs6 F6;clear hk y0 z0 y1 z1 y2 z2 y3 z3 y4 z4 y5 z5)
        | (go_at_call 53;with_reducible refine cr (impl_SessionPut.M _ _ ss ci sq (apM ps k x v o).2 _ (cb HRS B) HCS.out) B fun AU2314 kU2314 w2314 hb B RU2314 QU2314=>?_;have DP2306_U2314:=fr QU2314 RP2306;have DS2306_U2314:=fr QU2314 RS2306;have DC2312_U2314:=fr QU2314 RC2312;replace F2:=bn F2 hb;replace F3:=bn F3 hb;replace F4:=bn F4 hb;replace F6:=bn F6 hb;replace RS2306:=rn RS2306 hb;replace RC2312:=rn RC2312 hb;clear QU2314;clear c6_0 c6_1 c6_2 c6_3 c6_4 c6_5;obtain ⟨c6_0,c6_1,c6_2,c6_3,c6_4,c6_5⟩:=cs6 F6;clear hb)
        | ((with_reducible refine gate_store (t:=36) (p:=98) rfl ?_);obtain ⟨y0,y1,y2,y3,y4,y5,z0,z1,z2,z3,z4,z5⟩:=cz6 F6;refine sxq 38 36 98 3 [.slice AU2314 (putB ss ⟨ci,sq,(apM ps k x v o).2⟩).1.length kU2314] [.string a,.string b,.slice AC2312 (apM ps k x v o).1.length kC2312,.slice AU2314 (putB ss ⟨ci,sq,(apM ps k x v o).2⟩).1.length kU2314,.bool false,.string c] B F6 L6 fun w2315 hk B G=>?_;replace F2:=bk F2 hk N2_6.out;replace F3:=bk F3 hk N3_6.out;replace F4:=bk F4 hk N4_6.out;replace RS2306:=rk RS2306 F6 (by decide) hk;replace RC2312:=rk RC2312 F6 (by decide) hk;replace RU2314:=rk RU2314 F6 (by decide) hk;replace F6:=G;clear c6_0 c6_1 c6_2 c6_3 c6_4 c6_5;obtain ⟨c6_0,c6_1,c6_2,c6_3,c6_4,c6_5⟩:=cs6 F6;clear hk y0 z0 y1 z1 y2 z2 y3 z3 y4 z4 y5 z5)
        | ((with_reducible refine gate_store (t:=38) (p:=4) rfl ?_);obtain ⟨y0,y1,y2,y3,y4,y5,z0,z1,z2,z3,z4,z5⟩:=cz6 F4;refine sxq 38 38 4 0 [.string a,.string b,.slice AC2312 (apM ps k x v o).1.length kC2312,.slice AU2314 (putB ss ⟨ci,sq,(apM ps k x v o).2⟩).1.length kU2314,.bool false,.string c] [.string a,.string b,.slice AC2312 (apM ps k x v o).1.length kC2312,.slice AU2314 (putB ss ⟨ci,sq,(apM ps k x v o).2⟩).1.length kU2314,.bool false,.string c] B F4 L4 fun w2316 hk B G=>?_;replace F2:=bk F2 hk N2_4.out;replace F3:=bk F3 hk N3_4.out;replace RS2306:=rk RS2306 F4 (by decide) hk;replace RC2312:=rk RC2312 F4 (by decide) hk;replace RU2314:=rk RU2314 F4 (by decide) hk;replace F4:=G;clear hk y0 z0 y1 z1 y2 z2 y3 z3 y4 z4 y5 z5))
       all_goals (try (refine bodyPost_ret (results_list (rs:=[.cell 4 38,.tmp 5]) rfl (by simp) (.cell g4 38 _ (0,0) _ rfl F4.out hu rfl (by kernel_rfl) (.tmp .nil))) rfl ?_);exact ⟨_,_,rfl,RC2312.out,RU2314.out,B.out⟩)

theorem spec_ApplyEntry.Mr (a b : ByteArray) (AP : Option Addr) (cP : Nat) (ps : List S105) (AS : Option Addr) (cS : Nat) (ss : List S76) (t : Bool) (c : ByteArray) (ci sq k : Int) (x : ByteArray) (v o : Int) (xa xb : ByteArray) (xp : List S105) (xs : List S76) (xt : Bool) (xc : ByteArray) (nn : Int) (hm : aeM ⟨a,b,ps,ss,t,c⟩ ci sq k x v o=(⟨xa,xb,xp,xs,xt,xc⟩,nn)) (w : World) (hrp : Kd.C k105 w AP ps.length ps) (hrs : Kd.C k76 w AS ss.length ss) (hcp : ps.length≤cP) (hcs : ss.length≤cS) : Calls Try.prog 9 #[.agg #[.string a,.string b,.slice AP ps.length cP,.slice AS ss.length cS,.bool t,.string c],.agg #[.int .i64 ci,.int .i64 sq,.int .i64 k,.string x,.int .i64 v,.int .i64 o]] w fun e w'=>∃ v2 v3,e=.returned (.tuple #[.agg #[.string xa,.string xb,v2,v3,.bool xt,.string xc],.int .i64 nn])∧Kd.R k105 105 w' w.heap.size (fun _=>True) v2 xp∧Kd.R k76 76 w' w.heap.size (fun _=>True) v3 xs∧Below w.heap.size w w':=by
 have h:=spec_ApplyEntry.M a b AP cP ps AS cS ss t c ci sq k x v o w hrp hrs hcp hcs
 rw [hm] at h
 exact h
theorem impl_ApplyEntry.Mr (a b : ByteArray) (AP : Option Addr) (cP : Nat) (ps : List S105) (AS : Option Addr) (cS : Nat) (ss : List S76) (t : Bool) (c : ByteArray) (ci sq k : Int) (x : ByteArray) (v o : Int) (xa xb : ByteArray) (xp : List S105) (xs : List S76) (xt : Bool) (xc : ByteArray) (nn : Int) (hm : aeM ⟨a,b,ps,ss,t,c⟩ ci sq k x v o=(⟨xa,xb,xp,xs,xt,xc⟩,nn)) (w : World) (hrp : Kd.C k105 w AP ps.length ps) (hrs : Kd.C k76 w AS ss.length ss) (hcp : ps.length≤cP) (hcs : ss.length≤cS) : Calls Try.prog 12 #[.agg #[.string a,.string b,.slice AP ps.length cP,.slice AS ss.length cS,.bool t,.string c],.agg #[.int .i64 ci,.int .i64 sq,.int .i64 k,.string x,.int .i64 v,.int .i64 o]] w fun e w'=>∃ v2 v3,e=.returned (.tuple #[.agg #[.string xa,.string xb,v2,v3,.bool xt,.string xc],.int .i64 nn])∧Kd.R k105 105 w' w.heap.size (fun _=>True) v2 xp∧Kd.R k76 76 w' w.heap.size (fun _=>True) v3 xs∧Below w.heap.size w w':=by
 have h:=impl_ApplyEntry.M a b AP cP ps AS cS ss t c ci sq k x v o w hrp hrs hcp hcs
 rw [hm] at h
 exact h
def spec_Replay.T8 : Bool × List (List Nat × List Nat):=(true,[([],[]),([],[]),([],[]),([1,2],[1,2]),([3],[3]),([0,4],[0,4]),([5],[5]),([6],[6]),([6],[6]),([],[]),([9,7,5,0,1,2,3,4,5,6,7,9],[7,9]),([8,10,0,1,2,3,4,5,6,7,8,9,10],[8])])
def spec_Replay.B8 : List Nat:=[0,0,0,6,14,31,63,127,127,0,767,2047]
theorem spec_Replay.tab8 : rtab .any (opsOf Try.f23 8)=spec_Replay.T8:=by kernel_rfl
theorem spec_Replay.bits8 : waitsOk spec_Replay.T8.2 spec_Replay.B8=true:=by kernel_rfl
theorem spec_Replay.M (a b : ByteArray) (AP : Option Addr) (cP : Nat) (ps : List S105) (AS : Option Addr) (cS : Nat) (ss : List S76) (t : Bool) (c : ByteArray) (A1 : Option Addr) (c1 : Nat) (es : List S44) (w : World) (hrp : Kd.C k105 w AP ps.length ps) (hrs : Kd.C k76 w AS ss.length ss) (hcp : ps.length≤cP) (hcs : ss.length≤cS) (hr1 : Kd.C k44 w A1 es.length es) : Calls Try.prog 23 #[.agg #[.string a,.string b,.slice AP ps.length cP,.slice AS ss.length cS,.bool t,.string c],.slice A1 es.length c1] w fun e w'=>∃ v2 v3 v4,e=.returned (.tuple #[.agg #[.string (rpM ⟨a,b,ps,ss,t,c⟩ es).1.a,.string (rpM ⟨a,b,ps,ss,t,c⟩ es).1.b,v2,v3,.bool (rpM ⟨a,b,ps,ss,t,c⟩ es).1.t,.string (rpM ⟨a,b,ps,ss,t,c⟩ es).1.c],v4])∧Kd.R k105 105 w' w.heap.size (fun _=>True) v2 (rpM ⟨a,b,ps,ss,t,c⟩ es).1.ps∧Kd.R k76 76 w' w.heap.size (fun _=>True) v3 (rpM ⟨a,b,ps,ss,t,c⟩ es).1.ss∧Kd.R (Kd.int .i64) 3 w' w.heap.size (fun _=>True) v4 (rpM ⟨a,b,ps,ss,t,c⟩ es).2∧Below w.heap.size w w':=by
 have B:=Aside0.mk (Below.refl w.heap.size w)
 have hu:=Try.underlying38
 have hu2:=Try.underlying34
 have HRP:=Aside0.mk hrp
 have HRS:=Aside0.mk hrs
 have HCP:=Aside0.mk hcp
 have HCS:=Aside0.mk hcs
 clear hrp hrs hcp hcs
 have HR1:=Aside0.mk hr1
 have h63:=hr1.2.1
 clear hr1
 have hu3:=Try.underlying44
 cases hs : stB a b ps ss t c with
 | false =>
  rw [rpM_bad (s:=⟨a,b,ps,ss,t,c⟩) (l:=es) (by unfold SM.ok;rw [hs];simp)]
  go_enter Try.func23,Try.ntmps23
  go_wp2_with (first
   | ((with_reducible refine gate_dst (N:=2) rfl ?_);refine bxq 2 #[.string a,.string b,.slice AP ps.length cP,.slice AS ss.length cS,.bool t,.string c] 38 B fun g2 w1 hb B F2 L2 E2=>?_;obtain ⟨c2_0,c2_1,c2_2,c2_3,c2_4,c2_5⟩:=cs6 F2;clear hb E2)
   | ((with_reducible refine gate_dst (N:=4) rfl ?_);refine bxq 4 #[.string (⟨#[]⟩ : ByteArray),.string (⟨#[]⟩ : ByteArray),.slice none 0 0,.slice none 0 0,.bool false,.string (⟨#[]⟩ : ByteArray)] 38 B fun g4 w2 hb B F4 L4 E4=>?_;have N2_4:=ne1 E4 F2;replace F2:=bn F2 hb;clear c2_0 c2_1 c2_2 c2_3 c2_4 c2_5;obtain ⟨c2_0,c2_1,c2_2,c2_3,c2_4,c2_5⟩:=cs6 F2;clear hb E4)
   | ((with_reducible refine gate_dst (N:=11) rfl ?_);refine lt (Kd.int .i64) 3 ?hg (N:=11) ?hd ([] : List Int) [] ?hr (Reps.none _ _) (by simp) B ?_;(case hd | hg=>rfl);(case hr=>go_simp;first | done | rfl);intro z11 hz11 AL11 kL11 w3 hb B RL11 QL11;replace F2:=bn F2 hb;replace F4:=bn F4 hb;clear c2_0 c2_1 c2_2 c2_3 c2_4 c2_5;obtain ⟨c2_0,c2_1,c2_2,c2_3,c2_4,c2_5⟩:=cs6 F2;clear hb QL11)
   | (go_at_call 37;with_reducible refine cl (spec_StateValid.M a b _ _ ps _ _ ss t c _ (cb HRP B) (cb HRS B)) B fun w4 hb B=>?_;replace F2:=bn F2 hb;replace F4:=bn F4 hb;replace RL11:=rn RL11 hb;clear hb)
   | (go_at_call 74;with_reducible refine cl (spec_l10Log.M _ _ es _ (cb HR1 B)) B fun w5 hb B=>?_;replace F2:=bn F2 hb;replace F4:=bn F4 hb;replace RL11:=rn RL11 hb;clear hb)
   | ((with_reducible refine gate_store (t:=38) (p:=4) rfl ?_);obtain ⟨y0,y1,y2,y3,y4,y5,z0,z1,z2,z3,z4,z5⟩:=cz6 F4;refine sxq 38 38 4 0 [.string (⟨#[]⟩ : ByteArray),.string (⟨#[]⟩ : ByteArray),.slice none 0 0,.slice none 0 0,.bool false,.string (⟨#[]⟩ : ByteArray)] [.string (⟨#[]⟩ : ByteArray),.string (⟨#[]⟩ : ByteArray),.slice none 0 0,.slice none 0 0,.bool false,.string (⟨#[]⟩ : ByteArray)] B F4 L4 fun w6 hk B G=>?_;replace F2:=bk F2 hk N2_4.out;replace RL11:=rk RL11 F4 (by decide) hk;replace F4:=G;clear hk y0 z0 y1 z1 y2 z2 y3 z3 y4 z4 y5 z5))
  all_goals (refine bodyPost_ret (results_list (rs:=[.cell 4 38,.tmp 5]) rfl (by simp) (.cell g4 38 _ (0,0) _ rfl F4.out hu rfl (by kernel_rfl) (.tmp .nil))) rfl ?_;subst hz11;exact ⟨_,_,_,rfl,Kd.R_nil _ _ _ _ _,Kd.R_nil _ _ _ _ _,RL11.out,B.out⟩)
 | true =>
  cases hl : logB es with
  | false =>
   rw [rpM_bad (s:=⟨a,b,ps,ss,t,c⟩) (l:=es) (by rw [hl];simp)]
   go_enter Try.func23,Try.ntmps23
   go_wp2_with (first
    | ((with_reducible refine gate_dst (N:=2) rfl ?_);refine bxq 2 #[.string a,.string b,.slice AP ps.length cP,.slice AS ss.length cS,.bool t,.string c] 38 B fun g2 w101 hb B F2 L2 E2=>?_;obtain ⟨c2_0,c2_1,c2_2,c2_3,c2_4,c2_5⟩:=cs6 F2;clear hb E2)
    | ((with_reducible refine gate_dst (N:=4) rfl ?_);refine bxq 4 #[.string (⟨#[]⟩ : ByteArray),.string (⟨#[]⟩ : ByteArray),.slice none 0 0,.slice none 0 0,.bool false,.string (⟨#[]⟩ : ByteArray)] 38 B fun g4 w102 hb B F4 L4 E4=>?_;have N2_4:=ne1 E4 F2;replace F2:=bn F2 hb;clear c2_0 c2_1 c2_2 c2_3 c2_4 c2_5;obtain ⟨c2_0,c2_1,c2_2,c2_3,c2_4,c2_5⟩:=cs6 F2;clear hb E4)
    | ((with_reducible refine gate_dst (N:=11) rfl ?_);refine lt (Kd.int .i64) 3 ?hg (N:=11) ?hd ([] : List Int) [] ?hr (Reps.none _ _) (by simp) B ?_;(case hd | hg=>rfl);(case hr=>go_simp;first | done | rfl);intro z11 hz11 AL11 kL11 w103 hb B RL11 QL11;replace F2:=bn F2 hb;replace F4:=bn F4 hb;clear c2_0 c2_1 c2_2 c2_3 c2_4 c2_5;obtain ⟨c2_0,c2_1,c2_2,c2_3,c2_4,c2_5⟩:=cs6 F2;clear hb QL11)
    | (go_at_call 37;with_reducible refine cl (spec_StateValid.M a b _ _ ps _ _ ss t c _ (cb HRP B) (cb HRS B)) B fun w104 hb B=>?_;replace F2:=bn F2 hb;replace F4:=bn F4 hb;replace RL11:=rn RL11 hb;clear hb)
    | (go_at_call 74;with_reducible refine cl (spec_l10Log.M _ _ es _ (cb HR1 B)) B fun w105 hb B=>?_;replace F2:=bn F2 hb;replace F4:=bn F4 hb;replace RL11:=rn RL11 hb;clear hb)
    | ((with_reducible refine gate_store (t:=38) (p:=4) rfl ?_);obtain ⟨y0,y1,y2,y3,y4,y5,z0,z1,z2,z3,z4,z5⟩:=cz6 F4;refine sxq 38 38 4 0 [.string (⟨#[]⟩ : ByteArray),.string (⟨#[]⟩ : ByteArray),.slice none 0 0,.slice none 0 0,.bool false,.string (⟨#[]⟩ : ByteArray)] [.string (⟨#[]⟩ : ByteArray),.string (⟨#[]⟩ : ByteArray),.slice none 0 0,.slice none 0 0,.bool false,.string (⟨#[]⟩ : ByteArray)] B F4 L4 fun w106 hk B G=>?_;replace F2:=bk F2 hk N2_4.out;replace RL11:=rk RL11 F4 (by decide) hk;replace F4:=G;clear hk y0 z0 y1 z1 y2 z2 y3 z3 y4 z4 y5 z5))
   all_goals (refine bodyPost_ret (results_list (rs:=[.cell 4 38,.tmp 5]) rfl (by simp) (.cell g4 38 _ (0,0) _ rfl F4.out hu rfl (by kernel_rfl) (.tmp .nil))) rfl ?_;subst hz11;exact ⟨_,_,_,rfl,Kd.R_nil _ _ _ _ _,Kd.R_nil _ _ _ _ _,RL11.out,B.out⟩)
  | true =>
   have hok : (SM.mk a b ps ss t c).ok=true:=hs
   obtain ⟨hpl0,hsl0⟩:=ok_len hok
   have hpl : ps.length≤1000000:=Nat.le_trans hpl0 (by decide)
   have hsl : ss.length≤1000000:=Nat.le_trans hsl0 (by decide)
   clear hpl0 hsl0
   obtain ⟨hes,hal⟩:=logB_parts hl
   have HAL:=Aside0.mk (List.all_eq_true.mp hal)
   obtain ⟨r,hr⟩ : ∃ r,es.foldl stepE (⟨a,b,ps,ss,t,c⟩,[])=r:=⟨_,rfl⟩
   rw [rpM_go hok hl,hr]
   have H:=Aside0.mk (show (es.drop 0).foldl stepE (⟨a,b,ps,ss,t,c⟩,[])=r from hr)
   have HOK:=Aside0.mk hok
   clear hr hal hok
   go_enter Try.func23,Try.ntmps23
   go_wp2_with (first
    | ((with_reducible refine gate_dst (N:=2) rfl ?_);refine bxq 2 #[.string a,.string b,.slice AP ps.length cP,.slice AS ss.length cS,.bool t,.string c] 38 B fun g2 w201 hb B F2 L2 E2=>?_;obtain ⟨c2_0,c2_1,c2_2,c2_3,c2_4,c2_5⟩:=cs6 F2;clear hb E2)
    | ((with_reducible refine gate_dst (N:=4) rfl ?_);refine bxq 4 #[.string (⟨#[]⟩ : ByteArray),.string (⟨#[]⟩ : ByteArray),.slice none 0 0,.slice none 0 0,.bool false,.string (⟨#[]⟩ : ByteArray)] 38 B fun g4 w202 hb B F4 L4 E4=>?_;replace F2:=bn F2 hb;clear c2_0 c2_1 c2_2 c2_3 c2_4 c2_5;obtain ⟨c2_0,c2_1,c2_2,c2_3,c2_4,c2_5⟩:=cs6 F2;clear hb E4)
    | ((with_reducible refine gate_dst (N:=11) rfl ?_);refine lt (Kd.int .i64) 3 ?hg (N:=11) ?hd ([] : List Int) [] ?hr (Reps.none _ _) (by simp) B ?_;(case hd | hg=>rfl);(case hr=>go_simp;first | done | rfl);intro z11 hz11 AL11 kL11 w203 hb B RL11 QL11;replace F2:=bn F2 hb;replace F4:=bn F4 hb;clear c2_0 c2_1 c2_2 c2_3 c2_4 c2_5;obtain ⟨c2_0,c2_1,c2_2,c2_3,c2_4,c2_5⟩:=cs6 F2;clear hb QL11)
    | (go_at_call 37;with_reducible refine cl (spec_StateValid.M a b _ _ ps _ _ ss t c _ (cb HRP B) (cb HRS B)) B fun w204 hb B=>?_;replace F2:=bn F2 hb;replace F4:=bn F4 hb;replace RL11:=rn RL11 hb;clear c2_0 c2_1 c2_2 c2_3 c2_4 c2_5;obtain ⟨c2_0,c2_1,c2_2,c2_3,c2_4,c2_5⟩:=cs6 F2;clear hb)
    | (go_at_call 74;with_reducible refine cl (spec_l10Log.M _ _ es _ (cb HR1 B)) B fun w205 hb B=>?_;replace F2:=bn F2 hb;replace F4:=bn F4 hb;replace RL11:=rn RL11 hb;clear c2_0 c2_1 c2_2 c2_3 c2_4 c2_5;obtain ⟨c2_0,c2_1,c2_2,c2_3,c2_4,c2_5⟩:=cs6 F2;clear hb)
    | (go_at_call 39;with_reducible refine c2r (spec_l10Copy.M a b _ _ ps _ _ ss t c _ (cb HRP B) (cb HRS B) HCP.out HCS.out (by omega) (by omega)) B fun AP206 kP206 AS206 kS206 w206 hb B RP206 QP206 RS206 QS206=>?_;have DL11_P206:=fr QP206 RL11;have DL11_S206:=fr QS206 RL11;have DP206_S206:=Aside0.mk (dty RP206 RS206 (by decide));replace F4:=bn F4 hb;replace RL11:=rn RL11 hb;clear QP206 QS206;clear hb)
    | ((with_reducible refine gate_dst (N:=7) rfl ?_);refine bxq 7 #[.string (⟨#[]⟩ : ByteArray),.string (⟨#[]⟩ : ByteArray),.slice none 0 0,.slice none 0 0,.bool false,.string (⟨#[]⟩ : ByteArray)] 38 B fun g7 w207 hb B F7 L7 E7=>?_;have N4_7:=ne1 E7 F4;replace F4:=bn F4 hb;replace RL11:=rn RL11 hb;replace RP206:=rn RP206 hb;replace RS206:=rn RS206 hb;clear hb E7)
    | ((with_reducible refine gate_store (t:=38) (p:=7) rfl ?_);obtain ⟨y0,y1,y2,y3,y4,y5,z0,z1,z2,z3,z4,z5⟩:=cz6 F7;refine sxq 38 38 7 0 [.string a,.string b,.slice AP206 ps.length kP206,.slice AS206 ss.length kS206,.bool t,.string c] [.string a,.string b,.slice AP206 ps.length kP206,.slice AS206 ss.length kS206,.bool t,.string c] B F7 L7 fun w208 hk B G=>?_;replace F4:=bk F4 hk N4_7.out;replace RL11:=rk RL11 F7 (by decide) hk;replace RP206:=rk RP206 F7 (by decide) hk;replace RS206:=rk RS206 F7 (by decide) hk;replace F7:=G;clear hk y0 z0 y1 z1 y2 z2 y3 z3 y4 z4 y5 z5))
   clear hs hl
   subst hz11
   go_loopg [6,8] (es.length + 1) (fun kx v6 v8 wr=>∃ (j : Nat) (va vb : ByteArray) (v2 v3 : Value) (qs : List S105) (us : List S76) (vt : Bool) (vc : ByteArray) (vs : List Int),v8=.int .i64 (j : Int)∧j≤es.length∧es.length < j + kx∧vs.length≤j∧Aside0 ((SM.mk va vb qs us vt vc).ok=true)∧Aside0 (Below w.heap.size w wr)∧Aside0 (wr.heap[g4]?=some (.cells #[.string (⟨#[]⟩ : ByteArray),.string (⟨#[]⟩ : ByteArray),.slice none 0 0,.slice none 0 0,.bool false,.string (⟨#[]⟩ : ByteArray)] 38 (0,0)))∧Aside0 (wr.heap[g7]?=some (.cells #[.string va,.string vb,v2,v3,.bool vt,.string vc] 38 (0,0)))∧Aside0 (Ow k105 105 wr w.heap.size v2 qs)∧Aside0 (Ow k76 76 wr w.heap.size v3 us)∧Aside0 (Ow (Kd.int .i64) 3 wr w.heap.size v6 vs)∧Aside0 ((es.drop j).foldl stepE (⟨va,vb,qs,us,vt,vc⟩,vs)=r))
   case atStart=>exact ⟨0,_,_,_,_,_,_,_,_,[],rfl,by omega,by omega,by simp,HOK,B,F4,F7,RP206,RS206,RL11,H⟩
   case round =>
    clear H B F4 F7 RP206 RS206 HOK RL11
    obtain ⟨j,va,vb,v2,v3,qs,us,vt,vc,vs,rfl,hj,hk,hvl,HOK,B,F4,F7,Rp,Rs,Rv,H⟩:=hrel
    obtain ⟨Ap,kp,rfl⟩:=Kd.R_slice Rp.out
    obtain ⟨As,ks,rfl⟩:=Kd.R_slice Rs.out
    obtain ⟨Av,kv,rfl⟩:=Kd.R_slice Rv.out
    obtain ⟨c4_0,c4_1,c4_2,c4_3,c4_4,c4_5⟩:=cs6 F4
    obtain ⟨c7_0,c7_1,c7_2,c7_3,c7_4,c7_5⟩:=cs6 F7
    by_cases hlt : j < es.length
    ·have HS:=H.out
     rw [en_drop hlt,List.foldl_cons] at HS
     have hen:=HAL.out (rd_T44 es (j : Int)) (by rw [en_nat hlt];exact List.getElem_mem hlt)
     clear H
     obtain ⟨d,rfl⟩ : ∃ d,gk=d + 1:=⟨gk - 1,by omega⟩
     have cj : decide ((j : Int) < (es.length : Int))=true:=decide_eq_true (by omega)
     obtain ⟨ad,hA,y0,y1,y2,y3,y4,y5⟩:=at_T44 (cb HR1 B) (j : Int) (by omega) (by omega)
     cases hA
     rw [Int.toNat_natCast] at y0 y1 y2 y3 y4 y5
     have j1:=eq_true (show (j : Int) < (es.length : Int) by omega)
     have j2:=eq_true hlt
     generalize hy : rd_T44 es (j : Int)=y at *
     obtain ⟨hk1,-,-,-⟩:=aeM_after HOK.out hen
     obtain ⟨⟨⟨xa,xb,xp,xs,xt,xc⟩,nn⟩,hm⟩ : ∃ r,aeM ⟨va,vb,qs,us,vt,vc⟩ y.f0 y.f1 y.f2.f0 y.f2.f1 y.f2.f2 y.f2.f3=r:=⟨_,rfl⟩
     rw [hm] at hk1
     rw [show stepE (⟨va,vb,qs,us,vt,vc⟩,vs) y=(⟨xa,xb,xp,xs,xt,xc⟩,vs ++ [nn]) by unfold stepE aeE;rw [hm]] at HS
     have HM:=Aside0.mk hm
     have HT:=Aside0.mk HS
     have HK:=Aside0.mk hk1
     clear hm HS hk1 hen HOK
     try go_wp2
     all_goals (
      refine rg (n:=12) (S:=fun W=>W.heap[g7]?=some (.cells #[.string va,.string vb,.slice Ap qs.length kp,.slice As us.length ks,.bool vt,.string vc] 38 (0,0))∧Kd.C k44 W (some ad) es.length es) (ds:=[]) #[false,false,false,false,false,false,false,false,false,false,false,false] (by kernel_rfl) rfl rfl ⟨F7.out,(cb HR1 B)⟩ id B (fun w301 hb B hHeld=>?_)
      refine with_tabW spec_Replay.tab8 spec_Replay.bits8 (fun HT_ HW_=>?_)
      replace F4:=bn F4 hb
      replace F7:=bn F7 hb
      replace Rp:=rn Rp hb
      replace Rs:=rn Rs hb
      replace Rv:=rn Rv hb
      clear hb
      refine join_ 2 (bits 12 1023) (σ:=Option Addr × Nat × Option Addr × Nat × Nat) (fun (APs36,kPs36,ASs36,kSs36,g9)=>[(31,.agg #[.string va,.string vb,.slice Ap qs.length kp,.slice As us.length ks,.bool vt,.string vc]),(32,.slice (some ad) es.length c1),(33,.int .i64 ((j : Int))),(34,.pointer (some (ad.add (j * 6)))),(35,.agg #[.int .i64 (y.f0),.int .i64 (y.f1),.int .i64 (y.f2.f0),.string y.f2.f1,.int .i64 (y.f2.f2),.int .i64 (y.f2.f3)]),(36,.tuple #[.agg #[.string xa,.string xb,.slice APs36 xp.length kPs36,.slice ASs36 xs.length kSs36,.bool xt,.string xc],.int .i64 (nn)]),(30,.tuple #[.agg #[.string xa,.string xb,.slice APs36 xp.length kPs36,.slice ASs36 xs.length kSs36,.bool xt,.string xc],.int .i64 (nn)]),(37,.agg #[.string xa,.string xb,.slice APs36 xp.length kPs36,.slice ASs36 xs.length kSs36,.bool xt,.string xc]),(38,.int .i64 (nn)),(9,.pointer (some ⟨g9,0,none⟩))]) (fun (APs36,kPs36,ASs36,kSs36,g9) W=>Aside0 (Below w.heap.size w W)∧Aside0 (W.heap[g4]?=some (.cells #[.string (⟨#[]⟩ : ByteArray),.string (⟨#[]⟩ : ByteArray),.slice none 0 0,.slice none 0 0,.bool false,.string (⟨#[]⟩ : ByteArray)] 38 (0,0)))∧Aside0 (W.heap[g7]?=some (.cells #[.string va,.string vb,.slice Ap qs.length kp,.slice As us.length ks,.bool vt,.string vc] 38 (0,0)))∧Aside0 (W.heap[g9]?=some (.cells #[.string (⟨#[]⟩ : ByteArray),.string (⟨#[]⟩ : ByteArray),.slice none 0 0,.slice none 0 0,.bool false,.string (⟨#[]⟩ : ByteArray)] 38 (0,0)))∧Aside0 (w.heap.size≤g9)∧Aside0 (g4 ≠ g9)∧Aside0 (g7 ≠ g9)∧Aside0 (Ow k105 105 W w.heap.size (.slice Ap qs.length kp) qs)∧Aside0 (Ow k76 76 W w.heap.size (.slice As us.length ks) us)∧Aside0 (Ow (Kd.int .i64) 3 W w.heap.size (.slice Av vs.length kv) vs)∧Aside0 (Ow k105 105 W w.heap.size (.slice APs36 xp.length kPs36) xp)∧Aside0 (Ow k76 76 W w.heap.size (.slice ASs36 xs.length kSs36) xs)∧Aside0 (∀ k_,(.slice APs36 xp.length kPs36 : Value).ownBlock=some k_→(.slice Ap qs.length kp : Value).ownBlock=some k_→False)∧Aside0 (∀ k_,(.slice ASs36 xs.length kSs36 : Value).ownBlock=some k_→(.slice As us.length ks : Value).ownBlock=some k_→False)) ?_ (fun J=>?_)
      rotate_left
      ·refine tvq 0 (some 31) (bits 12 1) HT_ HW_ rfl hHeld (by intro w' hS;obtain ⟨s0,s1⟩:=hS;obtain ⟨q0,q1,q2,q3,q4,q5⟩:=cs6 (Aside0.mk s0);go_simp;with_reducible rfl) ?_
       refine pvq 1 (some 32) (bits 12 3) HT_ ?_
       refine pvq 2 (some 33) (bits 12 7) HT_ ?_
       refine pvq 3 (some 34) (bits 12 15) HT_ ?_
       refine tvq 4 (some 35) (bits 12 31) HT_ HW_ rfl hHeld (by intro w' hS;obtain ⟨s0,s1⟩:=hS;obtain ⟨_,hA,q0,q1,q2,q3,q4,q5⟩:=at_T44 s1 (j : Int) (by omega) (by omega);cases hA;rw [Int.toNat_natCast] at q0 q1 q2 q3 q4 q5;rw [hy] at q0 q1 q2 q3 q4 q5;go_simp;with_reducible rfl) ?_
       refine nmq ?_
       refine two_ (i:=5) (j:=9) (Ni:=some 36) (Nj:=some 9) (bits 12 63) (bits 12 543) rfl rfl rfl rfl (two_of HT_.out (by kernel_rfl)) (by decide) (by decide) (fun K hK=>?_) (fun K hK=>?_)
       ·refine gsq Try.func9 #[.agg #[.string va,.string vb,.slice Ap qs.length kp,.slice As us.length ks,.bool vt,.string vc],.agg #[.int .i64 (y.f0),.int .i64 (y.f1),.int .i64 (y.f2.f0),.string y.f2.f1,.int .i64 (y.f2.f2),.int .i64 (y.f2.f3)]] ?_
        with_reducible refine c2r (spec_ApplyEntry.Mr va vb _ _ qs _ _ us vt vc y.f0 y.f1 y.f2.f0 y.f2.f1 y.f2.f2 y.f2.f3 xa xb xp xs xt xc nn HM.out _ (rc Rp) (rc Rs) (rl Rp) (rl Rs)) B fun APs36 kPs36 ASs36 kSs36 w302 hb B RPs36 QPs36 RSs36 QSs36=>?_
        have Dp_Ps36:=fr QPs36 Rp
        have Ds_Ps36:=fr QPs36 Rs
        have Dv_Ps36:=fr QPs36 Rv
        have Dp_Ss36:=fr QSs36 Rp
        have Ds_Ss36:=fr QSs36 Rs
        have Dv_Ss36:=fr QSs36 Rv
        replace F4:=bn F4 hb
        replace F7:=bn F7 hb
        replace Rp:=rn Rp hb
        replace Rs:=rn Rs hb
        replace Rv:=rn Rv hb
        clear hb
        refine ⟨_,rfl,?_⟩
        refine hK.out _ _ ⟨F7.out,(cb HR1 B)⟩ (fun hHeld=>?_)
        clear hK K
        refine npq (some 36) ?_
        clear QPs36 QSs36
        refine pvq 6 (some 30) (bits 12 127) HT_ ?_
        refine pvq 7 (some 37) (bits 12 255) HT_ ?_
        refine pvq 8 (some 38) (bits 12 511) HT_ ?_
        refine nmq ?_
        refine one_ (i:=9) (N:=some 9) (bits 12 1023) rfl rfl (one_of HT_.out (by kernel_rfl)) (by decide) (fun K hK=>?_)
        refine bxs (cs:=#[.string (⟨#[]⟩ : ByteArray),.string (⟨#[]⟩ : ByteArray),.slice none 0 0,.slice none 0 0,.bool false,.string (⟨#[]⟩ : ByteArray)]) (t:=38) (by rfl) rfl ?hr B (fun g9 w303 hb B F9 L9 E9=>?_)
        (case hr=>go_simp;first | done | rfl)
        have N4_9:=ne1 E9 F4
        have N7_9:=ne1 E9 F7
        replace F4:=bn F4 hb
        replace F7:=bn F7 hb
        replace Rp:=rn Rp hb
        replace Rs:=rn Rs hb
        replace Rv:=rn Rv hb
        replace RPs36:=rn RPs36 hb
        replace RSs36:=rn RSs36 hb
        clear hb E9
        refine hK.out _ _ ⟨F7.out,(cb HR1 B)⟩ (fun hHeld=>?_)
        clear hK K
        refine npq (some 9) ?_
        refine norm_ (a':=_) ?_ (J ⟨APs36,kPs36,ASs36,kSs36,g9⟩ _ ⟨B,F4,F7,F9,L9,N4_9,N7_9,Rp,Rs,Rv,RPs36,RSs36,Dp_Ps36,Ds_Ss36⟩)
        simp only [putAll,Act.put,za,zb,zc]
        try rfl
       ·refine bxs (cs:=#[.string (⟨#[]⟩ : ByteArray),.string (⟨#[]⟩ : ByteArray),.slice none 0 0,.slice none 0 0,.bool false,.string (⟨#[]⟩ : ByteArray)]) (t:=38) (by rfl) rfl ?hr B (fun g9 w302 hb B F9 L9 E9=>?_)
        (case hr=>go_simp;first | done | rfl)
        have N4_9:=ne1 E9 F4
        have N7_9:=ne1 E9 F7
        replace F4:=bn F4 hb
        replace F7:=bn F7 hb
        replace Rp:=rn Rp hb
        replace Rs:=rn Rs hb
        replace Rv:=rn Rv hb
        clear hb E9
        refine hK.out _ _ ⟨F7.out,(cb HR1 B)⟩ (fun hHeld=>?_)
        clear hK K
        refine npq (some 9) ?_
        refine one_ (i:=5) (N:=some 36) (bits 12 575) rfl rfl (one_of HT_.out (by kernel_rfl)) (by decide) (fun K hK=>?_)
        refine gsq Try.func9 #[.agg #[.string va,.string vb,.slice Ap qs.length kp,.slice As us.length ks,.bool vt,.string vc],.agg #[.int .i64 (y.f0),.int .i64 (y.f1),.int .i64 (y.f2.f0),.string y.f2.f1,.int .i64 (y.f2.f2),.int .i64 (y.f2.f3)]] ?_
        with_reducible refine c2r (spec_ApplyEntry.Mr va vb _ _ qs _ _ us vt vc y.f0 y.f1 y.f2.f0 y.f2.f1 y.f2.f2 y.f2.f3 xa xb xp xs xt xc nn HM.out _ (rc Rp) (rc Rs) (rl Rp) (rl Rs)) B fun APs36 kPs36 ASs36 kSs36 w303 hb B RPs36 QPs36 RSs36 QSs36=>?_
        have Dp_Ps36:=fr QPs36 Rp
        have Ds_Ps36:=fr QPs36 Rs
        have Dv_Ps36:=fr QPs36 Rv
        have Dp_Ss36:=fr QSs36 Rp
        have Ds_Ss36:=fr QSs36 Rs
        have Dv_Ss36:=fr QSs36 Rv
        replace F4:=bn F4 hb
        replace F7:=bn F7 hb
        replace F9:=bn F9 hb
        replace Rp:=rn Rp hb
        replace Rs:=rn Rs hb
        replace Rv:=rn Rv hb
        clear hb
        refine ⟨_,rfl,?_⟩
        refine hK.out _ _ ⟨F7.out,(cb HR1 B)⟩ (fun hHeld=>?_)
        clear hK K
        refine npq (some 36) ?_
        clear QPs36 QSs36
        refine pvq 6 (some 30) (bits 12 639) HT_ ?_
        refine pvq 7 (some 37) (bits 12 767) HT_ ?_
        refine pvq 8 (some 38) (bits 12 1023) HT_ ?_
        refine nmq ?_
        refine norm_ (a':=_) ?_ (J ⟨APs36,kPs36,ASs36,kSs36,g9⟩ _ ⟨B,F4,F7,F9,L9,N4_9,N7_9,Rp,Rs,Rv,RPs36,RSs36,Dp_Ps36,Ds_Ss36⟩)
        simp only [putAll,Act.put,za,zb,zc]
        try rfl
      rintro ⟨APs36,kPs36,ASs36,kSs36,g9⟩ w304 ⟨B,F4,F7,F9,L9,N4_9,N7_9,Rp,Rs,Rv,RPs36,RSs36,Dp_Ps36,Ds_Ss36⟩
      refine norm_ (a':=?_) ?_ ?_
      rotate_left
      ·simp only [putAll,Act.put,za,zb,zc]
       rfl
      refine one_ (i:=10) (N:=none) (bits 12 2047) rfl rfl (one_of HT_.out (by kernel_rfl)) (by decide) (fun K hK=>?_)
      obtain ⟨y0,y1,y2,y3,y4,y5,z0,z1,z2,z3,z4,z5⟩:=cz6 F9
      refine sxs (g:=g9) 0 [.string xa,.string xb,.slice APs36 xp.length kPs36,.slice ASs36 xs.length kSs36,.bool xt,.string xc] [.string xa,.string xb,.slice APs36 xp.length kPs36,.slice ASs36 xs.length kSs36,.bool xt,.string xc] (by rfl) rfl ?hr B F9 L9 rfl (Nat.le_of_ble_eq_true rfl) (fun w305 hk B G=>?_)
      (case hr=>go_simp;first | done | rfl)
      replace F4:=bk F4 hk N4_9.out
      replace F7:=bk F7 hk N7_9.out
      replace Rp:=rk Rp F9 (by decide) hk
      replace Rs:=rk Rs F9 (by decide) hk
      replace Rv:=rk Rv F9 (by decide) hk
      replace RPs36:=rk RPs36 F9 (by decide) hk
      replace RSs36:=rk RSs36 F9 (by decide) hk
      replace F9:=G
      clear hk y0 z0 y1 z1 y2 z2 y3 z3 y4 z4 y5 z5
      refine hK.out _ _ ⟨F7.out,(cb HR1 B)⟩ (fun hHeld=>?_)
      clear hK K
      refine pvq 11 (some 10) (bits 12 4095) HT_ ?_
      refine nmq ?_
      refine done_ (done_of HT_.out (by kernel_rfl)) ?_
      obtain ⟨c9_0,c9_1,c9_2,c9_3,c9_4,c9_5⟩:=cs6 F9)
     all_goals go_wp2_with (first
      | ((with_reducible refine gate_store (t:=38) (p:=7) rfl ?_);obtain ⟨y0,y1,y2,y3,y4,y5,z0,z1,z2,z3,z4,z5⟩:=cz6 F7;refine sxq 38 38 7 0 [.string xa,.string xb,.slice APs36 xp.length kPs36,.slice ASs36 xs.length kSs36,.bool xt,.string xc] [.string xa,.string xb,.slice APs36 xp.length kPs36,.slice ASs36 xs.length kSs36,.bool xt,.string xc] B F7 L7 fun w306 hk B G=>?_;replace F4:=bk F4 hk N4_7.out;replace Rp:=rk Rp F7 (by decide) hk;replace Rs:=rk Rs F7 (by decide) hk;replace Rv:=rk Rv F7 (by decide) hk;replace RPs36:=rk RPs36 F7 (by decide) hk;replace RSs36:=rk RSs36 F7 (by decide) hk;replace F7:=G;clear hk y0 z0 y1 z1 y2 z2 y3 z3 y4 z4 y5 z5)
      | ((with_reducible refine gate_dst (N:=42) rfl ?_);refine lt (Kd.int .i64) 3 ?hg (N:=42) ?hd ([(nn)] : List Int) [.int .i64 (nn)] ?hr (Reps.one (show Kd.M (Kd.int .i64) _ _ _ (nn) [.int .i64 (nn)] from rfl) (Reps.none _ _)) (by simp) B ?_;(case hd | hg=>rfl);(case hr=>go_simp;first | done | rfl);intro z42 hz42 AL42 kL42 w307 hb B RL42 QL42;have Dp_L42:=fr QL42 Rp;have Ds_L42:=fr QL42 Rs;have Dv_L42:=fr QL42 Rv;have DPs36_L42:=fr QL42 RPs36;have DSs36_L42:=fr QL42 RSs36;replace F4:=bn F4 hb;replace F7:=bn F7 hb;replace Rv:=rn Rv hb;replace RPs36:=rn RPs36 hb;replace RSs36:=rn RSs36 hb;clear hb QL42)
      | ((with_reducible refine gate_builtin (b:=.append) (xs:=#[.tmp 40,.tmp 42]) rfl ?_);at_builtin;refine apx (Kd.int .i64) 3 rfl (.tmp 40) (.tmp 42) 58 (.int .i64 0) 8 rfl Try.underlying58 info3 rfl (by decide) (by omega) rfl rfl Rv (rc RL42) (fun _ _ h=>h) (by rw [← hz42];simp only [List.length_cons,List.length_nil];omega) B ?_;intro z43 hz43 AL43 kL43 w308 hg B RL43 hat;replace F4:=bga F4 hg Rv (by decide);replace F7:=bga F7 hg Rv (by decide);replace RPs36:=rga RPs36 rfl hg (dty Rv RPs36 (by decide));replace RSs36:=rga RSs36 rfl hg (dty Rv RSs36 (by decide));clear hg hat))
     go_roundg d
     case measure=>omega
     case rel=>exact ⟨j + 1,xa,xb,_,_,xp,xs,xt,xc,z43,congrArg (Value.int .i64) (Int.natCast_succ _).symm,by omega,by omega,(by rw [← hz43,← hz42];simp only [List.length_append,List.length_cons,List.length_nil];omega),HK,B,F4,F7,RPs36,RSs36,RL43,⟨by rw [← hz43,← hz42];exact HT.out⟩⟩
    ·have cj : decide ((j : Int) < (es.length : Int))=false:=decide_eq_false (by omega)
     have hr:=H.out
     rw [List.drop_of_length_le (by omega)] at hr
     have hr2 : (SM.mk va vb qs us vt vc,vs)=r:=hr
     subst hr2
     clear hr H
     go_wp2_with (first
      | ((with_reducible refine gate_store (t:=38) (p:=4) rfl ?_);obtain ⟨y0,y1,y2,y3,y4,y5,z0,z1,z2,z3,z4,z5⟩:=cz6 F4;refine sxq 38 38 4 0 [.string va,.string vb,.slice Ap qs.length kp,.slice As us.length ks,.bool vt,.string vc] [.string va,.string vb,.slice Ap qs.length kp,.slice As us.length ks,.bool vt,.string vc] B F4 L4 fun w601 hk B G=>?_;replace Rp:=rk Rp F4 (by decide) hk;replace Rs:=rk Rs F4 (by decide) hk;replace Rv:=rk Rv F4 (by decide) hk;replace F4:=G;clear hk y0 z0 y1 z1 y2 z2 y3 z3 y4 z4 y5 z5))
     refine bodyPost_ret (results_list (rs:=[.cell 4 38,.tmp 5]) rfl (by simp) (.cell g4 38 _ (0,0) _ rfl F4.out hu rfl (by kernel_rfl) (.tmp .nil))) rfl ?_
     exact ⟨_,_,_,rfl,Rp.out,Rs.out,Rv.out,B.out⟩


theorem impl_Replay.M (a b : ByteArray) (AP : Option Addr) (cP : Nat) (ps : List S105) (AS : Option Addr) (cS : Nat) (ss : List S76) (t : Bool) (c : ByteArray) (A1 : Option Addr) (c1 : Nat) (es : List S44) (w : World) (hrp : Kd.C k105 w AP ps.length ps) (hrs : Kd.C k76 w AS ss.length ss) (hcp : ps.length≤cP) (hcs : ss.length≤cS) (hr1 : Kd.C k44 w A1 es.length es) : Calls Try.prog 25 #[.agg #[.string a,.string b,.slice AP ps.length cP,.slice AS ss.length cS,.bool t,.string c],.slice A1 es.length c1] w fun e w'=>∃ v2 v3 v4,e=.returned (.tuple #[.agg #[.string (rpM ⟨a,b,ps,ss,t,c⟩ es).1.a,.string (rpM ⟨a,b,ps,ss,t,c⟩ es).1.b,v2,v3,.bool (rpM ⟨a,b,ps,ss,t,c⟩ es).1.t,.string (rpM ⟨a,b,ps,ss,t,c⟩ es).1.c],v4])∧Kd.R k105 105 w' w.heap.size (fun _=>True) v2 (rpM ⟨a,b,ps,ss,t,c⟩ es).1.ps∧Kd.R k76 76 w' w.heap.size (fun _=>True) v3 (rpM ⟨a,b,ps,ss,t,c⟩ es).1.ss∧Kd.R (Kd.int .i64) 3 w' w.heap.size (fun _=>True) v4 (rpM ⟨a,b,ps,ss,t,c⟩ es).2∧Below w.heap.size w w':=by
 have B:=Aside0.mk (Below.refl w.heap.size w)
 have hu:=Try.underlying38
 have hu2:=Try.underlying34
 have HRP:=Aside0.mk hrp
 have HRS:=Aside0.mk hrs
 have HCP:=Aside0.mk hcp
 have HCS:=Aside0.mk hcs
 clear hrp hrs hcp hcs
 have HR1:=Aside0.mk hr1
 have h63:=hr1.2.1
 clear hr1
 have hu3:=Try.underlying44
 cases hs : stB a b ps ss t c with
 | false =>
  rw [rpM_bad (s:=⟨a,b,ps,ss,t,c⟩) (l:=es) (by unfold SM.ok;rw [hs];simp)]
  go_enter Try.func25,Try.ntmps25
  go_wp2_with (first
   | ((with_reducible refine gate_dst (N:=2) rfl ?_);refine bxq 2 #[.string a,.string b,.slice AP ps.length cP,.slice AS ss.length cS,.bool t,.string c] 38 B fun g2 w1 hb B F2 L2 E2=>?_;obtain ⟨c2_0,c2_1,c2_2,c2_3,c2_4,c2_5⟩:=cs6 F2;clear hb E2)
   | ((with_reducible refine gate_dst (N:=4) rfl ?_);refine bxq 4 #[.string (⟨#[]⟩ : ByteArray),.string (⟨#[]⟩ : ByteArray),.slice none 0 0,.slice none 0 0,.bool false,.string (⟨#[]⟩ : ByteArray)] 38 B fun g4 w2 hb B F4 L4 E4=>?_;have N2_4:=ne1 E4 F2;replace F2:=bn F2 hb;clear c2_0 c2_1 c2_2 c2_3 c2_4 c2_5;obtain ⟨c2_0,c2_1,c2_2,c2_3,c2_4,c2_5⟩:=cs6 F2;clear hb E4)
   | (go_at_call 18;with_reducible refine cl (impl_StateValid.M a b _ _ ps _ _ ss t c _ (cb HRP B) (cb HRS B)) B fun w3 hb B=>?_;replace F2:=bn F2 hb;replace F4:=bn F4 hb;clear hb)
   | (go_at_call 75;with_reducible refine cl (impl_entriesValid.M _ _ es _ (cb HR1 B)) B fun w4 hb B=>?_;replace F2:=bn F2 hb;replace F4:=bn F4 hb;clear hb)
   | ((with_reducible refine gate_store (t:=38) (p:=4) rfl ?_);obtain ⟨y0,y1,y2,y3,y4,y5,z0,z1,z2,z3,z4,z5⟩:=cz6 F4;refine sxq 38 38 4 0 [.string (⟨#[]⟩ : ByteArray),.string (⟨#[]⟩ : ByteArray),.slice none 0 0,.slice none 0 0,.bool false,.string (⟨#[]⟩ : ByteArray)] [.string (⟨#[]⟩ : ByteArray),.string (⟨#[]⟩ : ByteArray),.slice none 0 0,.slice none 0 0,.bool false,.string (⟨#[]⟩ : ByteArray)] B F4 L4 fun w5 hk B G=>?_;replace F2:=bk F2 hk N2_4.out;replace F4:=G;clear hk y0 z0 y1 z1 y2 z2 y3 z3 y4 z4 y5 z5))
  all_goals (refine bodyPost_ret (results_list (rs:=[.cell 4 38,.tmp 5]) rfl (by simp) (.cell g4 38 _ (0,0) _ rfl F4.out hu rfl (by kernel_rfl) (.tmp .nil))) rfl ?_;exact ⟨_,_,_,rfl,Kd.R_nil _ _ _ _ _,Kd.R_nil _ _ _ _ _,Kd.R_nil _ _ _ _ _,B.out⟩)
 | true =>
  cases hl : logB es with
  | false =>
   rw [rpM_bad (s:=⟨a,b,ps,ss,t,c⟩) (l:=es) (by rw [hl];simp)]
   go_enter Try.func25,Try.ntmps25
   go_wp2_with (first
    | ((with_reducible refine gate_dst (N:=2) rfl ?_);refine bxq 2 #[.string a,.string b,.slice AP ps.length cP,.slice AS ss.length cS,.bool t,.string c] 38 B fun g2 w101 hb B F2 L2 E2=>?_;obtain ⟨c2_0,c2_1,c2_2,c2_3,c2_4,c2_5⟩:=cs6 F2;clear hb E2)
    | ((with_reducible refine gate_dst (N:=4) rfl ?_);refine bxq 4 #[.string (⟨#[]⟩ : ByteArray),.string (⟨#[]⟩ : ByteArray),.slice none 0 0,.slice none 0 0,.bool false,.string (⟨#[]⟩ : ByteArray)] 38 B fun g4 w102 hb B F4 L4 E4=>?_;have N2_4:=ne1 E4 F2;replace F2:=bn F2 hb;clear c2_0 c2_1 c2_2 c2_3 c2_4 c2_5;obtain ⟨c2_0,c2_1,c2_2,c2_3,c2_4,c2_5⟩:=cs6 F2;clear hb E4)
    | (go_at_call 18;with_reducible refine cl (impl_StateValid.M a b _ _ ps _ _ ss t c _ (cb HRP B) (cb HRS B)) B fun w103 hb B=>?_;replace F2:=bn F2 hb;replace F4:=bn F4 hb;clear hb)
    | (go_at_call 75;with_reducible refine cl (impl_entriesValid.M _ _ es _ (cb HR1 B)) B fun w104 hb B=>?_;replace F2:=bn F2 hb;replace F4:=bn F4 hb;clear hb)
    | ((with_reducible refine gate_store (t:=38) (p:=4) rfl ?_);obtain ⟨y0,y1,y2,y3,y4,y5,z0,z1,z2,z3,z4,z5⟩:=cz6 F4;refine sxq 38 38 4 0 [.string (⟨#[]⟩ : ByteArray),.string (⟨#[]⟩ : ByteArray),.slice none 0 0,.slice none 0 0,.bool false,.string (⟨#[]⟩ : ByteArray)] [.string (⟨#[]⟩ : ByteArray),.string (⟨#[]⟩ : ByteArray),.slice none 0 0,.slice none 0 0,.bool false,.string (⟨#[]⟩ : ByteArray)] B F4 L4 fun w105 hk B G=>?_;replace F2:=bk F2 hk N2_4.out;replace F4:=G;clear hk y0 z0 y1 z1 y2 z2 y3 z3 y4 z4 y5 z5))
   all_goals (refine bodyPost_ret (results_list (rs:=[.cell 4 38,.tmp 5]) rfl (by simp) (.cell g4 38 _ (0,0) _ rfl F4.out hu rfl (by kernel_rfl) (.tmp .nil))) rfl ?_;exact ⟨_,_,_,rfl,Kd.R_nil _ _ _ _ _,Kd.R_nil _ _ _ _ _,Kd.R_nil _ _ _ _ _,B.out⟩)
  | true =>
   have hok : (SM.mk a b ps ss t c).ok=true:=hs
   obtain ⟨hpl0,hsl0⟩:=ok_len hok
   have hpl : ps.length≤1000000:=Nat.le_trans hpl0 (by decide)
   have hsl : ss.length≤1000000:=Nat.le_trans hsl0 (by decide)
   clear hpl0 hsl0
   obtain ⟨hes,hal⟩:=logB_parts hl
   have HAL:=Aside0.mk (List.all_eq_true.mp hal)
   obtain ⟨r,hr⟩ : ∃ r,es.foldl stepE (⟨a,b,ps,ss,t,c⟩,[])=r:=⟨_,rfl⟩
   rw [rpM_go hok hl,hr]
   have H:=Aside0.mk (show (es.drop 0).foldl stepE (⟨a,b,ps,ss,t,c⟩,[])=r from hr)
   have HOK:=Aside0.mk hok
   clear hr hal hok
   go_enter Try.func25,Try.ntmps25
   go_wp2_with (first
    | ((with_reducible refine gate_dst (N:=2) rfl ?_);refine bxq 2 #[.string a,.string b,.slice AP ps.length cP,.slice AS ss.length cS,.bool t,.string c] 38 B fun g2 w201 hb B F2 L2 E2=>?_;obtain ⟨c2_0,c2_1,c2_2,c2_3,c2_4,c2_5⟩:=cs6 F2;clear hb E2)
    | ((with_reducible refine gate_dst (N:=4) rfl ?_);refine bxq 4 #[.string (⟨#[]⟩ : ByteArray),.string (⟨#[]⟩ : ByteArray),.slice none 0 0,.slice none 0 0,.bool false,.string (⟨#[]⟩ : ByteArray)] 38 B fun g4 w202 hb B F4 L4 E4=>?_;replace F2:=bn F2 hb;clear c2_0 c2_1 c2_2 c2_3 c2_4 c2_5;obtain ⟨c2_0,c2_1,c2_2,c2_3,c2_4,c2_5⟩:=cs6 F2;clear hb E4)
    | (go_at_call 18;with_reducible refine cl (impl_StateValid.M a b _ _ ps _ _ ss t c _ (cb HRP B) (cb HRS B)) B fun w203 hb B=>?_;replace F2:=bn F2 hb;replace F4:=bn F4 hb;clear c2_0 c2_1 c2_2 c2_3 c2_4 c2_5;obtain ⟨c2_0,c2_1,c2_2,c2_3,c2_4,c2_5⟩:=cs6 F2;clear hb)
    | (go_at_call 75;with_reducible refine cl (impl_entriesValid.M _ _ es _ (cb HR1 B)) B fun w204 hb B=>?_;replace F2:=bn F2 hb;replace F4:=bn F4 hb;clear c2_0 c2_1 c2_2 c2_3 c2_4 c2_5;obtain ⟨c2_0,c2_1,c2_2,c2_3,c2_4,c2_5⟩:=cs6 F2;clear hb)
    | (go_at_call 49;with_reducible refine c2r (impl_copyState.M a b _ _ ps _ _ ss t c _ (cb HRP B) (cb HRS B) HCP.out HCS.out (by omega) (by omega)) B fun AP205 kP205 AS205 kS205 w205 hb B RP205 QP205 RS205 QS205=>?_;have DP205_S205:=Aside0.mk (dty RP205 RS205 (by decide));replace F4:=bn F4 hb;clear QP205 QS205;clear hb)
    | ((with_reducible refine gate_dst (N:=6) rfl ?_);refine bxq 6 #[.string (⟨#[]⟩ : ByteArray),.string (⟨#[]⟩ : ByteArray),.slice none 0 0,.slice none 0 0,.bool false,.string (⟨#[]⟩ : ByteArray)] 38 B fun g6 w206 hb B F6 L6 E6=>?_;have N4_6:=ne1 E6 F4;replace F4:=bn F4 hb;replace RP205:=rn RP205 hb;replace RS205:=rn RS205 hb;clear hb E6)
    | ((with_reducible refine gate_store (t:=38) (p:=6) rfl ?_);obtain ⟨y0,y1,y2,y3,y4,y5,z0,z1,z2,z3,z4,z5⟩:=cz6 F6;refine sxq 38 38 6 0 [.string a,.string b,.slice AP205 ps.length kP205,.slice AS205 ss.length kS205,.bool t,.string c] [.string a,.string b,.slice AP205 ps.length kP205,.slice AS205 ss.length kS205,.bool t,.string c] B F6 L6 fun w207 hk B G=>?_;replace F4:=bk F4 hk N4_6.out;replace RP205:=rk RP205 F6 (by decide) hk;replace RS205:=rk RS205 F6 (by decide) hk;replace F6:=G;clear hk y0 z0 y1 z1 y2 z2 y3 z3 y4 z4 y5 z5))
   clear hs hl
   go_loopg [7,24] (es.length + 1) (fun kx v7 v24 wr=>∃ (j : Nat) (va vb : ByteArray) (v2 v3 : Value) (qs : List S105) (us : List S76) (vt : Bool) (vc : ByteArray) (vs : List Int),v24=.int .i64 (j : Int)∧j≤es.length∧es.length < j + kx∧vs.length≤j∧Aside0 ((SM.mk va vb qs us vt vc).ok=true)∧Aside0 (Below w.heap.size w wr)∧Aside0 (wr.heap[g4]?=some (.cells #[.string (⟨#[]⟩ : ByteArray),.string (⟨#[]⟩ : ByteArray),.slice none 0 0,.slice none 0 0,.bool false,.string (⟨#[]⟩ : ByteArray)] 38 (0,0)))∧Aside0 (wr.heap[g6]?=some (.cells #[.string va,.string vb,v2,v3,.bool vt,.string vc] 38 (0,0)))∧Aside0 (Ow k105 105 wr w.heap.size v2 qs)∧Aside0 (Ow k76 76 wr w.heap.size v3 us)∧Aside0 (Ow (Kd.int .i64) 3 wr w.heap.size v7 vs)∧Aside0 ((es.drop j).foldl stepE (⟨va,vb,qs,us,vt,vc⟩,vs)=r))
   case atStart=>exact ⟨0,_,_,_,_,_,_,_,_,[],rfl,by omega,by omega,by simp,HOK,B,F4,F6,RP205,RS205,⟨Kd.R_nil _ _ _ _ _⟩,H⟩
   case round =>
    clear H B F4 F6 RP205 RS205 HOK
    obtain ⟨j,va,vb,v2,v3,qs,us,vt,vc,vs,rfl,hj,hk,hvl,HOK,B,F4,F6,Rp,Rs,Rv,H⟩:=hrel
    obtain ⟨Ap,kp,rfl⟩:=Kd.R_slice Rp.out
    obtain ⟨As,ks,rfl⟩:=Kd.R_slice Rs.out
    obtain ⟨Av,kv,rfl⟩:=Kd.R_slice Rv.out
    obtain ⟨c4_0,c4_1,c4_2,c4_3,c4_4,c4_5⟩:=cs6 F4
    obtain ⟨c6_0,c6_1,c6_2,c6_3,c6_4,c6_5⟩:=cs6 F6
    by_cases hlt : j < es.length
    ·have HS:=H.out
     rw [en_drop hlt,List.foldl_cons] at HS
     have hen:=HAL.out (rd_T44 es (j : Int)) (by rw [en_nat hlt];exact List.getElem_mem hlt)
     clear H
     obtain ⟨d,rfl⟩ : ∃ d,gk=d + 1:=⟨gk - 1,by omega⟩
     have cj : decide ((j : Int) < (es.length : Int))=true:=decide_eq_true (by omega)
     obtain ⟨ad,hA,y0,y1,y2,y3,y4,y5⟩:=at_T44 (cb HR1 B) (j : Int) (by omega) (by omega)
     cases hA
     rw [Int.toNat_natCast] at y0 y1 y2 y3 y4 y5
     have j1:=eq_true (show (j : Int) < (es.length : Int) by omega)
     have j2:=eq_true hlt
     generalize hy : rd_T44 es (j : Int)=y at *
     obtain ⟨hk1,-,-,-⟩:=aeM_after HOK.out hen
     obtain ⟨⟨⟨xa,xb,xp,xs,xt,xc⟩,nn⟩,hm⟩ : ∃ r,aeM ⟨va,vb,qs,us,vt,vc⟩ y.f0 y.f1 y.f2.f0 y.f2.f1 y.f2.f2 y.f2.f3=r:=⟨_,rfl⟩
     rw [hm] at hk1
     rw [show stepE (⟨va,vb,qs,us,vt,vc⟩,vs) y=(⟨xa,xb,xp,xs,xt,xc⟩,vs ++ [nn]) by unfold stepE aeE;rw [hm]] at HS
     have HM:=Aside0.mk hm
     have HT:=Aside0.mk HS
     have HK:=Aside0.mk hk1
     clear hm HS hk1 hen HOK
     go_wp2_with (first
      | ((with_reducible refine gate_dst (N:=9) rfl ?_);refine bxq 9 #[.int .i64 (0),.int .i64 (0),.int .i64 (0),.string (⟨#[]⟩ : ByteArray),.int .i64 (0),.int .i64 (0)] 44 B fun g9 w301 hb B F9 L9 E9=>?_;have N4_9:=ne1 E9 F4;have N6_9:=ne1 E9 F6;replace F4:=bn F4 hb;replace F6:=bn F6 hb;replace Rp:=rn Rp hb;replace Rs:=rn Rs hb;replace Rv:=rn Rv hb;clear c6_0 c6_1 c6_2 c6_3 c6_4 c6_5;obtain ⟨c6_0,c6_1,c6_2,c6_3,c6_4,c6_5⟩:=cs6 F6;obtain ⟨c9_0,c9_1,c9_2,c9_3,c9_4,c9_5⟩:=cs6 F9;clear hb E9)
      | ((with_reducible refine gate_store (t:=44) (p:=9) rfl ?_);obtain ⟨y0,y1,y2,y3,y4,y5,z0,z1,z2,z3,z4,z5⟩:=cz6 F9;refine sxq 44 44 9 0 [.int .i64 (y.f0),.int .i64 (y.f1),.int .i64 (y.f2.f0),.string y.f2.f1,.int .i64 (y.f2.f2),.int .i64 (y.f2.f3)] [.int .i64 (y.f0),.int .i64 (y.f1),.int .i64 (y.f2.f0),.string y.f2.f1,.int .i64 (y.f2.f2),.int .i64 (y.f2.f3)] B F9 L9 fun w302 hk B G=>?_;replace F4:=bk F4 hk N4_9.out;replace F6:=bk F6 hk N6_9.out;replace Rp:=rk Rp F9 (by decide) hk;replace Rs:=rk Rs F9 (by decide) hk;replace Rv:=rk Rv F9 (by decide) hk;replace F9:=G;clear c6_0 c6_1 c6_2 c6_3 c6_4 c6_5;obtain ⟨c6_0,c6_1,c6_2,c6_3,c6_4,c6_5⟩:=cs6 F6;clear c9_0 c9_1 c9_2 c9_3 c9_4 c9_5;obtain ⟨c9_0,c9_1,c9_2,c9_3,c9_4,c9_5⟩:=cs6 F9;clear hk y0 z0 y1 z1 y2 z2 y3 z3 y4 z4 y5 z5)
      | (go_at_call 12;with_reducible refine c2r (impl_ApplyEntry.Mr va vb _ _ qs _ _ us vt vc y.f0 y.f1 y.f2.f0 y.f2.f1 y.f2.f2 y.f2.f3 xa xb xp xs xt xc nn HM.out _ (rc Rp) (rc Rs) (rl Rp) (rl Rs)) B fun AP303 kP303 AS303 kS303 w303 hb B RP303 QP303 RS303 QS303=>?_;have Dp_P303:=fr QP303 Rp;have Ds_P303:=fr QP303 Rs;have Dv_P303:=fr QP303 Rv;have Dp_S303:=fr QS303 Rp;have Ds_S303:=fr QS303 Rs;have Dv_S303:=fr QS303 Rv;replace F4:=bn F4 hb;replace F6:=bn F6 hb;replace Rp:=rn Rp hb;replace Rs:=rn Rs hb;replace Rv:=rn Rv hb;clear QP303 QS303;clear hb)
      | ((with_reducible refine gate_store (t:=38) (p:=6) rfl ?_);obtain ⟨y0,y1,y2,y3,y4,y5,z0,z1,z2,z3,z4,z5⟩:=cz6 F6;refine sxq 38 38 6 0 [.string xa,.string xb,.slice AP303 xp.length kP303,.slice AS303 xs.length kS303,.bool xt,.string xc] [.string xa,.string xb,.slice AP303 xp.length kP303,.slice AS303 xs.length kS303,.bool xt,.string xc] B F6 L6 fun w304 hk B G=>?_;replace F4:=bk F4 hk N4_6.out;replace Rp:=rk Rp F6 (by decide) hk;replace Rs:=rk Rs F6 (by decide) hk;replace Rv:=rk Rv F6 (by decide) hk;replace RP303:=rk RP303 F6 (by decide) hk;replace RS303:=rk RS303 F6 (by decide) hk;replace F6:=G;clear hk y0 z0 y1 z1 y2 z2 y3 z3 y4 z4 y5 z5)
      | ((with_reducible refine gate_dst (N:=36) rfl ?_);refine lt (Kd.int .i64) 3 ?hg (N:=36) ?hd ([(nn)] : List Int) [.int .i64 (nn)] ?hr (Reps.one (show Kd.M (Kd.int .i64) _ _ _ (nn) [.int .i64 (nn)] from rfl) (Reps.none _ _)) (by simp) B ?_;(case hd | hg=>rfl);(case hr=>go_simp;first | done | rfl);intro z36 hz36 AL36 kL36 w305 hb B RL36 QL36;have Dp_L36:=fr QL36 Rp;have Ds_L36:=fr QL36 Rs;have Dv_L36:=fr QL36 Rv;have DP303_L36:=fr QL36 RP303;have DS303_L36:=fr QL36 RS303;replace F4:=bn F4 hb;replace F6:=bn F6 hb;replace Rv:=rn Rv hb;replace RP303:=rn RP303 hb;replace RS303:=rn RS303 hb;clear hb QL36)
      | ((with_reducible refine gate_builtin (b:=.append) (xs:=#[.tmp 34,.tmp 36]) rfl ?_);at_builtin;refine apx (Kd.int .i64) 3 rfl (.tmp 34) (.tmp 36) 58 (.int .i64 0) 8 rfl Try.underlying58 info3 rfl (by decide) (by omega) rfl rfl Rv (rc RL36) (fun _ _ h=>h) (by rw [← hz36];simp only [List.length_cons,List.length_nil];omega) B ?_;intro z37 hz37 AL37 kL37 w306 hg B RL37 hat;replace F4:=bga F4 hg Rv (by decide);replace F6:=bga F6 hg Rv (by decide);replace RP303:=rga RP303 rfl hg (dty Rv RP303 (by decide));replace RS303:=rga RS303 rfl hg (dty Rv RS303 (by decide));clear hg hat))
     go_roundg d
     case measure=>omega
     case rel=>exact ⟨j + 1,xa,xb,_,_,xp,xs,xt,xc,z37,congrArg (Value.int .i64) (Int.natCast_succ _).symm,by omega,by omega,(by rw [← hz37,← hz36];simp only [List.length_append,List.length_cons,List.length_nil];omega),HK,B,F4,F6,RP303,RS303,RL37,⟨by rw [← hz37,← hz36];exact HT.out⟩⟩
    ·have cj : decide ((j : Int) < (es.length : Int))=false:=decide_eq_false (by omega)
     have hr:=H.out
     rw [List.drop_of_length_le (by omega)] at hr
     have hr2 : (SM.mk va vb qs us vt vc,vs)=r:=hr
     subst hr2
     clear hr H
     go_wp2_with (first
      | ((with_reducible refine gate_store (t:=38) (p:=4) rfl ?_);obtain ⟨y0,y1,y2,y3,y4,y5,z0,z1,z2,z3,z4,z5⟩:=cz6 F4;refine sxq 38 38 4 0 [.string va,.string vb,.slice Ap qs.length kp,.slice As us.length ks,.bool vt,.string vc] [.string va,.string vb,.slice Ap qs.length kp,.slice As us.length ks,.bool vt,.string vc] B F4 L4 fun w601 hk B G=>?_;replace Rp:=rk Rp F4 (by decide) hk;replace Rs:=rk Rs F4 (by decide) hk;replace Rv:=rk Rv F4 (by decide) hk;replace F4:=G;clear hk y0 z0 y1 z1 y2 z2 y3 z3 y4 z4 y5 z5))
     refine bodyPost_ret (results_list (rs:=[.cell 4 38,.tmp 5]) rfl (by simp) (.cell g4 38 _ (0,0) _ rfl F4.out hu rfl (by kernel_rfl) (.tmp .nil))) rfl ?_
     exact ⟨_,_,_,rfl,Rp.out,Rs.out,Rv.out,B.out⟩

/-- a call that gives three rows -/
theorem c3r {P : Program} {F : FuncId} {args : Array Value} {w W : World} {Q : Ending→World→Prop} {α β γ : Type} {d : Kd α} {d' : Kd β} {d2 : Kd γ} {e e' e2 : Nat} {xs : List α} {ys : List β} {zs : List γ} {f : Value→Value→Value→Value} (c : Calls P F args W fun r w'=>∃ v1 v2 v3,r=.returned (f v1 v2 v3)∧Kd.R d e w' W.heap.size (fun _=>True) v1 xs∧Kd.R d' e' w' W.heap.size (fun _=>True) v2 ys∧Kd.R d2 e2 w' W.heap.size (fun _=>True) v3 zs∧Below W.heap.size W w') (B : Aside0 (Below w.heap.size w W))
    (h : ∀ A kk A' kk' A2 kk2 W',Below W.heap.size W W'→Aside0 (Below w.heap.size w W')→Aside0 (Ow d e W' w.heap.size (.slice A xs.length kk) xs)→Aside0 (Fr W (.slice A xs.length kk))→Aside0 (Ow d' e' W' w.heap.size (.slice A' ys.length kk') ys)→Aside0 (Fr W (.slice A' ys.length kk'))→Aside0 (Ow d2 e2 W' w.heap.size (.slice A2 zs.length kk2) zs)→Aside0 (Fr W (.slice A2 zs.length kk2)) →
      Q (.returned (f (.slice A xs.length kk) (.slice A' ys.length kk') (.slice A2 zs.length kk2))) W') : Calls P F args W Q :=
  c.mono (by
    rintro r W' ⟨v1,v2,v3,rfl,ho,ho',ho2,hb⟩
    obtain ⟨A,kk,rfl⟩:=Kd.R_slice ho
    obtain ⟨A',kk',rfl⟩:=Kd.R_slice ho'
    obtain ⟨A2,kk2,rfl⟩:=Kd.R_slice ho2
    exact h A kk A' kk' A2 kk2 W' hb ⟨below_step B.out hb⟩ ⟨Kd.R_lower ho (below_size B.out)⟩ ⟨fun k hk=>Kd.R_base ho k hk⟩ ⟨Kd.R_lower ho' (below_size B.out)⟩ ⟨fun k hk=>Kd.R_base ho' k hk⟩ ⟨Kd.R_lower ho2 (below_size B.out)⟩ ⟨fun k hk=>Kd.R_base ho2 k hk⟩)

theorem spec_Replay.Mr (a b : ByteArray) (AP : Option Addr) (cP : Nat) (ps : List S105) (AS : Option Addr) (cS : Nat) (ss : List S76) (t : Bool) (c : ByteArray) (A1 : Option Addr) (c1 : Nat) (es : List S44) (xa xb : ByteArray) (xp : List S105) (xs : List S76) (xt : Bool) (xc : ByteArray) (rr : List Int) (hm : rpM ⟨a,b,ps,ss,t,c⟩ es=(⟨xa,xb,xp,xs,xt,xc⟩,rr)) (w : World) (hrp : Kd.C k105 w AP ps.length ps) (hrs : Kd.C k76 w AS ss.length ss) (hcp : ps.length≤cP) (hcs : ss.length≤cS) (hr1 : Kd.C k44 w A1 es.length es) : Calls Try.prog 23 #[.agg #[.string a,.string b,.slice AP ps.length cP,.slice AS ss.length cS,.bool t,.string c],.slice A1 es.length c1] w fun e w'=>∃ v2 v3 v4,e=.returned (.tuple #[.agg #[.string xa,.string xb,v2,v3,.bool xt,.string xc],v4])∧Kd.R k105 105 w' w.heap.size (fun _=>True) v2 xp∧Kd.R k76 76 w' w.heap.size (fun _=>True) v3 xs∧Kd.R (Kd.int .i64) 3 w' w.heap.size (fun _=>True) v4 rr∧Below w.heap.size w w':=by
 have h:=spec_Replay.M a b AP cP ps AS cS ss t c A1 c1 es w hrp hrs hcp hcs hr1
 rw [hm] at h
 exact h
theorem impl_Replay.Mr (a b : ByteArray) (AP : Option Addr) (cP : Nat) (ps : List S105) (AS : Option Addr) (cS : Nat) (ss : List S76) (t : Bool) (c : ByteArray) (A1 : Option Addr) (c1 : Nat) (es : List S44) (xa xb : ByteArray) (xp : List S105) (xs : List S76) (xt : Bool) (xc : ByteArray) (rr : List Int) (hm : rpM ⟨a,b,ps,ss,t,c⟩ es=(⟨xa,xb,xp,xs,xt,xc⟩,rr)) (w : World) (hrp : Kd.C k105 w AP ps.length ps) (hrs : Kd.C k76 w AS ss.length ss) (hcp : ps.length≤cP) (hcs : ss.length≤cS) (hr1 : Kd.C k44 w A1 es.length es) : Calls Try.prog 25 #[.agg #[.string a,.string b,.slice AP ps.length cP,.slice AS ss.length cS,.bool t,.string c],.slice A1 es.length c1] w fun e w'=>∃ v2 v3 v4,e=.returned (.tuple #[.agg #[.string xa,.string xb,v2,v3,.bool xt,.string xc],v4])∧Kd.R k105 105 w' w.heap.size (fun _=>True) v2 xp∧Kd.R k76 76 w' w.heap.size (fun _=>True) v3 xs∧Kd.R (Kd.int .i64) 3 w' w.heap.size (fun _=>True) v4 rr∧Below w.heap.size w w':=by
 have h:=impl_Replay.M a b AP cP ps AS cS ss t c A1 c1 es w hrp hrs hcp hcs hr1
 rw [hm] at h
 exact h
theorem rpM_len (s : SM) (l : List S44) : (rpM s l).1.ps.length≤48∧(rpM s l).1.ss.length≤4∧(rpM s l).2.length≤24:=by
 by_cases h : s.ok=true∧logB l=true
 ·obtain ⟨h1,h2,-⟩:=rpM_ok h.1 h.2
  obtain ⟨h3,h4⟩:=ok_len h1
  exact ⟨h3,h4,by rw [h2];exact (logB_parts h.2).1⟩
 ·rw [rpM_bad h]
  exact ⟨Nat.zero_le _,Nat.zero_le _,Nat.zero_le _⟩

theorem laws_szInterval.M (a b : ByteArray) (n : Int) (w : World) (hn : 0≤n∧n≤1048576) (ha : a.size≤9223372036854775807) (hb : b.size≤9223372036854775807) : Calls Try.prog 33 #[.agg #[.string a,.string b],.int .i64 n] w fun e w'=>∃ v : Int,e=.returned (.int .i64 v)∧(v < 0 ∨ 0≤v∧v≤n)∧Below w.heap.size w w':=by
 have B:=Aside0.mk (Below.refl w.heap.size w)
 have hu:=Try.underlying23
 go_enter Try.func33,Try.ntmps33
 go_wp2_with (first
  | ((with_reducible refine gate_dst (N:=2) rfl ?_);refine bxq 2 #[.string a,.string b] 23 B fun g2 w1 hb B F2 L2 E2=>?_;obtain ⟨c2_0,c2_1⟩:=cs2 F2;clear hb E2))
 all_goals go_ret
 all_goals (refine ⟨_,rfl,?_,B.out⟩;omega)
theorem laws_szPair.M (a : ByteArray) (b n : Int) (w : World) (hn : 0≤n∧n≤1048576) (ha : a.size≤9223372036854775807) : Calls Try.prog 79 #[.agg #[.string a,.int .i64 b],.int .i64 n] w fun e w'=>∃ v : Int,e=.returned (.int .i64 v)∧(v < 0 ∨ 0≤v∧v≤n)∧Below w.heap.size w w':=by
 have B:=Aside0.mk (Below.refl w.heap.size w)
 have hu:=Try.underlying114
 go_enter Try.func79,Try.ntmps79
 go_wp2_with (first
  | ((with_reducible refine gate_dst (N:=2) rfl ?_);refine bxq 2 #[.string a,.int .i64 (b)] 114 B fun g2 w1 hb B F2 L2 E2=>?_;obtain ⟨c2_0,c2_1⟩:=cs2 F2;clear hb E2))
 all_goals go_ret
 all_goals (refine ⟨_,rfl,?_,B.out⟩;omega)
theorem laws_szPairS.M (A0 : Option Addr) (c0 : Nat) (l : List S114) (n : Int) (w : World) (hr0 : Kd.C k114 w A0 l.length l) (hn : 0≤n∧n≤1048576) (hs : ∀ y ∈ l,y.f0.size≤9223372036854775807) : Calls Try.prog 34 #[.slice A0 l.length c0,.int .i64 n] w fun e w'=>∃ v : Int,e=.returned (.int .i64 v)∧(v < 0 ∨ 0≤v∧v≤n∧(l.length : Int)≤n)∧Below w.heap.size w w':=by
 have B:=Aside0.mk (Below.refl w.heap.size w)
 have hu:=Try.underlying114
 have HR0:=Aside0.mk hr0
 have hm:=hr0.2.1
 have HS:=Aside0.mk hs
 clear hr0 hs
 go_enter Try.func34,Try.ntmps34
 go_wp2
 ·go_ret
  exact ⟨-1,rfl,by omega,B.out⟩
 ·go_loopg [1,5] (l.length + 1) (fun kx v1 v5 wr=>∃ (j : Nat) (m : Int),v1=.int .i64 m∧v5=.int .i64 (j : Int)∧j≤l.length∧l.length < j + kx∧0≤m∧m≤n∧Aside0 (Below w.heap.size w wr))
  case atStart=>exact ⟨0,_,rfl,rfl,by omega,by omega,by omega,by omega,B⟩
  case round =>
   clear B
   obtain ⟨j,m,rfl,rfl,hj,hk,hm0,hm1,B⟩:=hrel
   by_cases hlt : j < l.length
   ·obtain ⟨d,rfl⟩ : ∃ d,gk=d + 1:=⟨gk - 1,by omega⟩
    have cj : decide ((j : Int) < (l.length : Int))=true:=decide_eq_true (by omega)
    obtain ⟨ad,hA,y0,y1⟩:=at_T114 (cb HR0 B) (j : Int) (by omega) (by omega)
    cases hA
    have hz:=HS.out (rd_T114 l (j : Int)) (by simp [rd_T114,List.getD_eq_getElem?_getD,List.getElem?_eq_getElem hlt])
    rw [Int.toNat_natCast] at y0 y1
    have j1:=eq_true (show (j : Int) < (l.length : Int) by omega)
    have j2:=eq_true hlt
    generalize hy : rd_T114 l (j : Int)=y at *
    go_wp2_with (first
     | (go_at_call 79;with_reducible refine cx (laws_szPair.M y.f0 y.f1 m _ (by omega) (by omega)) B fun v1 hv1 w1 hb B=>?_;clear hb))
    all_goals first
     | (go_roundg d;(case measure=>omega);(case rel=>exact ⟨j + 1,_,rfl,congrArg (Value.int .i64) (Int.natCast_succ _).symm,by omega,by omega,by omega,by omega,B⟩))
     | (go_ret;exact ⟨-1,rfl,by omega,B.out⟩)
   ·have cj : decide ((j : Int) < (l.length : Int))=false:=decide_eq_false (by omega)
    go_wp2
    go_ret
    exact ⟨m,rfl,by omega,B.out⟩
theorem laws_szSessionS.M (A0 : Option Addr) (c0 : Nat) (l : List S123) (n : Int) (w : World) (hr0 : Kd.C k123 w A0 l.length l) (hn : 0≤n∧n≤1048576) : Calls Try.prog 35 #[.slice A0 l.length c0,.int .i64 n] w fun e w'=>∃ v : Int,e=.returned (.int .i64 v)∧(v < 0 ∨ 0≤v∧v≤n∧(l.length : Int)≤n)∧Below w.heap.size w w':=by
 have B:=Aside0.mk (Below.refl w.heap.size w)
 have hm:=hr0.2.1
 clear hr0
 go_enter Try.func35,Try.ntmps35
 go_wp2
 all_goals go_ret
 all_goals (refine ⟨_,rfl,?_,B.out⟩;omega)
theorem laws_szCommand.M (k : Int) (x : ByteArray) (v o n : Int) (w : World) (hn : 0≤n∧n≤1048576) (ha : x.size≤9223372036854775807) : Calls Try.prog 36 #[.agg #[.int .i64 k,.string x,.int .i64 v,.int .i64 o],.int .i64 n] w fun e w'=>∃ v : Int,e=.returned (.int .i64 v)∧(v < 0 ∨ 0≤v∧v≤n)∧Below w.heap.size w w':=by
 have B:=Aside0.mk (Below.refl w.heap.size w)
 have hu:=Try.underlying29
 go_enter Try.func36,Try.ntmps36
 go_wp2_with (first
  | ((with_reducible refine gate_dst (N:=2) rfl ?_);refine bxq 2 #[.int .i64 (k),.string x,.int .i64 (v),.int .i64 (o)] 29 B fun g2 w1 hb B F2 L2 E2=>?_;obtain ⟨c2_0,c2_1,c2_2,c2_3⟩:=cs4 F2;clear hb E2))
 all_goals go_ret
 all_goals (refine ⟨_,rfl,?_,B.out⟩;omega)
theorem laws_szState.M (a b : ByteArray) (AP : Option Addr) (cP : Nat) (ps : List S114) (AS : Option Addr) (cS : Nat) (ss : List S123) (t : Bool) (c : ByteArray) (n : Int) (w : World) (hrp : Kd.C k114 w AP ps.length ps) (hrs : Kd.C k123 w AS ss.length ss) (hn : 0≤n∧n≤1048576) (hs : a.size≤9223372036854775807∧b.size≤9223372036854775807∧c.size≤9223372036854775807∧∀ y ∈ ps,y.f0.size≤9223372036854775807) : Calls Try.prog 7 #[.agg #[.string a,.string b,.slice AP ps.length cP,.slice AS ss.length cS,.bool t,.string c],.int .i64 n] w fun e w'=>∃ v : Int,e=.returned (.int .i64 v)∧(v < 0 ∨ 0≤v∧v≤n∧(ps.length : Int)≤n∧(ss.length : Int)≤n)∧Below w.heap.size w w':=by
 have B:=Aside0.mk (Below.refl w.heap.size w)
 have hu:=Try.underlying27
 have HRP:=Aside0.mk hrp
 have HRS:=Aside0.mk hrs
 obtain ⟨ha,hb,hc,hps⟩:=hs
 have HPS:=Aside0.mk hps
 clear hrp hrs hps
 go_enter Try.func7,Try.ntmps7
 go_wp2_with (first
  | ((with_reducible refine gate_dst (N:=2) rfl ?_);refine bxq 2 #[.string a,.string b,.slice AP ps.length cP,.slice AS ss.length cS,.bool t,.string c] 27 B fun g2 w1 hb B F2 L2 E2=>?_;obtain ⟨c2_0,c2_1,c2_2,c2_3,c2_4,c2_5⟩:=cs6 F2;clear hb E2)
  | (go_at_call 33;with_reducible refine cx (laws_szInterval.M a b n _ (by omega) (by omega) (by omega)) B fun v2 hv2 w2 hb B=>?_;replace F2:=bn F2 hb;clear c2_0 c2_1 c2_2 c2_3 c2_4 c2_5;obtain ⟨c2_0,c2_1,c2_2,c2_3,c2_4,c2_5⟩:=cs6 F2;clear hb)
  | (go_at_call 34;with_reducible refine cx (laws_szPairS.M _ _ ps v2 _ (cb HRP B) (by omega) HPS.out) B fun v3 hv3 w3 hb B=>?_;replace F2:=bn F2 hb;clear c2_0 c2_1 c2_2 c2_3 c2_4 c2_5;obtain ⟨c2_0,c2_1,c2_2,c2_3,c2_4,c2_5⟩:=cs6 F2;clear hb)
  | (go_at_call 35;with_reducible refine cx (laws_szSessionS.M _ _ ss v3 _ (cb HRS B) (by omega)) B fun v4 hv4 w4 hb B=>?_;replace F2:=bn F2 hb;clear c2_0 c2_1 c2_2 c2_3 c2_4 c2_5;obtain ⟨c2_0,c2_1,c2_2,c2_3,c2_4,c2_5⟩:=cs6 F2;clear hb))
 all_goals go_ret
 all_goals (refine ⟨_,rfl,?_,B.out⟩;omega)

theorem laws_toInterval.M (x0 : ByteArray) (x1 : ByteArray) (w : World) : Calls Try.prog 45 #[.agg #[.string x0,.string x1]] w fun e w'=>e=.returned (.agg #[.string x0,.string x1])∧Below w.heap.size w w':=by
 have B:=Aside0.mk (Below.refl w.heap.size w)
 have hu:=Try.underlying34
 have hu2:=Try.underlying23
 go_enter Try.func45,Try.ntmps45
 go_wp2_with (first
  | ((with_reducible refine gate_dst (N:=1) rfl ?_);refine bxq 1 #[.string x0,.string x1] 23 B fun g1 w1 hb B F1 L1 E1=>?_;obtain ⟨c1_0,c1_1⟩:=cs2 F1;clear hb E1)
  | ((with_reducible refine gate_dst (N:=2) rfl ?_);refine bxq 2 #[.string (⟨#[]⟩ : ByteArray),.string (⟨#[]⟩ : ByteArray)] 34 B fun g2 w2 hb B F2 L2 E2=>?_;have N1_2:=ne1 E2 F1;replace F1:=bn F1 hb;clear c1_0 c1_1;obtain ⟨c1_0,c1_1⟩:=cs2 F1;clear hb E2)
  | ((with_reducible refine gate_dst (N:=3) rfl ?_);refine bxq 3 #[.string (⟨#[]⟩ : ByteArray),.string (⟨#[]⟩ : ByteArray)] 34 B fun g3 w3 hb B F3 L3 E3=>?_;have N1_3:=ne1 E3 F1;have N2_3:=ne1 E3 F2;replace F1:=bn F1 hb;replace F2:=bn F2 hb;clear c1_0 c1_1;obtain ⟨c1_0,c1_1⟩:=cs2 F1;obtain ⟨c3_0,c3_1⟩:=cs2 F3;clear hb E3)
  | ((with_reducible refine gate_store (t:=9) (p:=6) rfl ?_);obtain ⟨y0,y1,z0,z1⟩:=cz2 F3;refine sxq 34 9 6 0 [.string x0] [.string x0,.string (⟨#[]⟩ : ByteArray)] B F3 L3 fun w4 hk B G=>?_;replace F1:=bk F1 hk N1_3.out;replace F2:=bk F2 hk N2_3.out;replace F3:=G;clear c1_0 c1_1;obtain ⟨c1_0,c1_1⟩:=cs2 F1;clear c3_0 c3_1;obtain ⟨c3_0,c3_1⟩:=cs2 F3;clear hk y0 z0 y1 z1)
  | ((with_reducible refine gate_store (t:=9) (p:=9) rfl ?_);obtain ⟨y0,y1,z0,z1⟩:=cz2 F3;refine sxq 34 9 9 1 [.string x1] [.string x0,.string x1] B F3 L3 fun w5 hk B G=>?_;replace F2:=bk F2 hk N2_3.out;replace F3:=G;clear c3_0 c3_1;obtain ⟨c3_0,c3_1⟩:=cs2 F3;clear hk y0 z0 y1 z1)
  | ((with_reducible refine gate_store (t:=34) (p:=2) rfl ?_);obtain ⟨y0,y1,z0,z1⟩:=cz2 F2;refine sxq 34 34 2 0 [.string x0,.string x1] [.string x0,.string x1] B F2 L2 fun w6 hk B G=>?_;replace F2:=G;clear hk y0 z0 y1 z1))
 refine bodyPost_ret (results_single rfl (.cell g2 34 _ (0,0) _ rfl F2.out hu rfl (by kernel_rfl) .nil)) rfl ?_
 exact ⟨rfl,B.out⟩
theorem laws_toCommand.M (x0 : Int) (x1 : ByteArray) (x2 : Int) (x3 : Int) (w : World) : Calls Try.prog 48 #[.agg #[.int .i64 (x0),.string x1,.int .i64 (x2),.int .i64 (x3)]] w fun e w'=>e=.returned (.agg #[.int .i64 (x0),.string x1,.int .i64 (x2),.int .i64 (x3)])∧Below w.heap.size w w':=by
 have B:=Aside0.mk (Below.refl w.heap.size w)
 have hu:=Try.underlying42
 have hu2:=Try.underlying29
 go_enter Try.func48,Try.ntmps48
 go_wp2_with (first
  | ((with_reducible refine gate_dst (N:=1) rfl ?_);refine bxq 1 #[.int .i64 (x0),.string x1,.int .i64 (x2),.int .i64 (x3)] 29 B fun g1 w1 hb B F1 L1 E1=>?_;obtain ⟨c1_0,c1_1,c1_2,c1_3⟩:=cs4 F1;clear hb E1)
  | ((with_reducible refine gate_dst (N:=2) rfl ?_);refine bxq 2 #[.int .i64 (0),.string (⟨#[]⟩ : ByteArray),.int .i64 (0),.int .i64 (0)] 42 B fun g2 w2 hb B F2 L2 E2=>?_;have N1_2:=ne1 E2 F1;replace F1:=bn F1 hb;clear c1_0 c1_1 c1_2 c1_3;obtain ⟨c1_0,c1_1,c1_2,c1_3⟩:=cs4 F1;clear hb E2)
  | ((with_reducible refine gate_dst (N:=3) rfl ?_);refine bxq 3 #[.int .i64 (0),.string (⟨#[]⟩ : ByteArray),.int .i64 (0),.int .i64 (0)] 42 B fun g3 w3 hb B F3 L3 E3=>?_;have N1_3:=ne1 E3 F1;have N2_3:=ne1 E3 F2;replace F1:=bn F1 hb;replace F2:=bn F2 hb;clear c1_0 c1_1 c1_2 c1_3;obtain ⟨c1_0,c1_1,c1_2,c1_3⟩:=cs4 F1;obtain ⟨c3_0,c3_1,c3_2,c3_3⟩:=cs4 F3;clear hb E3)
  | ((with_reducible refine gate_store (t:=3) (p:=6) rfl ?_);obtain ⟨y0,y1,y2,y3,z0,z1,z2,z3⟩:=cz4 F3;refine sxq 42 3 6 0 [.int .i64 (x0)] [.int .i64 (x0),.string (⟨#[]⟩ : ByteArray),.int .i64 (0),.int .i64 (0)] B F3 L3 fun w4 hk B G=>?_;replace F1:=bk F1 hk N1_3.out;replace F2:=bk F2 hk N2_3.out;replace F3:=G;clear c1_0 c1_1 c1_2 c1_3;obtain ⟨c1_0,c1_1,c1_2,c1_3⟩:=cs4 F1;clear c3_0 c3_1 c3_2 c3_3;obtain ⟨c3_0,c3_1,c3_2,c3_3⟩:=cs4 F3;clear hk y0 z0 y1 z1 y2 z2 y3 z3)
  | ((with_reducible refine gate_store (t:=9) (p:=9) rfl ?_);obtain ⟨y0,y1,y2,y3,z0,z1,z2,z3⟩:=cz4 F3;refine sxq 42 9 9 1 [.string x1] [.int .i64 (x0),.string x1,.int .i64 (0),.int .i64 (0)] B F3 L3 fun w5 hk B G=>?_;replace F1:=bk F1 hk N1_3.out;replace F2:=bk F2 hk N2_3.out;replace F3:=G;clear c1_0 c1_1 c1_2 c1_3;obtain ⟨c1_0,c1_1,c1_2,c1_3⟩:=cs4 F1;clear c3_0 c3_1 c3_2 c3_3;obtain ⟨c3_0,c3_1,c3_2,c3_3⟩:=cs4 F3;clear hk y0 z0 y1 z1 y2 z2 y3 z3)
  | ((with_reducible refine gate_store (t:=3) (p:=12) rfl ?_);obtain ⟨y0,y1,y2,y3,z0,z1,z2,z3⟩:=cz4 F3;refine sxq 42 3 12 2 [.int .i64 (x2)] [.int .i64 (x0),.string x1,.int .i64 (x2),.int .i64 (0)] B F3 L3 fun w6 hk B G=>?_;replace F1:=bk F1 hk N1_3.out;replace F2:=bk F2 hk N2_3.out;replace F3:=G;clear c1_0 c1_1 c1_2 c1_3;obtain ⟨c1_0,c1_1,c1_2,c1_3⟩:=cs4 F1;clear c3_0 c3_1 c3_2 c3_3;obtain ⟨c3_0,c3_1,c3_2,c3_3⟩:=cs4 F3;clear hk y0 z0 y1 z1 y2 z2 y3 z3)
  | ((with_reducible refine gate_store (t:=3) (p:=15) rfl ?_);obtain ⟨y0,y1,y2,y3,z0,z1,z2,z3⟩:=cz4 F3;refine sxq 42 3 15 3 [.int .i64 (x3)] [.int .i64 (x0),.string x1,.int .i64 (x2),.int .i64 (x3)] B F3 L3 fun w7 hk B G=>?_;replace F2:=bk F2 hk N2_3.out;replace F3:=G;clear c3_0 c3_1 c3_2 c3_3;obtain ⟨c3_0,c3_1,c3_2,c3_3⟩:=cs4 F3;clear hk y0 z0 y1 z1 y2 z2 y3 z3)
  | ((with_reducible refine gate_store (t:=42) (p:=2) rfl ?_);obtain ⟨y0,y1,y2,y3,z0,z1,z2,z3⟩:=cz4 F2;refine sxq 42 42 2 0 [.int .i64 (x0),.string x1,.int .i64 (x2),.int .i64 (x3)] [.int .i64 (x0),.string x1,.int .i64 (x2),.int .i64 (x3)] B F2 L2 fun w8 hk B G=>?_;replace F2:=G;clear hk y0 z0 y1 z1 y2 z2 y3 z3))
 refine bodyPost_ret (results_single rfl (.cell g2 42 _ (0,0) _ rfl F2.out hu rfl (by kernel_rfl) .nil)) rfl ?_
 exact ⟨rfl,B.out⟩
def prOf (x : S114) : S105:=⟨x.f0,x.f1⟩
theorem laws_toPair.M (x0 : ByteArray) (x1 : Int) (w : World) : Calls Try.prog 90 #[.agg #[.string x0,.int .i64 (x1)]] w fun e w'=>e=.returned (.agg #[.string x0,.int .i64 (x1)])∧Below w.heap.size w w':=by
 have B:=Aside0.mk (Below.refl w.heap.size w)
 have hu:=Try.underlying105
 have hu2:=Try.underlying114
 go_enter Try.func90,Try.ntmps90
 go_wp2_with (first
  | ((with_reducible refine gate_dst (N:=1) rfl ?_);refine bxq 1 #[.string x0,.int .i64 (x1)] 114 B fun g1 w1 hb B F1 L1 E1=>?_;obtain ⟨c1_0,c1_1⟩:=cs2 F1;clear hb E1)
  | ((with_reducible refine gate_dst (N:=2) rfl ?_);refine bxq 2 #[.string (⟨#[]⟩ : ByteArray),.int .i64 (0)] 105 B fun g2 w2 hb B F2 L2 E2=>?_;have N1_2:=ne1 E2 F1;replace F1:=bn F1 hb;clear c1_0 c1_1;obtain ⟨c1_0,c1_1⟩:=cs2 F1;clear hb E2)
  | ((with_reducible refine gate_dst (N:=3) rfl ?_);refine bxq 3 #[.string (⟨#[]⟩ : ByteArray),.int .i64 (0)] 105 B fun g3 w3 hb B F3 L3 E3=>?_;have N1_3:=ne1 E3 F1;have N2_3:=ne1 E3 F2;replace F1:=bn F1 hb;replace F2:=bn F2 hb;clear c1_0 c1_1;obtain ⟨c1_0,c1_1⟩:=cs2 F1;obtain ⟨c3_0,c3_1⟩:=cs2 F3;clear hb E3)
  | ((with_reducible refine gate_store (t:=9) (p:=6) rfl ?_);obtain ⟨y0,y1,z0,z1⟩:=cz2 F3;refine sxq 105 9 6 0 [.string x0] [.string x0,.int .i64 (0)] B F3 L3 fun w4 hk B G=>?_;replace F1:=bk F1 hk N1_3.out;replace F2:=bk F2 hk N2_3.out;replace F3:=G;clear c1_0 c1_1;obtain ⟨c1_0,c1_1⟩:=cs2 F1;clear c3_0 c3_1;obtain ⟨c3_0,c3_1⟩:=cs2 F3;clear hk y0 z0 y1 z1)
  | ((with_reducible refine gate_store (t:=3) (p:=9) rfl ?_);obtain ⟨y0,y1,z0,z1⟩:=cz2 F3;refine sxq 105 3 9 1 [.int .i64 (x1)] [.string x0,.int .i64 (x1)] B F3 L3 fun w5 hk B G=>?_;replace F2:=bk F2 hk N2_3.out;replace F3:=G;clear c3_0 c3_1;obtain ⟨c3_0,c3_1⟩:=cs2 F3;clear hk y0 z0 y1 z1)
  | ((with_reducible refine gate_store (t:=105) (p:=2) rfl ?_);obtain ⟨y0,y1,z0,z1⟩:=cz2 F2;refine sxq 105 105 2 0 [.string x0,.int .i64 (x1)] [.string x0,.int .i64 (x1)] B F2 L2 fun w6 hk B G=>?_;replace F2:=G;clear hk y0 z0 y1 z1))
 refine bodyPost_ret (results_single rfl (.cell g2 105 _ (0,0) _ rfl F2.out hu rfl (by kernel_rfl) .nil)) rfl ?_
 exact ⟨rfl,B.out⟩
theorem laws_toPairS.M (A0 : Option Addr) (c0 : Nat) (l : List S114) (m : List S105) (w : World) (hr0 : Kd.C k114 w A0 l.length l) (hl : l.length≤1048576) (hm : l.map prOf=m) : Calls Try.prog 46 #[.slice A0 l.length c0] w fun e w'=>∃ v0,e=.returned v0∧Kd.R k105 105 w' w.heap.size (fun _=>True) v0 m∧Below w.heap.size w w':=by
 have B:=Aside0.mk (Below.refl w.heap.size w)
 subst hm
 have hu:=Try.underlying105
 have hu2:=Try.underlying114
 have HR0:=Aside0.mk hr0
 clear hr0
 go_enter Try.func46,Try.ntmps46
 go_wp2_with ((with_reducible refine gate_dst (N:=7) rfl ?_);refine mkr k105 105 rfl (N:=7) rfl 35 _ _ rfl l.length rfl rfl Try.underlying35 (.agg #[.string (⟨#[]⟩ : ByteArray),.int .i64 (0)]) 24 info105 rfl (by decide) (by omega) z105 (k105_mkM _ _ _ z105) (by omega) B ?_;intro A kk w1 hb B R Q;clear hb Q)
 have R0:=Aside0.mk (show Ow k105 105 w1 w.heap.size (.slice A l.length kk) ((l.take 0).map prOf ++ List.replicate (l.length - 0) z105) from R.out)
 clear R
 go_loopg [4] (l.length + 1) (fun kx v4 wr=>∃ j : Nat,v4=.int .i64 (j : Int)∧j≤l.length∧l.length < j + kx∧Aside0 (Below w.heap.size w wr)∧Aside0 (Ow k105 105 wr w.heap.size (.slice A l.length kk) ((l.take j).map prOf ++ List.replicate (l.length - j) z105)))
 case atStart=>exact ⟨0,rfl,by omega,by omega,B,R0⟩
 case round =>
  clear R0 B
  obtain ⟨j,rfl,hj,hk,B,R⟩:=hrel
  by_cases hlt : j < l.length
  ·obtain ⟨d,rfl⟩ : ∃ d,gk=d + 1:=⟨gk - 1,by omega⟩
   have hln : ((l.take j).map prOf ++ List.replicate (l.length - j) z105).length=l.length:=by rw [List.length_append,List.length_map,List.length_take,List.length_replicate];omega
   obtain ⟨g,rfl,hg⟩:=rform R (by omega)
   have hfs:=fill_set (f:=prOf) (z:=z105) hlt
   have cj : decide ((j : Int) < (l.length : Int))=true:=decide_eq_true (by omega)
   obtain ⟨ad,hA,x0,x1⟩:=at_T114 (cb HR0 B) (j : Int) (by omega) (by omega)
   cases hA
   rw [Int.toNat_natCast] at x0 x1
   have j1:=eq_true (show (j : Int) < (l.length : Int) by omega)
   have j2:=eq_true hlt
   have hy : rd_T114 l (j : Int)=l[j]:=by simp [rd_T114,List.getD_eq_getElem?_getD,List.getElem?_eq_getElem hlt]
   rw [← hy] at hfs
   generalize rd_T114 l (j : Int)=y at *
   clear hy
   have HF:=Aside0.mk hfs
   clear hfs hln
   go_wp2_with (first
    | (go_at_call 90;with_reducible refine cl (laws_toPair.M y.f0 y.f1 _) B fun w5 hb B=>?_;replace R:=rn R hb;obtain ⟨cs,hcl,_,hcc,hfz⟩:=rcells z105 R j hlt;have hsz : k105.sz=2:=rfl;obtain ⟨u0,hu0⟩ : ∃ u,cs[0]?=some u:=⟨_,List.getElem?_eq_getElem (by rw [hcl];decide)⟩;have q0:=hcc 0 u0 hu0;have z0:=hfz 0;rw [hsz,Nat.add_zero] at q0 z0;obtain ⟨u1,hu1⟩ : ∃ u,cs[1]?=some u:=⟨_,List.getElem?_eq_getElem (by rw [hcl];decide)⟩;have q1:=hcc 1 u1 hu1;have z1:=hfz 1;rw [hsz] at q1 z1;clear hb)
    | ((with_reducible refine gate_store (t:=105) (p:=21) rfl ?_);refine es (t:=105) (p:=21) (v:=?vo1) ?hg ?ho ?hn j 0 [.string y.f0,.int .i64 (y.f1)] (prOf y) ?hr R hlt hcl hcc (Nat.le_refl 2) (by rw [List.take_zero,List.drop_of_length_le (by rw [hcl];exact Nat.le_refl 2)];exact k105_mkM _ _ _ (prOf y)) B hg ?_;(case ho=>rfl);(case hg=>rfl);(case hn=>rfl);(case hr=>first | (go_simp;done) | (go_simp;rfl));intro w6 _ B R;rw [HF.out] at R))
   go_roundg d
   case measure=>omega
   case rel=>exact ⟨j + 1,congrArg (Value.int .i64) (Int.natCast_succ _).symm,by omega,by omega,B,R⟩
  ·have cj : decide ((j : Int) < (l.length : Int))=false:=decide_eq_false (by omega)
   rw [fill_end hlt] at R
   go_wp2
   go_ret
   exact ⟨_,rfl,R.out,B.out⟩
def sesOf (x : S123) : S76:=⟨x.f0,x.f1,x.f2⟩
theorem laws_toSession.M (x0 : Int) (x1 : Int) (x2 : Int) (w : World) : Calls Try.prog 91 #[.agg #[.int .i64 (x0),.int .i64 (x1),.int .i64 (x2)]] w fun e w'=>e=.returned (.agg #[.int .i64 (x0),.int .i64 (x1),.int .i64 (x2)])∧Below w.heap.size w w':=by
 have B:=Aside0.mk (Below.refl w.heap.size w)
 have hu:=Try.underlying76
 have hu2:=Try.underlying123
 go_enter Try.func91,Try.ntmps91
 go_wp2_with (first
  | ((with_reducible refine gate_dst (N:=1) rfl ?_);refine bxq 1 #[.int .i64 (x0),.int .i64 (x1),.int .i64 (x2)] 123 B fun g1 w1 hb B F1 L1 E1=>?_;obtain ⟨c1_0,c1_1,c1_2⟩:=cs3 F1;clear hb E1)
  | ((with_reducible refine gate_dst (N:=2) rfl ?_);refine bxq 2 #[.int .i64 (0),.int .i64 (0),.int .i64 (0)] 76 B fun g2 w2 hb B F2 L2 E2=>?_;have N1_2:=ne1 E2 F1;replace F1:=bn F1 hb;clear c1_0 c1_1 c1_2;obtain ⟨c1_0,c1_1,c1_2⟩:=cs3 F1;clear hb E2)
  | ((with_reducible refine gate_dst (N:=3) rfl ?_);refine bxq 3 #[.int .i64 (0),.int .i64 (0),.int .i64 (0)] 76 B fun g3 w3 hb B F3 L3 E3=>?_;have N1_3:=ne1 E3 F1;have N2_3:=ne1 E3 F2;replace F1:=bn F1 hb;replace F2:=bn F2 hb;clear c1_0 c1_1 c1_2;obtain ⟨c1_0,c1_1,c1_2⟩:=cs3 F1;obtain ⟨c3_0,c3_1,c3_2⟩:=cs3 F3;clear hb E3)
  | ((with_reducible refine gate_store (t:=3) (p:=6) rfl ?_);obtain ⟨y0,y1,y2,z0,z1,z2⟩:=cz3 F3;refine sxq 76 3 6 0 [.int .i64 (x0)] [.int .i64 (x0),.int .i64 (0),.int .i64 (0)] B F3 L3 fun w4 hk B G=>?_;replace F1:=bk F1 hk N1_3.out;replace F2:=bk F2 hk N2_3.out;replace F3:=G;clear c1_0 c1_1 c1_2;obtain ⟨c1_0,c1_1,c1_2⟩:=cs3 F1;clear c3_0 c3_1 c3_2;obtain ⟨c3_0,c3_1,c3_2⟩:=cs3 F3;clear hk y0 z0 y1 z1 y2 z2)
  | ((with_reducible refine gate_store (t:=3) (p:=9) rfl ?_);obtain ⟨y0,y1,y2,z0,z1,z2⟩:=cz3 F3;refine sxq 76 3 9 1 [.int .i64 (x1)] [.int .i64 (x0),.int .i64 (x1),.int .i64 (0)] B F3 L3 fun w5 hk B G=>?_;replace F1:=bk F1 hk N1_3.out;replace F2:=bk F2 hk N2_3.out;replace F3:=G;clear c1_0 c1_1 c1_2;obtain ⟨c1_0,c1_1,c1_2⟩:=cs3 F1;clear c3_0 c3_1 c3_2;obtain ⟨c3_0,c3_1,c3_2⟩:=cs3 F3;clear hk y0 z0 y1 z1 y2 z2)
  | ((with_reducible refine gate_store (t:=3) (p:=12) rfl ?_);obtain ⟨y0,y1,y2,z0,z1,z2⟩:=cz3 F3;refine sxq 76 3 12 2 [.int .i64 (x2)] [.int .i64 (x0),.int .i64 (x1),.int .i64 (x2)] B F3 L3 fun w6 hk B G=>?_;replace F2:=bk F2 hk N2_3.out;replace F3:=G;clear c3_0 c3_1 c3_2;obtain ⟨c3_0,c3_1,c3_2⟩:=cs3 F3;clear hk y0 z0 y1 z1 y2 z2)
  | ((with_reducible refine gate_store (t:=76) (p:=2) rfl ?_);obtain ⟨y0,y1,y2,z0,z1,z2⟩:=cz3 F2;refine sxq 76 76 2 0 [.int .i64 (x0),.int .i64 (x1),.int .i64 (x2)] [.int .i64 (x0),.int .i64 (x1),.int .i64 (x2)] B F2 L2 fun w7 hk B G=>?_;replace F2:=G;clear hk y0 z0 y1 z1 y2 z2))
 refine bodyPost_ret (results_single rfl (.cell g2 76 _ (0,0) _ rfl F2.out hu rfl (by kernel_rfl) .nil)) rfl ?_
 exact ⟨rfl,B.out⟩
theorem laws_toSessionS.M (A0 : Option Addr) (c0 : Nat) (l : List S123) (m : List S76) (w : World) (hr0 : Kd.C k123 w A0 l.length l) (hl : l.length≤1048576) (hm : l.map sesOf=m) : Calls Try.prog 47 #[.slice A0 l.length c0] w fun e w'=>∃ v0,e=.returned v0∧Kd.R k76 76 w' w.heap.size (fun _=>True) v0 m∧Below w.heap.size w w':=by
 have B:=Aside0.mk (Below.refl w.heap.size w)
 subst hm
 have hu:=Try.underlying76
 have hu2:=Try.underlying123
 have HR0:=Aside0.mk hr0
 clear hr0
 go_enter Try.func47,Try.ntmps47
 go_wp2_with ((with_reducible refine gate_dst (N:=7) rfl ?_);refine mkr k76 76 rfl (N:=7) rfl 36 _ _ rfl l.length rfl rfl Try.underlying36 (.agg #[.int .i64 (0),.int .i64 (0),.int .i64 (0)]) 24 info76 rfl (by decide) (by omega) z76 (k76_mkM _ _ _ z76) (by omega) B ?_;intro A kk w1 hb B R Q;clear hb Q)
 have R0:=Aside0.mk (show Ow k76 76 w1 w.heap.size (.slice A l.length kk) ((l.take 0).map sesOf ++ List.replicate (l.length - 0) z76) from R.out)
 clear R
 go_loopg [4] (l.length + 1) (fun kx v4 wr=>∃ j : Nat,v4=.int .i64 (j : Int)∧j≤l.length∧l.length < j + kx∧Aside0 (Below w.heap.size w wr)∧Aside0 (Ow k76 76 wr w.heap.size (.slice A l.length kk) ((l.take j).map sesOf ++ List.replicate (l.length - j) z76)))
 case atStart=>exact ⟨0,rfl,by omega,by omega,B,R0⟩
 case round =>
  clear R0 B
  obtain ⟨j,rfl,hj,hk,B,R⟩:=hrel
  by_cases hlt : j < l.length
  ·obtain ⟨d,rfl⟩ : ∃ d,gk=d + 1:=⟨gk - 1,by omega⟩
   have hln : ((l.take j).map sesOf ++ List.replicate (l.length - j) z76).length=l.length:=by rw [List.length_append,List.length_map,List.length_take,List.length_replicate];omega
   obtain ⟨g,rfl,hg⟩:=rform R (by omega)
   have hfs:=fill_set (f:=sesOf) (z:=z76) hlt
   have cj : decide ((j : Int) < (l.length : Int))=true:=decide_eq_true (by omega)
   obtain ⟨ad,hA,x0,x1,x2⟩:=at_T123 (cb HR0 B) (j : Int) (by omega) (by omega)
   cases hA
   rw [Int.toNat_natCast] at x0 x1 x2
   have j1:=eq_true (show (j : Int) < (l.length : Int) by omega)
   have j2:=eq_true hlt
   have hy : rd_T123 l (j : Int)=l[j]:=by simp [rd_T123,List.getD_eq_getElem?_getD,List.getElem?_eq_getElem hlt]
   rw [← hy] at hfs
   generalize rd_T123 l (j : Int)=y at *
   clear hy
   have HF:=Aside0.mk hfs
   clear hfs hln
   go_wp2_with (first
    | (go_at_call 91;with_reducible refine cl (laws_toSession.M y.f0 y.f1 y.f2 _) B fun w5 hb B=>?_;replace R:=rn R hb;obtain ⟨cs,hcl,_,hcc,hfz⟩:=rcells z76 R j hlt;have hsz : k76.sz=3:=rfl;obtain ⟨u0,hu0⟩ : ∃ u,cs[0]?=some u:=⟨_,List.getElem?_eq_getElem (by rw [hcl];decide)⟩;have q0:=hcc 0 u0 hu0;have z0:=hfz 0;rw [hsz,Nat.add_zero] at q0 z0;obtain ⟨u1,hu1⟩ : ∃ u,cs[1]?=some u:=⟨_,List.getElem?_eq_getElem (by rw [hcl];decide)⟩;have q1:=hcc 1 u1 hu1;have z1:=hfz 1;rw [hsz] at q1 z1;obtain ⟨u2,hu2⟩ : ∃ u,cs[2]?=some u:=⟨_,List.getElem?_eq_getElem (by rw [hcl];decide)⟩;have q2:=hcc 2 u2 hu2;have z2:=hfz 2;rw [hsz] at q2 z2;clear hb)
    | ((with_reducible refine gate_store (t:=76) (p:=21) rfl ?_);refine es (t:=76) (p:=21) (v:=?vo1) ?hg ?ho ?hn j 0 [.int .i64 (y.f0),.int .i64 (y.f1),.int .i64 (y.f2)] (sesOf y) ?hr R hlt hcl hcc (Nat.le_refl 3) (by rw [List.take_zero,List.drop_of_length_le (by rw [hcl];exact Nat.le_refl 3)];exact k76_mkM _ _ _ (sesOf y)) B hg ?_;(case ho=>rfl);(case hg=>rfl);(case hn=>rfl);(case hr=>first | (go_simp;done) | (go_simp;rfl));intro w6 _ B R;rw [HF.out] at R))
   go_roundg d
   case measure=>omega
   case rel=>exact ⟨j + 1,congrArg (Value.int .i64) (Int.natCast_succ _).symm,by omega,by omega,B,R⟩
  ·have cj : decide ((j : Int) < (l.length : Int))=false:=decide_eq_false (by omega)
   rw [fill_end hlt] at R
   go_wp2
   go_ret
   exact ⟨_,rfl,R.out,B.out⟩

theorem laws_szEntry.M (ci sq k : Int) (x : ByteArray) (v o : Int) (n : Int) (w : World) (hn : 0≤n∧n≤1048576) (ha : x.size≤9223372036854775807) : Calls Try.prog 8 #[.agg #[.int .i64 ci,.int .i64 sq,.int .i64 k,.string x,.int .i64 v,.int .i64 o],.int .i64 n] w fun e w'=>∃ v : Int,e=.returned (.int .i64 v)∧(v < 0 ∨ 0≤v∧v≤n)∧Below w.heap.size w w':=by
 have B:=Aside0.mk (Below.refl w.heap.size w)
 have hu:=Try.underlying31
 have hu2:=Try.underlying29
 have HXS:=Aside0.mk ha
 go_enter Try.func8,Try.ntmps8
 go_wp2_with (first
  | ((with_reducible refine gate_dst (N:=2) rfl ?_);refine bxq 2 #[.int .i64 (ci),.int .i64 (sq),.int .i64 (k),.string x,.int .i64 (v),.int .i64 (o)] 31 B fun g2 w1 hb B F2 L2 E2=>?_;obtain ⟨c2_0,c2_1,c2_2,c2_3,c2_4,c2_5⟩:=cs6 F2;clear hb E2)
  | (go_at_call 36;with_reducible refine cx (laws_szCommand.M k x v o n _ (by omega) HXS.out) B fun v2 hv2 w2 hb B=>?_;clear hb))
 all_goals go_ret
 all_goals (refine ⟨_,rfl,?_,B.out⟩;omega)
theorem laws_toEntry.M (ci sq k : Int) (x : ByteArray) (v o : Int) (w : World) : Calls Try.prog 11 #[.agg #[.int .i64 ci,.int .i64 sq,.int .i64 k,.string x,.int .i64 v,.int .i64 o]] w fun e w'=>e=.returned (.agg #[.int .i64 ci,.int .i64 sq,.int .i64 k,.string x,.int .i64 v,.int .i64 o])∧Below w.heap.size w w':=by
 have B:=Aside0.mk (Below.refl w.heap.size w)
 have hu:=Try.underlying44
 have hu2:=Try.underlying31
 go_enter Try.func11,Try.ntmps11
 go_wp2_with (first
  | ((with_reducible refine gate_dst (N:=1) rfl ?_);refine bxq 1 #[.int .i64 (ci),.int .i64 (sq),.int .i64 (k),.string x,.int .i64 (v),.int .i64 (o)] 31 B fun g1 w1 hb B F1 L1 E1=>?_;obtain ⟨c1_0,c1_1,c1_2,c1_3,c1_4,c1_5⟩:=cs6 F1;clear hb E1)
  | ((with_reducible refine gate_dst (N:=2) rfl ?_);refine bxq 2 #[.int .i64 (0),.int .i64 (0),.int .i64 (0),.string (⟨#[]⟩ : ByteArray),.int .i64 (0),.int .i64 (0)] 44 B fun g2 w2 hb B F2 L2 E2=>?_;have N1_2:=ne1 E2 F1;replace F1:=bn F1 hb;clear c1_0 c1_1 c1_2 c1_3 c1_4 c1_5;obtain ⟨c1_0,c1_1,c1_2,c1_3,c1_4,c1_5⟩:=cs6 F1;clear hb E2)
  | ((with_reducible refine gate_dst (N:=3) rfl ?_);refine bxq 3 #[.int .i64 (0),.int .i64 (0),.int .i64 (0),.string (⟨#[]⟩ : ByteArray),.int .i64 (0),.int .i64 (0)] 44 B fun g3 w3 hb B F3 L3 E3=>?_;have N1_3:=ne1 E3 F1;have N2_3:=ne1 E3 F2;replace F1:=bn F1 hb;replace F2:=bn F2 hb;clear c1_0 c1_1 c1_2 c1_3 c1_4 c1_5;obtain ⟨c1_0,c1_1,c1_2,c1_3,c1_4,c1_5⟩:=cs6 F1;obtain ⟨c3_0,c3_1,c3_2,c3_3,c3_4,c3_5⟩:=cs6 F3;clear hb E3)
  | ((with_reducible refine gate_store (t:=3) (p:=6) rfl ?_);obtain ⟨y0,y1,y2,y3,y4,y5,z0,z1,z2,z3,z4,z5⟩:=cz6 F3;refine sxq 44 3 6 0 [.int .i64 (ci)] [.int .i64 (ci),.int .i64 (0),.int .i64 (0),.string (⟨#[]⟩ : ByteArray),.int .i64 (0),.int .i64 (0)] B F3 L3 fun w4 hk B G=>?_;replace F1:=bk F1 hk N1_3.out;replace F2:=bk F2 hk N2_3.out;replace F3:=G;clear c1_0 c1_1 c1_2 c1_3 c1_4 c1_5;obtain ⟨c1_0,c1_1,c1_2,c1_3,c1_4,c1_5⟩:=cs6 F1;clear c3_0 c3_1 c3_2 c3_3 c3_4 c3_5;obtain ⟨c3_0,c3_1,c3_2,c3_3,c3_4,c3_5⟩:=cs6 F3;clear hk y0 z0 y1 z1 y2 z2 y3 z3 y4 z4 y5 z5)
  | ((with_reducible refine gate_store (t:=3) (p:=9) rfl ?_);obtain ⟨y0,y1,y2,y3,y4,y5,z0,z1,z2,z3,z4,z5⟩:=cz6 F3;refine sxq 44 3 9 1 [.int .i64 (sq)] [.int .i64 (ci),.int .i64 (sq),.int .i64 (0),.string (⟨#[]⟩ : ByteArray),.int .i64 (0),.int .i64 (0)] B F3 L3 fun w5 hk B G=>?_;replace F1:=bk F1 hk N1_3.out;replace F2:=bk F2 hk N2_3.out;replace F3:=G;clear c1_0 c1_1 c1_2 c1_3 c1_4 c1_5;obtain ⟨c1_0,c1_1,c1_2,c1_3,c1_4,c1_5⟩:=cs6 F1;clear c3_0 c3_1 c3_2 c3_3 c3_4 c3_5;obtain ⟨c3_0,c3_1,c3_2,c3_3,c3_4,c3_5⟩:=cs6 F3;clear hk y0 z0 y1 z1 y2 z2 y3 z3 y4 z4 y5 z5)
  | (go_at_call 48;with_reducible refine cl (laws_toCommand.M k x v o _) B fun w6 hb B=>?_;replace F2:=bn F2 hb;replace F3:=bn F3 hb;clear c3_0 c3_1 c3_2 c3_3 c3_4 c3_5;obtain ⟨c3_0,c3_1,c3_2,c3_3,c3_4,c3_5⟩:=cs6 F3;clear hb)
  | ((with_reducible refine gate_store (t:=42) (p:=13) rfl ?_);obtain ⟨y0,y1,y2,y3,y4,y5,z0,z1,z2,z3,z4,z5⟩:=cz6 F3;refine sxq 44 42 13 2 [.int .i64 (k),.string x,.int .i64 (v),.int .i64 (o)] [.int .i64 (ci),.int .i64 (sq),.int .i64 (k),.string x,.int .i64 (v),.int .i64 (o)] B F3 L3 fun w7 hk B G=>?_;replace F2:=bk F2 hk N2_3.out;replace F3:=G;clear c3_0 c3_1 c3_2 c3_3 c3_4 c3_5;obtain ⟨c3_0,c3_1,c3_2,c3_3,c3_4,c3_5⟩:=cs6 F3;clear hk y0 z0 y1 z1 y2 z2 y3 z3 y4 z4 y5 z5)
  | ((with_reducible refine gate_store (t:=44) (p:=2) rfl ?_);obtain ⟨y0,y1,y2,y3,y4,y5,z0,z1,z2,z3,z4,z5⟩:=cz6 F2;refine sxq 44 44 2 0 [.int .i64 (ci),.int .i64 (sq),.int .i64 (k),.string x,.int .i64 (v),.int .i64 (o)] [.int .i64 (ci),.int .i64 (sq),.int .i64 (k),.string x,.int .i64 (v),.int .i64 (o)] B F2 L2 fun w8 hk B G=>?_;replace F2:=G;clear hk y0 z0 y1 z1 y2 z2 y3 z3 y4 z4 y5 z5))
 try (refine bodyPost_ret (results_single rfl (.cell g2 44 _ (0,0) _ rfl F2.out hu rfl (by kernel_rfl) .nil)) rfl ?_)
 exact ⟨rfl,B.out⟩

theorem laws_eqInterval.M (x0 : ByteArray) (x1 : ByteArray) (w : World) : Calls Try.prog 54 #[.agg #[.string x0,.string x1],.agg #[.string x0,.string x1]] w fun e w'=>e=.returned (.bool true)∧Below w.heap.size w w':=by
 have B:=Aside0.mk (Below.refl w.heap.size w)
 have hu:=Try.underlying34
 go_enter Try.func54,Try.ntmps54
 go_wp2_with (first
  | ((with_reducible refine gate_dst (N:=2) rfl ?_);refine bxq 2 #[.string x0,.string x1] 34 B fun g2 w1 hb B F2 L2 E2=>?_;obtain ⟨c2_0,c2_1⟩:=cs2 F2;clear hb E2)
  | ((with_reducible refine gate_dst (N:=3) rfl ?_);refine bxq 3 #[.string x0,.string x1] 34 B fun g3 w2 hb B F3 L3 E3=>?_;replace F2:=bn F2 hb;clear c2_0 c2_1;obtain ⟨c2_0,c2_1⟩:=cs2 F2;obtain ⟨c3_0,c3_1⟩:=cs2 F3;clear hb E3))
 all_goals go_ret
 all_goals (refine ⟨?_,B.out⟩;first | rfl | simp_all)
theorem laws_eqPair.M (x0 : ByteArray) (x1 : Int) (w : World) : Calls Try.prog 101 #[.agg #[.string x0,.int .i64 (x1)],.agg #[.string x0,.int .i64 (x1)]] w fun e w'=>e=.returned (.bool true)∧Below w.heap.size w w':=by
 have B:=Aside0.mk (Below.refl w.heap.size w)
 have hu:=Try.underlying105
 go_enter Try.func101,Try.ntmps101
 go_wp2_with (first
  | ((with_reducible refine gate_dst (N:=2) rfl ?_);refine bxq 2 #[.string x0,.int .i64 (x1)] 105 B fun g2 w1 hb B F2 L2 E2=>?_;obtain ⟨c2_0,c2_1⟩:=cs2 F2;clear hb E2)
  | ((with_reducible refine gate_dst (N:=3) rfl ?_);refine bxq 3 #[.string x0,.int .i64 (x1)] 105 B fun g3 w2 hb B F3 L3 E3=>?_;replace F2:=bn F2 hb;clear c2_0 c2_1;obtain ⟨c2_0,c2_1⟩:=cs2 F2;obtain ⟨c3_0,c3_1⟩:=cs2 F3;clear hb E3))
 all_goals go_ret
 all_goals (refine ⟨?_,B.out⟩;first | rfl | simp_all)
def laws_eqPairS.T6 : Bool × List (List Nat × List Nat):=(true,[([],[]),([],[]),([0,1],[0,1]),([2],[2]),([],[]),([],[]),([4,5],[4,5]),([6],[6]),([3,7],[3,7]),([8],[8])])
def laws_eqPairS.B6 : List Nat:=[0,0,3,7,0,0,48,112,255,511]
theorem laws_eqPairS.tab6 : rtab .any (opsOf Try.f55 6)=laws_eqPairS.T6:=by kernel_rfl
theorem laws_eqPairS.bits6 : waitsOk laws_eqPairS.T6.2 laws_eqPairS.B6=true:=by kernel_rfl
theorem laws_eqPairS.M (A0 : Option Addr) (c0 : Nat) (A1 : Option Addr) (c1 : Nat) (l : List S105) (w : World) (hr0 : Kd.C k105 w A0 l.length l) (hr1 : Kd.C k105 w A1 l.length l) : Calls Try.prog 55 #[.slice A0 l.length c0,.slice A1 l.length c1] w fun e w'=>e=.returned (.bool true)∧Below w.heap.size w w':=by
 have B:=Aside0.mk (Below.refl w.heap.size w)
 have hu:=Try.underlying105
 have HR0:=Aside0.mk hr0
 have HR1:=Aside0.mk hr1
 have L48:=Aside0.mk hr0.2.1
 clear hr0 hr1
 go_enter Try.func55,Try.ntmps55
 go_wp2
 go_loopg [5] (l.length + 1) (fun kx v5 wr=>∃ j : Nat,v5=.int .i64 (j : Int)∧j≤l.length∧l.length < j + kx∧Aside0 (Below w.heap.size w wr))
 case atStart=>exact ⟨0,rfl,by omega,by omega,B⟩
 case round =>
  clear B
  obtain ⟨j,rfl,hj,hk,B⟩:=hrel
  have h48:=L48.out
  by_cases hlt : j < l.length
  ·obtain ⟨d,rfl⟩ : ∃ d,gk=d + 1:=⟨gk - 1,by omega⟩
   have cj : decide ((j : Int) < (l.length : Int))=true:=decide_eq_true (by omega)
   obtain ⟨ad,hA,_⟩:=at_T105 (cb HR0 B) (j : Int) (by omega) (by omega)
   cases hA
   obtain ⟨bd,hA,_⟩:=at_T105 (cb HR1 B) (j : Int) (by omega) (by omega)
   cases hA
   have j1:=eq_true (show (j : Int) < (l.length : Int) by omega)
   have j2:=eq_true hlt
   generalize hy : rd_T105 l (j : Int)=y
   try go_wp2
   all_goals (
    refine rg (n:=10) (S:=fun W=>Kd.C k105 W (some ad) l.length l∧Kd.C k105 W (some bd) l.length l) (ds:=[]) #[false,false,false,false,false,false,false,false,false,false] (by kernel_rfl) rfl rfl ⟨(cb HR0 B),(cb HR1 B)⟩ id B (fun w1 hb B hHeld=>?_)
    refine with_tabW laws_eqPairS.tab6 laws_eqPairS.bits6 (fun HT_ HW_=>?_)
    clear hb
    refine pvq 0 (some 17) (bits 10 1) HT_ ?_
    refine pvq 1 (some 18) (bits 10 3) HT_ ?_
    refine pvq 2 (some 19) (bits 10 7) HT_ ?_
    refine tvq 3 (some 20) (bits 10 15) HT_ HW_ rfl hHeld (by intro w' hS;obtain ⟨s0,s1⟩:=hS;obtain ⟨_,hA,q0,q1⟩:=at_T105 s0 (j : Int) (by omega) (by omega);cases hA;rw [Int.toNat_natCast] at q0 q1;rw [hy] at q0 q1;go_simp;with_reducible rfl) ?_
    refine pvq 4 (some 21) (bits 10 31) HT_ ?_
    refine pvq 5 (some 22) (bits 10 63) HT_ ?_
    refine pvq 6 (some 23) (bits 10 127) HT_ ?_
    refine tvq 7 (some 24) (bits 10 255) HT_ HW_ rfl hHeld (by intro w' hS;obtain ⟨s0,s1⟩:=hS;obtain ⟨_,hA,q0,q1⟩:=at_T105 s1 (j : Int) (by omega) (by omega);cases hA;rw [Int.toNat_natCast] at q0 q1;rw [hy] at q0 q1;go_simp;with_reducible rfl) ?_
    refine nmq ?_
    refine one_ (i:=8) (N:=some 25) (bits 10 511) rfl rfl (one_of HT_.out (by kernel_rfl)) (by decide) (fun K hK=>?_)
    refine gsq Try.func101 #[.agg #[.string y.f0,.int .i64 (y.f1)],.agg #[.string y.f0,.int .i64 (y.f1)]] ?_
    with_reducible refine cl (laws_eqPair.M y.f0 y.f1 _) B fun w2 hb B=>?_
    clear hb
    refine ⟨_,rfl,?_⟩
    refine hK.out _ _ ⟨(cb HR0 B),(cb HR1 B)⟩ (fun hHeld=>?_)
    clear hK K
    refine npq (some 25) ?_
    refine pvq 9 (some 26) (bits 10 1023) HT_ ?_
    refine nmq ?_
    refine done_ (done_of HT_.out (by kernel_rfl)) ?_
    try go_wp2
    go_roundg d
    case measure=>omega
    case rel=>exact ⟨j + 1,congrArg (Value.int .i64) (Int.natCast_succ _).symm,by omega,by omega,B⟩)
   all_goals try go_wp2
  ·have cj : decide ((j : Int) < (l.length : Int))=false:=decide_eq_false (by omega)
   go_wp2
   go_ret
   exact ⟨rfl,B.out⟩
theorem laws_eqSession.M (x0 : Int) (x1 : Int) (x2 : Int) (w : World) : Calls Try.prog 102 #[.agg #[.int .i64 (x0),.int .i64 (x1),.int .i64 (x2)],.agg #[.int .i64 (x0),.int .i64 (x1),.int .i64 (x2)]] w fun e w'=>e=.returned (.bool true)∧Below w.heap.size w w':=by
 have B:=Aside0.mk (Below.refl w.heap.size w)
 have hu:=Try.underlying76
 go_enter Try.func102,Try.ntmps102
 go_wp2_with (first
  | ((with_reducible refine gate_dst (N:=2) rfl ?_);refine bxq 2 #[.int .i64 (x0),.int .i64 (x1),.int .i64 (x2)] 76 B fun g2 w1 hb B F2 L2 E2=>?_;obtain ⟨c2_0,c2_1,c2_2⟩:=cs3 F2;clear hb E2)
  | ((with_reducible refine gate_dst (N:=3) rfl ?_);refine bxq 3 #[.int .i64 (x0),.int .i64 (x1),.int .i64 (x2)] 76 B fun g3 w2 hb B F3 L3 E3=>?_;replace F2:=bn F2 hb;clear c2_0 c2_1 c2_2;obtain ⟨c2_0,c2_1,c2_2⟩:=cs3 F2;obtain ⟨c3_0,c3_1,c3_2⟩:=cs3 F3;clear hb E3))
 all_goals go_ret
 all_goals (refine ⟨?_,B.out⟩;first | rfl | simp_all)
def laws_eqSessionS.T6 : Bool × List (List Nat × List Nat):=(true,[([],[]),([],[]),([0,1],[0,1]),([2],[2]),([],[]),([],[]),([4,5],[4,5]),([6],[6]),([3,7],[3,7]),([8],[8])])
def laws_eqSessionS.B6 : List Nat:=[0,0,3,7,0,0,48,112,255,511]
theorem laws_eqSessionS.tab6 : rtab .any (opsOf Try.f56 6)=laws_eqSessionS.T6:=by kernel_rfl
theorem laws_eqSessionS.bits6 : waitsOk laws_eqSessionS.T6.2 laws_eqSessionS.B6=true:=by kernel_rfl
theorem laws_eqSessionS.M (A0 : Option Addr) (c0 : Nat) (A1 : Option Addr) (c1 : Nat) (l : List S76) (w : World) (hr0 : Kd.C k76 w A0 l.length l) (hr1 : Kd.C k76 w A1 l.length l) : Calls Try.prog 56 #[.slice A0 l.length c0,.slice A1 l.length c1] w fun e w'=>e=.returned (.bool true)∧Below w.heap.size w w':=by
 have B:=Aside0.mk (Below.refl w.heap.size w)
 have hu:=Try.underlying76
 have HR0:=Aside0.mk hr0
 have HR1:=Aside0.mk hr1
 have L48:=Aside0.mk hr0.2.1
 clear hr0 hr1
 go_enter Try.func56,Try.ntmps56
 go_wp2
 go_loopg [5] (l.length + 1) (fun kx v5 wr=>∃ j : Nat,v5=.int .i64 (j : Int)∧j≤l.length∧l.length < j + kx∧Aside0 (Below w.heap.size w wr))
 case atStart=>exact ⟨0,rfl,by omega,by omega,B⟩
 case round =>
  clear B
  obtain ⟨j,rfl,hj,hk,B⟩:=hrel
  have h48:=L48.out
  by_cases hlt : j < l.length
  ·obtain ⟨d,rfl⟩ : ∃ d,gk=d + 1:=⟨gk - 1,by omega⟩
   have cj : decide ((j : Int) < (l.length : Int))=true:=decide_eq_true (by omega)
   obtain ⟨ad,hA,_⟩:=at_T76 (cb HR0 B) (j : Int) (by omega) (by omega)
   cases hA
   obtain ⟨bd,hA,_⟩:=at_T76 (cb HR1 B) (j : Int) (by omega) (by omega)
   cases hA
   have j1:=eq_true (show (j : Int) < (l.length : Int) by omega)
   have j2:=eq_true hlt
   generalize hy : rd_T76 l (j : Int)=y
   try go_wp2
   all_goals (
    refine rg (n:=10) (S:=fun W=>Kd.C k76 W (some ad) l.length l∧Kd.C k76 W (some bd) l.length l) (ds:=[]) #[false,false,false,false,false,false,false,false,false,false] (by kernel_rfl) rfl rfl ⟨(cb HR0 B),(cb HR1 B)⟩ id B (fun w1 hb B hHeld=>?_)
    refine with_tabW laws_eqSessionS.tab6 laws_eqSessionS.bits6 (fun HT_ HW_=>?_)
    clear hb
    refine pvq 0 (some 17) (bits 10 1) HT_ ?_
    refine pvq 1 (some 18) (bits 10 3) HT_ ?_
    refine pvq 2 (some 19) (bits 10 7) HT_ ?_
    refine tvq 3 (some 20) (bits 10 15) HT_ HW_ rfl hHeld (by intro w' hS;obtain ⟨s0,s1⟩:=hS;obtain ⟨_,hA,q0,q1,q2⟩:=at_T76 s0 (j : Int) (by omega) (by omega);cases hA;rw [Int.toNat_natCast] at q0 q1 q2;rw [hy] at q0 q1 q2;go_simp;with_reducible rfl) ?_
    refine pvq 4 (some 21) (bits 10 31) HT_ ?_
    refine pvq 5 (some 22) (bits 10 63) HT_ ?_
    refine pvq 6 (some 23) (bits 10 127) HT_ ?_
    refine tvq 7 (some 24) (bits 10 255) HT_ HW_ rfl hHeld (by intro w' hS;obtain ⟨s0,s1⟩:=hS;obtain ⟨_,hA,q0,q1,q2⟩:=at_T76 s1 (j : Int) (by omega) (by omega);cases hA;rw [Int.toNat_natCast] at q0 q1 q2;rw [hy] at q0 q1 q2;go_simp;with_reducible rfl) ?_
    refine nmq ?_
    refine one_ (i:=8) (N:=some 25) (bits 10 511) rfl rfl (one_of HT_.out (by kernel_rfl)) (by decide) (fun K hK=>?_)
    refine gsq Try.func102 #[.agg #[.int .i64 (y.f0),.int .i64 (y.f1),.int .i64 (y.f2)],.agg #[.int .i64 (y.f0),.int .i64 (y.f1),.int .i64 (y.f2)]] ?_
    with_reducible refine cl (laws_eqSession.M y.f0 y.f1 y.f2 _) B fun w2 hb B=>?_
    clear hb
    refine ⟨_,rfl,?_⟩
    refine hK.out _ _ ⟨(cb HR0 B),(cb HR1 B)⟩ (fun hHeld=>?_)
    clear hK K
    refine npq (some 25) ?_
    refine pvq 9 (some 26) (bits 10 1023) HT_ ?_
    refine nmq ?_
    refine done_ (done_of HT_.out (by kernel_rfl)) ?_
    try go_wp2
    go_roundg d
    case measure=>omega
    case rel=>exact ⟨j + 1,congrArg (Value.int .i64) (Int.natCast_succ _).symm,by omega,by omega,B⟩)
   all_goals try go_wp2
  ·have cj : decide ((j : Int) < (l.length : Int))=false:=decide_eq_false (by omega)
   go_wp2
   go_ret
   exact ⟨rfl,B.out⟩
theorem laws_eqState.M (a b : ByteArray) (AP : Option Addr) (cP : Nat) (AQ : Option Addr) (cQ : Nat) (ps : List S105) (AS : Option Addr) (cS : Nat) (AU : Option Addr) (cU : Nat) (ss : List S76) (t : Bool) (c : ByteArray) (w : World) (hrp : Kd.C k105 w AP ps.length ps) (hrq : Kd.C k105 w AQ ps.length ps) (hrs : Kd.C k76 w AS ss.length ss) (hru : Kd.C k76 w AU ss.length ss) : Calls Try.prog 13 #[.agg #[.string a,.string b,.slice AP ps.length cP,.slice AS ss.length cS,.bool t,.string c],.agg #[.string a,.string b,.slice AQ ps.length cQ,.slice AU ss.length cU,.bool t,.string c]] w fun e w'=>e=.returned (.bool true)∧Below w.heap.size w w':=by
 have B:=Aside0.mk (Below.refl w.heap.size w)
 have hu:=Try.underlying38
 have HRP:=Aside0.mk hrp
 have HRQ:=Aside0.mk hrq
 have HRS:=Aside0.mk hrs
 have HRU:=Aside0.mk hru
 clear hrp hrq hrs hru
 go_enter Try.func13,Try.ntmps13
 go_wp2_with (first
  | ((with_reducible refine gate_dst (N:=2) rfl ?_);refine bxq 2 #[.string a,.string b,.slice AP ps.length cP,.slice AS ss.length cS,.bool t,.string c] 38 B fun g2 w1 hb B F2 L2 E2=>?_;obtain ⟨c2_0,c2_1,c2_2,c2_3,c2_4,c2_5⟩:=cs6 F2;clear hb E2)
  | ((with_reducible refine gate_dst (N:=3) rfl ?_);refine bxq 3 #[.string a,.string b,.slice AQ ps.length cQ,.slice AU ss.length cU,.bool t,.string c] 38 B fun g3 w2 hb B F3 L3 E3=>?_;replace F2:=bn F2 hb;clear c2_0 c2_1 c2_2 c2_3 c2_4 c2_5;obtain ⟨c2_0,c2_1,c2_2,c2_3,c2_4,c2_5⟩:=cs6 F2;obtain ⟨c3_0,c3_1,c3_2,c3_3,c3_4,c3_5⟩:=cs6 F3;clear hb E3)
  | (go_at_call 54;with_reducible refine cl (laws_eqInterval.M a b _) B fun w3 hb B=>?_;replace F2:=bn F2 hb;replace F3:=bn F3 hb;clear c2_0 c2_1 c2_2 c2_3 c2_4 c2_5;obtain ⟨c2_0,c2_1,c2_2,c2_3,c2_4,c2_5⟩:=cs6 F2;clear c3_0 c3_1 c3_2 c3_3 c3_4 c3_5;obtain ⟨c3_0,c3_1,c3_2,c3_3,c3_4,c3_5⟩:=cs6 F3;clear hb)
  | (go_at_call 55;with_reducible refine cl (laws_eqPairS.M _ _ _ _ ps _ (cb HRP B) (cb HRQ B)) B fun w4 hb B=>?_;replace F2:=bn F2 hb;replace F3:=bn F3 hb;clear c2_0 c2_1 c2_2 c2_3 c2_4 c2_5;obtain ⟨c2_0,c2_1,c2_2,c2_3,c2_4,c2_5⟩:=cs6 F2;clear c3_0 c3_1 c3_2 c3_3 c3_4 c3_5;obtain ⟨c3_0,c3_1,c3_2,c3_3,c3_4,c3_5⟩:=cs6 F3;clear hb)
  | (go_at_call 56;with_reducible refine cl (laws_eqSessionS.M _ _ _ _ ss _ (cb HRS B) (cb HRU B)) B fun w5 hb B=>?_;replace F2:=bn F2 hb;replace F3:=bn F3 hb;clear c2_0 c2_1 c2_2 c2_3 c2_4 c2_5;obtain ⟨c2_0,c2_1,c2_2,c2_3,c2_4,c2_5⟩:=cs6 F2;clear c3_0 c3_1 c3_2 c3_3 c3_4 c3_5;obtain ⟨c3_0,c3_1,c3_2,c3_3,c3_4,c3_5⟩:=cs6 F3;clear hb))
 all_goals go_ret
 all_goals (refine ⟨?_,B.out⟩;first | rfl | simp_all)

theorem laws_szEntryS.M (A0 : Option Addr) (c0 : Nat) (l : List S31) (n : Int) (w : World) (hr0 : Kd.C k31 w A0 l.length l) (hn : 0≤n∧n≤1048576) (hs : ∀ y ∈ l,y.f2.f1.size≤9223372036854775807) : Calls Try.prog 22 #[.slice A0 l.length c0,.int .i64 n] w fun e w'=>∃ v : Int,e=.returned (.int .i64 v)∧(v < 0 ∨ 0≤v∧v≤n∧(l.length : Int)≤n)∧Below w.heap.size w w':=by
 have B:=Aside0.mk (Below.refl w.heap.size w)
 have hu:=Try.underlying31
 have HR0:=Aside0.mk hr0
 have hm:=hr0.2.1
 have HS:=Aside0.mk hs
 clear hr0 hs
 go_enter Try.func22,Try.ntmps22
 go_wp2
 ·go_ret
  exact ⟨-1,rfl,by omega,B.out⟩
 ·go_loopg [1,5] (l.length + 1) (fun kx v1 v5 wr=>∃ (j : Nat) (m : Int),v1=.int .i64 m∧v5=.int .i64 (j : Int)∧j≤l.length∧l.length < j + kx∧0≤m∧m≤n∧Aside0 (Below w.heap.size w wr))
  case atStart=>exact ⟨0,_,rfl,rfl,by omega,by omega,by omega,by omega,B⟩
  case round =>
   clear B
   obtain ⟨j,m,rfl,rfl,hj,hk,hm0,hm1,B⟩:=hrel
   by_cases hlt : j < l.length
   ·obtain ⟨d,rfl⟩ : ∃ d,gk=d + 1:=⟨gk - 1,by omega⟩
    have cj : decide ((j : Int) < (l.length : Int))=true:=decide_eq_true (by omega)
    obtain ⟨ad,hA,y0,y1,y2,y3,y4,y5⟩:=at_T31 (cb HR0 B) (j : Int) (by omega) (by omega)
    cases hA
    have hz:=HS.out (rd_T31 l (j : Int)) (by simp [rd_T31,List.getD_eq_getElem?_getD,List.getElem?_eq_getElem hlt])
    rw [Int.toNat_natCast] at y0 y1 y2 y3 y4 y5
    have j1:=eq_true (show (j : Int) < (l.length : Int) by omega)
    have j2:=eq_true hlt
    generalize hy : rd_T31 l (j : Int)=y at *
    go_wp2_with (first
     | (go_at_call 8;with_reducible refine cx (laws_szEntry.M y.f0 y.f1 y.f2.f0 y.f2.f1 y.f2.f2 y.f2.f3 m _ (by omega) (by omega)) B fun v1 hv1 w1 hb B=>?_;clear hb))
    all_goals first
     | (go_roundg d;(case measure=>omega);(case rel=>exact ⟨j + 1,_,rfl,congrArg (Value.int .i64) (Int.natCast_succ _).symm,by omega,by omega,by omega,by omega,B⟩))
     | (go_ret;exact ⟨-1,rfl,by omega,B.out⟩)
   ·have cj : decide ((j : Int) < (l.length : Int))=false:=decide_eq_false (by omega)
    go_wp2
    go_ret
    exact ⟨m,rfl,by omega,B.out⟩
def enOf (x : S31) : S44:=⟨x.f0,x.f1,x.f2.f0,x.f2.f1,x.f2.f2,x.f2.f3⟩
theorem laws_toEntryS.M (A0 : Option Addr) (c0 : Nat) (l : List S31) (m : List S44) (w : World) (hr0 : Kd.C k31 w A0 l.length l) (hl : l.length≤1048576) (hm : l.map enOf=m) : Calls Try.prog 24 #[.slice A0 l.length c0] w fun e w'=>∃ v0,e=.returned v0∧Kd.R k44 44 w' w.heap.size (fun _=>True) v0 m∧Below w.heap.size w w':=by
 have B:=Aside0.mk (Below.refl w.heap.size w)
 subst hm
 have hu:=Try.underlying44
 have hu2:=Try.underlying31
 have HR0:=Aside0.mk hr0
 clear hr0
 go_enter Try.func24,Try.ntmps24
 go_wp2_with ((with_reducible refine gate_dst (N:=7) rfl ?_);refine mkr k44 44 rfl (N:=7) rfl 61 _ _ rfl l.length rfl rfl Try.underlying61 (.agg #[.int .i64 (0),.int .i64 (0),.int .i64 (0),.string (⟨#[]⟩ : ByteArray),.int .i64 (0),.int .i64 (0)]) 56 info44 rfl (by decide) (by omega) z44 (k44_mkM _ _ _ z44) (by omega) B ?_;intro A kk w1 hb B R Q;clear hb Q)
 have R0:=Aside0.mk (show Ow k44 44 w1 w.heap.size (.slice A l.length kk) ((l.take 0).map enOf ++ List.replicate (l.length - 0) z44) from R.out)
 clear R
 go_loopg [4] (l.length + 1) (fun kx v4 wr=>∃ j : Nat,v4=.int .i64 (j : Int)∧j≤l.length∧l.length < j + kx∧Aside0 (Below w.heap.size w wr)∧Aside0 (Ow k44 44 wr w.heap.size (.slice A l.length kk) ((l.take j).map enOf ++ List.replicate (l.length - j) z44)))
 case atStart=>exact ⟨0,rfl,by omega,by omega,B,R0⟩
 case round =>
  clear R0 B
  obtain ⟨j,rfl,hj,hk,B,R⟩:=hrel
  by_cases hlt : j < l.length
  ·obtain ⟨d,rfl⟩ : ∃ d,gk=d + 1:=⟨gk - 1,by omega⟩
   have hln : ((l.take j).map enOf ++ List.replicate (l.length - j) z44).length=l.length:=by rw [List.length_append,List.length_map,List.length_take,List.length_replicate];omega
   obtain ⟨g,rfl,hg⟩:=rform R (by omega)
   have hfs:=fill_set (f:=enOf) (z:=z44) hlt
   have cj : decide ((j : Int) < (l.length : Int))=true:=decide_eq_true (by omega)
   obtain ⟨ad,hA,x0,x1,x2,x3,x4,x5⟩:=at_T31 (cb HR0 B) (j : Int) (by omega) (by omega)
   cases hA
   rw [Int.toNat_natCast] at x0 x1 x2 x3 x4 x5
   have j1:=eq_true (show (j : Int) < (l.length : Int) by omega)
   have j2:=eq_true hlt
   have hy : rd_T31 l (j : Int)=l[j]:=by simp [rd_T31,List.getD_eq_getElem?_getD,List.getElem?_eq_getElem hlt]
   rw [← hy] at hfs
   generalize rd_T31 l (j : Int)=y at *
   clear hy
   have HF:=Aside0.mk hfs
   clear hfs hln
   go_wp2_with (first
    | (go_at_call 11;with_reducible refine cl (laws_toEntry.M y.f0 y.f1 y.f2.f0 y.f2.f1 y.f2.f2 y.f2.f3 _) B fun w5 hb B=>?_;replace R:=rn R hb;obtain ⟨cs,hcl,_,hcc,hfz⟩:=rcells z44 R j hlt;have hsz : k44.sz=6:=rfl;obtain ⟨u0,hu0⟩ : ∃ u,cs[0]?=some u:=⟨_,List.getElem?_eq_getElem (by rw [hcl];decide)⟩;have q0:=hcc 0 u0 hu0;have z0:=hfz 0;rw [hsz,Nat.add_zero] at q0 z0;obtain ⟨u1,hu1⟩ : ∃ u,cs[1]?=some u:=⟨_,List.getElem?_eq_getElem (by rw [hcl];decide)⟩;have q1:=hcc 1 u1 hu1;have z1:=hfz 1;rw [hsz] at q1 z1;obtain ⟨u2,hu2⟩ : ∃ u,cs[2]?=some u:=⟨_,List.getElem?_eq_getElem (by rw [hcl];decide)⟩;have q2:=hcc 2 u2 hu2;have z2:=hfz 2;rw [hsz] at q2 z2;obtain ⟨u3,hu3⟩ : ∃ u,cs[3]?=some u:=⟨_,List.getElem?_eq_getElem (by rw [hcl];decide)⟩;have q3:=hcc 3 u3 hu3;have z3:=hfz 3;rw [hsz] at q3 z3;obtain ⟨u4,hu4⟩ : ∃ u,cs[4]?=some u:=⟨_,List.getElem?_eq_getElem (by rw [hcl];decide)⟩;have q4:=hcc 4 u4 hu4;have z4:=hfz 4;rw [hsz] at q4 z4;obtain ⟨u5,hu5⟩ : ∃ u,cs[5]?=some u:=⟨_,List.getElem?_eq_getElem (by rw [hcl];decide)⟩;have q5:=hcc 5 u5 hu5;have z5:=hfz 5;rw [hsz] at q5 z5;clear hb)
    | ((with_reducible refine gate_store (t:=44) (p:=21) rfl ?_);refine es (t:=44) (p:=21) (v:=?vo1) ?hg ?ho ?hn j 0 [.int .i64 (y.f0),.int .i64 (y.f1),.int .i64 (y.f2.f0),.string y.f2.f1,.int .i64 (y.f2.f2),.int .i64 (y.f2.f3)] (enOf y) ?hr R hlt hcl hcc (Nat.le_refl 6) (by rw [List.take_zero,List.drop_of_length_le (by rw [hcl];exact Nat.le_refl 6)];exact k44_mkM _ _ _ (enOf y)) B hg ?_;(case ho=>rfl);(case hg=>rfl);(case hn=>rfl);(case hr=>first | (go_simp;done) | (go_simp;rfl));intro w6 _ B R;rw [HF.out] at R))
   go_roundg d
   case measure=>omega
   case rel=>exact ⟨j + 1,congrArg (Value.int .i64) (Int.natCast_succ _).symm,by omega,by omega,B,R⟩
  ·have cj : decide ((j : Int) < (l.length : Int))=false:=decide_eq_false (by omega)
   rw [fill_end hlt] at R
   go_wp2
   go_ret
   exact ⟨_,rfl,R.out,B.out⟩
theorem laws_eqCommand.M (x0 : Int) (x1 : ByteArray) (x2 : Int) (x3 : Int) (w : World) : Calls Try.prog 114 #[.agg #[.int .i64 (x0),.string x1,.int .i64 (x2),.int .i64 (x3)],.agg #[.int .i64 (x0),.string x1,.int .i64 (x2),.int .i64 (x3)]] w fun e w'=>e=.returned (.bool true)∧Below w.heap.size w w':=by
 have B:=Aside0.mk (Below.refl w.heap.size w)
 have hu:=Try.underlying42
 go_enter Try.func114,Try.ntmps114
 go_wp2_with (first
  | ((with_reducible refine gate_dst (N:=2) rfl ?_);refine bxq 2 #[.int .i64 (x0),.string x1,.int .i64 (x2),.int .i64 (x3)] 42 B fun g2 w1 hb B F2 L2 E2=>?_;obtain ⟨c2_0,c2_1,c2_2,c2_3⟩:=cs4 F2;clear hb E2)
  | ((with_reducible refine gate_dst (N:=3) rfl ?_);refine bxq 3 #[.int .i64 (x0),.string x1,.int .i64 (x2),.int .i64 (x3)] 42 B fun g3 w2 hb B F3 L3 E3=>?_;replace F2:=bn F2 hb;clear c2_0 c2_1 c2_2 c2_3;obtain ⟨c2_0,c2_1,c2_2,c2_3⟩:=cs4 F2;obtain ⟨c3_0,c3_1,c3_2,c3_3⟩:=cs4 F3;clear hb E3))
 all_goals go_ret
 all_goals (refine ⟨?_,B.out⟩;first | rfl | simp_all)
theorem laws_eqEntry.M (x0 : Int) (x1 : Int) (x2 : Int) (x3 : ByteArray) (x4 : Int) (x5 : Int) (w : World) : Calls Try.prog 76 #[.agg #[.int .i64 (x0),.int .i64 (x1),.int .i64 (x2),.string x3,.int .i64 (x4),.int .i64 (x5)],.agg #[.int .i64 (x0),.int .i64 (x1),.int .i64 (x2),.string x3,.int .i64 (x4),.int .i64 (x5)]] w fun e w'=>e=.returned (.bool true)∧Below w.heap.size w w':=by
 have B:=Aside0.mk (Below.refl w.heap.size w)
 have hu:=Try.underlying44
 go_enter Try.func76,Try.ntmps76
 go_wp2_with (first
  | ((with_reducible refine gate_dst (N:=2) rfl ?_);refine bxq 2 #[.int .i64 (x0),.int .i64 (x1),.int .i64 (x2),.string x3,.int .i64 (x4),.int .i64 (x5)] 44 B fun g2 w1 hb B F2 L2 E2=>?_;obtain ⟨c2_0,c2_1,c2_2,c2_3,c2_4,c2_5⟩:=cs6 F2;clear hb E2)
  | ((with_reducible refine gate_dst (N:=3) rfl ?_);refine bxq 3 #[.int .i64 (x0),.int .i64 (x1),.int .i64 (x2),.string x3,.int .i64 (x4),.int .i64 (x5)] 44 B fun g3 w2 hb B F3 L3 E3=>?_;replace F2:=bn F2 hb;clear c2_0 c2_1 c2_2 c2_3 c2_4 c2_5;obtain ⟨c2_0,c2_1,c2_2,c2_3,c2_4,c2_5⟩:=cs6 F2;obtain ⟨c3_0,c3_1,c3_2,c3_3,c3_4,c3_5⟩:=cs6 F3;clear hb E3)
  | (go_at_call 114;with_reducible refine cl (laws_eqCommand.M x2 x3 x4 x5 _) B fun w3 hb B=>?_;clear hb))
 all_goals go_ret
 all_goals (refine ⟨?_,B.out⟩;first | rfl | simp_all)
def laws_eqEntryS.T6 : Bool × List (List Nat × List Nat):=(true,[([],[]),([],[]),([0,1],[0,1]),([2],[2]),([],[]),([],[]),([4,5],[4,5]),([6],[6]),([3,7],[3,7]),([8],[8])])
def laws_eqEntryS.B6 : List Nat:=[0,0,3,7,0,0,48,112,255,511]
theorem laws_eqEntryS.tab6 : rtab .any (opsOf Try.f27 6)=laws_eqEntryS.T6:=by kernel_rfl
theorem laws_eqEntryS.bits6 : waitsOk laws_eqEntryS.T6.2 laws_eqEntryS.B6=true:=by kernel_rfl
theorem laws_eqEntryS.M (A0 : Option Addr) (c0 : Nat) (A1 : Option Addr) (c1 : Nat) (l : List S44) (w : World) (hr0 : Kd.C k44 w A0 l.length l) (hr1 : Kd.C k44 w A1 l.length l) : Calls Try.prog 27 #[.slice A0 l.length c0,.slice A1 l.length c1] w fun e w'=>e=.returned (.bool true)∧Below w.heap.size w w':=by
 have B:=Aside0.mk (Below.refl w.heap.size w)
 have hu:=Try.underlying44
 have HR0:=Aside0.mk hr0
 have HR1:=Aside0.mk hr1
 have L48:=Aside0.mk hr0.2.1
 clear hr0 hr1
 go_enter Try.func27,Try.ntmps27
 go_wp2
 go_loopg [5] (l.length + 1) (fun kx v5 wr=>∃ j : Nat,v5=.int .i64 (j : Int)∧j≤l.length∧l.length < j + kx∧Aside0 (Below w.heap.size w wr))
 case atStart=>exact ⟨0,rfl,by omega,by omega,B⟩
 case round =>
  clear B
  obtain ⟨j,rfl,hj,hk,B⟩:=hrel
  have h48:=L48.out
  by_cases hlt : j < l.length
  ·obtain ⟨d,rfl⟩ : ∃ d,gk=d + 1:=⟨gk - 1,by omega⟩
   have cj : decide ((j : Int) < (l.length : Int))=true:=decide_eq_true (by omega)
   obtain ⟨ad,hA,_⟩:=at_T44 (cb HR0 B) (j : Int) (by omega) (by omega)
   cases hA
   obtain ⟨bd,hA,_⟩:=at_T44 (cb HR1 B) (j : Int) (by omega) (by omega)
   cases hA
   have j1:=eq_true (show (j : Int) < (l.length : Int) by omega)
   have j2:=eq_true hlt
   generalize hy : rd_T44 l (j : Int)=y
   try go_wp2
   all_goals (
    refine rg (n:=10) (S:=fun W=>Kd.C k44 W (some ad) l.length l∧Kd.C k44 W (some bd) l.length l) (ds:=[]) #[false,false,false,false,false,false,false,false,false,false] (by kernel_rfl) rfl rfl ⟨(cb HR0 B),(cb HR1 B)⟩ id B (fun w1 hb B hHeld=>?_)
    refine with_tabW laws_eqEntryS.tab6 laws_eqEntryS.bits6 (fun HT_ HW_=>?_)
    clear hb
    refine pvq 0 (some 17) (bits 10 1) HT_ ?_
    refine pvq 1 (some 18) (bits 10 3) HT_ ?_
    refine pvq 2 (some 19) (bits 10 7) HT_ ?_
    refine tvq 3 (some 20) (bits 10 15) HT_ HW_ rfl hHeld (by intro w' hS;obtain ⟨s0,s1⟩:=hS;obtain ⟨_,hA,q0,q1,q2,q3,q4,q5⟩:=at_T44 s0 (j : Int) (by omega) (by omega);cases hA;rw [Int.toNat_natCast] at q0 q1 q2 q3 q4 q5;rw [hy] at q0 q1 q2 q3 q4 q5;go_simp;with_reducible rfl) ?_
    refine pvq 4 (some 21) (bits 10 31) HT_ ?_
    refine pvq 5 (some 22) (bits 10 63) HT_ ?_
    refine pvq 6 (some 23) (bits 10 127) HT_ ?_
    refine tvq 7 (some 24) (bits 10 255) HT_ HW_ rfl hHeld (by intro w' hS;obtain ⟨s0,s1⟩:=hS;obtain ⟨_,hA,q0,q1,q2,q3,q4,q5⟩:=at_T44 s1 (j : Int) (by omega) (by omega);cases hA;rw [Int.toNat_natCast] at q0 q1 q2 q3 q4 q5;rw [hy] at q0 q1 q2 q3 q4 q5;go_simp;with_reducible rfl) ?_
    refine nmq ?_
    refine one_ (i:=8) (N:=some 25) (bits 10 511) rfl rfl (one_of HT_.out (by kernel_rfl)) (by decide) (fun K hK=>?_)
    refine gsq Try.func76 #[.agg #[.int .i64 (y.f0),.int .i64 (y.f1),.int .i64 (y.f2.f0),.string y.f2.f1,.int .i64 (y.f2.f2),.int .i64 (y.f2.f3)],.agg #[.int .i64 (y.f0),.int .i64 (y.f1),.int .i64 (y.f2.f0),.string y.f2.f1,.int .i64 (y.f2.f2),.int .i64 (y.f2.f3)]] ?_
    with_reducible refine cl (laws_eqEntry.M y.f0 y.f1 y.f2.f0 y.f2.f1 y.f2.f2 y.f2.f3 _) B fun w2 hb B=>?_
    clear hb
    refine ⟨_,rfl,?_⟩
    refine hK.out _ _ ⟨(cb HR0 B),(cb HR1 B)⟩ (fun hHeld=>?_)
    clear hK K
    refine npq (some 25) ?_
    refine pvq 9 (some 26) (bits 10 1023) HT_ ?_
    refine nmq ?_
    refine done_ (done_of HT_.out (by kernel_rfl)) ?_
    try go_wp2
    go_roundg d
    case measure=>omega
    case rel=>exact ⟨j + 1,congrArg (Value.int .i64) (Int.natCast_succ _).symm,by omega,by omega,B⟩)
   all_goals try go_wp2
  ·have cj : decide ((j : Int) < (l.length : Int))=false:=decide_eq_false (by omega)
   go_wp2
   go_ret
   exact ⟨rfl,B.out⟩

theorem laws_toState.M (a b : ByteArray) (AP : Option Addr) (cP : Nat) (ps : List S114) (AS : Option Addr) (cS : Nat) (ss : List S123) (t : Bool) (c : ByteArray) (qs : List S105) (us : List S76) (w : World) (hrp : Kd.C k114 w AP ps.length ps) (hrs : Kd.C k123 w AS ss.length ss) (hl : ps.length≤1048576∧ss.length≤1048576) (hqs : ps.map prOf=qs) (hus : ss.map sesOf=us) : Calls Try.prog 10 #[.agg #[.string a,.string b,.slice AP ps.length cP,.slice AS ss.length cS,.bool t,.string c]] w fun e w'=>∃ v2 v3,e=.returned (.agg #[.string a,.string b,v2,v3,.bool t,.string c])∧Kd.R k105 105 w' w.heap.size (fun _=>True) v2 qs∧Kd.R k76 76 w' w.heap.size (fun _=>True) v3 us∧Below w.heap.size w w':=by
 have B:=Aside0.mk (Below.refl w.heap.size w)
 have hu:=Try.underlying38
 have hu2:=Try.underlying27
 have HRP:=Aside0.mk hrp
 have HRS:=Aside0.mk hrs
 have HQS:=Aside0.mk hqs
 have HUS:=Aside0.mk hus
 obtain ⟨hl1,hl2⟩:=hl
 clear hrp hrs hqs hus
 go_enter Try.func10,Try.ntmps10
 go_wp2_with (first
  | ((with_reducible refine gate_dst (N:=1) rfl ?_);refine bxq 1 #[.string a,.string b,.slice AP ps.length cP,.slice AS ss.length cS,.bool t,.string c] 27 B fun g1 w1 hb B F1 L1 E1=>?_;obtain ⟨c1_0,c1_1,c1_2,c1_3,c1_4,c1_5⟩:=cs6 F1;clear hb E1)
  | ((with_reducible refine gate_dst (N:=2) rfl ?_);refine bxq 2 #[.string (⟨#[]⟩ : ByteArray),.string (⟨#[]⟩ : ByteArray),.slice none 0 0,.slice none 0 0,.bool false,.string (⟨#[]⟩ : ByteArray)] 38 B fun g2 w2 hb B F2 L2 E2=>?_;have N1_2:=ne1 E2 F1;replace F1:=bn F1 hb;clear c1_0 c1_1 c1_2 c1_3 c1_4 c1_5;obtain ⟨c1_0,c1_1,c1_2,c1_3,c1_4,c1_5⟩:=cs6 F1;clear hb E2)
  | ((with_reducible refine gate_dst (N:=3) rfl ?_);refine bxq 3 #[.string (⟨#[]⟩ : ByteArray),.string (⟨#[]⟩ : ByteArray),.slice none 0 0,.slice none 0 0,.bool false,.string (⟨#[]⟩ : ByteArray)] 38 B fun g3 w3 hb B F3 L3 E3=>?_;have N1_3:=ne1 E3 F1;have N2_3:=ne1 E3 F2;replace F1:=bn F1 hb;replace F2:=bn F2 hb;clear c1_0 c1_1 c1_2 c1_3 c1_4 c1_5;obtain ⟨c1_0,c1_1,c1_2,c1_3,c1_4,c1_5⟩:=cs6 F1;obtain ⟨c3_0,c3_1,c3_2,c3_3,c3_4,c3_5⟩:=cs6 F3;clear hb E3)
  | (go_at_call 45;with_reducible refine cl (laws_toInterval.M a b _) B fun w4 hb B=>?_;replace F1:=bn F1 hb;replace F2:=bn F2 hb;replace F3:=bn F3 hb;clear c1_0 c1_1 c1_2 c1_3 c1_4 c1_5;obtain ⟨c1_0,c1_1,c1_2,c1_3,c1_4,c1_5⟩:=cs6 F1;clear c3_0 c3_1 c3_2 c3_3 c3_4 c3_5;obtain ⟨c3_0,c3_1,c3_2,c3_3,c3_4,c3_5⟩:=cs6 F3;clear hb)
  | ((with_reducible refine gate_store (t:=34) (p:=7) rfl ?_);obtain ⟨y0,y1,y2,y3,y4,y5,z0,z1,z2,z3,z4,z5⟩:=cz6 F3;refine sxq 38 34 7 0 [.string a,.string b] [.string a,.string b,.slice none 0 0,.slice none 0 0,.bool false,.string (⟨#[]⟩ : ByteArray)] B F3 L3 fun w5 hk B G=>?_;replace F1:=bk F1 hk N1_3.out;replace F2:=bk F2 hk N2_3.out;replace F3:=G;clear c1_0 c1_1 c1_2 c1_3 c1_4 c1_5;obtain ⟨c1_0,c1_1,c1_2,c1_3,c1_4,c1_5⟩:=cs6 F1;clear c3_0 c3_1 c3_2 c3_3 c3_4 c3_5;obtain ⟨c3_0,c3_1,c3_2,c3_3,c3_4,c3_5⟩:=cs6 F3;clear hk y0 z0 y1 z1 y2 z2 y3 z3 y4 z4 y5 z5)
  | (go_at_call 46;with_reducible refine cr (laws_toPairS.M _ _ ps qs _ (cb HRP B) (by omega) HQS.out) B fun AP6 kP6 w6 hb B RP6 QP6=>?_;replace F1:=bn F1 hb;replace F2:=bn F2 hb;replace F3:=bn F3 hb;clear QP6;clear c1_0 c1_1 c1_2 c1_3 c1_4 c1_5;obtain ⟨c1_0,c1_1,c1_2,c1_3,c1_4,c1_5⟩:=cs6 F1;clear c3_0 c3_1 c3_2 c3_3 c3_4 c3_5;obtain ⟨c3_0,c3_1,c3_2,c3_3,c3_4,c3_5⟩:=cs6 F3;clear hb)
  | ((with_reducible refine gate_store (t:=35) (p:=11) rfl ?_);obtain ⟨y0,y1,y2,y3,y4,y5,z0,z1,z2,z3,z4,z5⟩:=cz6 F3;refine sxq 38 35 11 2 [.slice AP6 qs.length kP6] [.string a,.string b,.slice AP6 qs.length kP6,.slice none 0 0,.bool false,.string (⟨#[]⟩ : ByteArray)] B F3 L3 fun w7 hk B G=>?_;replace F1:=bk F1 hk N1_3.out;replace F2:=bk F2 hk N2_3.out;replace RP6:=rk RP6 F3 (by decide) hk;replace F3:=G;clear c1_0 c1_1 c1_2 c1_3 c1_4 c1_5;obtain ⟨c1_0,c1_1,c1_2,c1_3,c1_4,c1_5⟩:=cs6 F1;clear c3_0 c3_1 c3_2 c3_3 c3_4 c3_5;obtain ⟨c3_0,c3_1,c3_2,c3_3,c3_4,c3_5⟩:=cs6 F3;clear hk y0 z0 y1 z1 y2 z2 y3 z3 y4 z4 y5 z5)
  | (go_at_call 47;with_reducible refine cr (laws_toSessionS.M _ _ ss us _ (cb HRS B) (by omega) HUS.out) B fun AS8 kS8 w8 hb B RS8 QS8=>?_;replace F1:=bn F1 hb;replace F2:=bn F2 hb;replace F3:=bn F3 hb;replace RP6:=rn RP6 hb;clear QS8;clear c1_0 c1_1 c1_2 c1_3 c1_4 c1_5;obtain ⟨c1_0,c1_1,c1_2,c1_3,c1_4,c1_5⟩:=cs6 F1;clear c3_0 c3_1 c3_2 c3_3 c3_4 c3_5;obtain ⟨c3_0,c3_1,c3_2,c3_3,c3_4,c3_5⟩:=cs6 F3;clear hb)
  | ((with_reducible refine gate_store (t:=36) (p:=15) rfl ?_);obtain ⟨y0,y1,y2,y3,y4,y5,z0,z1,z2,z3,z4,z5⟩:=cz6 F3;refine sxq 38 36 15 3 [.slice AS8 us.length kS8] [.string a,.string b,.slice AP6 qs.length kP6,.slice AS8 us.length kS8,.bool false,.string (⟨#[]⟩ : ByteArray)] B F3 L3 fun w9 hk B G=>?_;replace F1:=bk F1 hk N1_3.out;replace F2:=bk F2 hk N2_3.out;replace RP6:=rk RP6 F3 (by decide) hk;replace RS8:=rk RS8 F3 (by decide) hk;replace F3:=G;clear c1_0 c1_1 c1_2 c1_3 c1_4 c1_5;obtain ⟨c1_0,c1_1,c1_2,c1_3,c1_4,c1_5⟩:=cs6 F1;clear c3_0 c3_1 c3_2 c3_3 c3_4 c3_5;obtain ⟨c3_0,c3_1,c3_2,c3_3,c3_4,c3_5⟩:=cs6 F3;clear hk y0 z0 y1 z1 y2 z2 y3 z3 y4 z4 y5 z5)
  | ((with_reducible refine gate_store (t:=4) (p:=18) rfl ?_);obtain ⟨y0,y1,y2,y3,y4,y5,z0,z1,z2,z3,z4,z5⟩:=cz6 F3;refine sxq 38 4 18 4 [.bool t] [.string a,.string b,.slice AP6 qs.length kP6,.slice AS8 us.length kS8,.bool t,.string (⟨#[]⟩ : ByteArray)] B F3 L3 fun w10 hk B G=>?_;replace F1:=bk F1 hk N1_3.out;replace F2:=bk F2 hk N2_3.out;replace RP6:=rk RP6 F3 (by decide) hk;replace RS8:=rk RS8 F3 (by decide) hk;replace F3:=G;clear c1_0 c1_1 c1_2 c1_3 c1_4 c1_5;obtain ⟨c1_0,c1_1,c1_2,c1_3,c1_4,c1_5⟩:=cs6 F1;clear c3_0 c3_1 c3_2 c3_3 c3_4 c3_5;obtain ⟨c3_0,c3_1,c3_2,c3_3,c3_4,c3_5⟩:=cs6 F3;clear hk y0 z0 y1 z1 y2 z2 y3 z3 y4 z4 y5 z5)
  | ((with_reducible refine gate_store (t:=9) (p:=21) rfl ?_);obtain ⟨y0,y1,y2,y3,y4,y5,z0,z1,z2,z3,z4,z5⟩:=cz6 F3;refine sxq 38 9 21 5 [.string c] [.string a,.string b,.slice AP6 qs.length kP6,.slice AS8 us.length kS8,.bool t,.string c] B F3 L3 fun w11 hk B G=>?_;replace F2:=bk F2 hk N2_3.out;replace RP6:=rk RP6 F3 (by decide) hk;replace RS8:=rk RS8 F3 (by decide) hk;replace F3:=G;clear c3_0 c3_1 c3_2 c3_3 c3_4 c3_5;obtain ⟨c3_0,c3_1,c3_2,c3_3,c3_4,c3_5⟩:=cs6 F3;clear hk y0 z0 y1 z1 y2 z2 y3 z3 y4 z4 y5 z5)
  | ((with_reducible refine gate_store (t:=38) (p:=2) rfl ?_);obtain ⟨y0,y1,y2,y3,y4,y5,z0,z1,z2,z3,z4,z5⟩:=cz6 F2;refine sxq 38 38 2 0 [.string a,.string b,.slice AP6 qs.length kP6,.slice AS8 us.length kS8,.bool t,.string c] [.string a,.string b,.slice AP6 qs.length kP6,.slice AS8 us.length kS8,.bool t,.string c] B F2 L2 fun w12 hk B G=>?_;replace RP6:=rk RP6 F2 (by decide) hk;replace RS8:=rk RS8 F2 (by decide) hk;replace F2:=G;clear hk y0 z0 y1 z1 y2 z2 y3 z3 y4 z4 y5 z5))
 refine bodyPost_ret (results_single rfl (.cell g2 38 _ (0,0) _ rfl F2.out hu rfl (by kernel_rfl) .nil)) rfl ?_
 exact ⟨_,_,rfl,RP6.out,RS8.out,B.out⟩

/-! Marks: what is written into a list of pairs is found there. -/
theorem mtx_loop (d : Nat) : ∀ (a : Int) (x : ByteArray),0≤a→a≤1000000000000000000→a < 10 ^ d→x.size + d≤1000→∃ r,∀ j,d + 1≤j→laws_markText.l0 j a x=some r:=by
  induction d with
  | zero =>
    intro a x h0 hb h1 hx
    refine ⟨(⟨#[109]⟩ : ByteArray) ++ x,fun j hj=>?_⟩
    obtain ⟨i,rfl⟩ : ∃ i,j=i + 1:=⟨j - 1,by omega⟩
    simp only [laws_markText.l0]
    rw [if_neg (by simp at h1;omega),if_pos (by omega)]
  | succ d ih =>
    intro a x h0 hb h1 hx
    by_cases hp : a > 0
    · have hq : wrap64 (Int.tdiv a 10)=a / 10:=by rw [Int.tdiv_eq_ediv_of_nonneg h0];exact w64 (by omega) (by omega)
      obtain ⟨r,hr⟩:=ih (a / 10) (strOfNums ([(wrap64 (48 + (Int.tmod a 10))) % 256] : List Int) ++ x) (by omega) (by omega) (by rw [Int.pow_succ] at h1;omega) (by rw [ByteArray.size_append,strOfNums_size];simp only [List.length_cons,List.length_nil];omega)
      refine ⟨r,fun j hj=>?_⟩
      obtain ⟨i,rfl⟩ : ∃ i,j=i + 1:=⟨j - 1,by omega⟩
      simp only [laws_markText.l0,Option.bind_some]
      rw [if_pos hp,if_pos (by rw [strOfNums_size];simp only [List.length_cons,List.length_nil];omega),hq]
      exact hr i (by omega)
    · refine ⟨(⟨#[109]⟩ : ByteArray) ++ x,fun j hj=>?_⟩
      obtain ⟨i,rfl⟩ : ∃ i,j=i + 1:=⟨j - 1,by omega⟩
      simp only [laws_markText.l0]
      rw [if_neg hp,if_pos (by omega)]
def mtx (a : Int) : ByteArray:=(laws_markText.f 20 a).getD ⟨#[]⟩
theorem mtx_ok (a : Int) (hb : a≤100000000000000000) (k : Nat) (hk : 20≤k) : laws_markText.f k a=some (mtx a):=by
  unfold mtx laws_markText.f
  by_cases h : a≤0
  · simp only [if_pos h,Option.getD_some]
  · simp only [if_neg h]
    obtain ⟨r,hr⟩:=mtx_loop 19 a ⟨#[]⟩ (by omega) (by omega) (by omega) (by decide)
    rw [hr k (by omega),hr 20 (by omega)]
    rfl
def mkPr (q : Int) : S105:=⟨mtx q,q + 1⟩
def prTo (n : Nat) (q : Int) : List S105:=(List.range n).map fun (i : Nat)=>mkPr (q + 2 * (i : Int))
theorem prTo_length (n : Nat) (q : Int) : (prTo n q).length=n:=by simp [prTo]
theorem rdp_nat {l : List S105} {j : Nat} (h : j < l.length) : rd_T105 l (j : Int)=l[j]:=by
  simp [rd_T105,List.getD_eq_getElem?_getD,List.getElem?_eq_getElem h]
theorem rdp_set {l : List S105} {j : Nat} (h : j < l.length) (x : S105) : rd_T105 (l.set j x) (j : Int)=x:=by
  rw [rdp_nat (by simpa using h)]
  simp
theorem markP_loop (n : Nat) (hn : n≤2097152) (q : Int) (h0 : 0≤q) (h1 : q≤1099511627776) (d : Nat) : ∀ (j : Nat) (xs : List S105),j + d=n→xs.length=n→xs.take j=(prTo n q).take j →
    ∀ k,d + 21≤k→laws_markPairS.l0 k xs (q + 2 * (j : Int)) (j : Int)=some (q + 2 * (n : Int),prTo n q):=by
  induction d with
  | zero =>
    intro j xs hj hl ht k hk
    obtain ⟨k,rfl⟩ : ∃ i,k=i + 1:=⟨k - 1,by omega⟩
    simp only [laws_markPairS.l0]
    rw [if_neg (by omega)]
    rw [List.take_of_length_le (by omega),List.take_of_length_le (by rw [prTo_length];omega)] at ht
    rw [ht,show j=n by omega]
  | succ d ih =>
    intro j xs hj hl ht k hk
    obtain ⟨k,rfl⟩ : ∃ i,k=i + 1:=⟨k - 1,by omega⟩
    have e:=ih (j + 1) (xs.set j (mkPr (q + 2 * (j : Int)))) (by omega) (by simpa using hl) (by
      rw [List.take_succ_eq_append_getElem (by simp;omega),List.take_succ_eq_append_getElem (by rw [prTo_length];omega),← ht]
      simp [List.take_set_of_le,prTo]) k (by omega)
    simp only [laws_markPairS.l0]
    rw [if_pos (by omega),mtx_ok _ (by omega) k (by omega)]
    simp only [Option.bind_some,Int.toNat_natCast]
    rw [if_pos (by omega),w64 (x:=q + 2 * (j : Int) + 1) (by omega) (by omega),w64 (x:=q + 2 * (j : Int) + 1 + 1) (by omega) (by omega),w64 (x:=(j : Int) + 1) (by omega) (by omega)]
    rw [rdp_set (by omega)]
    simp only [List.set_set]
    rw [show q + 2 * (j : Int) + 1 + 1=q + 2 * ((j + 1 : Nat) : Int) by omega]
    exact e
theorem markP (xs : List S105) (hn : xs.length≤2097152) (q : Int) (h0 : 0≤q) (h1 : q≤1099511627776) : laws_markPairS.f (xs.length + 21) xs q=some (q + 2 * (xs.length : Int),prTo xs.length q):=by
  have e:=markP_loop xs.length hn q h0 h1 xs.length 0 xs (by omega) rfl (by simp) (xs.length + 21) (by omega)
  unfold laws_markPairS.f
  simpa using e
theorem heldP_loop (n : Nat) (hn : n≤2097152) (q : Int) (h0 : 0≤q) (h1 : q≤1099511627776) (d : Nat) : ∀ (j : Nat),j + d=n →
    ∀ k,d + 21≤k→laws_heldPairS.l0 k (prTo n q) (q + 2 * (j : Int)) (j : Int)=some (q + 2 * (n : Int)):=by
  induction d with
  | zero =>
    intro j hj k hk
    obtain ⟨k,rfl⟩ : ∃ i,k=i + 1:=⟨k - 1,by omega⟩
    simp only [laws_heldPairS.l0]
    rw [if_neg (by rw [prTo_length];omega),show j=n by omega]
  | succ d ih =>
    intro j hj k hk
    obtain ⟨k,rfl⟩ : ∃ i,k=i + 1:=⟨k - 1,by omega⟩
    have e:=ih (j + 1) (by omega) k (by omega)
    have hx : rd_T105 (prTo n q) (j : Int)=mkPr (q + 2 * (j : Int)):=by
      rw [rdp_nat (by rw [prTo_length];omega)]
      simp [prTo]
    simp only [laws_heldPairS.l0]
    rw [if_pos (by rw [prTo_length];omega),if_pos (by omega),mtx_ok _ (by omega) k (by omega)]
    simp only [Option.bind_some]
    rw [hx,w64 (x:=q + 2 * (j : Int) + 1) (by omega) (by omega),w64 (x:=q + 2 * (j : Int) + 1 + 1) (by omega) (by omega),w64 (x:=(j : Int) + 1) (by omega) (by omega)]
    rw [if_pos (show (mkPr (q + 2 * (j : Int))).f0.toList=(mtx (q + 2 * (j : Int))).toList from rfl),if_pos (show (mkPr (q + 2 * (j : Int))).f1=q + 2 * (j : Int) + 1 from rfl)]
    rw [show q + 2 * (j : Int) + 1 + 1=q + 2 * ((j + 1 : Nat) : Int) by omega]
    exact e
theorem heldP (n : Nat) (hn : n≤2097152) (q : Int) (h0 : 0≤q) (h1 : q≤1099511627776) : laws_heldPairS.f (n + 21) (prTo n q) q=some (q + 2 * (n : Int)):=by
  have e:=heldP_loop n hn q h0 h1 n 0 (by omega) (n + 21) (by omega)
  unfold laws_heldPairS.f
  simpa using e
theorem cm {P : Program} {F : FuncId} {args : Array Value} {w W : World} {Q : Ending→World→Prop} {α : Type} {d : Kd α} {t : Nat} {ys : List α} {ok S : Nat→Prop} {v u : Value} (c : Calls P F args W fun e w'=>e=.returned u∧d.R t w' w.heap.size ok v ys∧Below w.heap.size w w'∧Kept W w' S)
    (h : ∀ W',Kept W W' S→Aside0 (Below w.heap.size w W')→Aside0 (Ow d t W' w.heap.size v ys)→Q (.returned u) W') : Calls P F args W Q :=
  c.mono (by rintro e W' ⟨rfl,hr,hb,hk⟩;exact h W' hk ⟨hb⟩ ⟨Kd.R_mono hr (fun _ _=>trivial)⟩)
theorem bkp {W W' : World} {α : Type} {d : Kd α} {e b g t : Nat} {cs : Array Value} {v : Value} {xs : List α} (F : Aside0 (W.heap[g]?=some (.cells cs t (0,0)))) (hk : Kept W W' fun k=>some k=v.ownBlock) (R : Aside0 (Ow d e W b v xs)) (ht : e ≠ t) : Aside0 (W'.heap[g]?=some (.cells cs t (0,0))) :=
  ⟨blk_kept F.out hk (fun h=>Kd.R_ne R.out F.out ht h)⟩
theorem rkp {W W' : World} {β : Type} {d' : Kd β} {e' b' : Nat} {v v' : Value} {ys : List β} (R' : Aside0 (Ow d' e' W b' v' ys)) (hE : d'.E=[]) (hk : Kept W W' fun k=>some k=v.ownBlock) (ne : ∀ k,v'.ownBlock=some k→v.ownBlock=some k→False) : Aside0 (Ow d' e' W' b' v' ys) :=
  ⟨Kd.R_mono (Kd.R_kept (Kd.R_tight hE R'.out) hk (fun k h1 h2=>ne k h1.symm h2.symm)) (fun _ _=>trivial)⟩
theorem laws_markPairS.M (v : Value) (l : List S105) (q : Int) (w W : World) (B : Aside0 (Below w.heap.size w W)) (R : Aside0 (Ow k105 105 W w.heap.size v l)) (hn : l.length≤2097152) (h0 : 0≤q) (h1 : q≤1099511627776) :
    Calls Try.prog 57 #[v,.int .i64 q] W fun e w'=>e=.returned (.int .i64 (q + 2 * (l.length : Int)))∧Kd.R k105 105 w' w.heap.size (fun k_=>(some k_=v.ownBlock ∨ W.heap.size≤k_)) v (prTo l.length q)∧Below w.heap.size w w'∧Kept W w' (fun k_=>some k_=v.ownBlock) :=
  laws_markPairS.calls (l.length + 21) (fun k=>some k=v.ownBlock) v l q _ _ w W B.out (Kd.R_tight rfl R.out) (markP l hn q h0 h1)
theorem laws_heldPairS.M (A : Option Addr) (c n : Nat) (l : List S105) (q : Int) (hl : l=prTo n q) (W : World) (hr : Kd.C k105 W A l.length l) (hc : l.length≤c) (hn : n≤2097152) (h0 : 0≤q) (h1 : q≤1099511627776) :
    Calls Try.prog 59 #[.slice A l.length c,.int .i64 q] W fun e w'=>e=.returned (.int .i64 (q + 2 * (n : Int)))∧Below W.heap.size W w' :=
  laws_heldPairS.calls (n + 21) A c l q _ W hr hc (by rw [hl];exact heldP n hn q h0 h1)
theorem laws_heldPairS.M2 (A : Option Addr) (c : Nat) (l : List S105) (q : Int) (W : World) (hr : Kd.C k105 W A (prTo l.length q).length (prTo l.length q)) (hc : (prTo l.length q).length≤c) (hn : l.length≤2097152) (h0 : 0≤q) (h1 : q≤1099511627776) :
    Calls Try.prog 59 #[.slice A l.length c,.int .i64 q] W fun e w'=>e=.returned (.int .i64 (q + 2 * (l.length : Int)))∧Below W.heap.size W w':=by
  have h:=laws_heldPairS.M A c l.length (prTo l.length q) q rfl W hr hc hn h0 h1
  rwa [prTo_length] at h
theorem rl2 {α : Type} {d : Kd α} {e b n : Nat} {W : World} {A : Option Addr} {c : Nat} {xs : List α} (R : Aside0 (Ow d e W b (.slice A n c) xs)) : xs.length≤c:=by have h:=Kd.R_reads' R.out;have:=h.1;have:=h.2.1;omega

/-! Marks: what is written into a list of sessions is found there. -/
def mkSes (k : Int) : S76:=⟨k,k + 1,k + 2⟩
def sesTo (n : Nat) (q : Int) : List S76:=(List.range n).map fun (i : Nat)=>mkSes (q + 3 * (i : Int))
theorem sesTo_length (n : Nat) (q : Int) : (sesTo n q).length=n:=by simp [sesTo]
theorem rds_set {l : List S76} {j : Nat} (h : j < l.length) (x : S76) : rd_T76 (l.set j x) (j : Int)=x:=by
  rw [ses_nat (by simpa using h)]
  simp
theorem markSes_loop (n : Nat) (hn : n≤2097152) (q : Int) (h0 : 0≤q) (h1 : q≤1099511627776) (d : Nat) : ∀ (j : Nat) (xs : List S76),j + d=n→xs.length=n→xs.take j=(sesTo n q).take j →
    ∀ k,d + 1≤k→laws_markSessionS.l0 k xs (q + 3 * (j : Int)) (j : Int)=some (q + 3 * (n : Int),sesTo n q):=by
  induction d with
  | zero =>
    intro j xs hj hl ht k hk
    obtain ⟨k,rfl⟩ : ∃ i,k=i + 1:=⟨k - 1,by omega⟩
    simp only [laws_markSessionS.l0]
    rw [if_neg (by omega)]
    rw [List.take_of_length_le (by omega),List.take_of_length_le (by rw [sesTo_length];omega)] at ht
    rw [ht,show j=n by omega]
  | succ d ih =>
    intro j xs hj hl ht k hk
    obtain ⟨k,rfl⟩ : ∃ i,k=i + 1:=⟨k - 1,by omega⟩
    have e:=ih (j + 1) (xs.set j (mkSes (q + 3 * (j : Int)))) (by omega) (by simpa using hl) (by
      rw [List.take_succ_eq_append_getElem (by simp;omega),List.take_succ_eq_append_getElem (by rw [sesTo_length];omega),← ht]
      simp [List.take_set_of_le,sesTo]) k (by omega)
    · simp only [laws_markSessionS.l0,Option.bind_some,Int.toNat_natCast]
      rw [if_pos (by omega),if_pos (by omega),w64 (x:=q + 3 * (j : Int) + 1) (by omega) (by omega),w64 (x:=q + 3 * (j : Int) + 1 + 1) (by omega) (by omega),w64 (x:=q + 3 * (j : Int) + 1 + 1 + 1) (by omega) (by omega),w64 (x:=(j : Int) + 1) (by omega) (by omega)]
      rw [rds_set (by omega),rds_set (by rw [List.length_set];omega)]
      simp only [List.set_set]
      rw [show q + 3 * (j : Int) + 1 + 1 + 1=q + 3 * ((j + 1 : Nat) : Int) by omega]
      refine Eq.trans ?_ e
      rw [show mkSes (q + 3 * (j : Int))=(⟨q + 3 * (j : Int),q + 3 * (j : Int) + 1,q + 3 * (j : Int) + 1 + 1⟩ : S76) from by unfold mkSes;congr 1;omega]
      rfl
theorem markSes (xs : List S76) (hn : xs.length≤2097152) (q : Int) (h0 : 0≤q) (h1 : q≤1099511627776) :
    laws_markSessionS.f (xs.length + 21) xs q=some (q + 3 * (xs.length : Int),sesTo xs.length q):=by
  have e:=markSes_loop xs.length hn q h0 h1 xs.length 0 xs (by omega) rfl (by simp) (xs.length + 21) (by omega)
  unfold laws_markSessionS.f
  simpa using e
theorem heldSes_loop (n : Nat) (hn : n≤2097152) (q : Int) (h0 : 0≤q) (h1 : q≤1099511627776) (d : Nat) : ∀ (j : Nat),j + d=n →
    ∀ k,d + 1≤k→laws_heldSessionS.l0 k (sesTo n q) (q + 3 * (j : Int)) (j : Int)=some (q + 3 * (n : Int)):=by
  induction d with
  | zero =>
    intro j hj k hk
    obtain ⟨k,rfl⟩ : ∃ i,k=i + 1:=⟨k - 1,by omega⟩
    simp only [laws_heldSessionS.l0]
    rw [if_neg (by rw [sesTo_length];omega),show j=n by omega]
  | succ d ih =>
    intro j hj k hk
    obtain ⟨k,rfl⟩ : ∃ i,k=i + 1:=⟨k - 1,by omega⟩
    have e:=ih (j + 1) (by omega) k (by omega)
    have hx : rd_T76 (sesTo n q) (j : Int)=mkSes (q + 3 * (j : Int)):=by
      rw [ses_nat (by rw [sesTo_length];omega)]
      simp [sesTo]
    simp only [laws_heldSessionS.l0]
    rw [if_pos (by rw [sesTo_length];omega),if_pos (by omega),hx,w64 (x:=q + 3 * (j : Int) + 1) (by omega) (by omega),w64 (x:=q + 3 * (j : Int) + 1 + 1) (by omega) (by omega),w64 (x:=q + 3 * (j : Int) + 1 + 1 + 1) (by omega) (by omega),w64 (x:=(j : Int) + 1) (by omega) (by omega)]
    rw [if_pos (show (mkSes (q + 3 * (j : Int))).f0=q + 3 * (j : Int) from rfl),if_pos (show (mkSes (q + 3 * (j : Int))).f1=q + 3 * (j : Int) + 1 from rfl),if_pos (show (mkSes (q + 3 * (j : Int))).f2=q + 3 * (j : Int) + 1 + 1 from show q + 3 * (j : Int) + 2=q + 3 * (j : Int) + 1 + 1 by omega)]
    rw [show q + 3 * (j : Int) + 1 + 1 + 1=q + 3 * ((j + 1 : Nat) : Int) by omega]
    exact e
theorem heldSes (n : Nat) (hn : n≤2097152) (q : Int) (h0 : 0≤q) (h1 : q≤1099511627776) : laws_heldSessionS.f (n + 21) (sesTo n q) q=some (q + 3 * (n : Int)):=by
  have e:=heldSes_loop n hn q h0 h1 n 0 (by omega) (n + 21) (by omega)
  unfold laws_heldSessionS.f
  simpa using e
theorem laws_markSessionS.M (v : Value) (l : List S76) (q : Int) (w W : World) (B : Aside0 (Below w.heap.size w W)) (R : Aside0 (Ow k76 76 W w.heap.size v l)) (hn : l.length≤2097152) (h0 : 0≤q) (h1 : q≤1099511627776) :
    Calls Try.prog 58 #[v,.int .i64 q] W fun e w'=>e=.returned (.int .i64 (q + 3 * (l.length : Int)))∧Kd.R k76 76 w' w.heap.size (fun k_=>(some k_=v.ownBlock ∨ W.heap.size≤k_)) v (sesTo l.length q)∧Below w.heap.size w w'∧Kept W w' (fun k_=>some k_=v.ownBlock) :=
  laws_markSessionS.calls (l.length + 21) (fun k=>some k=v.ownBlock) v l q _ _ w W B.out (Kd.R_tight rfl R.out) (markSes l hn q h0 h1)
theorem laws_heldSessionS.M2 (A : Option Addr) (c : Nat) (l : List S76) (q : Int) (W : World) (hr : Kd.C k76 W A (sesTo l.length q).length (sesTo l.length q)) (hc : (sesTo l.length q).length≤c) (hn : l.length≤2097152) (h0 : 0≤q) (h1 : q≤1099511627776) :
    Calls Try.prog 60 #[.slice A l.length c,.int .i64 q] W fun e w'=>e=.returned (.int .i64 (q + 3 * (l.length : Int)))∧Below W.heap.size W w':=by
  have h:=dnB (laws_heldSessionS.calls (l.length + 21) A c (sesTo l.length q) q _ W hr hc (heldSes l.length hn q h0 h1))
  rwa [sesTo_length] at h

theorem laws_markState.M (a b : ByteArray) (AP : Option Addr) (cP : Nat) (ps : List S105) (AS : Option Addr) (cS : Nat) (ss : List S76) (t : Bool) (c : ByteArray) (q : Int) (w W : World) (B : Aside0 (Below w.heap.size w W)) (RP : Aside0 (Ow k105 105 W w.heap.size (.slice AP ps.length cP) ps)) (RS : Aside0 (Ow k76 76 W w.heap.size (.slice AS ss.length cS) ss)) (hp : ps.length≤2097152) (hs : ss.length≤2097152) (h0 : 0≤q) (h1 : q≤1000000000000) : Calls Try.prog 14 #[.agg #[.string a,.string b,.slice AP ps.length cP,.slice AS ss.length cS,.bool t,.string c],.int .i64 q] W fun e w'=>e=.returned (.int .i64 (q + 2 * (ps.length : Int) + 3 * (ss.length : Int)))∧Kd.R k105 105 w' w.heap.size (fun _=>True) (.slice AP ps.length cP) (prTo ps.length q)∧Kd.R k76 76 w' w.heap.size (fun _=>True) (.slice AS ss.length cS) (sesTo ss.length (q + 2 * (ps.length : Int)))∧Below w.heap.size w w'∧Kept W w' (fun k_=>some k_=(Value.slice AP ps.length cP).ownBlock ∨ some k_=(Value.slice AS ss.length cS).ownBlock):=by
 have hu:=Try.underlying38
 have DP_S:=Aside0.mk (dty RP RS (by decide))
 go_enter Try.func14,Try.ntmps14
 go_wp2_with (first
  | ((with_reducible refine gate_dst (N:=2) rfl ?_);refine bxq 2 #[.string a,.string b,.slice AP ps.length cP,.slice AS ss.length cS,.bool t,.string c] 38 B fun g2 w1 hb B F2 L2 E2=>?_;have KK:=Kept.of_below hb (fun k_=>some k_=(Value.slice AP ps.length cP).ownBlock ∨ some k_=(Value.slice AS ss.length cS).ownBlock);replace RP:=rn RP hb;replace RS:=rn RS hb;obtain ⟨c2_0,c2_1,c2_2,c2_3,c2_4,c2_5⟩:=cs6 F2;clear hb E2)
  | (go_at_call 57;with_reducible refine cm (laws_markPairS.M _ ps q w _ B RP (by assumption) (by omega) (by omega)) fun w2 hk B RX=>?_;replace KK:=KK.then_ hk (fun k_ h_=>.inl (.inl h_));replace F2:=bkp F2 hk RP (by decide);replace RS:=rkp RS rfl hk (dty RP RS (by decide));replace RP:=RX;clear hk;clear c2_0 c2_1 c2_2 c2_3 c2_4 c2_5;obtain ⟨c2_0,c2_1,c2_2,c2_3,c2_4,c2_5⟩:=cs6 F2;skip)
  | (go_at_call 58;with_reducible refine cm (laws_markSessionS.M _ ss (q + 2 * (ps.length : Int)) w _ B RS (by assumption) (by omega) (by omega)) fun w3 hk B RX=>?_;replace KK:=KK.then_ hk (fun k_ h_=>.inl (.inr h_));replace RP:=rkp RP rfl hk (dty RS RP (by decide));replace RS:=RX;clear hk;skip))
 go_ret
 exact ⟨rfl,RP.out,RS.out,B.out,KK⟩
theorem laws_heldState.M (a b : ByteArray) (AP : Option Addr) (cP : Nat) (ps : List S105) (AS : Option Addr) (cS : Nat) (ss : List S76) (t : Bool) (c : ByteArray) (q : Int) (w : World) (hrp : Kd.C k105 w AP (prTo ps.length q).length (prTo ps.length q)) (hcp : (prTo ps.length q).length≤cP) (hrs : Kd.C k76 w AS (sesTo ss.length (q + 2 * (ps.length : Int))).length (sesTo ss.length (q + 2 * (ps.length : Int)))) (hcs : (sesTo ss.length (q + 2 * (ps.length : Int))).length≤cS) (hp : ps.length≤2097152) (hs : ss.length≤2097152) (h0 : 0≤q) (h1 : q≤1000000000000) : Calls Try.prog 15 #[.agg #[.string a,.string b,.slice AP ps.length cP,.slice AS ss.length cS,.bool t,.string c],.int .i64 q] w fun e w'=>e=.returned (.int .i64 (q + 2 * (ps.length : Int) + 3 * (ss.length : Int)))∧Below w.heap.size w w':=by
 have B:=Aside0.mk (Below.refl w.heap.size w)
 have hu:=Try.underlying38
 have HRP:=Aside0.mk hrp
 have HRS:=Aside0.mk hrs
 have HCP:=Aside0.mk hcp
 have HCS:=Aside0.mk hcs
 clear hrp hrs hcp hcs
 have d1 : decide (q + 2 * (ps.length : Int) < 0)=false:=decide_eq_false (by omega)
 have d2 : decide ((q + 2 * (ps.length : Int) + 3 * (ss.length : Int)) < 0)=false:=decide_eq_false (by omega)
 go_enter Try.func15,Try.ntmps15
 go_wp2_with (first
  | ((with_reducible refine gate_dst (N:=2) rfl ?_);refine bxq 2 #[.string a,.string b,.slice AP ps.length cP,.slice AS ss.length cS,.bool t,.string c] 38 B fun g2 w1 hb B F2 L2 E2=>?_;obtain ⟨c2_0,c2_1,c2_2,c2_3,c2_4,c2_5⟩:=cs6 F2;clear hb E2)
  | (go_at_call 59;with_reducible refine cl (laws_heldPairS.M2 _ _ ps q _ (cb HRP B) HCP.out (by assumption) (by omega) (by omega)) B fun w2 hb B=>?_;replace F2:=bn F2 hb;clear c2_0 c2_1 c2_2 c2_3 c2_4 c2_5;obtain ⟨c2_0,c2_1,c2_2,c2_3,c2_4,c2_5⟩:=cs6 F2;clear hb)
  | (go_at_call 60;with_reducible refine cl (laws_heldSessionS.M2 _ _ ss (q + 2 * (ps.length : Int)) _ (cb HRS B) HCS.out (by assumption) (by omega) (by omega)) B fun w3 hb B=>?_;clear hb))
 all_goals go_ret
 all_goals exact ⟨rfl,B.out⟩

theorem gd_set {l : List S44} {j : Nat} {x : S44} (h : j < l.length) : (l.set j x).getD j z44=x:=by
 rw [List.getD_eq_getElem?_getD,List.getElem?_set_self h]
 rfl
def mkEn (q : Int) : S44:=⟨q,q + 1,⟨q + 2,mtx (q + 3),q + 4,q + 5⟩⟩
def enTo (n : Nat) (q : Int) : List S44:=(List.range n).map fun (i : Nat)=>mkEn (q + 6 * (i : Int))
theorem enTo_length (n : Nat) (q : Int) : (enTo n q).length=n:=by simp [enTo]
theorem enTo_step {n j : Nat} {q : Int} {xs : List S44} (hl : xs.length=n) (hj : j < n) (ht : xs.take j=(enTo n q).take j) : (xs.set j (mkEn (q + 6 * (j : Int)))).take (j + 1)=(enTo n q).take (j + 1):=by
 rw [List.take_succ_eq_append_getElem (by simp;omega),List.take_succ_eq_append_getElem (by rw [enTo_length];omega),← ht]
 simp [List.take_set_of_le,enTo]
theorem laws_markText.Q (q : Int) (h : q≤100000000000000000) (w : World) : Calls Try.prog 77 #[.int .i64 q] w fun e w'=>e=.returned (.string (mtx q))∧Below w.heap.size w w':=laws_markText.calls 20 q _ w (mtx_ok q h 20 (by omega))
theorem laws_markEntryS.M (v : Value) (l : List S44) (q : Int) (w W : World) (B : Aside0 (Below w.heap.size w W)) (R : Aside0 (Ow k44 44 W w.heap.size v l)) (hn : l.length≤2097152) (h0 : 0≤q) (h1 : q≤1099511627776) :
  Calls Try.prog 28 #[v,.int .i64 q] W fun e w'=>e=.returned (.int .i64 (q + 6 * (l.length : Int)))∧Kd.R k44 44 w' w.heap.size (fun k_=>(some k_=v.ownBlock ∨ W.heap.size≤k_)) v (enTo l.length q)∧Below w.heap.size w w'∧Kept W w' (fun k_=>some k_=v.ownBlock):=by
 obtain ⟨A,kk,rfl⟩:=Kd.R_slice R.out
 have KK:=Aside0.mk (Kept.refl W (fun k_=>some k_=(Value.slice A l.length kk).ownBlock))
 obtain ⟨n,hn0⟩ : ∃ n,l.length=n:=⟨_,rfl⟩
 rw [hn0] at hn R KK ⊢
 have hu:=Try.underlying44
 go_enter Try.func28,Try.ntmps28
 go_wp2
 go_loopg [1,5] (n + 1) (fun kx v1 v5 wr=>∃ (j : Nat) (xs : List S44),v1=.int .i64 (q + 6 * (j : Int))∧v5=.int .i64 (j : Int)∧j≤n∧n < j + kx∧xs.length=n∧Aside0 (xs.take j=(enTo n q).take j)∧Aside0 (Below w.heap.size w wr)∧Aside0 (Kept W wr (fun k_=>some k_=(Value.slice A n kk).ownBlock))∧Aside0 (Ow k44 44 wr w.heap.size (.slice A n kk) xs))
 case atStart=>exact ⟨0,l,congrArg (Value.int .i64) (by omega),rfl,by omega,by omega,hn0,⟨rfl⟩,B,KK,R⟩
 case round =>
  clear B KK R hn0
  obtain ⟨j,xs,rfl,rfl,hj,hk,hxl,HT,B,KK,R⟩:=hrel
  by_cases hlt : j < n
  ·obtain ⟨d,rfl⟩ : ∃ d,gk=d + 1:=⟨gk - 1,by omega⟩
   have cj : decide ((j : Int) < (n : Int))=true:=decide_eq_true (by omega)
   obtain ⟨g0,rfl,hg0⟩:=rform R (by omega)
   have hsz : k44.sz=6:=rfl
   have j1:=eq_true (show (j : Int) < (n : Int) by omega)
   have j2:=eq_true hlt
   have hlx : j < xs.length:=by omega
   obtain ⟨y,hy⟩ : ∃ y,xs.getD j z44=y:=⟨_,rfl⟩
   have HE:=Aside0.mk (enTo_step hxl hlt HT.out)
   clear HT
   obtain ⟨k0,hk0⟩ : ∃ x,q + 6 * (j : Int)=x:=⟨_,rfl⟩
   have hb0 : 0≤k0∧k0≤1199511627776:=by omega
   rw [hk0] at HE ⊢
   obtain ⟨k1,hk1⟩ : ∃ x,k0 + 1=x:=⟨_,rfl⟩
   have hw1 : wrap64 (k0 + 1)=k1:=by rw [← hk1];exact w64 (by omega) (by omega)
   obtain ⟨k2,hk2⟩ : ∃ x,k1 + 1=x:=⟨_,rfl⟩
   have hw2 : wrap64 (k1 + 1)=k2:=by rw [← hk2];exact w64 (by omega) (by omega)
   obtain ⟨k3,hk3⟩ : ∃ x,k2 + 1=x:=⟨_,rfl⟩
   have hw3 : wrap64 (k2 + 1)=k3:=by rw [← hk3];exact w64 (by omega) (by omega)
   obtain ⟨k4,hk4⟩ : ∃ x,k3 + 1=x:=⟨_,rfl⟩
   have hw4 : wrap64 (k3 + 1)=k4:=by rw [← hk4];exact w64 (by omega) (by omega)
   obtain ⟨k5,hk5⟩ : ∃ x,k4 + 1=x:=⟨_,rfl⟩
   have hw5 : wrap64 (k4 + 1)=k5:=by rw [← hk5];exact w64 (by omega) (by omega)
   obtain ⟨k6,hk6⟩ : ∃ x,k5 + 1=x:=⟨_,rfl⟩
   have hw6 : wrap64 (k5 + 1)=k6:=by rw [← hk6];exact w64 (by omega) (by omega)
   have hme : mkEn k0=⟨k0,k1,⟨k2,mtx k3,k4,k5⟩⟩:=by
    unfold mkEn
    rw [show k0 + 1=k1 by omega,show k0 + 2=k2 by omega,show k0 + 3=k3 by omega,show k0 + 4=k4 by omega,show k0 + 5=k5 by omega]
   rw [hme] at HE
   have hk3 : k3≤100000000000000000:=by omega
   go_wp2_with (first
    | ((with_reducible refine gate_store (t:=3) (p:=16) rfl ?_);obtain ⟨cs,hcl,hMM,hcc,hfz⟩:=rcells z44 R j hlt;rw [hy] at hMM;obtain ⟨u0,hu0⟩ : ∃ u,cs[0]?=some u:=⟨_,List.getElem?_eq_getElem (by rw [hcl];decide)⟩;have q0:=hcc 0 u0 hu0;have q1:=hfz 0;rw [hsz,Nat.add_zero] at q0 q1;refine es (t:=3) (p:=16) (v:=?vo0) ?hg ?ho ?hn j 0 [.int .i64 k0] ⟨k0,y.f1,y.f2⟩ ?hr R hlt hcl hcc (Nat.le_of_ble_eq_true rfl) (by rw [k44_openM hMM];exact k44_mkM _ _ _ ⟨k0,y.f1,y.f2⟩) B hg0 ?_;(case ho | hg | hn=>rfl);(case hr=>go_simp;first | done | rfl);intro w0 hgr B R;replace KK:=Aside0.mk (Kept.of_grown hgr KK.out (fun k_ hk_=>.inl hk_.symm));clear hgr q0 q1 hu0 hcc hfz hMM hcl)
    | ((with_reducible refine gate_store (t:=3) (p:=23) rfl ?_);obtain ⟨cs,hcl,hMM,hcc,hfz⟩:=rcells z44 R j hlt;rw [gd_set hlx] at hMM;obtain ⟨u0,hu0⟩ : ∃ u,cs[1]?=some u:=⟨_,List.getElem?_eq_getElem (by rw [hcl];decide)⟩;have q0:=hcc 1 u0 hu0;have q1:=hfz 1;rw [hsz] at q0 q1;refine es (t:=3) (p:=23) (v:=?vo1) ?hg ?ho ?hn j 1 [.int .i64 k1] ⟨k0,k1,y.f2⟩ ?hr R hlt hcl hcc (Nat.le_of_ble_eq_true rfl) (by rw [k44_openM hMM];exact k44_mkM _ _ _ ⟨k0,k1,y.f2⟩) B hg0 ?_;(case ho | hg | hn=>rfl);(case hr=>go_simp;first | done | rfl);intro w1 hgr B R;replace KK:=Aside0.mk (Kept.of_grown hgr KK.out (fun k_ hk_=>.inl hk_.symm));rw [List.set_set] at R;clear hgr q0 q1 hu0 hcc hfz hMM hcl)
    | ((with_reducible refine gate_store (t:=3) (p:=31) rfl ?_);obtain ⟨cs,hcl,hMM,hcc,hfz⟩:=rcells z44 R j hlt;rw [gd_set hlx] at hMM;obtain ⟨u0,hu0⟩ : ∃ u,cs[2]?=some u:=⟨_,List.getElem?_eq_getElem (by rw [hcl];decide)⟩;have q0:=hcc 2 u0 hu0;have q1:=hfz 2;rw [hsz] at q0 q1;refine es (t:=3) (p:=31) (v:=?vo2) ?hg ?ho ?hn j 2 [.int .i64 k2] ⟨k0,k1,⟨k2,y.f2.f1,y.f2.f2,y.f2.f3⟩⟩ ?hr R hlt hcl hcc (Nat.le_of_ble_eq_true rfl) (by rw [k44_openM hMM];exact k44_mkM _ _ _ ⟨k0,k1,⟨k2,y.f2.f1,y.f2.f2,y.f2.f3⟩⟩) B hg0 ?_;(case ho | hg | hn=>rfl);(case hr=>go_simp;first | done | rfl);intro w2 hgr B R;replace KK:=Aside0.mk (Kept.of_grown hgr KK.out (fun k_ hk_=>.inl hk_.symm));rw [List.set_set] at R;clear hgr q0 q1 hu0 hcc hfz hMM hcl)
    | (go_at_call 77;with_reducible refine cl (laws_markText.Q k3 (by omega) _) B fun w7 hb B=>?_;replace R:=rn R hb;replace KK:=Aside0.mk (Kept.below KK.out hb);clear hb)
    | ((with_reducible refine gate_store (t:=9) (p:=40) rfl ?_);obtain ⟨cs,hcl,hMM,hcc,hfz⟩:=rcells z44 R j hlt;rw [gd_set hlx] at hMM;obtain ⟨u0,hu0⟩ : ∃ u,cs[3]?=some u:=⟨_,List.getElem?_eq_getElem (by rw [hcl];decide)⟩;have q0:=hcc 3 u0 hu0;have q1:=hfz 3;rw [hsz] at q0 q1;refine es (t:=9) (p:=40) (v:=?vo3) ?hg ?ho ?hn j 3 [.string (mtx k3)] ⟨k0,k1,⟨k2,mtx k3,y.f2.f2,y.f2.f3⟩⟩ ?hr R hlt hcl hcc (Nat.le_of_ble_eq_true rfl) (by rw [k44_openM hMM];exact k44_mkM _ _ _ ⟨k0,k1,⟨k2,mtx k3,y.f2.f2,y.f2.f3⟩⟩) B hg0 ?_;(case ho | hg | hn=>rfl);(case hr=>go_simp;first | done | rfl);intro w3 hgr B R;replace KK:=Aside0.mk (Kept.of_grown hgr KK.out (fun k_ hk_=>.inl hk_.symm));rw [List.set_set] at R;clear hgr q0 q1 hu0 hcc hfz hMM hcl)
    | ((with_reducible refine gate_store (t:=3) (p:=48) rfl ?_);obtain ⟨cs,hcl,hMM,hcc,hfz⟩:=rcells z44 R j hlt;rw [gd_set hlx] at hMM;obtain ⟨u0,hu0⟩ : ∃ u,cs[4]?=some u:=⟨_,List.getElem?_eq_getElem (by rw [hcl];decide)⟩;have q0:=hcc 4 u0 hu0;have q1:=hfz 4;rw [hsz] at q0 q1;refine es (t:=3) (p:=48) (v:=?vo4) ?hg ?ho ?hn j 4 [.int .i64 k4] ⟨k0,k1,⟨k2,mtx k3,k4,y.f2.f3⟩⟩ ?hr R hlt hcl hcc (Nat.le_of_ble_eq_true rfl) (by rw [k44_openM hMM];exact k44_mkM _ _ _ ⟨k0,k1,⟨k2,mtx k3,k4,y.f2.f3⟩⟩) B hg0 ?_;(case ho | hg | hn=>rfl);(case hr=>go_simp;first | done | rfl);intro w4 hgr B R;replace KK:=Aside0.mk (Kept.of_grown hgr KK.out (fun k_ hk_=>.inl hk_.symm));rw [List.set_set] at R;clear hgr q0 q1 hu0 hcc hfz hMM hcl)
    | ((with_reducible refine gate_store (t:=3) (p:=56) rfl ?_);obtain ⟨cs,hcl,hMM,hcc,hfz⟩:=rcells z44 R j hlt;rw [gd_set hlx] at hMM;obtain ⟨u0,hu0⟩ : ∃ u,cs[5]?=some u:=⟨_,List.getElem?_eq_getElem (by rw [hcl];decide)⟩;have q0:=hcc 5 u0 hu0;have q1:=hfz 5;rw [hsz] at q0 q1;refine es (t:=3) (p:=56) (v:=?vo5) ?hg ?ho ?hn j 5 [.int .i64 k5] ⟨k0,k1,⟨k2,mtx k3,k4,k5⟩⟩ ?hr R hlt hcl hcc (Nat.le_of_ble_eq_true rfl) (by rw [k44_openM hMM];exact k44_mkM _ _ _ ⟨k0,k1,⟨k2,mtx k3,k4,k5⟩⟩) B hg0 ?_;(case ho | hg | hn=>rfl);(case hr=>go_simp;first | done | rfl);intro w5 hgr B R;replace KK:=Aside0.mk (Kept.of_grown hgr KK.out (fun k_ hk_=>.inl hk_.symm));rw [List.set_set] at R;clear hgr q0 q1 hu0 hcc hfz hMM hcl))
   go_roundg d
   case measure=>omega
   case rel=>exact ⟨j + 1,_,congrArg (Value.int .i64) (by omega),congrArg (Value.int .i64) (Int.natCast_succ _).symm,by omega,by omega,by rw [List.length_set];exact hxl,HE,B,KK,R⟩
  ·have cj : decide ((j : Int) < (n : Int))=false:=decide_eq_false (by omega)
   have hh:=HT.out
   rw [List.take_of_length_le (by omega),List.take_of_length_le (by rw [enTo_length];omega)] at hh
   subst hh
   go_wp2
   go_ret
   exact ⟨congrArg (fun x=>Ending.returned (Value.int .i64 x)) (by omega),Kd.R_mono (Kd.R_tight rfl R.out) (fun _ hk_=>.inl hk_),B.out,KK.out⟩

/-! Marks: what is written into a list of numbers is found there. -/
def upTo (n : Nat) (k : Int) : List Int:=(List.range n).map fun (i : Nat)=>k + (i : Int)
theorem upTo_length (n : Nat) (k : Int) : (upTo n k).length=n:=by simp [upTo]
theorem rdi_nat {l : List Int} {j : Nat} (h : j < l.length) : rd l (j : Int)=l[j]:=by
  simp [rd,List.getD_eq_getElem?_getD,List.getElem?_eq_getElem h]
theorem markI_loop (n : Nat) (hn : n≤2097152) (q : Int) (h0 : 0≤q) (h1 : q≤1099511627776) (d : Nat) : ∀ (j : Nat) (xs : List Int),j + d=n→xs.length=n→xs.take j=(upTo n q).take j →
    ∀ k,d + 1≤k→laws_markIntS.l0 k xs (q + (j : Int)) (j : Int)=some (q + (n : Int),upTo n q):=by
  induction d with
  | zero =>
    intro j xs hj hl ht k hk
    obtain ⟨k,rfl⟩ : ∃ i,k=i + 1:=⟨k - 1,by omega⟩
    simp only [laws_markIntS.l0]
    rw [if_neg (by omega)]
    rw [List.take_of_length_le (by omega),List.take_of_length_le (by rw [upTo_length];omega)] at ht
    rw [ht,show j=n by omega]
  | succ d ih =>
    intro j xs hj hl ht k hk
    obtain ⟨k,rfl⟩ : ∃ i,k=i + 1:=⟨k - 1,by omega⟩
    have e:=ih (j + 1) (xs.set j (q + (j : Int))) (by omega) (by simpa using hl) (by
      rw [List.take_succ_eq_append_getElem (by simp;omega),List.take_succ_eq_append_getElem (by rw [upTo_length];omega),← ht]
      simp [List.take_set_of_le,upTo]) k (by omega)
    simp only [laws_markIntS.l0]
    rw [if_pos (by omega),if_pos (by omega),w64 (x:=q + (j : Int) + 1) (by omega) (by omega),w64 (x:=(j : Int) + 1) (by omega) (by omega)]
    rw [show q + (j : Int) + 1=q + ((j + 1 : Nat) : Int) by omega]
    exact e
theorem markI (xs : List Int) (hn : xs.length≤2097152) (q : Int) (h0 : 0≤q) (h1 : q≤1099511627776) : laws_markIntS.f (xs.length + 21) xs q=some (q + (xs.length : Int),upTo xs.length q):=by
  have e:=markI_loop xs.length hn q h0 h1 xs.length 0 xs (by omega) rfl (by simp) (xs.length + 21) (by omega)
  unfold laws_markIntS.f
  simpa using e
theorem heldI_loop (n : Nat) (hn : n≤2097152) (q : Int) (h0 : 0≤q) (h1 : q≤1099511627776) (d : Nat) : ∀ (j : Nat),j + d=n →
    ∀ k,d + 1≤k→laws_heldIntS.l0 k (upTo n q) (q + (j : Int)) (j : Int)=some (q + (n : Int)):=by
  induction d with
  | zero =>
    intro j hj k hk
    obtain ⟨k,rfl⟩ : ∃ i,k=i + 1:=⟨k - 1,by omega⟩
    simp only [laws_heldIntS.l0]
    rw [if_neg (by rw [upTo_length];omega),show j=n by omega]
  | succ d ih =>
    intro j hj k hk
    obtain ⟨k,rfl⟩ : ∃ i,k=i + 1:=⟨k - 1,by omega⟩
    have e:=ih (j + 1) (by omega) k (by omega)
    simp only [laws_heldIntS.l0]
    rw [if_pos (by rw [upTo_length];omega),if_pos (by omega),rdi_nat (by rw [upTo_length];omega)]
    rw [if_pos (by simp [upTo]),w64 (x:=q + (j : Int) + 1) (by omega) (by omega),w64 (x:=(j : Int) + 1) (by omega) (by omega)]
    rw [show q + (j : Int) + 1=q + ((j + 1 : Nat) : Int) by omega]
    exact e
theorem heldI (n : Nat) (hn : n≤2097152) (q : Int) (h0 : 0≤q) (h1 : q≤1099511627776) : laws_heldIntS.f (n + 21) (upTo n q) q=some (q + (n : Int)):=by
  have e:=heldI_loop n hn q h0 h1 n 0 (by omega) (n + 21) (by omega)
  unfold laws_heldIntS.f
  simpa using e
theorem eqI_loop (xs : List Int) (hn : xs.length≤2097152) (d : Nat) : ∀ (j : Nat),j + d=xs.length→∀ k,d + 1≤k→laws_eqIntS.l0 k xs xs (j : Int)=some true:=by
  induction d with
  | zero =>
    intro j hj k hk
    obtain ⟨k,rfl⟩ : ∃ i,k=i + 1:=⟨k - 1,by omega⟩
    simp only [laws_eqIntS.l0]
    rw [if_neg (by omega)]
  | succ d ih =>
    intro j hj k hk
    obtain ⟨k,rfl⟩ : ∃ i,k=i + 1:=⟨k - 1,by omega⟩
    have e:=ih (j + 1) (by omega) k (by omega)
    simp only [laws_eqIntS.l0]
    rw [if_pos (by omega),if_pos (by omega),if_pos (by omega),w64 (by omega) (by omega)]
    simpa using e
theorem eqI (xs : List Int) (hn : xs.length≤2097152) : laws_eqIntS.f (xs.length + 21) xs xs=some true:=by
  unfold laws_eqIntS.f
  rw [if_pos (by omega)]
  simpa using eqI_loop xs hn xs.length 0 (by omega) (xs.length + 21) (by omega)
theorem laws_markIntS.M (v : Value) (l : List Int) (q : Int) (w W : World) (B : Aside0 (Below w.heap.size w W)) (R : Aside0 (Ow (Kd.int .i64) 3 W w.heap.size v l)) (hn : l.length≤2097152) (h0 : 0≤q) (h1 : q≤1099511627776) :
    Calls Try.prog 29 #[v,.int .i64 q] W fun e w'=>e=.returned (.int .i64 (q + (l.length : Int)))∧Kd.R (Kd.int .i64) 3 w' w.heap.size (fun k_=>(some k_=v.ownBlock ∨ W.heap.size≤k_)) v (upTo l.length q)∧Below w.heap.size w w'∧Kept W w' (fun k_=>some k_=v.ownBlock) :=
  laws_markIntS.calls (l.length + 21) (fun k=>some k=v.ownBlock) v l q _ _ w W B.out (Kd.R_tight rfl R.out) (markI l hn q h0 h1)
theorem laws_heldIntS.M2 (A : Option Addr) (c : Nat) (l : List Int) (q : Int) (W : World) (hr : Kd.C (Kd.int .i64) W A (upTo l.length q).length (upTo l.length q)) (hc : (upTo l.length q).length≤c) (hn : l.length≤2097152) (h0 : 0≤q) (h1 : q≤1099511627776) :
    Calls Try.prog 30 #[.slice A l.length c,.int .i64 q] W fun e w'=>e=.returned (.int .i64 (q + (l.length : Int)))∧Below W.heap.size W w':=by
  have h:=dnB (laws_heldIntS.calls (l.length + 21) A c (upTo l.length q) q _ W hr hc (heldI l.length hn q h0 h1))
  rwa [upTo_length] at h
theorem laws_eqIntS.M (A0 : Option Addr) (c0 : Nat) (A1 : Option Addr) (c1 : Nat) (l : List Int) (W : World) (h0 : Kd.C (Kd.int .i64) W A0 l.length l) (hc0 : l.length≤c0) (h1 : Kd.C (Kd.int .i64) W A1 l.length l) (hc1 : l.length≤c1) (hn : l.length≤2097152) :
    Calls Try.prog 26 #[.slice A0 l.length c0,.slice A1 l.length c1] W fun e w'=>e=.returned (.bool true)∧Below W.heap.size W w' :=
  dnB (laws_eqIntS.calls (l.length + 21) A0 c0 l A1 c1 l true W h0 hc0 h1 hc1 (eqI l hn))

end Go.Proofs.Ythofkheehldioaa.PFnExactReplay
