/- Walks over models, part 2: iae aer alive same rdr drawn rdv rdpairs rdses rdspan spin rdstate rd4 rdcmd rdent drapplyentry drae nostE. -/
import Derived.Test.YthofkheehldioaaPFnApplyEntryx0
import Derived.Deep.RegionHeld3
import Derived.Lib.Strings
import Derived.Laws.BytesArg
import Derived.Test.YthofkheehldioaaPFnApplyEntryx71
import Derived.Test.YthofkheehldioaaPFnApplyEntryx72
import Derived.Test.YthofkheehldioaaPFnApplyEntryx78
import Derived.Test.YthofkheehldioaaPFnApplyEntryx54
import Derived.Test.YthofkheehldioaaPFnApplyEntryx55
import Derived.Test.YthofkheehldioaaPFnApplyEntryx53
import Derived.Test.YthofkheehldioaaPFnApplyEntryx62
import Derived.Test.YthofkheehldioaaPFnApplyEntryx61
import Derived.Test.YthofkheehldioaaMFnApplyEntry0
import Derived.Test.YthofkheehldioaaMFnApplyEntry1
namespace Go.Proofs.Ythofkheehldioaa.PFnApplyEntry
open Go.RowKit Go.Proofs.YthofkheehldioaaW.PrintWords Go.Proofs.YthofkheehldioaaW.PrintLast Go.Proofs.YthofkheehldioaaW.PrintMore
set_option linter.unusedVariables false
set_option linter.unusedSimpArgs false
set_option maxHeartbeats 4000000
set_option maxRecDepth 100000
attribute [local go_sem] leq_str geq_str gtr_str
theorem impl_sessionPlace.Mb (A0 : Option Addr) (c0 : Nat) (l : List S76) (c : Int) (w : World) (hr0 : Kd.C k76 w A0 l.length l) (hc0 : l.length≤c0) (hv : sesB l=true) (bb : Bool) (hh : hitOf l c=bb) : Calls Try.prog 50 #[.slice A0 l.length c0,.int .i64 c] w fun e w'=>e=.returned (.tuple #[.int .i64 ((plOf l c : Nat) : Int),.bool bb])∧Below w.heap.size w w':=by
 subst hh
 exact impl_sessionPlace.M A0 c0 l c w hr0 hc0 hv
def impl_ApplyEntry.T5 : Bool × List (List Nat × List Nat):=(true,[([],[]),([0],[0]),([1],[1]),([2,1],[1,2]),([1],[1]),([4,1],[1,4]),([1],[1]),([5,6,1],[1,5,6]),([7,1],[1,7]),([8,1],[1,8]),([3,9,1],[1,3,9]),([1,10],[1,10])])
def impl_ApplyEntry.B5 : List Nat:=[0,1,3,7,3,19,3,115,243,499,1023,2047]
theorem impl_ApplyEntry.tab5 : rtab .any (opsOf Try.f12 5)=impl_ApplyEntry.T5:=by kernel_rfl
theorem impl_ApplyEntry.bits5 : waitsOk impl_ApplyEntry.T5.2 impl_ApplyEntry.B5=true:=by kernel_rfl
def impl_ApplyEntry.T6 : Bool × List (List Nat × List Nat):=(true,[([],[]),([0],[0]),([],[]),([2],[2]),([],[]),([3,4],[3,4]),([5],[5]),([6],[6]),([1,7],[1,7])])
def impl_ApplyEntry.B6 : List Nat:=[0,1,0,4,0,28,60,124,255]
theorem impl_ApplyEntry.tab6 : rtab .any (opsOf Try.f12 6)=impl_ApplyEntry.T6:=by kernel_rfl
theorem impl_ApplyEntry.bits6 : waitsOk impl_ApplyEntry.T6.2 impl_ApplyEntry.B6=true:=by kernel_rfl
def impl_ApplyEntry.T7 : Bool × List (List Nat × List Nat):=(true,[([],[]),([],[]),([1],[1]),([],[]),([2,3],[2,3]),([4],[4]),([5],[5]),([0,0],[0]),([6,7,0,1,2,3,4,5,6,7],[6])])
def impl_ApplyEntry.B7 : List Nat:=[0,0,2,0,14,30,62,1,255]
theorem impl_ApplyEntry.tab7 : rtab .any (opsOf Try.f12 7)=impl_ApplyEntry.T7:=by kernel_rfl
theorem impl_ApplyEntry.bits7 : waitsOk impl_ApplyEntry.T7.2 impl_ApplyEntry.B7=true:=by kernel_rfl
theorem impl_ApplyEntry.M (a b : ByteArray) (AP : Option Addr) (cP : Nat) (ps : List S105) (AS : Option Addr) (cS : Nat) (ss : List S76) (t : Bool) (c : ByteArray) (ci sq k : Int) (x : ByteArray) (v o : Int) (w : World) (hrp : Kd.C k105 w AP ps.length ps) (hrs : Kd.C k76 w AS ss.length ss) (hcp : ps.length≤cP) (hcs : ss.length≤cS) : Calls Try.prog 12 #[.agg #[.string a,.string b,.slice AP ps.length cP,.slice AS ss.length cS,.bool t,.string c],.agg #[.int .i64 ci,.int .i64 sq,.int .i64 k,.string x,.int .i64 v,.int .i64 o]] w fun e w'=>∃ v2 v3,e=.returned (.tuple #[.agg #[.string (aeM ⟨a,b,ps,ss,t,c⟩ ci sq k x v o).1.a,.string (aeM ⟨a,b,ps,ss,t,c⟩ ci sq k x v o).1.b,v2,v3,.bool (aeM ⟨a,b,ps,ss,t,c⟩ ci sq k x v o).1.t,.string (aeM ⟨a,b,ps,ss,t,c⟩ ci sq k x v o).1.c],.int .i64 (aeM ⟨a,b,ps,ss,t,c⟩ ci sq k x v o).2])∧Kd.R k105 105 w' w.heap.size (fun _=>True) v2 (aeM ⟨a,b,ps,ss,t,c⟩ ci sq k x v o).1.ps∧Kd.R k76 76 w' w.heap.size (fun _=>True) v3 (aeM ⟨a,b,ps,ss,t,c⟩ ci sq k x v o).1.ss∧Below w.heap.size w w':=by
 have B:=Aside0.mk (Below.refl w.heap.size w)
 have hu:=Try.underlying38
 have hu2:=Try.underlying34
 have HRP:=Aside0.mk hrp
 have HRS:=Aside0.mk hrs
 have HCP:=Aside0.mk hcp
 have HCS:=Aside0.mk hcs
 clear hrp hrs hcp hcs
 have hu3:=Try.underlying44
 have hu4:=Try.underlying42
 have hu5:=Try.underlying76
 cases hs : stB a b ps ss t c with
 | false =>
  rw [aeM_bad (s:=⟨a,b,ps,ss,t,c⟩) (by unfold SM.ok;rw [hs];simp)]
  go_enter Try.func12,Try.ntmps12
  go_wp2_with (first
   | ((with_reducible refine gate_dst (N:=2) rfl ?_);refine bxq 2 #[.string a,.string b,.slice AP ps.length cP,.slice AS ss.length cS,.bool t,.string c] 38 B fun g2 w1 hb B F2 L2 E2=>?_;obtain ⟨c2_0,c2_1,c2_2,c2_3,c2_4,c2_5⟩:=cs6 F2;clear hb E2)
   | ((with_reducible refine gate_dst (N:=3) rfl ?_);refine bxq 3 #[.int .i64 (ci),.int .i64 (sq),.int .i64 (k),.string x,.int .i64 (v),.int .i64 (o)] 44 B fun g3 w2 hb B F3 L3 E3=>?_;replace F2:=bn F2 hb;clear c2_0 c2_1 c2_2 c2_3 c2_4 c2_5;obtain ⟨c2_0,c2_1,c2_2,c2_3,c2_4,c2_5⟩:=cs6 F2;obtain ⟨c3_0,c3_1,c3_2,c3_3,c3_4,c3_5⟩:=cs6 F3;clear hb E3)
   | ((with_reducible refine gate_dst (N:=4) rfl ?_);refine bxq 4 #[.string (⟨#[]⟩ : ByteArray),.string (⟨#[]⟩ : ByteArray),.slice none 0 0,.slice none 0 0,.bool false,.string (⟨#[]⟩ : ByteArray)] 38 B fun g4 w3 hb B F4 L4 E4=>?_;have N2_4:=ne1 E4 F2;have N3_4:=ne1 E4 F3;replace F2:=bn F2 hb;replace F3:=bn F3 hb;clear c2_0 c2_1 c2_2 c2_3 c2_4 c2_5;obtain ⟨c2_0,c2_1,c2_2,c2_3,c2_4,c2_5⟩:=cs6 F2;clear c3_0 c3_1 c3_2 c3_3 c3_4 c3_5;obtain ⟨c3_0,c3_1,c3_2,c3_3,c3_4,c3_5⟩:=cs6 F3;clear hb E4)
   | (go_at_call 18;with_reducible refine cl (impl_StateValid.M a b _ _ ps _ _ ss t c _ (cb HRP B) (cb HRS B)) B fun w4 hb B=>?_;replace F2:=bn F2 hb;replace F3:=bn F3 hb;replace F4:=bn F4 hb;clear c3_0 c3_1 c3_2 c3_3 c3_4 c3_5;obtain ⟨c3_0,c3_1,c3_2,c3_3,c3_4,c3_5⟩:=cs6 F3;clear hb)
   | (go_at_call 19;with_reducible refine cl (impl_EntryValid.M ci sq k x v o _) B fun w5 hb B=>?_;replace F2:=bn F2 hb;replace F3:=bn F3 hb;replace F4:=bn F4 hb;clear hb)
   | ((with_reducible refine gate_store (t:=38) (p:=4) rfl ?_);obtain ⟨y0,y1,y2,y3,y4,y5,z0,z1,z2,z3,z4,z5⟩:=cz6 F4;refine sxq 38 38 4 0 [.string (⟨#[]⟩ : ByteArray),.string (⟨#[]⟩ : ByteArray),.slice none 0 0,.slice none 0 0,.bool false,.string (⟨#[]⟩ : ByteArray)] [.string (⟨#[]⟩ : ByteArray),.string (⟨#[]⟩ : ByteArray),.slice none 0 0,.slice none 0 0,.bool false,.string (⟨#[]⟩ : ByteArray)] B F4 L4 fun w6 hk B G=>?_;replace F2:=bk F2 hk N2_4.out;replace F3:=bk F3 hk N3_4.out;replace F4:=G;clear hk y0 z0 y1 z1 y2 z2 y3 z3 y4 z4 y5 z5))
  all_goals (try (refine bodyPost_ret (results_list (rs:=[.cell 4 38,.tmp 5]) rfl (by simp) (.cell g4 38 _ (0,0) _ rfl F4.out hu rfl (by kernel_rfl) (.tmp .nil))) rfl ?_);exact ⟨_,_,rfl,Kd.R_nil _ _ _ _ _,Kd.R_nil _ _ _ _ _,B.out⟩)
 | true =>
  cases he : entB ci sq k x v o with
  | false =>
   rw [aeM_bad (s:=⟨a,b,ps,ss,t,c⟩) (by rw [he];simp)]
   go_enter Try.func12,Try.ntmps12
   go_wp2_with (first
    | ((with_reducible refine gate_dst (N:=2) rfl ?_);refine bxq 2 #[.string a,.string b,.slice AP ps.length cP,.slice AS ss.length cS,.bool t,.string c] 38 B fun g2 w101 hb B F2 L2 E2=>?_;obtain ⟨c2_0,c2_1,c2_2,c2_3,c2_4,c2_5⟩:=cs6 F2;clear hb E2)
    | ((with_reducible refine gate_dst (N:=3) rfl ?_);refine bxq 3 #[.int .i64 (ci),.int .i64 (sq),.int .i64 (k),.string x,.int .i64 (v),.int .i64 (o)] 44 B fun g3 w102 hb B F3 L3 E3=>?_;replace F2:=bn F2 hb;clear c2_0 c2_1 c2_2 c2_3 c2_4 c2_5;obtain ⟨c2_0,c2_1,c2_2,c2_3,c2_4,c2_5⟩:=cs6 F2;obtain ⟨c3_0,c3_1,c3_2,c3_3,c3_4,c3_5⟩:=cs6 F3;clear hb E3)
    | ((with_reducible refine gate_dst (N:=4) rfl ?_);refine bxq 4 #[.string (⟨#[]⟩ : ByteArray),.string (⟨#[]⟩ : ByteArray),.slice none 0 0,.slice none 0 0,.bool false,.string (⟨#[]⟩ : ByteArray)] 38 B fun g4 w103 hb B F4 L4 E4=>?_;have N2_4:=ne1 E4 F2;have N3_4:=ne1 E4 F3;replace F2:=bn F2 hb;replace F3:=bn F3 hb;clear c2_0 c2_1 c2_2 c2_3 c2_4 c2_5;obtain ⟨c2_0,c2_1,c2_2,c2_3,c2_4,c2_5⟩:=cs6 F2;clear c3_0 c3_1 c3_2 c3_3 c3_4 c3_5;obtain ⟨c3_0,c3_1,c3_2,c3_3,c3_4,c3_5⟩:=cs6 F3;clear hb E4)
    | (go_at_call 18;with_reducible refine cl (impl_StateValid.M a b _ _ ps _ _ ss t c _ (cb HRP B) (cb HRS B)) B fun w104 hb B=>?_;replace F2:=bn F2 hb;replace F3:=bn F3 hb;replace F4:=bn F4 hb;clear c3_0 c3_1 c3_2 c3_3 c3_4 c3_5;obtain ⟨c3_0,c3_1,c3_2,c3_3,c3_4,c3_5⟩:=cs6 F3;clear hb)
    | (go_at_call 19;with_reducible refine cl (impl_EntryValid.M ci sq k x v o _) B fun w105 hb B=>?_;replace F2:=bn F2 hb;replace F3:=bn F3 hb;replace F4:=bn F4 hb;clear hb)
    | ((with_reducible refine gate_store (t:=38) (p:=4) rfl ?_);obtain ⟨y0,y1,y2,y3,y4,y5,z0,z1,z2,z3,z4,z5⟩:=cz6 F4;refine sxq 38 38 4 0 [.string (⟨#[]⟩ : ByteArray),.string (⟨#[]⟩ : ByteArray),.slice none 0 0,.slice none 0 0,.bool false,.string (⟨#[]⟩ : ByteArray)] [.string (⟨#[]⟩ : ByteArray),.string (⟨#[]⟩ : ByteArray),.slice none 0 0,.slice none 0 0,.bool false,.string (⟨#[]⟩ : ByteArray)] B F4 L4 fun w106 hk B G=>?_;replace F2:=bk F2 hk N2_4.out;replace F3:=bk F3 hk N3_4.out;replace F4:=G;clear hk y0 z0 y1 z1 y2 z2 y3 z3 y4 z4 y5 z5))
   all_goals (try (refine bodyPost_ret (results_list (rs:=[.cell 4 38,.tmp 5]) rfl (by simp) (.cell g4 38 _ (0,0) _ rfl F4.out hu rfl (by kernel_rfl) (.tmp .nil))) rfl ?_);exact ⟨_,_,rfl,Kd.R_nil _ _ _ _ _,Kd.R_nil _ _ _ _ _,B.out⟩)
  | true =>
   obtain ⟨hiv,hp,hv,hin,htl⟩:=stB_parts.mp hs
   have hpl : ps.length≤1000000:=by have:=prB_len hp;omega
   have hsl : ss.length≤1000000:=by have:=sesB_len hv;omega
   obtain ⟨hcl,hsq,hcm⟩:=entB_parts he
   have hh : ((SM.mk a b ps ss t c).ok && entB ci sq k x v o)=true:=by unfold SM.ok;rw [hs,he];rfl
   clear hin htl hp hiv
   cases hit : hitOf ss ci with
   | true =>
    have hfy:=hit_findS hv hit
    have hpo:=(plhit hit).1
    obtain ⟨ad,hA,y0,y1,y2⟩:=at_T76 HRS.out ((plOf ss ci : Nat) : Int) (by omega) (by omega)
    cases hA
    clear y0 y1 y2
    have j1:=eq_true (show ((plOf ss ci : Nat) : Int) < (ss.length : Int) by omega)
    have j2:=eq_true hpo
    generalize hy : rd_T76 ss ((plOf ss ci : Nat) : Int)=y at *
    by_cases q1 : sq≤y.f1
    ·have d1 : decide (sq≤y.f1)=true:=decide_eq_true q1
     have hi : idleB ⟨a,b,ps,ss,t,c⟩ ci sq k x=true:=by unfold idleB;rw [← hfy,decide_eq_true q1];rfl
     by_cases q2 : y.f1=sq
     ·have d2 : (sq == y.f1)=true:=by rw [q2];simp
      rw [aeM_idle hh hi,show idleN ⟨a,b,ps,ss,t,c⟩ ci sq=y.f2 from by unfold idleN;rw [← hfy];exact if_pos q2]
      clear hh hcm hsq hi hfy hcl q1 q2
      go_enter Try.func12,Try.ntmps12
      go_wp2_with (first
       | ((with_reducible refine gate_dst (N:=2) rfl ?_);refine bxq 2 #[.string a,.string b,.slice AP ps.length cP,.slice (some ad) ss.length cS,.bool t,.string c] 38 B fun g2 w201 hb B F2 L2 E2=>?_;obtain ⟨c2_0,c2_1,c2_2,c2_3,c2_4,c2_5⟩:=cs6 F2;clear hb E2)
       | ((with_reducible refine gate_dst (N:=3) rfl ?_);refine bxq 3 #[.int .i64 (ci),.int .i64 (sq),.int .i64 (k),.string x,.int .i64 (v),.int .i64 (o)] 44 B fun g3 w202 hb B F3 L3 E3=>?_;replace F2:=bn F2 hb;clear c2_0 c2_1 c2_2 c2_3 c2_4 c2_5;obtain ⟨c2_0,c2_1,c2_2,c2_3,c2_4,c2_5⟩:=cs6 F2;obtain ⟨c3_0,c3_1,c3_2,c3_3,c3_4,c3_5⟩:=cs6 F3;clear hb E3)
       | ((with_reducible refine gate_dst (N:=4) rfl ?_);refine bxq 4 #[.string (⟨#[]⟩ : ByteArray),.string (⟨#[]⟩ : ByteArray),.slice none 0 0,.slice none 0 0,.bool false,.string (⟨#[]⟩ : ByteArray)] 38 B fun g4 w203 hb B F4 L4 E4=>?_;have N2_4:=ne1 E4 F2;have N3_4:=ne1 E4 F3;replace F2:=bn F2 hb;replace F3:=bn F3 hb;clear c2_0 c2_1 c2_2 c2_3 c2_4 c2_5;obtain ⟨c2_0,c2_1,c2_2,c2_3,c2_4,c2_5⟩:=cs6 F2;clear c3_0 c3_1 c3_2 c3_3 c3_4 c3_5;obtain ⟨c3_0,c3_1,c3_2,c3_3,c3_4,c3_5⟩:=cs6 F3;clear hb E4)
       | (go_at_call 18;with_reducible refine cl (impl_StateValid.M a b _ _ ps _ _ ss t c _ (cb HRP B) (cb HRS B)) B fun w204 hb B=>?_;replace F2:=bn F2 hb;replace F3:=bn F3 hb;replace F4:=bn F4 hb;clear c2_0 c2_1 c2_2 c2_3 c2_4 c2_5;obtain ⟨c2_0,c2_1,c2_2,c2_3,c2_4,c2_5⟩:=cs6 F2;clear c3_0 c3_1 c3_2 c3_3 c3_4 c3_5;obtain ⟨c3_0,c3_1,c3_2,c3_3,c3_4,c3_5⟩:=cs6 F3;clear hb)
       | (go_at_call 19;with_reducible refine cl (impl_EntryValid.M ci sq k x v o _) B fun w205 hb B=>?_;replace F2:=bn F2 hb;replace F3:=bn F3 hb;replace F4:=bn F4 hb;clear c2_0 c2_1 c2_2 c2_3 c2_4 c2_5;obtain ⟨c2_0,c2_1,c2_2,c2_3,c2_4,c2_5⟩:=cs6 F2;clear c3_0 c3_1 c3_2 c3_3 c3_4 c3_5;obtain ⟨c3_0,c3_1,c3_2,c3_3,c3_4,c3_5⟩:=cs6 F3;clear hb)
       | (go_at_call 49;with_reducible refine c2r (impl_copyState.M a b _ _ ps _ _ ss t c _ (cb HRP B) (cb HRS B) HCP.out HCS.out (by omega) (by omega)) B fun AP206 kP206 AS206 kS206 w206 hb B RP206 QP206 RS206 QS206=>?_;have DP206_S206:=Aside0.mk (dty RP206 RS206 (by decide));replace F2:=bn F2 hb;replace F3:=bn F3 hb;replace F4:=bn F4 hb;clear QP206 QS206;clear c2_0 c2_1 c2_2 c2_3 c2_4 c2_5;obtain ⟨c2_0,c2_1,c2_2,c2_3,c2_4,c2_5⟩:=cs6 F2;clear c3_0 c3_1 c3_2 c3_3 c3_4 c3_5;obtain ⟨c3_0,c3_1,c3_2,c3_3,c3_4,c3_5⟩:=cs6 F3;clear hb)
       | ((with_reducible refine gate_dst (N:=6) rfl ?_);refine bxq 6 #[.string (⟨#[]⟩ : ByteArray),.string (⟨#[]⟩ : ByteArray),.slice none 0 0,.slice none 0 0,.bool false,.string (⟨#[]⟩ : ByteArray)] 38 B fun g6 w207 hb B F6 L6 E6=>?_;have N2_6:=ne1 E6 F2;have N3_6:=ne1 E6 F3;have N4_6:=ne1 E6 F4;replace F2:=bn F2 hb;replace F3:=bn F3 hb;replace F4:=bn F4 hb;replace RP206:=rn RP206 hb;replace RS206:=rn RS206 hb;clear c2_0 c2_1 c2_2 c2_3 c2_4 c2_5;obtain ⟨c2_0,c2_1,c2_2,c2_3,c2_4,c2_5⟩:=cs6 F2;clear c3_0 c3_1 c3_2 c3_3 c3_4 c3_5;obtain ⟨c3_0,c3_1,c3_2,c3_3,c3_4,c3_5⟩:=cs6 F3;obtain ⟨c6_0,c6_1,c6_2,c6_3,c6_4,c6_5⟩:=cs6 F6;clear hb E6)
       | ((with_reducible refine gate_store (t:=38) (p:=6) rfl ?_);obtain ⟨y0,y1,y2,y3,y4,y5,z0,z1,z2,z3,z4,z5⟩:=cz6 F6;refine sxq 38 38 6 0 [.string a,.string b,.slice AP206 ps.length kP206,.slice AS206 ss.length kS206,.bool t,.string c] [.string a,.string b,.slice AP206 ps.length kP206,.slice AS206 ss.length kS206,.bool t,.string c] B F6 L6 fun w208 hk B G=>?_;replace F2:=bk F2 hk N2_6.out;replace F3:=bk F3 hk N3_6.out;replace F4:=bk F4 hk N4_6.out;replace RP206:=rk RP206 F6 (by decide) hk;replace RS206:=rk RS206 F6 (by decide) hk;replace F6:=G;clear c2_0 c2_1 c2_2 c2_3 c2_4 c2_5;obtain ⟨c2_0,c2_1,c2_2,c2_3,c2_4,c2_5⟩:=cs6 F2;clear c3_0 c3_1 c3_2 c3_3 c3_4 c3_5;obtain ⟨c3_0,c3_1,c3_2,c3_3,c3_4,c3_5⟩:=cs6 F3;clear c6_0 c6_1 c6_2 c6_3 c6_4 c6_5;obtain ⟨c6_0,c6_1,c6_2,c6_3,c6_4,c6_5⟩:=cs6 F6;clear hk y0 z0 y1 z1 y2 z2 y3 z3 y4 z4 y5 z5)
       | (go_at_call 50;with_reducible refine cl (impl_sessionPlace.Mb _ _ ss ci _ (cb HRS B) HCS.out hv true hit) B fun w209 hb B=>?_;replace F2:=bn F2 hb;replace F3:=bn F3 hb;replace F4:=bn F4 hb;replace F6:=bn F6 hb;replace RP206:=rn RP206 hb;replace RS206:=rn RS206 hb;clear c2_0 c2_1 c2_2 c2_3 c2_4 c2_5;obtain ⟨c2_0,c2_1,c2_2,c2_3,c2_4,c2_5⟩:=cs6 F2;clear c3_0 c3_1 c3_2 c3_3 c3_4 c3_5;obtain ⟨c3_0,c3_1,c3_2,c3_3,c3_4,c3_5⟩:=cs6 F3;clear c6_0 c6_1 c6_2 c6_3 c6_4 c6_5;obtain ⟨c6_0,c6_1,c6_2,c6_3,c6_4,c6_5⟩:=cs6 F6;clear hb))
      all_goals (
       refine rg (n:=12) (S:=fun W=>W.heap[g3]?=some (.cells #[.int .i64 (ci),.int .i64 (sq),.int .i64 (k),.string x,.int .i64 (v),.int .i64 (o)] 44 (0,0))∧W.heap[g2]?=some (.cells #[.string a,.string b,.slice AP ps.length cP,.slice (some ad) ss.length cS,.bool t,.string c] 38 (0,0))∧Kd.C k76 W (some ad) ss.length ss) (ds:=[]) #[false,false,false,false,false,false,false,false,false,false,false,false] (by kernel_rfl) rfl rfl ⟨F3.out,F2.out,(cb HRS B)⟩ id B (fun w210 hb B hHeld=>?_)
       refine with_tabW impl_ApplyEntry.tab5 impl_ApplyEntry.bits5 (fun HT_ HW_=>?_)
       replace F2:=bn F2 hb
       replace F3:=bn F3 hb
       replace F4:=bn F4 hb
       replace F6:=bn F6 hb
       replace RP206:=rn RP206 hb
       replace RS206:=rn RS206 hb
       clear hb
       refine pvq 0 (some 29) (bits 12 1) HT_ ?_
       refine pvq 1 (some 30) (bits 12 3) HT_ ?_
       refine pvq 2 (some 31) (bits 12 7) HT_ ?_
       refine tvq 3 (some 32) (bits 12 15) HT_ HW_ rfl hHeld (by intro w' hS;obtain ⟨s0,s1,s2⟩:=hS;obtain ⟨q0,q1,q2,q3,q4,q5⟩:=cs6 (Aside0.mk s0);go_simp;with_reducible rfl) ?_
       refine pvq 4 (some 33) (bits 12 31) HT_ ?_
       refine tvq 5 (some 34) (bits 12 63) HT_ HW_ rfl hHeld (by intro w' hS;obtain ⟨s0,s1,s2⟩:=hS;obtain ⟨q0,q1,q2,q3,q4,q5⟩:=cs6 (Aside0.mk s1);go_simp;with_reducible rfl) ?_
       refine pvq 6 (some 35) (bits 12 127) HT_ ?_
       refine pvq 7 (some 36) (bits 12 255) HT_ ?_
       refine pvq 8 (some 37) (bits 12 511) HT_ ?_
       refine tvq 9 (some 38) (bits 12 1023) HT_ HW_ rfl hHeld (by intro w' hS;obtain ⟨s0,s1,s2⟩:=hS;obtain ⟨_,hA,q0,q1,q2⟩:=at_T76 s2 ((plOf ss ci : Nat) : Int) (by omega) (by omega);cases hA;rw [Int.toNat_natCast] at q0 q1 q2;rw [hy] at q0 q1 q2;go_simp;with_reducible rfl) ?_
       refine pvq 10 (some 39) (bits 12 2047) HT_ ?_
       refine pvq 11 (some 40) (bits 12 4095) HT_ ?_
       refine nmq ?_
       refine done_ (done_of HT_.out (by kernel_rfl)) ?_
       clear c2_0 c2_1 c2_2 c2_3 c2_4 c2_5
       obtain ⟨c2_0,c2_1,c2_2,c2_3,c2_4,c2_5⟩:=cs6 F2
       clear c3_0 c3_1 c3_2 c3_3 c3_4 c3_5
       obtain ⟨c3_0,c3_1,c3_2,c3_3,c3_4,c3_5⟩:=cs6 F3
       clear c6_0 c6_1 c6_2 c6_3 c6_4 c6_5
       obtain ⟨c6_0,c6_1,c6_2,c6_3,c6_4,c6_5⟩:=cs6 F6)
      all_goals try go_wp2
      all_goals (
       refine rg (n:=9) (S:=fun W=>W.heap[g3]?=some (.cells #[.int .i64 (ci),.int .i64 (sq),.int .i64 (k),.string x,.int .i64 (v),.int .i64 (o)] 44 (0,0))∧W.heap[g2]?=some (.cells #[.string a,.string b,.slice AP ps.length cP,.slice (some ad) ss.length cS,.bool t,.string c] 38 (0,0))∧Kd.C k76 W (some ad) ss.length ss) (ds:=[]) #[false,false,false,false,false,false,false,false,false] (by kernel_rfl) rfl rfl ⟨F3.out,F2.out,(cb HRS B)⟩ id B (fun w211 hb B hHeld=>?_)
       refine with_tabW impl_ApplyEntry.tab6 impl_ApplyEntry.bits6 (fun HT_ HW_=>?_)
       replace F2:=bn F2 hb
       replace F3:=bn F3 hb
       replace F4:=bn F4 hb
       replace F6:=bn F6 hb
       replace RP206:=rn RP206 hb
       replace RS206:=rn RS206 hb
       clear hb
       refine pvq 0 (some 41) (bits 9 1) HT_ ?_
       refine tvq 1 (some 42) (bits 9 3) HT_ HW_ rfl hHeld (by intro w' hS;obtain ⟨s0,s1,s2⟩:=hS;obtain ⟨q0,q1,q2,q3,q4,q5⟩:=cs6 (Aside0.mk s0);go_simp;with_reducible rfl) ?_
       refine pvq 2 (some 43) (bits 9 7) HT_ ?_
       refine tvq 3 (some 44) (bits 9 15) HT_ HW_ rfl hHeld (by intro w' hS;obtain ⟨s0,s1,s2⟩:=hS;obtain ⟨q0,q1,q2,q3,q4,q5⟩:=cs6 (Aside0.mk s1);go_simp;with_reducible rfl) ?_
       refine pvq 4 (some 45) (bits 9 31) HT_ ?_
       refine pvq 5 (some 46) (bits 9 63) HT_ ?_
       refine pvq 6 (some 47) (bits 9 127) HT_ ?_
       refine tvq 7 (some 48) (bits 9 255) HT_ HW_ rfl hHeld (by intro w' hS;obtain ⟨s0,s1,s2⟩:=hS;obtain ⟨_,hA,q0,q1,q2⟩:=at_T76 s2 ((plOf ss ci : Nat) : Int) (by omega) (by omega);cases hA;rw [Int.toNat_natCast] at q0 q1 q2;rw [hy] at q0 q1 q2;go_simp;with_reducible rfl) ?_
       refine pvq 8 (some 49) (bits 9 511) HT_ ?_
       refine nmq ?_
       refine done_ (done_of HT_.out (by kernel_rfl)) ?_
       clear c2_0 c2_1 c2_2 c2_3 c2_4 c2_5
       obtain ⟨c2_0,c2_1,c2_2,c2_3,c2_4,c2_5⟩:=cs6 F2
       clear c6_0 c6_1 c6_2 c6_3 c6_4 c6_5
       obtain ⟨c6_0,c6_1,c6_2,c6_3,c6_4,c6_5⟩:=cs6 F6)
      all_goals try go_wp2
      all_goals (
       refine rg (n:=9) (S:=fun W=>W.heap[g6]?=some (.cells #[.string a,.string b,.slice AP206 ps.length kP206,.slice AS206 ss.length kS206,.bool t,.string c] 38 (0,0))∧W.heap[g2]?=some (.cells #[.string a,.string b,.slice AP ps.length cP,.slice (some ad) ss.length cS,.bool t,.string c] 38 (0,0))∧Kd.C k76 W (some ad) ss.length ss) (ds:=[]) #[false,false,false,false,false,false,false,false,false] (by kernel_rfl) rfl rfl ⟨F6.out,F2.out,(cb HRS B)⟩ id B (fun w212 hb B hHeld=>?_)
       refine with_tabW impl_ApplyEntry.tab7 impl_ApplyEntry.bits7 (fun HT_ HW_=>?_)
       replace F2:=bn F2 hb
       replace F4:=bn F4 hb
       replace F6:=bn F6 hb
       replace RP206:=rn RP206 hb
       replace RS206:=rn RS206 hb
       clear hb
       refine tvq 0 (some 50) (bits 9 1) HT_ HW_ rfl hHeld (by intro w' hS;obtain ⟨s0,s1,s2⟩:=hS;obtain ⟨q0,q1,q2,q3,q4,q5⟩:=cs6 (Aside0.mk s0);go_simp;with_reducible rfl) ?_
       refine pvq 1 (some 51) (bits 9 3) HT_ ?_
       refine tvq 2 (some 52) (bits 9 7) HT_ HW_ rfl hHeld (by intro w' hS;obtain ⟨s0,s1,s2⟩:=hS;obtain ⟨q0,q1,q2,q3,q4,q5⟩:=cs6 (Aside0.mk s1);go_simp;with_reducible rfl) ?_
       refine pvq 3 (some 53) (bits 9 15) HT_ ?_
       refine pvq 4 (some 54) (bits 9 31) HT_ ?_
       refine pvq 5 (some 55) (bits 9 63) HT_ ?_
       refine tvq 6 (some 56) (bits 9 127) HT_ HW_ rfl hHeld (by intro w' hS;obtain ⟨s0,s1,s2⟩:=hS;obtain ⟨_,hA,q0,q1,q2⟩:=at_T76 s2 ((plOf ss ci : Nat) : Int) (by omega) (by omega);cases hA;rw [Int.toNat_natCast] at q0 q1 q2;rw [hy] at q0 q1 q2;go_simp;with_reducible rfl) ?_
       refine nmq ?_
       refine one_ (i:=7) (N:=none) (bits 9 255) rfl rfl (one_of HT_.out (by kernel_rfl)) (by decide) (fun K hK=>?_)
       obtain ⟨y0,y1,y2,y3,y4,y5,z0,z1,z2,z3,z4,z5⟩:=cz6 F4
       refine sxs (g:=g4) 0 [.string a,.string b,.slice AP206 ps.length kP206,.slice AS206 ss.length kS206,.bool t,.string c] [.string a,.string b,.slice AP206 ps.length kP206,.slice AS206 ss.length kS206,.bool t,.string c] (by rfl) rfl ?hr B F4 L4 rfl (Nat.le_of_ble_eq_true rfl) (fun w213 hk B G=>?_)
       (case hr=>go_simp;first | done | rfl)
       replace F2:=bk F2 hk N2_4.out
       replace F6:=bk F6 hk N4_6.out.symm
       replace RP206:=rk RP206 F4 (by decide) hk
       replace RS206:=rk RS206 F4 (by decide) hk
       replace F4:=G
       clear hk y0 z0 y1 z1 y2 z2 y3 z3 y4 z4 y5 z5
       refine hK.out _ _ ⟨F6.out,F2.out,(cb HRS B)⟩ (fun hHeld=>?_)
       clear hK K
       refine pvq 8 (some 5) (bits 9 511) HT_ ?_
       refine nmq ?_
       refine done_ (done_of HT_.out (by kernel_rfl)) ?_)
      all_goals try go_wp2
      all_goals (try (refine bodyPost_ret (results_list (rs:=[.cell 4 38,.tmp 5]) rfl (by simp) (.cell g4 38 _ (0,0) _ rfl F4.out hu rfl (by kernel_rfl) (.tmp .nil))) rfl ?_);exact ⟨_,_,rfl,RP206.out,RS206.out,B.out⟩)
     ·have d2 : (sq == y.f1)=false:=beq_eq_false_iff_ne.mpr (fun h=>q2 h.symm)
      rw [aeM_idle hh hi,show idleN ⟨a,b,ps,ss,t,c⟩ ci sq=-4 from by unfold idleN;rw [← hfy];exact (if_neg q2).trans (if_pos (by omega))]
      clear hh hcm hsq hi hfy hcl q1 q2
      go_enter Try.func12,Try.ntmps12
      go_wp2_with (first
       | ((with_reducible refine gate_dst (N:=2) rfl ?_);refine bxq 2 #[.string a,.string b,.slice AP ps.length cP,.slice (some ad) ss.length cS,.bool t,.string c] 38 B fun g2 w301 hb B F2 L2 E2=>?_;obtain ⟨c2_0,c2_1,c2_2,c2_3,c2_4,c2_5⟩:=cs6 F2;clear hb E2)
       | ((with_reducible refine gate_dst (N:=3) rfl ?_);refine bxq 3 #[.int .i64 (ci),.int .i64 (sq),.int .i64 (k),.string x,.int .i64 (v),.int .i64 (o)] 44 B fun g3 w302 hb B F3 L3 E3=>?_;replace F2:=bn F2 hb;clear c2_0 c2_1 c2_2 c2_3 c2_4 c2_5;obtain ⟨c2_0,c2_1,c2_2,c2_3,c2_4,c2_5⟩:=cs6 F2;obtain ⟨c3_0,c3_1,c3_2,c3_3,c3_4,c3_5⟩:=cs6 F3;clear hb E3)
       | ((with_reducible refine gate_dst (N:=4) rfl ?_);refine bxq 4 #[.string (⟨#[]⟩ : ByteArray),.string (⟨#[]⟩ : ByteArray),.slice none 0 0,.slice none 0 0,.bool false,.string (⟨#[]⟩ : ByteArray)] 38 B fun g4 w303 hb B F4 L4 E4=>?_;have N2_4:=ne1 E4 F2;have N3_4:=ne1 E4 F3;replace F2:=bn F2 hb;replace F3:=bn F3 hb;clear c2_0 c2_1 c2_2 c2_3 c2_4 c2_5;obtain ⟨c2_0,c2_1,c2_2,c2_3,c2_4,c2_5⟩:=cs6 F2;clear c3_0 c3_1 c3_2 c3_3 c3_4 c3_5;obtain ⟨c3_0,c3_1,c3_2,c3_3,c3_4,c3_5⟩:=cs6 F3;clear hb E4)
       | (go_at_call 18;with_reducible refine cl (impl_StateValid.M a b _ _ ps _ _ ss t c _ (cb HRP B) (cb HRS B)) B fun w304 hb B=>?_;replace F2:=bn F2 hb;replace F3:=bn F3 hb;replace F4:=bn F4 hb;clear c2_0 c2_1 c2_2 c2_3 c2_4 c2_5;obtain ⟨c2_0,c2_1,c2_2,c2_3,c2_4,c2_5⟩:=cs6 F2;clear c3_0 c3_1 c3_2 c3_3 c3_4 c3_5;obtain ⟨c3_0,c3_1,c3_2,c3_3,c3_4,c3_5⟩:=cs6 F3;clear hb)
       | (go_at_call 19;with_reducible refine cl (impl_EntryValid.M ci sq k x v o _) B fun w305 hb B=>?_;replace F2:=bn F2 hb;replace F3:=bn F3 hb;replace F4:=bn F4 hb;clear c2_0 c2_1 c2_2 c2_3 c2_4 c2_5;obtain ⟨c2_0,c2_1,c2_2,c2_3,c2_4,c2_5⟩:=cs6 F2;clear c3_0 c3_1 c3_2 c3_3 c3_4 c3_5;obtain ⟨c3_0,c3_1,c3_2,c3_3,c3_4,c3_5⟩:=cs6 F3;clear hb)
       | (go_at_call 49;with_reducible refine c2r (impl_copyState.M a b _ _ ps _ _ ss t c _ (cb HRP B) (cb HRS B) HCP.out HCS.out (by omega) (by omega)) B fun AP306 kP306 AS306 kS306 w306 hb B RP306 QP306 RS306 QS306=>?_;have DP306_S306:=Aside0.mk (dty RP306 RS306 (by decide));replace F2:=bn F2 hb;replace F3:=bn F3 hb;replace F4:=bn F4 hb;clear QP306 QS306;clear c2_0 c2_1 c2_2 c2_3 c2_4 c2_5;obtain ⟨c2_0,c2_1,c2_2,c2_3,c2_4,c2_5⟩:=cs6 F2;clear c3_0 c3_1 c3_2 c3_3 c3_4 c3_5;obtain ⟨c3_0,c3_1,c3_2,c3_3,c3_4,c3_5⟩:=cs6 F3;clear hb)
       | ((with_reducible refine gate_dst (N:=6) rfl ?_);refine bxq 6 #[.string (⟨#[]⟩ : ByteArray),.string (⟨#[]⟩ : ByteArray),.slice none 0 0,.slice none 0 0,.bool false,.string (⟨#[]⟩ : ByteArray)] 38 B fun g6 w307 hb B F6 L6 E6=>?_;have N2_6:=ne1 E6 F2;have N3_6:=ne1 E6 F3;have N4_6:=ne1 E6 F4;replace F2:=bn F2 hb;replace F3:=bn F3 hb;replace F4:=bn F4 hb;replace RP306:=rn RP306 hb;replace RS306:=rn RS306 hb;clear c2_0 c2_1 c2_2 c2_3 c2_4 c2_5;obtain ⟨c2_0,c2_1,c2_2,c2_3,c2_4,c2_5⟩:=cs6 F2;clear c3_0 c3_1 c3_2 c3_3 c3_4 c3_5;obtain ⟨c3_0,c3_1,c3_2,c3_3,c3_4,c3_5⟩:=cs6 F3;obtain ⟨c6_0,c6_1,c6_2,c6_3,c6_4,c6_5⟩:=cs6 F6;clear hb E6)
       | ((with_reducible refine gate_store (t:=38) (p:=6) rfl ?_);obtain ⟨y0,y1,y2,y3,y4,y5,z0,z1,z2,z3,z4,z5⟩:=cz6 F6;refine sxq 38 38 6 0 [.string a,.string b,.slice AP306 ps.length kP306,.slice AS306 ss.length kS306,.bool t,.string c] [.string a,.string b,.slice AP306 ps.length kP306,.slice AS306 ss.length kS306,.bool t,.string c] B F6 L6 fun w308 hk B G=>?_;replace F2:=bk F2 hk N2_6.out;replace F3:=bk F3 hk N3_6.out;replace F4:=bk F4 hk N4_6.out;replace RP306:=rk RP306 F6 (by decide) hk;replace RS306:=rk RS306 F6 (by decide) hk;replace F6:=G;clear c2_0 c2_1 c2_2 c2_3 c2_4 c2_5;obtain ⟨c2_0,c2_1,c2_2,c2_3,c2_4,c2_5⟩:=cs6 F2;clear c3_0 c3_1 c3_2 c3_3 c3_4 c3_5;obtain ⟨c3_0,c3_1,c3_2,c3_3,c3_4,c3_5⟩:=cs6 F3;clear c6_0 c6_1 c6_2 c6_3 c6_4 c6_5;obtain ⟨c6_0,c6_1,c6_2,c6_3,c6_4,c6_5⟩:=cs6 F6;clear hk y0 z0 y1 z1 y2 z2 y3 z3 y4 z4 y5 z5)
       | (go_at_call 50;with_reducible refine cl (impl_sessionPlace.Mb _ _ ss ci _ (cb HRS B) HCS.out hv true hit) B fun w309 hb B=>?_;replace F2:=bn F2 hb;replace F3:=bn F3 hb;replace F4:=bn F4 hb;replace F6:=bn F6 hb;replace RP306:=rn RP306 hb;replace RS306:=rn RS306 hb;clear c2_0 c2_1 c2_2 c2_3 c2_4 c2_5;obtain ⟨c2_0,c2_1,c2_2,c2_3,c2_4,c2_5⟩:=cs6 F2;clear c3_0 c3_1 c3_2 c3_3 c3_4 c3_5;obtain ⟨c3_0,c3_1,c3_2,c3_3,c3_4,c3_5⟩:=cs6 F3;clear c6_0 c6_1 c6_2 c6_3 c6_4 c6_5;obtain ⟨c6_0,c6_1,c6_2,c6_3,c6_4,c6_5⟩:=cs6 F6;clear hb))
      all_goals (
       refine rg (n:=12) (S:=fun W=>W.heap[g3]?=some (.cells #[.int .i64 (ci),.int .i64 (sq),.int .i64 (k),.string x,.int .i64 (v),.int .i64 (o)] 44 (0,0))∧W.heap[g2]?=some (.cells #[.string a,.string b,.slice AP ps.length cP,.slice (some ad) ss.length cS,.bool t,.string c] 38 (0,0))∧Kd.C k76 W (some ad) ss.length ss) (ds:=[]) #[false,false,false,false,false,false,false,false,false,false,false,false] (by kernel_rfl) rfl rfl ⟨F3.out,F2.out,(cb HRS B)⟩ id B (fun w310 hb B hHeld=>?_)
       refine with_tabW impl_ApplyEntry.tab5 impl_ApplyEntry.bits5 (fun HT_ HW_=>?_)
       replace F2:=bn F2 hb
       replace F3:=bn F3 hb
       replace F4:=bn F4 hb
       replace F6:=bn F6 hb
       replace RP306:=rn RP306 hb
       replace RS306:=rn RS306 hb
       clear hb
       refine pvq 0 (some 29) (bits 12 1) HT_ ?_
       refine pvq 1 (some 30) (bits 12 3) HT_ ?_
       refine pvq 2 (some 31) (bits 12 7) HT_ ?_
       refine tvq 3 (some 32) (bits 12 15) HT_ HW_ rfl hHeld (by intro w' hS;obtain ⟨s0,s1,s2⟩:=hS;obtain ⟨q0,q1,q2,q3,q4,q5⟩:=cs6 (Aside0.mk s0);go_simp;with_reducible rfl) ?_
       refine pvq 4 (some 33) (bits 12 31) HT_ ?_
       refine tvq 5 (some 34) (bits 12 63) HT_ HW_ rfl hHeld (by intro w' hS;obtain ⟨s0,s1,s2⟩:=hS;obtain ⟨q0,q1,q2,q3,q4,q5⟩:=cs6 (Aside0.mk s1);go_simp;with_reducible rfl) ?_
       refine pvq 6 (some 35) (bits 12 127) HT_ ?_
       refine pvq 7 (some 36) (bits 12 255) HT_ ?_
       refine pvq 8 (some 37) (bits 12 511) HT_ ?_
       refine tvq 9 (some 38) (bits 12 1023) HT_ HW_ rfl hHeld (by intro w' hS;obtain ⟨s0,s1,s2⟩:=hS;obtain ⟨_,hA,q0,q1,q2⟩:=at_T76 s2 ((plOf ss ci : Nat) : Int) (by omega) (by omega);cases hA;rw [Int.toNat_natCast] at q0 q1 q2;rw [hy] at q0 q1 q2;go_simp;with_reducible rfl) ?_
       refine pvq 10 (some 39) (bits 12 2047) HT_ ?_
       refine pvq 11 (some 40) (bits 12 4095) HT_ ?_
       refine nmq ?_
       refine done_ (done_of HT_.out (by kernel_rfl)) ?_
       clear c2_0 c2_1 c2_2 c2_3 c2_4 c2_5
       obtain ⟨c2_0,c2_1,c2_2,c2_3,c2_4,c2_5⟩:=cs6 F2
       clear c3_0 c3_1 c3_2 c3_3 c3_4 c3_5
       obtain ⟨c3_0,c3_1,c3_2,c3_3,c3_4,c3_5⟩:=cs6 F3
       clear c6_0 c6_1 c6_2 c6_3 c6_4 c6_5
       obtain ⟨c6_0,c6_1,c6_2,c6_3,c6_4,c6_5⟩:=cs6 F6)
      all_goals try go_wp2
      all_goals (
       refine rg (n:=9) (S:=fun W=>W.heap[g3]?=some (.cells #[.int .i64 (ci),.int .i64 (sq),.int .i64 (k),.string x,.int .i64 (v),.int .i64 (o)] 44 (0,0))∧W.heap[g2]?=some (.cells #[.string a,.string b,.slice AP ps.length cP,.slice (some ad) ss.length cS,.bool t,.string c] 38 (0,0))∧Kd.C k76 W (some ad) ss.length ss) (ds:=[]) #[false,false,false,false,false,false,false,false,false] (by kernel_rfl) rfl rfl ⟨F3.out,F2.out,(cb HRS B)⟩ id B (fun w311 hb B hHeld=>?_)
       refine with_tabW impl_ApplyEntry.tab6 impl_ApplyEntry.bits6 (fun HT_ HW_=>?_)
       replace F2:=bn F2 hb
       replace F3:=bn F3 hb
       replace F4:=bn F4 hb
       replace F6:=bn F6 hb
       replace RP306:=rn RP306 hb
       replace RS306:=rn RS306 hb
       clear hb
       refine pvq 0 (some 41) (bits 9 1) HT_ ?_
       refine tvq 1 (some 42) (bits 9 3) HT_ HW_ rfl hHeld (by intro w' hS;obtain ⟨s0,s1,s2⟩:=hS;obtain ⟨q0,q1,q2,q3,q4,q5⟩:=cs6 (Aside0.mk s0);go_simp;with_reducible rfl) ?_
       refine pvq 2 (some 43) (bits 9 7) HT_ ?_
       refine tvq 3 (some 44) (bits 9 15) HT_ HW_ rfl hHeld (by intro w' hS;obtain ⟨s0,s1,s2⟩:=hS;obtain ⟨q0,q1,q2,q3,q4,q5⟩:=cs6 (Aside0.mk s1);go_simp;with_reducible rfl) ?_
       refine pvq 4 (some 45) (bits 9 31) HT_ ?_
       refine pvq 5 (some 46) (bits 9 63) HT_ ?_
       refine pvq 6 (some 47) (bits 9 127) HT_ ?_
       refine tvq 7 (some 48) (bits 9 255) HT_ HW_ rfl hHeld (by intro w' hS;obtain ⟨s0,s1,s2⟩:=hS;obtain ⟨_,hA,q0,q1,q2⟩:=at_T76 s2 ((plOf ss ci : Nat) : Int) (by omega) (by omega);cases hA;rw [Int.toNat_natCast] at q0 q1 q2;rw [hy] at q0 q1 q2;go_simp;with_reducible rfl) ?_
       refine pvq 8 (some 49) (bits 9 511) HT_ ?_
       refine nmq ?_
       refine done_ (done_of HT_.out (by kernel_rfl)) ?_
       clear c6_0 c6_1 c6_2 c6_3 c6_4 c6_5
       obtain ⟨c6_0,c6_1,c6_2,c6_3,c6_4,c6_5⟩:=cs6 F6)
      all_goals go_wp2_with (first
       | ((with_reducible refine gate_store (t:=38) (p:=4) rfl ?_);obtain ⟨y0,y1,y2,y3,y4,y5,z0,z1,z2,z3,z4,z5⟩:=cz6 F4;refine sxq 38 38 4 0 [.string a,.string b,.slice AP306 ps.length kP306,.slice AS306 ss.length kS306,.bool t,.string c] [.string a,.string b,.slice AP306 ps.length kP306,.slice AS306 ss.length kS306,.bool t,.string c] B F4 L4 fun w312 hk B G=>?_;replace F2:=bk F2 hk N2_4.out;replace F3:=bk F3 hk N3_4.out;replace RP306:=rk RP306 F4 (by decide) hk;replace RS306:=rk RS306 F4 (by decide) hk;replace F4:=G;clear hk y0 z0 y1 z1 y2 z2 y3 z3 y4 z4 y5 z5))
      all_goals (try (refine bodyPost_ret (results_list (rs:=[.cell 4 38,.tmp 5]) rfl (by simp) (.cell g4 38 _ (0,0) _ rfl F4.out hu rfl (by kernel_rfl) (.tmp .nil))) rfl ?_);exact ⟨_,_,rfl,RP306.out,RS306.out,B.out⟩)
    ·have d1 : decide (sq≤y.f1)=false:=decide_eq_false q1
     have hN : idleN ⟨a,b,ps,ss,t,c⟩ ci sq=-3:=by unfold idleN;rw [← hfy];exact (if_neg (by omega)).trans (if_neg (by omega))
     have hle : decide (sq≤(findS ss ci).f1)=false:=by rw [← hfy];exact d1
     clear hfy hcl q1
     cases t with
     | true =>
      rw [aeM_idle hh (by unfold idleB;simp),hN]
      clear hh hcm hsq hN hle
      go_enter Try.func12,Try.ntmps12
      go_wp2_with (first
       | ((with_reducible refine gate_dst (N:=2) rfl ?_);refine bxq 2 #[.string a,.string b,.slice AP ps.length cP,.slice (some ad) ss.length cS,.bool true,.string c] 38 B fun g2 w1001 hb B F2 L2 E2=>?_;obtain ⟨c2_0,c2_1,c2_2,c2_3,c2_4,c2_5⟩:=cs6 F2;clear hb E2)
       | ((with_reducible refine gate_dst (N:=3) rfl ?_);refine bxq 3 #[.int .i64 (ci),.int .i64 (sq),.int .i64 (k),.string x,.int .i64 (v),.int .i64 (o)] 44 B fun g3 w1002 hb B F3 L3 E3=>?_;replace F2:=bn F2 hb;clear c2_0 c2_1 c2_2 c2_3 c2_4 c2_5;obtain ⟨c2_0,c2_1,c2_2,c2_3,c2_4,c2_5⟩:=cs6 F2;obtain ⟨c3_0,c3_1,c3_2,c3_3,c3_4,c3_5⟩:=cs6 F3;clear hb E3)
       | ((with_reducible refine gate_dst (N:=4) rfl ?_);refine bxq 4 #[.string (⟨#[]⟩ : ByteArray),.string (⟨#[]⟩ : ByteArray),.slice none 0 0,.slice none 0 0,.bool false,.string (⟨#[]⟩ : ByteArray)] 38 B fun g4 w1003 hb B F4 L4 E4=>?_;have N2_4:=ne1 E4 F2;have N3_4:=ne1 E4 F3;replace F2:=bn F2 hb;replace F3:=bn F3 hb;clear c2_0 c2_1 c2_2 c2_3 c2_4 c2_5;obtain ⟨c2_0,c2_1,c2_2,c2_3,c2_4,c2_5⟩:=cs6 F2;clear c3_0 c3_1 c3_2 c3_3 c3_4 c3_5;obtain ⟨c3_0,c3_1,c3_2,c3_3,c3_4,c3_5⟩:=cs6 F3;clear hb E4)
       | (go_at_call 18;with_reducible refine cl (impl_StateValid.M a b _ _ ps _ _ ss true c _ (cb HRP B) (cb HRS B)) B fun w1004 hb B=>?_;replace F2:=bn F2 hb;replace F3:=bn F3 hb;replace F4:=bn F4 hb;clear c2_0 c2_1 c2_2 c2_3 c2_4 c2_5;obtain ⟨c2_0,c2_1,c2_2,c2_3,c2_4,c2_5⟩:=cs6 F2;clear c3_0 c3_1 c3_2 c3_3 c3_4 c3_5;obtain ⟨c3_0,c3_1,c3_2,c3_3,c3_4,c3_5⟩:=cs6 F3;clear hb)
       | (go_at_call 19;with_reducible refine cl (impl_EntryValid.M ci sq k x v o _) B fun w1005 hb B=>?_;replace F2:=bn F2 hb;replace F3:=bn F3 hb;replace F4:=bn F4 hb;clear c2_0 c2_1 c2_2 c2_3 c2_4 c2_5;obtain ⟨c2_0,c2_1,c2_2,c2_3,c2_4,c2_5⟩:=cs6 F2;clear c3_0 c3_1 c3_2 c3_3 c3_4 c3_5;obtain ⟨c3_0,c3_1,c3_2,c3_3,c3_4,c3_5⟩:=cs6 F3;clear hb)
       | (go_at_call 49;with_reducible refine c2r (impl_copyState.M a b _ _ ps _ _ ss true c _ (cb HRP B) (cb HRS B) HCP.out HCS.out (by omega) (by omega)) B fun AP1006 kP1006 AS1006 kS1006 w1006 hb B RP1006 QP1006 RS1006 QS1006=>?_;have DP1006_S1006:=Aside0.mk (dty RP1006 RS1006 (by decide));replace F2:=bn F2 hb;replace F3:=bn F3 hb;replace F4:=bn F4 hb;clear QP1006 QS1006;clear c2_0 c2_1 c2_2 c2_3 c2_4 c2_5;obtain ⟨c2_0,c2_1,c2_2,c2_3,c2_4,c2_5⟩:=cs6 F2;clear c3_0 c3_1 c3_2 c3_3 c3_4 c3_5;obtain ⟨c3_0,c3_1,c3_2,c3_3,c3_4,c3_5⟩:=cs6 F3;clear hb)
       | ((with_reducible refine gate_dst (N:=6) rfl ?_);refine bxq 6 #[.string (⟨#[]⟩ : ByteArray),.string (⟨#[]⟩ : ByteArray),.slice none 0 0,.slice none 0 0,.bool false,.string (⟨#[]⟩ : ByteArray)] 38 B fun g6 w1007 hb B F6 L6 E6=>?_;have N2_6:=ne1 E6 F2;have N3_6:=ne1 E6 F3;have N4_6:=ne1 E6 F4;replace F2:=bn F2 hb;replace F3:=bn F3 hb;replace F4:=bn F4 hb;replace RP1006:=rn RP1006 hb;replace RS1006:=rn RS1006 hb;clear c2_0 c2_1 c2_2 c2_3 c2_4 c2_5;obtain ⟨c2_0,c2_1,c2_2,c2_3,c2_4,c2_5⟩:=cs6 F2;clear c3_0 c3_1 c3_2 c3_3 c3_4 c3_5;obtain ⟨c3_0,c3_1,c3_2,c3_3,c3_4,c3_5⟩:=cs6 F3;obtain ⟨c6_0,c6_1,c6_2,c6_3,c6_4,c6_5⟩:=cs6 F6;clear hb E6)
       | ((with_reducible refine gate_store (t:=38) (p:=6) rfl ?_);obtain ⟨y0,y1,y2,y3,y4,y5,z0,z1,z2,z3,z4,z5⟩:=cz6 F6;refine sxq 38 38 6 0 [.string a,.string b,.slice AP1006 ps.length kP1006,.slice AS1006 ss.length kS1006,.bool true,.string c] [.string a,.string b,.slice AP1006 ps.length kP1006,.slice AS1006 ss.length kS1006,.bool true,.string c] B F6 L6 fun w1008 hk B G=>?_;replace F2:=bk F2 hk N2_6.out;replace F3:=bk F3 hk N3_6.out;replace F4:=bk F4 hk N4_6.out;replace RP1006:=rk RP1006 F6 (by decide) hk;replace RS1006:=rk RS1006 F6 (by decide) hk;replace F6:=G;clear c2_0 c2_1 c2_2 c2_3 c2_4 c2_5;obtain ⟨c2_0,c2_1,c2_2,c2_3,c2_4,c2_5⟩:=cs6 F2;clear c3_0 c3_1 c3_2 c3_3 c3_4 c3_5;obtain ⟨c3_0,c3_1,c3_2,c3_3,c3_4,c3_5⟩:=cs6 F3;clear c6_0 c6_1 c6_2 c6_3 c6_4 c6_5;obtain ⟨c6_0,c6_1,c6_2,c6_3,c6_4,c6_5⟩:=cs6 F6;clear hk y0 z0 y1 z1 y2 z2 y3 z3 y4 z4 y5 z5)
       | (go_at_call 50;with_reducible refine cl (impl_sessionPlace.Mb _ _ ss ci _ (cb HRS B) HCS.out hv true hit) B fun w1009 hb B=>?_;replace F2:=bn F2 hb;replace F3:=bn F3 hb;replace F4:=bn F4 hb;replace F6:=bn F6 hb;replace RP1006:=rn RP1006 hb;replace RS1006:=rn RS1006 hb;clear c2_0 c2_1 c2_2 c2_3 c2_4 c2_5;obtain ⟨c2_0,c2_1,c2_2,c2_3,c2_4,c2_5⟩:=cs6 F2;clear c3_0 c3_1 c3_2 c3_3 c3_4 c3_5;obtain ⟨c3_0,c3_1,c3_2,c3_3,c3_4,c3_5⟩:=cs6 F3;clear c6_0 c6_1 c6_2 c6_3 c6_4 c6_5;obtain ⟨c6_0,c6_1,c6_2,c6_3,c6_4,c6_5⟩:=cs6 F6;clear hb))
      all_goals (
       refine rg (n:=12) (S:=fun W=>W.heap[g3]?=some (.cells #[.int .i64 (ci),.int .i64 (sq),.int .i64 (k),.string x,.int .i64 (v),.int .i64 (o)] 44 (0,0))∧W.heap[g2]?=some (.cells #[.string a,.string b,.slice AP ps.length cP,.slice (some ad) ss.length cS,.bool true,.string c] 38 (0,0))∧Kd.C k76 W (some ad) ss.length ss) (ds:=[]) #[false,false,false,false,false,false,false,false,false,false,false,false] (by kernel_rfl) rfl rfl ⟨F3.out,F2.out,(cb HRS B)⟩ id B (fun w1010 hb B hHeld=>?_)
       refine with_tabW impl_ApplyEntry.tab5 impl_ApplyEntry.bits5 (fun HT_ HW_=>?_)
       replace F2:=bn F2 hb
       replace F3:=bn F3 hb
       replace F4:=bn F4 hb
       replace F6:=bn F6 hb
       replace RP1006:=rn RP1006 hb
       replace RS1006:=rn RS1006 hb
       clear hb
       refine pvq 0 (some 29) (bits 12 1) HT_ ?_
       refine pvq 1 (some 30) (bits 12 3) HT_ ?_
       refine pvq 2 (some 31) (bits 12 7) HT_ ?_
       refine tvq 3 (some 32) (bits 12 15) HT_ HW_ rfl hHeld (by intro w' hS;obtain ⟨s0,s1,s2⟩:=hS;obtain ⟨q0,q1,q2,q3,q4,q5⟩:=cs6 (Aside0.mk s0);go_simp;with_reducible rfl) ?_
       refine pvq 4 (some 33) (bits 12 31) HT_ ?_
       refine tvq 5 (some 34) (bits 12 63) HT_ HW_ rfl hHeld (by intro w' hS;obtain ⟨s0,s1,s2⟩:=hS;obtain ⟨q0,q1,q2,q3,q4,q5⟩:=cs6 (Aside0.mk s1);go_simp;with_reducible rfl) ?_
       refine pvq 6 (some 35) (bits 12 127) HT_ ?_
       refine pvq 7 (some 36) (bits 12 255) HT_ ?_
       refine pvq 8 (some 37) (bits 12 511) HT_ ?_
       refine tvq 9 (some 38) (bits 12 1023) HT_ HW_ rfl hHeld (by intro w' hS;obtain ⟨s0,s1,s2⟩:=hS;obtain ⟨_,hA,q0,q1,q2⟩:=at_T76 s2 ((plOf ss ci : Nat) : Int) (by omega) (by omega);cases hA;rw [Int.toNat_natCast] at q0 q1 q2;rw [hy] at q0 q1 q2;go_simp;with_reducible rfl) ?_
       refine pvq 10 (some 39) (bits 12 2047) HT_ ?_
       refine pvq 11 (some 40) (bits 12 4095) HT_ ?_
       refine nmq ?_
       refine done_ (done_of HT_.out (by kernel_rfl)) ?_
       clear c2_0 c2_1 c2_2 c2_3 c2_4 c2_5
       obtain ⟨c2_0,c2_1,c2_2,c2_3,c2_4,c2_5⟩:=cs6 F2
       clear c3_0 c3_1 c3_2 c3_3 c3_4 c3_5
       obtain ⟨c3_0,c3_1,c3_2,c3_3,c3_4,c3_5⟩:=cs6 F3
       clear c6_0 c6_1 c6_2 c6_3 c6_4 c6_5
       obtain ⟨c6_0,c6_1,c6_2,c6_3,c6_4,c6_5⟩:=cs6 F6)
      all_goals go_wp2_with (first
       | (go_at_call 51;with_reducible refine cl (impl_stateTakes.M a b _ _ ps _ _ ss true c k x v o _ (cb HRP B) (cb HRS B)) B fun w1011 hb B=>?_;replace F2:=bn F2 hb;replace F3:=bn F3 hb;replace F4:=bn F4 hb;replace F6:=bn F6 hb;replace RP1006:=rn RP1006 hb;replace RS1006:=rn RS1006 hb;clear c6_0 c6_1 c6_2 c6_3 c6_4 c6_5;obtain ⟨c6_0,c6_1,c6_2,c6_3,c6_4,c6_5⟩:=cs6 F6;clear hb)
       | ((with_reducible refine gate_store (t:=38) (p:=4) rfl ?_);obtain ⟨y0,y1,y2,y3,y4,y5,z0,z1,z2,z3,z4,z5⟩:=cz6 F4;refine sxq 38 38 4 0 [.string a,.string b,.slice AP1006 ps.length kP1006,.slice AS1006 ss.length kS1006,.bool true,.string c] [.string a,.string b,.slice AP1006 ps.length kP1006,.slice AS1006 ss.length kS1006,.bool true,.string c] B F4 L4 fun w1012 hk B G=>?_;replace F2:=bk F2 hk N2_4.out;replace F3:=bk F3 hk N3_4.out;replace RP1006:=rk RP1006 F4 (by decide) hk;replace RS1006:=rk RS1006 F4 (by decide) hk;replace F4:=G;clear hk y0 z0 y1 z1 y2 z2 y3 z3 y4 z4 y5 z5))
      all_goals (try (refine bodyPost_ret (results_list (rs:=[.cell 4 38,.tmp 5]) rfl (by simp) (.cell g4 38 _ (0,0) _ rfl F4.out hu rfl (by kernel_rfl) (.tmp .nil))) rfl ?_);exact ⟨_,_,rfl,RP1006.out,RS1006.out,B.out⟩)
     | false =>
      have hid : idleB ⟨a,b,ps,ss,false,c⟩ ci sq k x=!takesB a b k x:=by unfold idleB;rw [hle];rfl
      clear hle
      cases htk : takesB a b k x with
      | false =>
       rw [aeM_idle hh (by rw [hid,htk];rfl),hN]
       clear hh hcm hsq hN hid
       go_enter Try.func12,Try.ntmps12
       go_wp2_with (first
        | ((with_reducible refine gate_dst (N:=2) rfl ?_);refine bxq 2 #[.string a,.string b,.slice AP ps.length cP,.slice (some ad) ss.length cS,.bool false,.string c] 38 B fun g2 w1101 hb B F2 L2 E2=>?_;obtain ⟨c2_0,c2_1,c2_2,c2_3,c2_4,c2_5⟩:=cs6 F2;clear hb E2)
        | ((with_reducible refine gate_dst (N:=3) rfl ?_);refine bxq 3 #[.int .i64 (ci),.int .i64 (sq),.int .i64 (k),.string x,.int .i64 (v),.int .i64 (o)] 44 B fun g3 w1102 hb B F3 L3 E3=>?_;replace F2:=bn F2 hb;clear c2_0 c2_1 c2_2 c2_3 c2_4 c2_5;obtain ⟨c2_0,c2_1,c2_2,c2_3,c2_4,c2_5⟩:=cs6 F2;obtain ⟨c3_0,c3_1,c3_2,c3_3,c3_4,c3_5⟩:=cs6 F3;clear hb E3)
        | ((with_reducible refine gate_dst (N:=4) rfl ?_);refine bxq 4 #[.string (⟨#[]⟩ : ByteArray),.string (⟨#[]⟩ : ByteArray),.slice none 0 0,.slice none 0 0,.bool false,.string (⟨#[]⟩ : ByteArray)] 38 B fun g4 w1103 hb B F4 L4 E4=>?_;have N2_4:=ne1 E4 F2;have N3_4:=ne1 E4 F3;replace F2:=bn F2 hb;replace F3:=bn F3 hb;clear c2_0 c2_1 c2_2 c2_3 c2_4 c2_5;obtain ⟨c2_0,c2_1,c2_2,c2_3,c2_4,c2_5⟩:=cs6 F2;clear c3_0 c3_1 c3_2 c3_3 c3_4 c3_5;obtain ⟨c3_0,c3_1,c3_2,c3_3,c3_4,c3_5⟩:=cs6 F3;clear hb E4)
        | (go_at_call 18;with_reducible refine cl (impl_StateValid.M a b _ _ ps _ _ ss false c _ (cb HRP B) (cb HRS B)) B fun w1104 hb B=>?_;replace F2:=bn F2 hb;replace F3:=bn F3 hb;replace F4:=bn F4 hb;clear c2_0 c2_1 c2_2 c2_3 c2_4 c2_5;obtain ⟨c2_0,c2_1,c2_2,c2_3,c2_4,c2_5⟩:=cs6 F2;clear c3_0 c3_1 c3_2 c3_3 c3_4 c3_5;obtain ⟨c3_0,c3_1,c3_2,c3_3,c3_4,c3_5⟩:=cs6 F3;clear hb)
        | (go_at_call 19;with_reducible refine cl (impl_EntryValid.M ci sq k x v o _) B fun w1105 hb B=>?_;replace F2:=bn F2 hb;replace F3:=bn F3 hb;replace F4:=bn F4 hb;clear c2_0 c2_1 c2_2 c2_3 c2_4 c2_5;obtain ⟨c2_0,c2_1,c2_2,c2_3,c2_4,c2_5⟩:=cs6 F2;clear c3_0 c3_1 c3_2 c3_3 c3_4 c3_5;obtain ⟨c3_0,c3_1,c3_2,c3_3,c3_4,c3_5⟩:=cs6 F3;clear hb)
        | (go_at_call 49;with_reducible refine c2r (impl_copyState.M a b _ _ ps _ _ ss false c _ (cb HRP B) (cb HRS B) HCP.out HCS.out (by omega) (by omega)) B fun AP1106 kP1106 AS1106 kS1106 w1106 hb B RP1106 QP1106 RS1106 QS1106=>?_;have DP1106_S1106:=Aside0.mk (dty RP1106 RS1106 (by decide));replace F2:=bn F2 hb;replace F3:=bn F3 hb;replace F4:=bn F4 hb;clear QP1106 QS1106;clear c2_0 c2_1 c2_2 c2_3 c2_4 c2_5;obtain ⟨c2_0,c2_1,c2_2,c2_3,c2_4,c2_5⟩:=cs6 F2;clear c3_0 c3_1 c3_2 c3_3 c3_4 c3_5;obtain ⟨c3_0,c3_1,c3_2,c3_3,c3_4,c3_5⟩:=cs6 F3;clear hb)
        | ((with_reducible refine gate_dst (N:=6) rfl ?_);refine bxq 6 #[.string (⟨#[]⟩ : ByteArray),.string (⟨#[]⟩ : ByteArray),.slice none 0 0,.slice none 0 0,.bool false,.string (⟨#[]⟩ : ByteArray)] 38 B fun g6 w1107 hb B F6 L6 E6=>?_;have N2_6:=ne1 E6 F2;have N3_6:=ne1 E6 F3;have N4_6:=ne1 E6 F4;replace F2:=bn F2 hb;replace F3:=bn F3 hb;replace F4:=bn F4 hb;replace RP1106:=rn RP1106 hb;replace RS1106:=rn RS1106 hb;clear c2_0 c2_1 c2_2 c2_3 c2_4 c2_5;obtain ⟨c2_0,c2_1,c2_2,c2_3,c2_4,c2_5⟩:=cs6 F2;clear c3_0 c3_1 c3_2 c3_3 c3_4 c3_5;obtain ⟨c3_0,c3_1,c3_2,c3_3,c3_4,c3_5⟩:=cs6 F3;obtain ⟨c6_0,c6_1,c6_2,c6_3,c6_4,c6_5⟩:=cs6 F6;clear hb E6)
        | ((with_reducible refine gate_store (t:=38) (p:=6) rfl ?_);obtain ⟨y0,y1,y2,y3,y4,y5,z0,z1,z2,z3,z4,z5⟩:=cz6 F6;refine sxq 38 38 6 0 [.string a,.string b,.slice AP1106 ps.length kP1106,.slice AS1106 ss.length kS1106,.bool false,.string c] [.string a,.string b,.slice AP1106 ps.length kP1106,.slice AS1106 ss.length kS1106,.bool false,.string c] B F6 L6 fun w1108 hk B G=>?_;replace F2:=bk F2 hk N2_6.out;replace F3:=bk F3 hk N3_6.out;replace F4:=bk F4 hk N4_6.out;replace RP1106:=rk RP1106 F6 (by decide) hk;replace RS1106:=rk RS1106 F6 (by decide) hk;replace F6:=G;clear c2_0 c2_1 c2_2 c2_3 c2_4 c2_5;obtain ⟨c2_0,c2_1,c2_2,c2_3,c2_4,c2_5⟩:=cs6 F2;clear c3_0 c3_1 c3_2 c3_3 c3_4 c3_5;obtain ⟨c3_0,c3_1,c3_2,c3_3,c3_4,c3_5⟩:=cs6 F3;clear c6_0 c6_1 c6_2 c6_3 c6_4 c6_5;obtain ⟨c6_0,c6_1,c6_2,c6_3,c6_4,c6_5⟩:=cs6 F6;clear hk y0 z0 y1 z1 y2 z2 y3 z3 y4 z4 y5 z5)
        | (go_at_call 50;with_reducible refine cl (impl_sessionPlace.Mb _ _ ss ci _ (cb HRS B) HCS.out hv true hit) B fun w1109 hb B=>?_;replace F2:=bn F2 hb;replace F3:=bn F3 hb;replace F4:=bn F4 hb;replace F6:=bn F6 hb;replace RP1106:=rn RP1106 hb;replace RS1106:=rn RS1106 hb;clear c2_0 c2_1 c2_2 c2_3 c2_4 c2_5;obtain ⟨c2_0,c2_1,c2_2,c2_3,c2_4,c2_5⟩:=cs6 F2;clear c3_0 c3_1 c3_2 c3_3 c3_4 c3_5;obtain ⟨c3_0,c3_1,c3_2,c3_3,c3_4,c3_5⟩:=cs6 F3;clear c6_0 c6_1 c6_2 c6_3 c6_4 c6_5;obtain ⟨c6_0,c6_1,c6_2,c6_3,c6_4,c6_5⟩:=cs6 F6;clear hb))
       all_goals (
        refine rg (n:=12) (S:=fun W=>W.heap[g3]?=some (.cells #[.int .i64 (ci),.int .i64 (sq),.int .i64 (k),.string x,.int .i64 (v),.int .i64 (o)] 44 (0,0))∧W.heap[g2]?=some (.cells #[.string a,.string b,.slice AP ps.length cP,.slice (some ad) ss.length cS,.bool false,.string c] 38 (0,0))∧Kd.C k76 W (some ad) ss.length ss) (ds:=[]) #[false,false,false,false,false,false,false,false,false,false,false,false] (by kernel_rfl) rfl rfl ⟨F3.out,F2.out,(cb HRS B)⟩ id B (fun w1110 hb B hHeld=>?_)
        refine with_tabW impl_ApplyEntry.tab5 impl_ApplyEntry.bits5 (fun HT_ HW_=>?_)
        replace F2:=bn F2 hb
        replace F3:=bn F3 hb
        replace F4:=bn F4 hb
        replace F6:=bn F6 hb
        replace RP1106:=rn RP1106 hb
        replace RS1106:=rn RS1106 hb
        clear hb
        refine pvq 0 (some 29) (bits 12 1) HT_ ?_
        refine pvq 1 (some 30) (bits 12 3) HT_ ?_
        refine pvq 2 (some 31) (bits 12 7) HT_ ?_
        refine tvq 3 (some 32) (bits 12 15) HT_ HW_ rfl hHeld (by intro w' hS;obtain ⟨s0,s1,s2⟩:=hS;obtain ⟨q0,q1,q2,q3,q4,q5⟩:=cs6 (Aside0.mk s0);go_simp;with_reducible rfl) ?_
        refine pvq 4 (some 33) (bits 12 31) HT_ ?_
        refine tvq 5 (some 34) (bits 12 63) HT_ HW_ rfl hHeld (by intro w' hS;obtain ⟨s0,s1,s2⟩:=hS;obtain ⟨q0,q1,q2,q3,q4,q5⟩:=cs6 (Aside0.mk s1);go_simp;with_reducible rfl) ?_
        refine pvq 6 (some 35) (bits 12 127) HT_ ?_
        refine pvq 7 (some 36) (bits 12 255) HT_ ?_
        refine pvq 8 (some 37) (bits 12 511) HT_ ?_
        refine tvq 9 (some 38) (bits 12 1023) HT_ HW_ rfl hHeld (by intro w' hS;obtain ⟨s0,s1,s2⟩:=hS;obtain ⟨_,hA,q0,q1,q2⟩:=at_T76 s2 ((plOf ss ci : Nat) : Int) (by omega) (by omega);cases hA;rw [Int.toNat_natCast] at q0 q1 q2;rw [hy] at q0 q1 q2;go_simp;with_reducible rfl) ?_
        refine pvq 10 (some 39) (bits 12 2047) HT_ ?_
        refine pvq 11 (some 40) (bits 12 4095) HT_ ?_
        refine nmq ?_
        refine done_ (done_of HT_.out (by kernel_rfl)) ?_
        clear c2_0 c2_1 c2_2 c2_3 c2_4 c2_5
        obtain ⟨c2_0,c2_1,c2_2,c2_3,c2_4,c2_5⟩:=cs6 F2
        clear c3_0 c3_1 c3_2 c3_3 c3_4 c3_5
        obtain ⟨c3_0,c3_1,c3_2,c3_3,c3_4,c3_5⟩:=cs6 F3
        clear c6_0 c6_1 c6_2 c6_3 c6_4 c6_5
        obtain ⟨c6_0,c6_1,c6_2,c6_3,c6_4,c6_5⟩:=cs6 F6)
       all_goals go_wp2_with (first
        | (go_at_call 51;with_reducible refine cl (impl_stateTakes.M a b _ _ ps _ _ ss false c k x v o _ (cb HRP B) (cb HRS B)) B fun w1111 hb B=>?_;replace F2:=bn F2 hb;replace F3:=bn F3 hb;replace F4:=bn F4 hb;replace F6:=bn F6 hb;replace RP1106:=rn RP1106 hb;replace RS1106:=rn RS1106 hb;clear c6_0 c6_1 c6_2 c6_3 c6_4 c6_5;obtain ⟨c6_0,c6_1,c6_2,c6_3,c6_4,c6_5⟩:=cs6 F6;clear hb)
        | ((with_reducible refine gate_store (t:=38) (p:=4) rfl ?_);obtain ⟨y0,y1,y2,y3,y4,y5,z0,z1,z2,z3,z4,z5⟩:=cz6 F4;refine sxq 38 38 4 0 [.string a,.string b,.slice AP1106 ps.length kP1106,.slice AS1106 ss.length kS1106,.bool false,.string c] [.string a,.string b,.slice AP1106 ps.length kP1106,.slice AS1106 ss.length kS1106,.bool false,.string c] B F4 L4 fun w1112 hk B G=>?_;replace F2:=bk F2 hk N2_4.out;replace F3:=bk F3 hk N3_4.out;replace RP1106:=rk RP1106 F4 (by decide) hk;replace RS1106:=rk RS1106 F4 (by decide) hk;replace F4:=G;clear hk y0 z0 y1 z1 y2 z2 y3 z3 y4 z4 y5 z5))
       all_goals (try (refine bodyPost_ret (results_list (rs:=[.cell 4 38,.tmp 5]) rfl (by simp) (.cell g4 38 _ (0,0) _ rfl F4.out hu rfl (by kernel_rfl) (.tmp .nil))) rfl ?_);exact ⟨_,_,rfl,RP1106.out,RS1106.out,B.out⟩)
      | true =>
       rw [aeM_go hh (by rw [hid,htk];rfl)]
       by_cases h5 : k=5
       ·have d5 : (k == 5)=true:=by rw [h5];rfl
        rw [show applM ⟨a,b,ps,ss,false,c⟩ ci sq k x v o=(⟨a,b,ps,(putB ss ⟨ci,sq,0⟩).1,true,x⟩,0) from if_pos h5]
        clear hh hcm hsq hN hid h5
        go_enter Try.func12,Try.ntmps12
        go_wp2_with (first
         | ((with_reducible refine gate_dst (N:=2) rfl ?_);refine bxq 2 #[.string a,.string b,.slice AP ps.length cP,.slice (some ad) ss.length cS,.bool false,.string c] 38 B fun g2 w1201 hb B F2 L2 E2=>?_;obtain ⟨c2_0,c2_1,c2_2,c2_3,c2_4,c2_5⟩:=cs6 F2;clear hb E2)
         | ((with_reducible refine gate_dst (N:=3) rfl ?_);refine bxq 3 #[.int .i64 (ci),.int .i64 (sq),.int .i64 (k),.string x,.int .i64 (v),.int .i64 (o)] 44 B fun g3 w1202 hb B F3 L3 E3=>?_;replace F2:=bn F2 hb;clear c2_0 c2_1 c2_2 c2_3 c2_4 c2_5;obtain ⟨c2_0,c2_1,c2_2,c2_3,c2_4,c2_5⟩:=cs6 F2;obtain ⟨c3_0,c3_1,c3_2,c3_3,c3_4,c3_5⟩:=cs6 F3;clear hb E3)
         | ((with_reducible refine gate_dst (N:=4) rfl ?_);refine bxq 4 #[.string (⟨#[]⟩ : ByteArray),.string (⟨#[]⟩ : ByteArray),.slice none 0 0,.slice none 0 0,.bool false,.string (⟨#[]⟩ : ByteArray)] 38 B fun g4 w1203 hb B F4 L4 E4=>?_;have N2_4:=ne1 E4 F2;have N3_4:=ne1 E4 F3;replace F2:=bn F2 hb;replace F3:=bn F3 hb;clear c2_0 c2_1 c2_2 c2_3 c2_4 c2_5;obtain ⟨c2_0,c2_1,c2_2,c2_3,c2_4,c2_5⟩:=cs6 F2;clear c3_0 c3_1 c3_2 c3_3 c3_4 c3_5;obtain ⟨c3_0,c3_1,c3_2,c3_3,c3_4,c3_5⟩:=cs6 F3;clear hb E4)
         | (go_at_call 18;with_reducible refine cl (impl_StateValid.M a b _ _ ps _ _ ss false c _ (cb HRP B) (cb HRS B)) B fun w1204 hb B=>?_;replace F2:=bn F2 hb;replace F3:=bn F3 hb;replace F4:=bn F4 hb;clear c2_0 c2_1 c2_2 c2_3 c2_4 c2_5;obtain ⟨c2_0,c2_1,c2_2,c2_3,c2_4,c2_5⟩:=cs6 F2;clear c3_0 c3_1 c3_2 c3_3 c3_4 c3_5;obtain ⟨c3_0,c3_1,c3_2,c3_3,c3_4,c3_5⟩:=cs6 F3;clear hb)
         | (go_at_call 19;with_reducible refine cl (impl_EntryValid.M ci sq k x v o _) B fun w1205 hb B=>?_;replace F2:=bn F2 hb;replace F3:=bn F3 hb;replace F4:=bn F4 hb;clear c2_0 c2_1 c2_2 c2_3 c2_4 c2_5;obtain ⟨c2_0,c2_1,c2_2,c2_3,c2_4,c2_5⟩:=cs6 F2;clear c3_0 c3_1 c3_2 c3_3 c3_4 c3_5;obtain ⟨c3_0,c3_1,c3_2,c3_3,c3_4,c3_5⟩:=cs6 F3;clear hb)
         | (go_at_call 49;with_reducible refine c2r (impl_copyState.M a b _ _ ps _ _ ss false c _ (cb HRP B) (cb HRS B) HCP.out HCS.out (by omega) (by omega)) B fun AP1206 kP1206 AS1206 kS1206 w1206 hb B RP1206 QP1206 RS1206 QS1206=>?_;have DP1206_S1206:=Aside0.mk (dty RP1206 RS1206 (by decide));replace F2:=bn F2 hb;replace F3:=bn F3 hb;replace F4:=bn F4 hb;clear QP1206 QS1206;clear c2_0 c2_1 c2_2 c2_3 c2_4 c2_5;obtain ⟨c2_0,c2_1,c2_2,c2_3,c2_4,c2_5⟩:=cs6 F2;clear c3_0 c3_1 c3_2 c3_3 c3_4 c3_5;obtain ⟨c3_0,c3_1,c3_2,c3_3,c3_4,c3_5⟩:=cs6 F3;clear hb)
         | ((with_reducible refine gate_dst (N:=6) rfl ?_);refine bxq 6 #[.string (⟨#[]⟩ : ByteArray),.string (⟨#[]⟩ : ByteArray),.slice none 0 0,.slice none 0 0,.bool false,.string (⟨#[]⟩ : ByteArray)] 38 B fun g6 w1207 hb B F6 L6 E6=>?_;have N2_6:=ne1 E6 F2;have N3_6:=ne1 E6 F3;have N4_6:=ne1 E6 F4;replace F2:=bn F2 hb;replace F3:=bn F3 hb;replace F4:=bn F4 hb;replace RP1206:=rn RP1206 hb;replace RS1206:=rn RS1206 hb;clear c2_0 c2_1 c2_2 c2_3 c2_4 c2_5;obtain ⟨c2_0,c2_1,c2_2,c2_3,c2_4,c2_5⟩:=cs6 F2;clear c3_0 c3_1 c3_2 c3_3 c3_4 c3_5;obtain ⟨c3_0,c3_1,c3_2,c3_3,c3_4,c3_5⟩:=cs6 F3;obtain ⟨c6_0,c6_1,c6_2,c6_3,c6_4,c6_5⟩:=cs6 F6;clear hb E6)
         | ((with_reducible refine gate_store (t:=38) (p:=6) rfl ?_);obtain ⟨y0,y1,y2,y3,y4,y5,z0,z1,z2,z3,z4,z5⟩:=cz6 F6;refine sxq 38 38 6 0 [.string a,.string b,.slice AP1206 ps.length kP1206,.slice AS1206 ss.length kS1206,.bool false,.string c] [.string a,.string b,.slice AP1206 ps.length kP1206,.slice AS1206 ss.length kS1206,.bool false,.string c] B F6 L6 fun w1208 hk B G=>?_;replace F2:=bk F2 hk N2_6.out;replace F3:=bk F3 hk N3_6.out;replace F4:=bk F4 hk N4_6.out;replace RP1206:=rk RP1206 F6 (by decide) hk;replace RS1206:=rk RS1206 F6 (by decide) hk;replace F6:=G;clear c2_0 c2_1 c2_2 c2_3 c2_4 c2_5;obtain ⟨c2_0,c2_1,c2_2,c2_3,c2_4,c2_5⟩:=cs6 F2;clear c3_0 c3_1 c3_2 c3_3 c3_4 c3_5;obtain ⟨c3_0,c3_1,c3_2,c3_3,c3_4,c3_5⟩:=cs6 F3;clear c6_0 c6_1 c6_2 c6_3 c6_4 c6_5;obtain ⟨c6_0,c6_1,c6_2,c6_3,c6_4,c6_5⟩:=cs6 F6;clear hk y0 z0 y1 z1 y2 z2 y3 z3 y4 z4 y5 z5)
         | (go_at_call 50;with_reducible refine cl (impl_sessionPlace.Mb _ _ ss ci _ (cb HRS B) HCS.out hv true hit) B fun w1209 hb B=>?_;replace F2:=bn F2 hb;replace F3:=bn F3 hb;replace F4:=bn F4 hb;replace F6:=bn F6 hb;replace RP1206:=rn RP1206 hb;replace RS1206:=rn RS1206 hb;clear c2_0 c2_1 c2_2 c2_3 c2_4 c2_5;obtain ⟨c2_0,c2_1,c2_2,c2_3,c2_4,c2_5⟩:=cs6 F2;clear c3_0 c3_1 c3_2 c3_3 c3_4 c3_5;obtain ⟨c3_0,c3_1,c3_2,c3_3,c3_4,c3_5⟩:=cs6 F3;clear c6_0 c6_1 c6_2 c6_3 c6_4 c6_5;obtain ⟨c6_0,c6_1,c6_2,c6_3,c6_4,c6_5⟩:=cs6 F6;clear hb))
        all_goals (
         refine rg (n:=12) (S:=fun W=>W.heap[g3]?=some (.cells #[.int .i64 (ci),.int .i64 (sq),.int .i64 (k),.string x,.int .i64 (v),.int .i64 (o)] 44 (0,0))∧W.heap[g2]?=some (.cells #[.string a,.string b,.slice AP ps.length cP,.slice (some ad) ss.length cS,.bool false,.string c] 38 (0,0))∧Kd.C k76 W (some ad) ss.length ss) (ds:=[]) #[false,false,false,false,false,false,false,false,false,false,false,false] (by kernel_rfl) rfl rfl ⟨F3.out,F2.out,(cb HRS B)⟩ id B (fun w1210 hb B hHeld=>?_)
         refine with_tabW impl_ApplyEntry.tab5 impl_ApplyEntry.bits5 (fun HT_ HW_=>?_)
         replace F2:=bn F2 hb
         replace F3:=bn F3 hb
         replace F4:=bn F4 hb
         replace F6:=bn F6 hb
         replace RP1206:=rn RP1206 hb
         replace RS1206:=rn RS1206 hb
         clear hb
         refine pvq 0 (some 29) (bits 12 1) HT_ ?_
         refine pvq 1 (some 30) (bits 12 3) HT_ ?_
         refine pvq 2 (some 31) (bits 12 7) HT_ ?_
         refine tvq 3 (some 32) (bits 12 15) HT_ HW_ rfl hHeld (by intro w' hS;obtain ⟨s0,s1,s2⟩:=hS;obtain ⟨q0,q1,q2,q3,q4,q5⟩:=cs6 (Aside0.mk s0);go_simp;with_reducible rfl) ?_
         refine pvq 4 (some 33) (bits 12 31) HT_ ?_
         refine tvq 5 (some 34) (bits 12 63) HT_ HW_ rfl hHeld (by intro w' hS;obtain ⟨s0,s1,s2⟩:=hS;obtain ⟨q0,q1,q2,q3,q4,q5⟩:=cs6 (Aside0.mk s1);go_simp;with_reducible rfl) ?_
         refine pvq 6 (some 35) (bits 12 127) HT_ ?_
         refine pvq 7 (some 36) (bits 12 255) HT_ ?_
         refine pvq 8 (some 37) (bits 12 511) HT_ ?_
         refine tvq 9 (some 38) (bits 12 1023) HT_ HW_ rfl hHeld (by intro w' hS;obtain ⟨s0,s1,s2⟩:=hS;obtain ⟨_,hA,q0,q1,q2⟩:=at_T76 s2 ((plOf ss ci : Nat) : Int) (by omega) (by omega);cases hA;rw [Int.toNat_natCast] at q0 q1 q2;rw [hy] at q0 q1 q2;go_simp;with_reducible rfl) ?_
         refine pvq 10 (some 39) (bits 12 2047) HT_ ?_
         refine pvq 11 (some 40) (bits 12 4095) HT_ ?_
         refine nmq ?_
         refine done_ (done_of HT_.out (by kernel_rfl)) ?_
         clear c2_0 c2_1 c2_2 c2_3 c2_4 c2_5
         obtain ⟨c2_0,c2_1,c2_2,c2_3,c2_4,c2_5⟩:=cs6 F2
         clear c3_0 c3_1 c3_2 c3_3 c3_4 c3_5
         obtain ⟨c3_0,c3_1,c3_2,c3_3,c3_4,c3_5⟩:=cs6 F3
         clear c6_0 c6_1 c6_2 c6_3 c6_4 c6_5
         obtain ⟨c6_0,c6_1,c6_2,c6_3,c6_4,c6_5⟩:=cs6 F6)
        all_goals go_wp2_with (first
         | (go_at_call 51;with_reducible refine cl (impl_stateTakes.M a b _ _ ps _ _ ss false c k x v o _ (cb HRP B) (cb HRS B)) B fun w1211 hb B=>?_;replace F2:=bn F2 hb;replace F3:=bn F3 hb;replace F4:=bn F4 hb;replace F6:=bn F6 hb;replace RP1206:=rn RP1206 hb;replace RS1206:=rn RS1206 hb;clear c2_0 c2_1 c2_2 c2_3 c2_4 c2_5;obtain ⟨c2_0,c2_1,c2_2,c2_3,c2_4,c2_5⟩:=cs6 F2;clear c3_0 c3_1 c3_2 c3_3 c3_4 c3_5;obtain ⟨c3_0,c3_1,c3_2,c3_3,c3_4,c3_5⟩:=cs6 F3;clear c6_0 c6_1 c6_2 c6_3 c6_4 c6_5;obtain ⟨c6_0,c6_1,c6_2,c6_3,c6_4,c6_5⟩:=cs6 F6;clear hb)
         | ((with_reducible refine gate_store (t:=4) (p:=72) rfl ?_);obtain ⟨y0,y1,y2,y3,y4,y5,z0,z1,z2,z3,z4,z5⟩:=cz6 F6;refine sxq 38 4 72 4 [.bool true] [.string a,.string b,.slice AP1206 ps.length kP1206,.slice AS1206 ss.length kS1206,.bool true,.string c] B F6 L6 fun w1212 hk B G=>?_;replace F2:=bk F2 hk N2_6.out;replace F3:=bk F3 hk N3_6.out;replace F4:=bk F4 hk N4_6.out;replace RP1206:=rk RP1206 F6 (by decide) hk;replace RS1206:=rk RS1206 F6 (by decide) hk;replace F6:=G;clear c2_0 c2_1 c2_2 c2_3 c2_4 c2_5;obtain ⟨c2_0,c2_1,c2_2,c2_3,c2_4,c2_5⟩:=cs6 F2;clear c3_0 c3_1 c3_2 c3_3 c3_4 c3_5;obtain ⟨c3_0,c3_1,c3_2,c3_3,c3_4,c3_5⟩:=cs6 F3;clear c6_0 c6_1 c6_2 c6_3 c6_4 c6_5;obtain ⟨c6_0,c6_1,c6_2,c6_3,c6_4,c6_5⟩:=cs6 F6;clear hk y0 z0 y1 z1 y2 z2 y3 z3 y4 z4 y5 z5)
         | ((with_reducible refine gate_store (t:=9) (p:=76) rfl ?_);obtain ⟨y0,y1,y2,y3,y4,y5,z0,z1,z2,z3,z4,z5⟩:=cz6 F6;refine sxq 38 9 76 5 [.string x] [.string a,.string b,.slice AP1206 ps.length kP1206,.slice AS1206 ss.length kS1206,.bool true,.string x] B F6 L6 fun w1213 hk B G=>?_;replace F2:=bk F2 hk N2_6.out;replace F3:=bk F3 hk N3_6.out;replace F4:=bk F4 hk N4_6.out;replace RP1206:=rk RP1206 F6 (by decide) hk;replace RS1206:=rk RS1206 F6 (by decide) hk;replace F6:=G;clear c2_0 c2_1 c2_2 c2_3 c2_4 c2_5;obtain ⟨c2_0,c2_1,c2_2,c2_3,c2_4,c2_5⟩:=cs6 F2;clear c3_0 c3_1 c3_2 c3_3 c3_4 c3_5;obtain ⟨c3_0,c3_1,c3_2,c3_3,c3_4,c3_5⟩:=cs6 F3;clear c6_0 c6_1 c6_2 c6_3 c6_4 c6_5;obtain ⟨c6_0,c6_1,c6_2,c6_3,c6_4,c6_5⟩:=cs6 F6;clear hk y0 z0 y1 z1 y2 z2 y3 z3 y4 z4 y5 z5)
         | (go_at_call 53;with_reducible refine cr (impl_SessionPut.M _ _ ss ci sq 0 _ (cb HRS B) HCS.out) B fun AU1214 kU1214 w1214 hb B RU1214 QU1214=>?_;have DP1206_U1214:=fr QU1214 RP1206;have DS1206_U1214:=fr QU1214 RS1206;replace F2:=bn F2 hb;replace F3:=bn F3 hb;replace F4:=bn F4 hb;replace F6:=bn F6 hb;replace RP1206:=rn RP1206 hb;replace RS1206:=rn RS1206 hb;clear QU1214;clear c6_0 c6_1 c6_2 c6_3 c6_4 c6_5;obtain ⟨c6_0,c6_1,c6_2,c6_3,c6_4,c6_5⟩:=cs6 F6;clear hb)
         | ((with_reducible refine gate_store (t:=36) (p:=98) rfl ?_);obtain ⟨y0,y1,y2,y3,y4,y5,z0,z1,z2,z3,z4,z5⟩:=cz6 F6;refine sxq 38 36 98 3 [.slice AU1214 (putB ss ⟨ci,sq,0⟩).1.length kU1214] [.string a,.string b,.slice AP1206 ps.length kP1206,.slice AU1214 (putB ss ⟨ci,sq,0⟩).1.length kU1214,.bool true,.string x] B F6 L6 fun w1215 hk B G=>?_;replace F2:=bk F2 hk N2_6.out;replace F3:=bk F3 hk N3_6.out;replace F4:=bk F4 hk N4_6.out;replace RP1206:=rk RP1206 F6 (by decide) hk;replace RS1206:=rk RS1206 F6 (by decide) hk;replace RU1214:=rk RU1214 F6 (by decide) hk;replace F6:=G;clear c6_0 c6_1 c6_2 c6_3 c6_4 c6_5;obtain ⟨c6_0,c6_1,c6_2,c6_3,c6_4,c6_5⟩:=cs6 F6;clear hk y0 z0 y1 z1 y2 z2 y3 z3 y4 z4 y5 z5)
         | ((with_reducible refine gate_store (t:=38) (p:=4) rfl ?_);obtain ⟨y0,y1,y2,y3,y4,y5,z0,z1,z2,z3,z4,z5⟩:=cz6 F4;refine sxq 38 38 4 0 [.string a,.string b,.slice AP1206 ps.length kP1206,.slice AU1214 (putB ss ⟨ci,sq,0⟩).1.length kU1214,.bool true,.string x] [.string a,.string b,.slice AP1206 ps.length kP1206,.slice AU1214 (putB ss ⟨ci,sq,0⟩).1.length kU1214,.bool true,.string x] B F4 L4 fun w1216 hk B G=>?_;replace F2:=bk F2 hk N2_4.out;replace F3:=bk F3 hk N3_4.out;replace RP1206:=rk RP1206 F4 (by decide) hk;replace RS1206:=rk RS1206 F4 (by decide) hk;replace RU1214:=rk RU1214 F4 (by decide) hk;replace F4:=G;clear hk y0 z0 y1 z1 y2 z2 y3 z3 y4 z4 y5 z5))
        all_goals (try (refine bodyPost_ret (results_list (rs:=[.cell 4 38,.tmp 5]) rfl (by simp) (.cell g4 38 _ (0,0) _ rfl F4.out hu rfl (by kernel_rfl) (.tmp .nil))) rfl ?_);exact ⟨_,_,rfl,RP1206.out,RU1214.out,B.out⟩)
       ·have d5 : (k == 5)=false:=beq_eq_false_iff_ne.mpr h5
        rw [show applM ⟨a,b,ps,ss,false,c⟩ ci sq k x v o=(⟨a,b,(apM ps k x v o).1,(putB ss ⟨ci,sq,(apM ps k x v o).2⟩).1,false,c⟩,(apM ps k x v o).2) from if_neg h5]
        clear hh hcm hsq hN hid h5
        go_enter Try.func12,Try.ntmps12
        go_wp2_with (first
         | ((with_reducible refine gate_dst (N:=2) rfl ?_);refine bxq 2 #[.string a,.string b,.slice AP ps.length cP,.slice (some ad) ss.length cS,.bool false,.string c] 38 B fun g2 w1301 hb B F2 L2 E2=>?_;obtain ⟨c2_0,c2_1,c2_2,c2_3,c2_4,c2_5⟩:=cs6 F2;clear hb E2)
         | ((with_reducible refine gate_dst (N:=3) rfl ?_);refine bxq 3 #[.int .i64 (ci),.int .i64 (sq),.int .i64 (k),.string x,.int .i64 (v),.int .i64 (o)] 44 B fun g3 w1302 hb B F3 L3 E3=>?_;replace F2:=bn F2 hb;clear c2_0 c2_1 c2_2 c2_3 c2_4 c2_5;obtain ⟨c2_0,c2_1,c2_2,c2_3,c2_4,c2_5⟩:=cs6 F2;obtain ⟨c3_0,c3_1,c3_2,c3_3,c3_4,c3_5⟩:=cs6 F3;clear hb E3)
         | ((with_reducible refine gate_dst (N:=4) rfl ?_);refine bxq 4 #[.string (⟨#[]⟩ : ByteArray),.string (⟨#[]⟩ : ByteArray),.slice none 0 0,.slice none 0 0,.bool false,.string (⟨#[]⟩ : ByteArray)] 38 B fun g4 w1303 hb B F4 L4 E4=>?_;have N2_4:=ne1 E4 F2;have N3_4:=ne1 E4 F3;replace F2:=bn F2 hb;replace F3:=bn F3 hb;clear c2_0 c2_1 c2_2 c2_3 c2_4 c2_5;obtain ⟨c2_0,c2_1,c2_2,c2_3,c2_4,c2_5⟩:=cs6 F2;clear c3_0 c3_1 c3_2 c3_3 c3_4 c3_5;obtain ⟨c3_0,c3_1,c3_2,c3_3,c3_4,c3_5⟩:=cs6 F3;clear hb E4)
         | (go_at_call 18;with_reducible refine cl (impl_StateValid.M a b _ _ ps _ _ ss false c _ (cb HRP B) (cb HRS B)) B fun w1304 hb B=>?_;replace F2:=bn F2 hb;replace F3:=bn F3 hb;replace F4:=bn F4 hb;clear c2_0 c2_1 c2_2 c2_3 c2_4 c2_5;obtain ⟨c2_0,c2_1,c2_2,c2_3,c2_4,c2_5⟩:=cs6 F2;clear c3_0 c3_1 c3_2 c3_3 c3_4 c3_5;obtain ⟨c3_0,c3_1,c3_2,c3_3,c3_4,c3_5⟩:=cs6 F3;clear hb)
         | (go_at_call 19;with_reducible refine cl (impl_EntryValid.M ci sq k x v o _) B fun w1305 hb B=>?_;replace F2:=bn F2 hb;replace F3:=bn F3 hb;replace F4:=bn F4 hb;clear c2_0 c2_1 c2_2 c2_3 c2_4 c2_5;obtain ⟨c2_0,c2_1,c2_2,c2_3,c2_4,c2_5⟩:=cs6 F2;clear c3_0 c3_1 c3_2 c3_3 c3_4 c3_5;obtain ⟨c3_0,c3_1,c3_2,c3_3,c3_4,c3_5⟩:=cs6 F3;clear hb)
         | (go_at_call 49;with_reducible refine c2r (impl_copyState.M a b _ _ ps _ _ ss false c _ (cb HRP B) (cb HRS B) HCP.out HCS.out (by omega) (by omega)) B fun AP1306 kP1306 AS1306 kS1306 w1306 hb B RP1306 QP1306 RS1306 QS1306=>?_;have DP1306_S1306:=Aside0.mk (dty RP1306 RS1306 (by decide));replace F2:=bn F2 hb;replace F3:=bn F3 hb;replace F4:=bn F4 hb;clear QP1306 QS1306;clear c2_0 c2_1 c2_2 c2_3 c2_4 c2_5;obtain ⟨c2_0,c2_1,c2_2,c2_3,c2_4,c2_5⟩:=cs6 F2;clear c3_0 c3_1 c3_2 c3_3 c3_4 c3_5;obtain ⟨c3_0,c3_1,c3_2,c3_3,c3_4,c3_5⟩:=cs6 F3;clear hb)
         | ((with_reducible refine gate_dst (N:=6) rfl ?_);refine bxq 6 #[.string (⟨#[]⟩ : ByteArray),.string (⟨#[]⟩ : ByteArray),.slice none 0 0,.slice none 0 0,.bool false,.string (⟨#[]⟩ : ByteArray)] 38 B fun g6 w1307 hb B F6 L6 E6=>?_;have N2_6:=ne1 E6 F2;have N3_6:=ne1 E6 F3;have N4_6:=ne1 E6 F4;replace F2:=bn F2 hb;replace F3:=bn F3 hb;replace F4:=bn F4 hb;replace RP1306:=rn RP1306 hb;replace RS1306:=rn RS1306 hb;clear c2_0 c2_1 c2_2 c2_3 c2_4 c2_5;obtain ⟨c2_0,c2_1,c2_2,c2_3,c2_4,c2_5⟩:=cs6 F2;clear c3_0 c3_1 c3_2 c3_3 c3_4 c3_5;obtain ⟨c3_0,c3_1,c3_2,c3_3,c3_4,c3_5⟩:=cs6 F3;obtain ⟨c6_0,c6_1,c6_2,c6_3,c6_4,c6_5⟩:=cs6 F6;clear hb E6)
         | ((with_reducible refine gate_store (t:=38) (p:=6) rfl ?_);obtain ⟨y0,y1,y2,y3,y4,y5,z0,z1,z2,z3,z4,z5⟩:=cz6 F6;refine sxq 38 38 6 0 [.string a,.string b,.slice AP1306 ps.length kP1306,.slice AS1306 ss.length kS1306,.bool false,.string c] [.string a,.string b,.slice AP1306 ps.length kP1306,.slice AS1306 ss.length kS1306,.bool false,.string c] B F6 L6 fun w1308 hk B G=>?_;replace F2:=bk F2 hk N2_6.out;replace F3:=bk F3 hk N3_6.out;replace F4:=bk F4 hk N4_6.out;replace RP1306:=rk RP1306 F6 (by decide) hk;replace RS1306:=rk RS1306 F6 (by decide) hk;replace F6:=G;clear c2_0 c2_1 c2_2 c2_3 c2_4 c2_5;obtain ⟨c2_0,c2_1,c2_2,c2_3,c2_4,c2_5⟩:=cs6 F2;clear c3_0 c3_1 c3_2 c3_3 c3_4 c3_5;obtain ⟨c3_0,c3_1,c3_2,c3_3,c3_4,c3_5⟩:=cs6 F3;clear c6_0 c6_1 c6_2 c6_3 c6_4 c6_5;obtain ⟨c6_0,c6_1,c6_2,c6_3,c6_4,c6_5⟩:=cs6 F6;clear hk y0 z0 y1 z1 y2 z2 y3 z3 y4 z4 y5 z5)
         | (go_at_call 50;with_reducible refine cl (impl_sessionPlace.Mb _ _ ss ci _ (cb HRS B) HCS.out hv true hit) B fun w1309 hb B=>?_;replace F2:=bn F2 hb;replace F3:=bn F3 hb;replace F4:=bn F4 hb;replace F6:=bn F6 hb;replace RP1306:=rn RP1306 hb;replace RS1306:=rn RS1306 hb;clear c2_0 c2_1 c2_2 c2_3 c2_4 c2_5;obtain ⟨c2_0,c2_1,c2_2,c2_3,c2_4,c2_5⟩:=cs6 F2;clear c3_0 c3_1 c3_2 c3_3 c3_4 c3_5;obtain ⟨c3_0,c3_1,c3_2,c3_3,c3_4,c3_5⟩:=cs6 F3;clear c6_0 c6_1 c6_2 c6_3 c6_4 c6_5;obtain ⟨c6_0,c6_1,c6_2,c6_3,c6_4,c6_5⟩:=cs6 F6;clear hb))
        all_goals (
         refine rg (n:=12) (S:=fun W=>W.heap[g3]?=some (.cells #[.int .i64 (ci),.int .i64 (sq),.int .i64 (k),.string x,.int .i64 (v),.int .i64 (o)] 44 (0,0))∧W.heap[g2]?=some (.cells #[.string a,.string b,.slice AP ps.length cP,.slice (some ad) ss.length cS,.bool false,.string c] 38 (0,0))∧Kd.C k76 W (some ad) ss.length ss) (ds:=[]) #[false,false,false,false,false,false,false,false,false,false,false,false] (by kernel_rfl) rfl rfl ⟨F3.out,F2.out,(cb HRS B)⟩ id B (fun w1310 hb B hHeld=>?_)
         refine with_tabW impl_ApplyEntry.tab5 impl_ApplyEntry.bits5 (fun HT_ HW_=>?_)
         replace F2:=bn F2 hb
         replace F3:=bn F3 hb
         replace F4:=bn F4 hb
         replace F6:=bn F6 hb
         replace RP1306:=rn RP1306 hb
         replace RS1306:=rn RS1306 hb
         clear hb
         refine pvq 0 (some 29) (bits 12 1) HT_ ?_
         refine pvq 1 (some 30) (bits 12 3) HT_ ?_
         refine pvq 2 (some 31) (bits 12 7) HT_ ?_
         refine tvq 3 (some 32) (bits 12 15) HT_ HW_ rfl hHeld (by intro w' hS;obtain ⟨s0,s1,s2⟩:=hS;obtain ⟨q0,q1,q2,q3,q4,q5⟩:=cs6 (Aside0.mk s0);go_simp;with_reducible rfl) ?_
         refine pvq 4 (some 33) (bits 12 31) HT_ ?_
         refine tvq 5 (some 34) (bits 12 63) HT_ HW_ rfl hHeld (by intro w' hS;obtain ⟨s0,s1,s2⟩:=hS;obtain ⟨q0,q1,q2,q3,q4,q5⟩:=cs6 (Aside0.mk s1);go_simp;with_reducible rfl) ?_
         refine pvq 6 (some 35) (bits 12 127) HT_ ?_
         refine pvq 7 (some 36) (bits 12 255) HT_ ?_
         refine pvq 8 (some 37) (bits 12 511) HT_ ?_
         refine tvq 9 (some 38) (bits 12 1023) HT_ HW_ rfl hHeld (by intro w' hS;obtain ⟨s0,s1,s2⟩:=hS;obtain ⟨_,hA,q0,q1,q2⟩:=at_T76 s2 ((plOf ss ci : Nat) : Int) (by omega) (by omega);cases hA;rw [Int.toNat_natCast] at q0 q1 q2;rw [hy] at q0 q1 q2;go_simp;with_reducible rfl) ?_
         refine pvq 10 (some 39) (bits 12 2047) HT_ ?_
         refine pvq 11 (some 40) (bits 12 4095) HT_ ?_
         refine nmq ?_
         refine done_ (done_of HT_.out (by kernel_rfl)) ?_
         clear c2_0 c2_1 c2_2 c2_3 c2_4 c2_5
         obtain ⟨c2_0,c2_1,c2_2,c2_3,c2_4,c2_5⟩:=cs6 F2
         clear c3_0 c3_1 c3_2 c3_3 c3_4 c3_5
         obtain ⟨c3_0,c3_1,c3_2,c3_3,c3_4,c3_5⟩:=cs6 F3
         clear c6_0 c6_1 c6_2 c6_3 c6_4 c6_5
         obtain ⟨c6_0,c6_1,c6_2,c6_3,c6_4,c6_5⟩:=cs6 F6)
        all_goals go_wp2_with (first
         | (go_at_call 51;with_reducible refine cl (impl_stateTakes.M a b _ _ ps _ _ ss false c k x v o _ (cb HRP B) (cb HRS B)) B fun w1311 hb B=>?_;replace F2:=bn F2 hb;replace F3:=bn F3 hb;replace F4:=bn F4 hb;replace F6:=bn F6 hb;replace RP1306:=rn RP1306 hb;replace RS1306:=rn RS1306 hb;clear c2_0 c2_1 c2_2 c2_3 c2_4 c2_5;obtain ⟨c2_0,c2_1,c2_2,c2_3,c2_4,c2_5⟩:=cs6 F2;clear c3_0 c3_1 c3_2 c3_3 c3_4 c3_5;obtain ⟨c3_0,c3_1,c3_2,c3_3,c3_4,c3_5⟩:=cs6 F3;clear c6_0 c6_1 c6_2 c6_3 c6_4 c6_5;obtain ⟨c6_0,c6_1,c6_2,c6_3,c6_4,c6_5⟩:=cs6 F6;clear hb)
         | (go_at_call 52;with_reducible refine cr (impl_ApplyCommand.M _ _ ps k x v o _ (cb HRP B) HCP.out) B fun AC1312 kC1312 w1312 hb B RC1312 QC1312=>?_;have DP1306_C1312:=fr QC1312 RP1306;have DS1306_C1312:=fr QC1312 RS1306;replace F2:=bn F2 hb;replace F3:=bn F3 hb;replace F4:=bn F4 hb;replace F6:=bn F6 hb;replace RP1306:=rn RP1306 hb;replace RS1306:=rn RS1306 hb;clear QC1312;clear c2_0 c2_1 c2_2 c2_3 c2_4 c2_5;obtain ⟨c2_0,c2_1,c2_2,c2_3,c2_4,c2_5⟩:=cs6 F2;clear c3_0 c3_1 c3_2 c3_3 c3_4 c3_5;obtain ⟨c3_0,c3_1,c3_2,c3_3,c3_4,c3_5⟩:=cs6 F3;clear c6_0 c6_1 c6_2 c6_3 c6_4 c6_5;obtain ⟨c6_0,c6_1,c6_2,c6_3,c6_4,c6_5⟩:=cs6 F6;clear hb)
         | ((with_reducible refine gate_store (t:=35) (p:=85) rfl ?_);obtain ⟨y0,y1,y2,y3,y4,y5,z0,z1,z2,z3,z4,z5⟩:=cz6 F6;refine sxq 38 35 85 2 [.slice AC1312 (apM ps k x v o).1.length kC1312] [.string a,.string b,.slice AC1312 (apM ps k x v o).1.length kC1312,.slice AS1306 ss.length kS1306,.bool false,.string c] B F6 L6 fun w1313 hk B G=>?_;replace F2:=bk F2 hk N2_6.out;replace F3:=bk F3 hk N3_6.out;replace F4:=bk F4 hk N4_6.out;replace RP1306:=rk RP1306 F6 (by decide) hk;replace RS1306:=rk RS1306 F6 (by decide) hk;replace RC1312:=rk RC1312 F6 (by decide) hk;replace F6:=G;clear c2_0 c2_1 c2_2 c2_3 c2_4 c2_5;obtain ⟨c2_0,c2_1,c2_2,c2_3,c2_4,c2_5⟩:=cs6 F2;clear c3_0 c3_1 c3_2 c3_3 c3_4 c3_5;obtain ⟨c3_0,c3_1,c3_2,c3_3,c3_4,c3_5⟩:=cs6 F3;clear c6_0 c6_1 c6_2 c6_3 c6_4 c6_5;obtain ⟨c6_0,c6_1,c6_2,c6_3,c6_4,c6_5⟩:=cs6 F6;clear hk y0 z0 y1 z1 y2 z2 y3 z3 y4 z4 y5 z5)
         | (go_at_call 53;with_reducible refine cr (impl_SessionPut.M _ _ ss ci sq (apM ps k x v o).2 _ (cb HRS B) HCS.out) B fun AU1314 kU1314 w1314 hb B RU1314 QU1314=>?_;have DP1306_U1314:=fr QU1314 RP1306;have DS1306_U1314:=fr QU1314 RS1306;have DC1312_U1314:=fr QU1314 RC1312;replace F2:=bn F2 hb;replace F3:=bn F3 hb;replace F4:=bn F4 hb;replace F6:=bn F6 hb;replace RS1306:=rn RS1306 hb;replace RC1312:=rn RC1312 hb;clear QU1314;clear c6_0 c6_1 c6_2 c6_3 c6_4 c6_5;obtain ⟨c6_0,c6_1,c6_2,c6_3,c6_4,c6_5⟩:=cs6 F6;clear hb)
         | ((with_reducible refine gate_store (t:=36) (p:=98) rfl ?_);obtain ⟨y0,y1,y2,y3,y4,y5,z0,z1,z2,z3,z4,z5⟩:=cz6 F6;refine sxq 38 36 98 3 [.slice AU1314 (putB ss ⟨ci,sq,(apM ps k x v o).2⟩).1.length kU1314] [.string a,.string b,.slice AC1312 (apM ps k x v o).1.length kC1312,.slice AU1314 (putB ss ⟨ci,sq,(apM ps k x v o).2⟩).1.length kU1314,.bool false,.string c] B F6 L6 fun w1315 hk B G=>?_;replace F2:=bk F2 hk N2_6.out;replace F3:=bk F3 hk N3_6.out;replace F4:=bk F4 hk N4_6.out;replace RS1306:=rk RS1306 F6 (by decide) hk;replace RC1312:=rk RC1312 F6 (by decide) hk;replace RU1314:=rk RU1314 F6 (by decide) hk;replace F6:=G;clear c6_0 c6_1 c6_2 c6_3 c6_4 c6_5;obtain ⟨c6_0,c6_1,c6_2,c6_3,c6_4,c6_5⟩:=cs6 F6;clear hk y0 z0 y1 z1 y2 z2 y3 z3 y4 z4 y5 z5)
         | ((with_reducible refine gate_store (t:=38) (p:=4) rfl ?_);obtain ⟨y0,y1,y2,y3,y4,y5,z0,z1,z2,z3,z4,z5⟩:=cz6 F4;refine sxq 38 38 4 0 [.string a,.string b,.slice AC1312 (apM ps k x v o).1.length kC1312,.slice AU1314 (putB ss ⟨ci,sq,(apM ps k x v o).2⟩).1.length kU1314,.bool false,.string c] [.string a,.string b,.slice AC1312 (apM ps k x v o).1.length kC1312,.slice AU1314 (putB ss ⟨ci,sq,(apM ps k x v o).2⟩).1.length kU1314,.bool false,.string c] B F4 L4 fun w1316 hk B G=>?_;replace F2:=bk F2 hk N2_4.out;replace F3:=bk F3 hk N3_4.out;replace RS1306:=rk RS1306 F4 (by decide) hk;replace RC1312:=rk RC1312 F4 (by decide) hk;replace RU1314:=rk RU1314 F4 (by decide) hk;replace F4:=G;clear hk y0 z0 y1 z1 y2 z2 y3 z3 y4 z4 y5 z5))
        all_goals (try (refine bodyPost_ret (results_list (rs:=[.cell 4 38,.tmp 5]) rfl (by simp) (.cell g4 38 _ (0,0) _ rfl F4.out hu rfl (by kernel_rfl) (.tmp .nil))) rfl ?_);exact ⟨_,_,rfl,RC1312.out,RU1314.out,B.out⟩)
   | false =>
    have hf0:=miss_findS hv hit
    have hN : idleN ⟨a,b,ps,ss,t,c⟩ ci sq=-3:=(if_neg (show ¬ (findS ss ci).f1=sq by omega)).trans (if_neg (show ¬ sq < (findS ss ci).f1 by omega))
    have hle : decide (sq≤(findS ss ci).f1)=false:=decide_eq_false (by omega)
    clear hf0 hcl
    cases t with
    | true =>
     rw [aeM_idle hh (by unfold idleB;simp),hN]
     clear hh hcm hsq hN hle
     go_enter Try.func12,Try.ntmps12
     go_wp2_with (first
      | ((with_reducible refine gate_dst (N:=2) rfl ?_);refine bxq 2 #[.string a,.string b,.slice AP ps.length cP,.slice AS ss.length cS,.bool true,.string c] 38 B fun g2 w2001 hb B F2 L2 E2=>?_;obtain ⟨c2_0,c2_1,c2_2,c2_3,c2_4,c2_5⟩:=cs6 F2;clear hb E2)
      | ((with_reducible refine gate_dst (N:=3) rfl ?_);refine bxq 3 #[.int .i64 (ci),.int .i64 (sq),.int .i64 (k),.string x,.int .i64 (v),.int .i64 (o)] 44 B fun g3 w2002 hb B F3 L3 E3=>?_;replace F2:=bn F2 hb;clear c2_0 c2_1 c2_2 c2_3 c2_4 c2_5;obtain ⟨c2_0,c2_1,c2_2,c2_3,c2_4,c2_5⟩:=cs6 F2;obtain ⟨c3_0,c3_1,c3_2,c3_3,c3_4,c3_5⟩:=cs6 F3;clear hb E3)
      | ((with_reducible refine gate_dst (N:=4) rfl ?_);refine bxq 4 #[.string (⟨#[]⟩ : ByteArray),.string (⟨#[]⟩ : ByteArray),.slice none 0 0,.slice none 0 0,.bool false,.string (⟨#[]⟩ : ByteArray)] 38 B fun g4 w2003 hb B F4 L4 E4=>?_;have N2_4:=ne1 E4 F2;have N3_4:=ne1 E4 F3;replace F2:=bn F2 hb;replace F3:=bn F3 hb;clear c2_0 c2_1 c2_2 c2_3 c2_4 c2_5;obtain ⟨c2_0,c2_1,c2_2,c2_3,c2_4,c2_5⟩:=cs6 F2;clear c3_0 c3_1 c3_2 c3_3 c3_4 c3_5;obtain ⟨c3_0,c3_1,c3_2,c3_3,c3_4,c3_5⟩:=cs6 F3;clear hb E4)
      | (go_at_call 18;with_reducible refine cl (impl_StateValid.M a b _ _ ps _ _ ss true c _ (cb HRP B) (cb HRS B)) B fun w2004 hb B=>?_;replace F2:=bn F2 hb;replace F3:=bn F3 hb;replace F4:=bn F4 hb;clear c2_0 c2_1 c2_2 c2_3 c2_4 c2_5;obtain ⟨c2_0,c2_1,c2_2,c2_3,c2_4,c2_5⟩:=cs6 F2;clear c3_0 c3_1 c3_2 c3_3 c3_4 c3_5;obtain ⟨c3_0,c3_1,c3_2,c3_3,c3_4,c3_5⟩:=cs6 F3;clear hb)
      | (go_at_call 19;with_reducible refine cl (impl_EntryValid.M ci sq k x v o _) B fun w2005 hb B=>?_;replace F2:=bn F2 hb;replace F3:=bn F3 hb;replace F4:=bn F4 hb;clear c2_0 c2_1 c2_2 c2_3 c2_4 c2_5;obtain ⟨c2_0,c2_1,c2_2,c2_3,c2_4,c2_5⟩:=cs6 F2;clear c3_0 c3_1 c3_2 c3_3 c3_4 c3_5;obtain ⟨c3_0,c3_1,c3_2,c3_3,c3_4,c3_5⟩:=cs6 F3;clear hb)
      | (go_at_call 49;with_reducible refine c2r (impl_copyState.M a b _ _ ps _ _ ss true c _ (cb HRP B) (cb HRS B) HCP.out HCS.out (by omega) (by omega)) B fun AP2006 kP2006 AS2006 kS2006 w2006 hb B RP2006 QP2006 RS2006 QS2006=>?_;have DP2006_S2006:=Aside0.mk (dty RP2006 RS2006 (by decide));replace F2:=bn F2 hb;replace F3:=bn F3 hb;replace F4:=bn F4 hb;clear QP2006 QS2006;clear c2_0 c2_1 c2_2 c2_3 c2_4 c2_5;obtain ⟨c2_0,c2_1,c2_2,c2_3,c2_4,c2_5⟩:=cs6 F2;clear c3_0 c3_1 c3_2 c3_3 c3_4 c3_5;obtain ⟨c3_0,c3_1,c3_2,c3_3,c3_4,c3_5⟩:=cs6 F3;clear hb)
      | ((with_reducible refine gate_dst (N:=6) rfl ?_);refine bxq 6 #[.string (⟨#[]⟩ : ByteArray),.string (⟨#[]⟩ : ByteArray),.slice none 0 0,.slice none 0 0,.bool false,.string (⟨#[]⟩ : ByteArray)] 38 B fun g6 w2007 hb B F6 L6 E6=>?_;have N2_6:=ne1 E6 F2;have N3_6:=ne1 E6 F3;have N4_6:=ne1 E6 F4;replace F2:=bn F2 hb;replace F3:=bn F3 hb;replace F4:=bn F4 hb;replace RP2006:=rn RP2006 hb;replace RS2006:=rn RS2006 hb;clear c2_0 c2_1 c2_2 c2_3 c2_4 c2_5;obtain ⟨c2_0,c2_1,c2_2,c2_3,c2_4,c2_5⟩:=cs6 F2;clear c3_0 c3_1 c3_2 c3_3 c3_4 c3_5;obtain ⟨c3_0,c3_1,c3_2,c3_3,c3_4,c3_5⟩:=cs6 F3;obtain ⟨c6_0,c6_1,c6_2,c6_3,c6_4,c6_5⟩:=cs6 F6;clear hb E6)
      | ((with_reducible refine gate_store (t:=38) (p:=6) rfl ?_);obtain ⟨y0,y1,y2,y3,y4,y5,z0,z1,z2,z3,z4,z5⟩:=cz6 F6;refine sxq 38 38 6 0 [.string a,.string b,.slice AP2006 ps.length kP2006,.slice AS2006 ss.length kS2006,.bool true,.string c] [.string a,.string b,.slice AP2006 ps.length kP2006,.slice AS2006 ss.length kS2006,.bool true,.string c] B F6 L6 fun w2008 hk B G=>?_;replace F2:=bk F2 hk N2_6.out;replace F3:=bk F3 hk N3_6.out;replace F4:=bk F4 hk N4_6.out;replace RP2006:=rk RP2006 F6 (by decide) hk;replace RS2006:=rk RS2006 F6 (by decide) hk;replace F6:=G;clear c2_0 c2_1 c2_2 c2_3 c2_4 c2_5;obtain ⟨c2_0,c2_1,c2_2,c2_3,c2_4,c2_5⟩:=cs6 F2;clear c3_0 c3_1 c3_2 c3_3 c3_4 c3_5;obtain ⟨c3_0,c3_1,c3_2,c3_3,c3_4,c3_5⟩:=cs6 F3;clear c6_0 c6_1 c6_2 c6_3 c6_4 c6_5;obtain ⟨c6_0,c6_1,c6_2,c6_3,c6_4,c6_5⟩:=cs6 F6;clear hk y0 z0 y1 z1 y2 z2 y3 z3 y4 z4 y5 z5)
      | (go_at_call 50;with_reducible refine cl (impl_sessionPlace.Mb _ _ ss ci _ (cb HRS B) HCS.out hv false hit) B fun w2009 hb B=>?_;replace F2:=bn F2 hb;replace F3:=bn F3 hb;replace F4:=bn F4 hb;replace F6:=bn F6 hb;replace RP2006:=rn RP2006 hb;replace RS2006:=rn RS2006 hb;clear c2_0 c2_1 c2_2 c2_3 c2_4 c2_5;obtain ⟨c2_0,c2_1,c2_2,c2_3,c2_4,c2_5⟩:=cs6 F2;clear c3_0 c3_1 c3_2 c3_3 c3_4 c3_5;obtain ⟨c3_0,c3_1,c3_2,c3_3,c3_4,c3_5⟩:=cs6 F3;clear c6_0 c6_1 c6_2 c6_3 c6_4 c6_5;obtain ⟨c6_0,c6_1,c6_2,c6_3,c6_4,c6_5⟩:=cs6 F6;clear hb))
     all_goals (
      refine rg (n:=12) (S:=fun W=>W.heap[g3]?=some (.cells #[.int .i64 (ci),.int .i64 (sq),.int .i64 (k),.string x,.int .i64 (v),.int .i64 (o)] 44 (0,0))∧W.heap[g2]?=some (.cells #[.string a,.string b,.slice AP ps.length cP,.slice AS ss.length cS,.bool true,.string c] 38 (0,0))∧Kd.C k76 W AS ss.length ss) (ds:=[]) #[false,false,false,false,false,false,false,false,false,false,false,false] (by kernel_rfl) rfl rfl ⟨F3.out,F2.out,(cb HRS B)⟩ id B (fun w2010 hb B hHeld=>?_)
      refine with_tabW impl_ApplyEntry.tab5 impl_ApplyEntry.bits5 (fun HT_ HW_=>?_)
      replace F2:=bn F2 hb
      replace F3:=bn F3 hb
      replace F4:=bn F4 hb
      replace F6:=bn F6 hb
      replace RP2006:=rn RP2006 hb
      replace RS2006:=rn RS2006 hb
      clear hb
      refine pvq 0 (some 29) (bits 12 1) HT_ ?_
      refine pvq 1 (some 30) (bits 12 3) HT_ ?_
      refine svq 2 (some 31) (bits 12 7) HT_ ?_
      refine svq 3 (some 32) (bits 12 15) HT_ ?_
      refine svq 4 (some 33) (bits 12 31) HT_ ?_
      refine svq 5 (some 34) (bits 12 63) HT_ ?_
      refine svq 6 (some 35) (bits 12 127) HT_ ?_
      refine svq 7 (some 36) (bits 12 255) HT_ ?_
      refine svq 8 (some 37) (bits 12 511) HT_ ?_
      refine svq 9 (some 38) (bits 12 1023) HT_ ?_
      refine svq 10 (some 39) (bits 12 2047) HT_ ?_
      refine pvq 11 (some 40) (bits 12 4095) HT_ ?_
      refine nmq ?_
      refine done_ (done_of HT_.out (by kernel_rfl)) ?_
      clear c2_0 c2_1 c2_2 c2_3 c2_4 c2_5
      obtain ⟨c2_0,c2_1,c2_2,c2_3,c2_4,c2_5⟩:=cs6 F2
      clear c3_0 c3_1 c3_2 c3_3 c3_4 c3_5
      obtain ⟨c3_0,c3_1,c3_2,c3_3,c3_4,c3_5⟩:=cs6 F3
      clear c6_0 c6_1 c6_2 c6_3 c6_4 c6_5
      obtain ⟨c6_0,c6_1,c6_2,c6_3,c6_4,c6_5⟩:=cs6 F6)
     all_goals go_wp2_with (first
      | (go_at_call 51;with_reducible refine cl (impl_stateTakes.M a b _ _ ps _ _ ss true c k x v o _ (cb HRP B) (cb HRS B)) B fun w2011 hb B=>?_;replace F2:=bn F2 hb;replace F3:=bn F3 hb;replace F4:=bn F4 hb;replace F6:=bn F6 hb;replace RP2006:=rn RP2006 hb;replace RS2006:=rn RS2006 hb;clear c6_0 c6_1 c6_2 c6_3 c6_4 c6_5;obtain ⟨c6_0,c6_1,c6_2,c6_3,c6_4,c6_5⟩:=cs6 F6;clear hb)
      | ((with_reducible refine gate_store (t:=38) (p:=4) rfl ?_);obtain ⟨y0,y1,y2,y3,y4,y5,z0,z1,z2,z3,z4,z5⟩:=cz6 F4;refine sxq 38 38 4 0 [.string a,.string b,.slice AP2006 ps.length kP2006,.slice AS2006 ss.length kS2006,.bool true,.string c] [.string a,.string b,.slice AP2006 ps.length kP2006,.slice AS2006 ss.length kS2006,.bool true,.string c] B F4 L4 fun w2012 hk B G=>?_;replace F2:=bk F2 hk N2_4.out;replace F3:=bk F3 hk N3_4.out;replace RP2006:=rk RP2006 F4 (by decide) hk;replace RS2006:=rk RS2006 F4 (by decide) hk;replace F4:=G;clear hk y0 z0 y1 z1 y2 z2 y3 z3 y4 z4 y5 z5))
     all_goals (try (refine bodyPost_ret (results_list (rs:=[.cell 4 38,.tmp 5]) rfl (by simp) (.cell g4 38 _ (0,0) _ rfl F4.out hu rfl (by kernel_rfl) (.tmp .nil))) rfl ?_);exact ⟨_,_,rfl,RP2006.out,RS2006.out,B.out⟩)
    | false =>
     have hid : idleB ⟨a,b,ps,ss,false,c⟩ ci sq k x=!takesB a b k x:=by unfold idleB;rw [hle];rfl
     clear hle
     cases htk : takesB a b k x with
     | false =>
      rw [aeM_idle hh (by rw [hid,htk];rfl),hN]
      clear hh hcm hsq hN hid
      go_enter Try.func12,Try.ntmps12
      go_wp2_with (first
       | ((with_reducible refine gate_dst (N:=2) rfl ?_);refine bxq 2 #[.string a,.string b,.slice AP ps.length cP,.slice AS ss.length cS,.bool false,.string c] 38 B fun g2 w2101 hb B F2 L2 E2=>?_;obtain ⟨c2_0,c2_1,c2_2,c2_3,c2_4,c2_5⟩:=cs6 F2;clear hb E2)
       | ((with_reducible refine gate_dst (N:=3) rfl ?_);refine bxq 3 #[.int .i64 (ci),.int .i64 (sq),.int .i64 (k),.string x,.int .i64 (v),.int .i64 (o)] 44 B fun g3 w2102 hb B F3 L3 E3=>?_;replace F2:=bn F2 hb;clear c2_0 c2_1 c2_2 c2_3 c2_4 c2_5;obtain ⟨c2_0,c2_1,c2_2,c2_3,c2_4,c2_5⟩:=cs6 F2;obtain ⟨c3_0,c3_1,c3_2,c3_3,c3_4,c3_5⟩:=cs6 F3;clear hb E3)
       | ((with_reducible refine gate_dst (N:=4) rfl ?_);refine bxq 4 #[.string (⟨#[]⟩ : ByteArray),.string (⟨#[]⟩ : ByteArray),.slice none 0 0,.slice none 0 0,.bool false,.string (⟨#[]⟩ : ByteArray)] 38 B fun g4 w2103 hb B F4 L4 E4=>?_;have N2_4:=ne1 E4 F2;have N3_4:=ne1 E4 F3;replace F2:=bn F2 hb;replace F3:=bn F3 hb;clear c2_0 c2_1 c2_2 c2_3 c2_4 c2_5;obtain ⟨c2_0,c2_1,c2_2,c2_3,c2_4,c2_5⟩:=cs6 F2;clear c3_0 c3_1 c3_2 c3_3 c3_4 c3_5;obtain ⟨c3_0,c3_1,c3_2,c3_3,c3_4,c3_5⟩:=cs6 F3;clear hb E4)
       | (go_at_call 18;with_reducible refine cl (impl_StateValid.M a b _ _ ps _ _ ss false c _ (cb HRP B) (cb HRS B)) B fun w2104 hb B=>?_;replace F2:=bn F2 hb;replace F3:=bn F3 hb;replace F4:=bn F4 hb;clear c2_0 c2_1 c2_2 c2_3 c2_4 c2_5;obtain ⟨c2_0,c2_1,c2_2,c2_3,c2_4,c2_5⟩:=cs6 F2;clear c3_0 c3_1 c3_2 c3_3 c3_4 c3_5;obtain ⟨c3_0,c3_1,c3_2,c3_3,c3_4,c3_5⟩:=cs6 F3;clear hb)
       | (go_at_call 19;with_reducible refine cl (impl_EntryValid.M ci sq k x v o _) B fun w2105 hb B=>?_;replace F2:=bn F2 hb;replace F3:=bn F3 hb;replace F4:=bn F4 hb;clear c2_0 c2_1 c2_2 c2_3 c2_4 c2_5;obtain ⟨c2_0,c2_1,c2_2,c2_3,c2_4,c2_5⟩:=cs6 F2;clear c3_0 c3_1 c3_2 c3_3 c3_4 c3_5;obtain ⟨c3_0,c3_1,c3_2,c3_3,c3_4,c3_5⟩:=cs6 F3;clear hb)
       | (go_at_call 49;with_reducible refine c2r (impl_copyState.M a b _ _ ps _ _ ss false c _ (cb HRP B) (cb HRS B) HCP.out HCS.out (by omega) (by omega)) B fun AP2106 kP2106 AS2106 kS2106 w2106 hb B RP2106 QP2106 RS2106 QS2106=>?_;have DP2106_S2106:=Aside0.mk (dty RP2106 RS2106 (by decide));replace F2:=bn F2 hb;replace F3:=bn F3 hb;replace F4:=bn F4 hb;clear QP2106 QS2106;clear c2_0 c2_1 c2_2 c2_3 c2_4 c2_5;obtain ⟨c2_0,c2_1,c2_2,c2_3,c2_4,c2_5⟩:=cs6 F2;clear c3_0 c3_1 c3_2 c3_3 c3_4 c3_5;obtain ⟨c3_0,c3_1,c3_2,c3_3,c3_4,c3_5⟩:=cs6 F3;clear hb)
       | ((with_reducible refine gate_dst (N:=6) rfl ?_);refine bxq 6 #[.string (⟨#[]⟩ : ByteArray),.string (⟨#[]⟩ : ByteArray),.slice none 0 0,.slice none 0 0,.bool false,.string (⟨#[]⟩ : ByteArray)] 38 B fun g6 w2107 hb B F6 L6 E6=>?_;have N2_6:=ne1 E6 F2;have N3_6:=ne1 E6 F3;have N4_6:=ne1 E6 F4;replace F2:=bn F2 hb;replace F3:=bn F3 hb;replace F4:=bn F4 hb;replace RP2106:=rn RP2106 hb;replace RS2106:=rn RS2106 hb;clear c2_0 c2_1 c2_2 c2_3 c2_4 c2_5;obtain ⟨c2_0,c2_1,c2_2,c2_3,c2_4,c2_5⟩:=cs6 F2;clear c3_0 c3_1 c3_2 c3_3 c3_4 c3_5;obtain ⟨c3_0,c3_1,c3_2,c3_3,c3_4,c3_5⟩:=cs6 F3;obtain ⟨c6_0,c6_1,c6_2,c6_3,c6_4,c6_5⟩:=cs6 F6;clear hb E6)
       | ((with_reducible refine gate_store (t:=38) (p:=6) rfl ?_);obtain ⟨y0,y1,y2,y3,y4,y5,z0,z1,z2,z3,z4,z5⟩:=cz6 F6;refine sxq 38 38 6 0 [.string a,.string b,.slice AP2106 ps.length kP2106,.slice AS2106 ss.length kS2106,.bool false,.string c] [.string a,.string b,.slice AP2106 ps.length kP2106,.slice AS2106 ss.length kS2106,.bool false,.string c] B F6 L6 fun w2108 hk B G=>?_;replace F2:=bk F2 hk N2_6.out;replace F3:=bk F3 hk N3_6.out;replace F4:=bk F4 hk N4_6.out;replace RP2106:=rk RP2106 F6 (by decide) hk;replace RS2106:=rk RS2106 F6 (by decide) hk;replace F6:=G;clear c2_0 c2_1 c2_2 c2_3 c2_4 c2_5;obtain ⟨c2_0,c2_1,c2_2,c2_3,c2_4,c2_5⟩:=cs6 F2;clear c3_0 c3_1 c3_2 c3_3 c3_4 c3_5;obtain ⟨c3_0,c3_1,c3_2,c3_3,c3_4,c3_5⟩:=cs6 F3;clear c6_0 c6_1 c6_2 c6_3 c6_4 c6_5;obtain ⟨c6_0,c6_1,c6_2,c6_3,c6_4,c6_5⟩:=cs6 F6;clear hk y0 z0 y1 z1 y2 z2 y3 z3 y4 z4 y5 z5)
       | (go_at_call 50;with_reducible refine cl (impl_sessionPlace.Mb _ _ ss ci _ (cb HRS B) HCS.out hv false hit) B fun w2109 hb B=>?_;replace F2:=bn F2 hb;replace F3:=bn F3 hb;replace F4:=bn F4 hb;replace F6:=bn F6 hb;replace RP2106:=rn RP2106 hb;replace RS2106:=rn RS2106 hb;clear c2_0 c2_1 c2_2 c2_3 c2_4 c2_5;obtain ⟨c2_0,c2_1,c2_2,c2_3,c2_4,c2_5⟩:=cs6 F2;clear c3_0 c3_1 c3_2 c3_3 c3_4 c3_5;obtain ⟨c3_0,c3_1,c3_2,c3_3,c3_4,c3_5⟩:=cs6 F3;clear c6_0 c6_1 c6_2 c6_3 c6_4 c6_5;obtain ⟨c6_0,c6_1,c6_2,c6_3,c6_4,c6_5⟩:=cs6 F6;clear hb))
      all_goals (
       refine rg (n:=12) (S:=fun W=>W.heap[g3]?=some (.cells #[.int .i64 (ci),.int .i64 (sq),.int .i64 (k),.string x,.int .i64 (v),.int .i64 (o)] 44 (0,0))∧W.heap[g2]?=some (.cells #[.string a,.string b,.slice AP ps.length cP,.slice AS ss.length cS,.bool false,.string c] 38 (0,0))∧Kd.C k76 W AS ss.length ss) (ds:=[]) #[false,false,false,false,false,false,false,false,false,false,false,false] (by kernel_rfl) rfl rfl ⟨F3.out,F2.out,(cb HRS B)⟩ id B (fun w2110 hb B hHeld=>?_)
       refine with_tabW impl_ApplyEntry.tab5 impl_ApplyEntry.bits5 (fun HT_ HW_=>?_)
       replace F2:=bn F2 hb
       replace F3:=bn F3 hb
       replace F4:=bn F4 hb
       replace F6:=bn F6 hb
       replace RP2106:=rn RP2106 hb
       replace RS2106:=rn RS2106 hb
       clear hb
       refine pvq 0 (some 29) (bits 12 1) HT_ ?_
       refine pvq 1 (some 30) (bits 12 3) HT_ ?_
       refine svq 2 (some 31) (bits 12 7) HT_ ?_
       refine svq 3 (some 32) (bits 12 15) HT_ ?_
       refine svq 4 (some 33) (bits 12 31) HT_ ?_
       refine svq 5 (some 34) (bits 12 63) HT_ ?_
       refine svq 6 (some 35) (bits 12 127) HT_ ?_
       refine svq 7 (some 36) (bits 12 255) HT_ ?_
       refine svq 8 (some 37) (bits 12 511) HT_ ?_
       refine svq 9 (some 38) (bits 12 1023) HT_ ?_
       refine svq 10 (some 39) (bits 12 2047) HT_ ?_
       refine pvq 11 (some 40) (bits 12 4095) HT_ ?_
       refine nmq ?_
       refine done_ (done_of HT_.out (by kernel_rfl)) ?_
       clear c2_0 c2_1 c2_2 c2_3 c2_4 c2_5
       obtain ⟨c2_0,c2_1,c2_2,c2_3,c2_4,c2_5⟩:=cs6 F2
       clear c3_0 c3_1 c3_2 c3_3 c3_4 c3_5
       obtain ⟨c3_0,c3_1,c3_2,c3_3,c3_4,c3_5⟩:=cs6 F3
       clear c6_0 c6_1 c6_2 c6_3 c6_4 c6_5
       obtain ⟨c6_0,c6_1,c6_2,c6_3,c6_4,c6_5⟩:=cs6 F6)
      all_goals go_wp2_with (first
       | (go_at_call 51;with_reducible refine cl (impl_stateTakes.M a b _ _ ps _ _ ss false c k x v o _ (cb HRP B) (cb HRS B)) B fun w2111 hb B=>?_;replace F2:=bn F2 hb;replace F3:=bn F3 hb;replace F4:=bn F4 hb;replace F6:=bn F6 hb;replace RP2106:=rn RP2106 hb;replace RS2106:=rn RS2106 hb;clear c6_0 c6_1 c6_2 c6_3 c6_4 c6_5;obtain ⟨c6_0,c6_1,c6_2,c6_3,c6_4,c6_5⟩:=cs6 F6;clear hb)
       | ((with_reducible refine gate_store (t:=38) (p:=4) rfl ?_);obtain ⟨y0,y1,y2,y3,y4,y5,z0,z1,z2,z3,z4,z5⟩:=cz6 F4;refine sxq 38 38 4 0 [.string a,.string b,.slice AP2106 ps.length kP2106,.slice AS2106 ss.length kS2106,.bool false,.string c] [.string a,.string b,.slice AP2106 ps.length kP2106,.slice AS2106 ss.length kS2106,.bool false,.string c] B F4 L4 fun w2112 hk B G=>?_;replace F2:=bk F2 hk N2_4.out;replace F3:=bk F3 hk N3_4.out;replace RP2106:=rk RP2106 F4 (by decide) hk;replace RS2106:=rk RS2106 F4 (by decide) hk;replace F4:=G;clear hk y0 z0 y1 z1 y2 z2 y3 z3 y4 z4 y5 z5))
      all_goals (try (refine bodyPost_ret (results_list (rs:=[.cell 4 38,.tmp 5]) rfl (by simp) (.cell g4 38 _ (0,0) _ rfl F4.out hu rfl (by kernel_rfl) (.tmp .nil))) rfl ?_);exact ⟨_,_,rfl,RP2106.out,RS2106.out,B.out⟩)
     | true =>
      rw [aeM_go hh (by rw [hid,htk];rfl)]
      by_cases h5 : k=5
      ·have d5 : (k == 5)=true:=by rw [h5];rfl
       rw [show applM ⟨a,b,ps,ss,false,c⟩ ci sq k x v o=(⟨a,b,ps,(putB ss ⟨ci,sq,0⟩).1,true,x⟩,0) from if_pos h5]
       clear hh hcm hsq hN hid h5
       go_enter Try.func12,Try.ntmps12
       go_wp2_with (first
        | ((with_reducible refine gate_dst (N:=2) rfl ?_);refine bxq 2 #[.string a,.string b,.slice AP ps.length cP,.slice AS ss.length cS,.bool false,.string c] 38 B fun g2 w2201 hb B F2 L2 E2=>?_;obtain ⟨c2_0,c2_1,c2_2,c2_3,c2_4,c2_5⟩:=cs6 F2;clear hb E2)
        | ((with_reducible refine gate_dst (N:=3) rfl ?_);refine bxq 3 #[.int .i64 (ci),.int .i64 (sq),.int .i64 (k),.string x,.int .i64 (v),.int .i64 (o)] 44 B fun g3 w2202 hb B F3 L3 E3=>?_;replace F2:=bn F2 hb;clear c2_0 c2_1 c2_2 c2_3 c2_4 c2_5;obtain ⟨c2_0,c2_1,c2_2,c2_3,c2_4,c2_5⟩:=cs6 F2;obtain ⟨c3_0,c3_1,c3_2,c3_3,c3_4,c3_5⟩:=cs6 F3;clear hb E3)
        | ((with_reducible refine gate_dst (N:=4) rfl ?_);refine bxq 4 #[.string (⟨#[]⟩ : ByteArray),.string (⟨#[]⟩ : ByteArray),.slice none 0 0,.slice none 0 0,.bool false,.string (⟨#[]⟩ : ByteArray)] 38 B fun g4 w2203 hb B F4 L4 E4=>?_;have N2_4:=ne1 E4 F2;have N3_4:=ne1 E4 F3;replace F2:=bn F2 hb;replace F3:=bn F3 hb;clear c2_0 c2_1 c2_2 c2_3 c2_4 c2_5;obtain ⟨c2_0,c2_1,c2_2,c2_3,c2_4,c2_5⟩:=cs6 F2;clear c3_0 c3_1 c3_2 c3_3 c3_4 c3_5;obtain ⟨c3_0,c3_1,c3_2,c3_3,c3_4,c3_5⟩:=cs6 F3;clear hb E4)
        | (go_at_call 18;with_reducible refine cl (impl_StateValid.M a b _ _ ps _ _ ss false c _ (cb HRP B) (cb HRS B)) B fun w2204 hb B=>?_;replace F2:=bn F2 hb;replace F3:=bn F3 hb;replace F4:=bn F4 hb;clear c2_0 c2_1 c2_2 c2_3 c2_4 c2_5;obtain ⟨c2_0,c2_1,c2_2,c2_3,c2_4,c2_5⟩:=cs6 F2;clear c3_0 c3_1 c3_2 c3_3 c3_4 c3_5;obtain ⟨c3_0,c3_1,c3_2,c3_3,c3_4,c3_5⟩:=cs6 F3;clear hb)
        | (go_at_call 19;with_reducible refine cl (impl_EntryValid.M ci sq k x v o _) B fun w2205 hb B=>?_;replace F2:=bn F2 hb;replace F3:=bn F3 hb;replace F4:=bn F4 hb;clear c2_0 c2_1 c2_2 c2_3 c2_4 c2_5;obtain ⟨c2_0,c2_1,c2_2,c2_3,c2_4,c2_5⟩:=cs6 F2;clear c3_0 c3_1 c3_2 c3_3 c3_4 c3_5;obtain ⟨c3_0,c3_1,c3_2,c3_3,c3_4,c3_5⟩:=cs6 F3;clear hb)
        | (go_at_call 49;with_reducible refine c2r (impl_copyState.M a b _ _ ps _ _ ss false c _ (cb HRP B) (cb HRS B) HCP.out HCS.out (by omega) (by omega)) B fun AP2206 kP2206 AS2206 kS2206 w2206 hb B RP2206 QP2206 RS2206 QS2206=>?_;have DP2206_S2206:=Aside0.mk (dty RP2206 RS2206 (by decide));replace F2:=bn F2 hb;replace F3:=bn F3 hb;replace F4:=bn F4 hb;clear QP2206 QS2206;clear c2_0 c2_1 c2_2 c2_3 c2_4 c2_5;obtain ⟨c2_0,c2_1,c2_2,c2_3,c2_4,c2_5⟩:=cs6 F2;clear c3_0 c3_1 c3_2 c3_3 c3_4 c3_5;obtain ⟨c3_0,c3_1,c3_2,c3_3,c3_4,c3_5⟩:=cs6 F3;clear hb)
        | ((with_reducible refine gate_dst (N:=6) rfl ?_);refine bxq 6 #[.string (⟨#[]⟩ : ByteArray),.string (⟨#[]⟩ : ByteArray),.slice none 0 0,.slice none 0 0,.bool false,.string (⟨#[]⟩ : ByteArray)] 38 B fun g6 w2207 hb B F6 L6 E6=>?_;have N2_6:=ne1 E6 F2;have N3_6:=ne1 E6 F3;have N4_6:=ne1 E6 F4;replace F2:=bn F2 hb;replace F3:=bn F3 hb;replace F4:=bn F4 hb;replace RP2206:=rn RP2206 hb;replace RS2206:=rn RS2206 hb;clear c2_0 c2_1 c2_2 c2_3 c2_4 c2_5;obtain ⟨c2_0,c2_1,c2_2,c2_3,c2_4,c2_5⟩:=cs6 F2;clear c3_0 c3_1 c3_2 c3_3 c3_4 c3_5;obtain ⟨c3_0,c3_1,c3_2,c3_3,c3_4,c3_5⟩:=cs6 F3;obtain ⟨c6_0,c6_1,c6_2,c6_3,c6_4,c6_5⟩:=cs6 F6;clear hb E6)
        | ((with_reducible refine gate_store (t:=38) (p:=6) rfl ?_);obtain ⟨y0,y1,y2,y3,y4,y5,z0,z1,z2,z3,z4,z5⟩:=cz6 F6;refine sxq 38 38 6 0 [.string a,.string b,.slice AP2206 ps.length kP2206,.slice AS2206 ss.length kS2206,.bool false,.string c] [.string a,.string b,.slice AP2206 ps.length kP2206,.slice AS2206 ss.length kS2206,.bool false,.string c] B F6 L6 fun w2208 hk B G=>?_;replace F2:=bk F2 hk N2_6.out;replace F3:=bk F3 hk N3_6.out;replace F4:=bk F4 hk N4_6.out;replace RP2206:=rk RP2206 F6 (by decide) hk;replace RS2206:=rk RS2206 F6 (by decide) hk;replace F6:=G;clear c2_0 c2_1 c2_2 c2_3 c2_4 c2_5;obtain ⟨c2_0,c2_1,c2_2,c2_3,c2_4,c2_5⟩:=cs6 F2;clear c3_0 c3_1 c3_2 c3_3 c3_4 c3_5;obtain ⟨c3_0,c3_1,c3_2,c3_3,c3_4,c3_5⟩:=cs6 F3;clear c6_0 c6_1 c6_2 c6_3 c6_4 c6_5;obtain ⟨c6_0,c6_1,c6_2,c6_3,c6_4,c6_5⟩:=cs6 F6;clear hk y0 z0 y1 z1 y2 z2 y3 z3 y4 z4 y5 z5)
        | (go_at_call 50;with_reducible refine cl (impl_sessionPlace.Mb _ _ ss ci _ (cb HRS B) HCS.out hv false hit) B fun w2209 hb B=>?_;replace F2:=bn F2 hb;replace F3:=bn F3 hb;replace F4:=bn F4 hb;replace F6:=bn F6 hb;replace RP2206:=rn RP2206 hb;replace RS2206:=rn RS2206 hb;clear c2_0 c2_1 c2_2 c2_3 c2_4 c2_5;obtain ⟨c2_0,c2_1,c2_2,c2_3,c2_4,c2_5⟩:=cs6 F2;clear c3_0 c3_1 c3_2 c3_3 c3_4 c3_5;obtain ⟨c3_0,c3_1,c3_2,c3_3,c3_4,c3_5⟩:=cs6 F3;clear c6_0 c6_1 c6_2 c6_3 c6_4 c6_5;obtain ⟨c6_0,c6_1,c6_2,c6_3,c6_4,c6_5⟩:=cs6 F6;clear hb))
       all_goals (
        refine rg (n:=12) (S:=fun W=>W.heap[g3]?=some (.cells #[.int .i64 (ci),.int .i64 (sq),.int .i64 (k),.string x,.int .i64 (v),.int .i64 (o)] 44 (0,0))∧W.heap[g2]?=some (.cells #[.string a,.string b,.slice AP ps.length cP,.slice AS ss.length cS,.bool false,.string c] 38 (0,0))∧Kd.C k76 W AS ss.length ss) (ds:=[]) #[false,false,false,false,false,false,false,false,false,false,false,false] (by kernel_rfl) rfl rfl ⟨F3.out,F2.out,(cb HRS B)⟩ id B (fun w2210 hb B hHeld=>?_)
        refine with_tabW impl_ApplyEntry.tab5 impl_ApplyEntry.bits5 (fun HT_ HW_=>?_)
        replace F2:=bn F2 hb
        replace F3:=bn F3 hb
        replace F4:=bn F4 hb
        replace F6:=bn F6 hb
        replace RP2206:=rn RP2206 hb
        replace RS2206:=rn RS2206 hb
        clear hb
        refine pvq 0 (some 29) (bits 12 1) HT_ ?_
        refine pvq 1 (some 30) (bits 12 3) HT_ ?_
        refine svq 2 (some 31) (bits 12 7) HT_ ?_
        refine svq 3 (some 32) (bits 12 15) HT_ ?_
        refine svq 4 (some 33) (bits 12 31) HT_ ?_
        refine svq 5 (some 34) (bits 12 63) HT_ ?_
        refine svq 6 (some 35) (bits 12 127) HT_ ?_
        refine svq 7 (some 36) (bits 12 255) HT_ ?_
        refine svq 8 (some 37) (bits 12 511) HT_ ?_
        refine svq 9 (some 38) (bits 12 1023) HT_ ?_
        refine svq 10 (some 39) (bits 12 2047) HT_ ?_
        refine pvq 11 (some 40) (bits 12 4095) HT_ ?_
        refine nmq ?_
        refine done_ (done_of HT_.out (by kernel_rfl)) ?_
        clear c2_0 c2_1 c2_2 c2_3 c2_4 c2_5
        obtain ⟨c2_0,c2_1,c2_2,c2_3,c2_4,c2_5⟩:=cs6 F2
        clear c3_0 c3_1 c3_2 c3_3 c3_4 c3_5
        obtain ⟨c3_0,c3_1,c3_2,c3_3,c3_4,c3_5⟩:=cs6 F3
        clear c6_0 c6_1 c6_2 c6_3 c6_4 c6_5
        obtain ⟨c6_0,c6_1,c6_2,c6_3,c6_4,c6_5⟩:=cs6 F6)
       all_goals go_wp2_with (first
        | (go_at_call 51;with_reducible refine cl (impl_stateTakes.M a b _ _ ps _ _ ss false c k x v o _ (cb HRP B) (cb HRS B)) B fun w2211 hb B=>?_;replace F2:=bn F2 hb;replace F3:=bn F3 hb;replace F4:=bn F4 hb;replace F6:=bn F6 hb;replace RP2206:=rn RP2206 hb;replace RS2206:=rn RS2206 hb;clear c2_0 c2_1 c2_2 c2_3 c2_4 c2_5;obtain ⟨c2_0,c2_1,c2_2,c2_3,c2_4,c2_5⟩:=cs6 F2;clear c3_0 c3_1 c3_2 c3_3 c3_4 c3_5;obtain ⟨c3_0,c3_1,c3_2,c3_3,c3_4,c3_5⟩:=cs6 F3;clear c6_0 c6_1 c6_2 c6_3 c6_4 c6_5;obtain ⟨c6_0,c6_1,c6_2,c6_3,c6_4,c6_5⟩:=cs6 F6;clear hb)
        | ((with_reducible refine gate_store (t:=4) (p:=72) rfl ?_);obtain ⟨y0,y1,y2,y3,y4,y5,z0,z1,z2,z3,z4,z5⟩:=cz6 F6;refine sxq 38 4 72 4 [.bool true] [.string a,.string b,.slice AP2206 ps.length kP2206,.slice AS2206 ss.length kS2206,.bool true,.string c] B F6 L6 fun w2212 hk B G=>?_;replace F2:=bk F2 hk N2_6.out;replace F3:=bk F3 hk N3_6.out;replace F4:=bk F4 hk N4_6.out;replace RP2206:=rk RP2206 F6 (by decide) hk;replace RS2206:=rk RS2206 F6 (by decide) hk;replace F6:=G;clear c2_0 c2_1 c2_2 c2_3 c2_4 c2_5;obtain ⟨c2_0,c2_1,c2_2,c2_3,c2_4,c2_5⟩:=cs6 F2;clear c3_0 c3_1 c3_2 c3_3 c3_4 c3_5;obtain ⟨c3_0,c3_1,c3_2,c3_3,c3_4,c3_5⟩:=cs6 F3;clear c6_0 c6_1 c6_2 c6_3 c6_4 c6_5;obtain ⟨c6_0,c6_1,c6_2,c6_3,c6_4,c6_5⟩:=cs6 F6;clear hk y0 z0 y1 z1 y2 z2 y3 z3 y4 z4 y5 z5)
        | ((with_reducible refine gate_store (t:=9) (p:=76) rfl ?_);obtain ⟨y0,y1,y2,y3,y4,y5,z0,z1,z2,z3,z4,z5⟩:=cz6 F6;refine sxq 38 9 76 5 [.string x] [.string a,.string b,.slice AP2206 ps.length kP2206,.slice AS2206 ss.length kS2206,.bool true,.string x] B F6 L6 fun w2213 hk B G=>?_;replace F2:=bk F2 hk N2_6.out;replace F3:=bk F3 hk N3_6.out;replace F4:=bk F4 hk N4_6.out;replace RP2206:=rk RP2206 F6 (by decide) hk;replace RS2206:=rk RS2206 F6 (by decide) hk;replace F6:=G;clear c2_0 c2_1 c2_2 c2_3 c2_4 c2_5;obtain ⟨c2_0,c2_1,c2_2,c2_3,c2_4,c2_5⟩:=cs6 F2;clear c3_0 c3_1 c3_2 c3_3 c3_4 c3_5;obtain ⟨c3_0,c3_1,c3_2,c3_3,c3_4,c3_5⟩:=cs6 F3;clear c6_0 c6_1 c6_2 c6_3 c6_4 c6_5;obtain ⟨c6_0,c6_1,c6_2,c6_3,c6_4,c6_5⟩:=cs6 F6;clear hk y0 z0 y1 z1 y2 z2 y3 z3 y4 z4 y5 z5)
        | (go_at_call 53;with_reducible refine cr (impl_SessionPut.M _ _ ss ci sq 0 _ (cb HRS B) HCS.out) B fun AU2214 kU2214 w2214 hb B RU2214 QU2214=>?_;have DP2206_U2214:=fr QU2214 RP2206;have DS2206_U2214:=fr QU2214 RS2206;replace F2:=bn F2 hb;replace F3:=bn F3 hb;replace F4:=bn F4 hb;replace F6:=bn F6 hb;replace RP2206:=rn RP2206 hb;replace RS2206:=rn RS2206 hb;clear QU2214;clear c6_0 c6_1 c6_2 c6_3 c6_4 c6_5;obtain ⟨c6_0,c6_1,c6_2,c6_3,c6_4,c6_5⟩:=cs6 F6;clear hb)
        | ((with_reducible refine gate_store (t:=36) (p:=98) rfl ?_);obtain ⟨y0,y1,y2,y3,y4,y5,z0,z1,z2,z3,z4,z5⟩:=cz6 F6;refine sxq 38 36 98 3 [.slice AU2214 (putB ss ⟨ci,sq,0⟩).1.length kU2214] [.string a,.string b,.slice AP2206 ps.length kP2206,.slice AU2214 (putB ss ⟨ci,sq,0⟩).1.length kU2214,.bool true,.string x] B F6 L6 fun w2215 hk B G=>?_;replace F2:=bk F2 hk N2_6.out;replace F3:=bk F3 hk N3_6.out;replace F4:=bk F4 hk N4_6.out;replace RP2206:=rk RP2206 F6 (by decide) hk;replace RS2206:=rk RS2206 F6 (by decide) hk;replace RU2214:=rk RU2214 F6 (by decide) hk;replace F6:=G;clear c6_0 c6_1 c6_2 c6_3 c6_4 c6_5;obtain ⟨c6_0,c6_1,c6_2,c6_3,c6_4,c6_5⟩:=cs6 F6;clear hk y0 z0 y1 z1 y2 z2 y3 z3 y4 z4 y5 z5)
        | ((with_reducible refine gate_store (t:=38) (p:=4) rfl ?_);obtain ⟨y0,y1,y2,y3,y4,y5,z0,z1,z2,z3,z4,z5⟩:=cz6 F4;refine sxq 38 38 4 0 [.string a,.string b,.slice AP2206 ps.length kP2206,.slice AU2214 (putB ss ⟨ci,sq,0⟩).1.length kU2214,.bool true,.string x] [.string a,.string b,.slice AP2206 ps.length kP2206,.slice AU2214 (putB ss ⟨ci,sq,0⟩).1.length kU2214,.bool true,.string x] B F4 L4 fun w2216 hk B G=>?_;replace F2:=bk F2 hk N2_4.out;replace F3:=bk F3 hk N3_4.out;replace RP2206:=rk RP2206 F4 (by decide) hk;replace RS2206:=rk RS2206 F4 (by decide) hk;replace RU2214:=rk RU2214 F4 (by decide) hk;replace F4:=G;clear hk y0 z0 y1 z1 y2 z2 y3 z3 y4 z4 y5 z5))
       all_goals (try (refine bodyPost_ret (results_list (rs:=[.cell 4 38,.tmp 5]) rfl (by simp) (.cell g4 38 _ (0,0) _ rfl F4.out hu rfl (by kernel_rfl) (.tmp .nil))) rfl ?_);exact ⟨_,_,rfl,RP2206.out,RU2214.out,B.out⟩)
      ·have d5 : (k == 5)=false:=beq_eq_false_iff_ne.mpr h5
       rw [show applM ⟨a,b,ps,ss,false,c⟩ ci sq k x v o=(⟨a,b,(apM ps k x v o).1,(putB ss ⟨ci,sq,(apM ps k x v o).2⟩).1,false,c⟩,(apM ps k x v o).2) from if_neg h5]
       clear hh hcm hsq hN hid h5
       go_enter Try.func12,Try.ntmps12
       go_wp2_with (first
        | ((with_reducible refine gate_dst (N:=2) rfl ?_);refine bxq 2 #[.string a,.string b,.slice AP ps.length cP,.slice AS ss.length cS,.bool false,.string c] 38 B fun g2 w2301 hb B F2 L2 E2=>?_;obtain ⟨c2_0,c2_1,c2_2,c2_3,c2_4,c2_5⟩:=cs6 F2;clear hb E2)
        | ((with_reducible refine gate_dst (N:=3) rfl ?_);refine bxq 3 #[.int .i64 (ci),.int .i64 (sq),.int .i64 (k),.string x,.int .i64 (v),.int .i64 (o)] 44 B fun g3 w2302 hb B F3 L3 E3=>?_;replace F2:=bn F2 hb;clear c2_0 c2_1 c2_2 c2_3 c2_4 c2_5;obtain ⟨c2_0,c2_1,c2_2,c2_3,c2_4,c2_5⟩:=cs6 F2;obtain ⟨c3_0,c3_1,c3_2,c3_3,c3_4,c3_5⟩:=cs6 F3;clear hb E3)
        | ((with_reducible refine gate_dst (N:=4) rfl ?_);refine bxq 4 #[.string (⟨#[]⟩ : ByteArray),.string (⟨#[]⟩ : ByteArray),.slice none 0 0,.slice none 0 0,.bool false,.string (⟨#[]⟩ : ByteArray)] 38 B fun g4 w2303 hb B F4 L4 E4=>?_;have N2_4:=ne1 E4 F2;have N3_4:=ne1 E4 F3;replace F2:=bn F2 hb;replace F3:=bn F3 hb;clear c2_0 c2_1 c2_2 c2_3 c2_4 c2_5;obtain ⟨c2_0,c2_1,c2_2,c2_3,c2_4,c2_5⟩:=cs6 F2;clear c3_0 c3_1 c3_2 c3_3 c3_4 c3_5;obtain ⟨c3_0,c3_1,c3_2,c3_3,c3_4,c3_5⟩:=cs6 F3;clear hb E4)
        | (go_at_call 18;with_reducible refine cl (impl_StateValid.M a b _ _ ps _ _ ss false c _ (cb HRP B) (cb HRS B)) B fun w2304 hb B=>?_;replace F2:=bn F2 hb;replace F3:=bn F3 hb;replace F4:=bn F4 hb;clear c2_0 c2_1 c2_2 c2_3 c2_4 c2_5;obtain ⟨c2_0,c2_1,c2_2,c2_3,c2_4,c2_5⟩:=cs6 F2;clear c3_0 c3_1 c3_2 c3_3 c3_4 c3_5;obtain ⟨c3_0,c3_1,c3_2,c3_3,c3_4,c3_5⟩:=cs6 F3;clear hb)
        | (go_at_call 19;with_reducible refine cl (impl_EntryValid.M ci sq k x v o _) B fun w2305 hb B=>?_;replace F2:=bn F2 hb;replace F3:=bn F3 hb;replace F4:=bn F4 hb;clear c2_0 c2_1 c2_2 c2_3 c2_4 c2_5;obtain ⟨c2_0,c2_1,c2_2,c2_3,c2_4,c2_5⟩:=cs6 F2;clear c3_0 c3_1 c3_2 c3_3 c3_4 c3_5;obtain ⟨c3_0,c3_1,c3_2,c3_3,c3_4,c3_5⟩:=cs6 F3;clear hb)
        | (go_at_call 49;with_reducible refine c2r (impl_copyState.M a b _ _ ps _ _ ss false c _ (cb HRP B) (cb HRS B) HCP.out HCS.out (by omega) (by omega)) B fun AP2306 kP2306 AS2306 kS2306 w2306 hb B RP2306 QP2306 RS2306 QS2306=>?_;have DP2306_S2306:=Aside0.mk (dty RP2306 RS2306 (by decide));replace F2:=bn F2 hb;replace F3:=bn F3 hb;replace F4:=bn F4 hb;clear QP2306 QS2306;clear c2_0 c2_1 c2_2 c2_3 c2_4 c2_5;obtain ⟨c2_0,c2_1,c2_2,c2_3,c2_4,c2_5⟩:=cs6 F2;clear c3_0 c3_1 c3_2 c3_3 c3_4 c3_5;obtain ⟨c3_0,c3_1,c3_2,c3_3,c3_4,c3_5⟩:=cs6 F3;clear hb)
        | ((with_reducible refine gate_dst (N:=6) rfl ?_);refine bxq 6 #[.string (⟨#[]⟩ : ByteArray),.string (⟨#[]⟩ : ByteArray),.slice none 0 0,.slice none 0 0,.bool false,.string (⟨#[]⟩ : ByteArray)] 38 B fun g6 w2307 hb B F6 L6 E6=>?_;have N2_6:=ne1 E6 F2;have N3_6:=ne1 E6 F3;have N4_6:=ne1 E6 F4;replace F2:=bn F2 hb;replace F3:=bn F3 hb;replace F4:=bn F4 hb;replace RP2306:=rn RP2306 hb;replace RS2306:=rn RS2306 hb;clear c2_0 c2_1 c2_2 c2_3 c2_4 c2_5;obtain ⟨c2_0,c2_1,c2_2,c2_3,c2_4,c2_5⟩:=cs6 F2;clear c3_0 c3_1 c3_2 c3_3 c3_4 c3_5;obtain ⟨c3_0,c3_1,c3_2,c3_3,c3_4,c3_5⟩:=cs6 F3;obtain ⟨c6_0,c6_1,c6_2,c6_3,c6_4,c6_5⟩:=cs6 F6;clear hb E6)
        | ((with_reducible refine gate_store (t:=38) (p:=6) rfl ?_);obtain ⟨y0,y1,y2,y3,y4,y5,z0,z1,z2,z3,z4,z5⟩:=cz6 F6;refine sxq 38 38 6 0 [.string a,.string b,.slice AP2306 ps.length kP2306,.slice AS2306 ss.length kS2306,.bool false,.string c] [.string a,.string b,.slice AP2306 ps.length kP2306,.slice AS2306 ss.length kS2306,.bool false,.string c] B F6 L6 fun w2308 hk B G=>?_;replace F2:=bk F2 hk N2_6.out;replace F3:=bk F3 hk N3_6.out;replace F4:=bk F4 hk N4_6.out;replace RP2306:=rk RP2306 F6 (by decide) hk;replace RS2306:=rk RS2306 F6 (by decide) hk;replace F6:=G;clear c2_0 c2_1 c2_2 c2_3 c2_4 c2_5;obtain ⟨c2_0,c2_1,c2_2,c2_3,c2_4,c2_5⟩:=cs6 F2;clear c3_0 c3_1 c3_2 c3_3 c3_4 c3_5;obtain ⟨c3_0,c3_1,c3_2,c3_3,c3_4,c3_5⟩:=cs6 F3;clear c6_0 c6_1 c6_2 c6_3 c6_4 c6_5;obtain ⟨c6_0,c6_1,c6_2,c6_3,c6_4,c6_5⟩:=cs6 F6;clear hk y0 z0 y1 z1 y2 z2 y3 z3 y4 z4 y5 z5)
        | (go_at_call 50;with_reducible refine cl (impl_sessionPlace.Mb _ _ ss ci _ (cb HRS B) HCS.out hv false hit) B fun w2309 hb B=>?_;replace F2:=bn F2 hb;replace F3:=bn F3 hb;replace F4:=bn F4 hb;replace F6:=bn F6 hb;replace RP2306:=rn RP2306 hb;replace RS2306:=rn RS2306 hb;clear c2_0 c2_1 c2_2 c2_3 c2_4 c2_5;obtain ⟨c2_0,c2_1,c2_2,c2_3,c2_4,c2_5⟩:=cs6 F2;clear c3_0 c3_1 c3_2 c3_3 c3_4 c3_5;obtain ⟨c3_0,c3_1,c3_2,c3_3,c3_4,c3_5⟩:=cs6 F3;clear c6_0 c6_1 c6_2 c6_3 c6_4 c6_5;obtain ⟨c6_0,c6_1,c6_2,c6_3,c6_4,c6_5⟩:=cs6 F6;clear hb))
       all_goals (
        refine rg (n:=12) (S:=fun W=>W.heap[g3]?=some (.cells #[.int .i64 (ci),.int .i64 (sq),.int .i64 (k),.string x,.int .i64 (v),.int .i64 (o)] 44 (0,0))∧W.heap[g2]?=some (.cells #[.string a,.string b,.slice AP ps.length cP,.slice AS ss.length cS,.bool false,.string c] 38 (0,0))∧Kd.C k76 W AS ss.length ss) (ds:=[]) #[false,false,false,false,false,false,false,false,false,false,false,false] (by kernel_rfl) rfl rfl ⟨F3.out,F2.out,(cb HRS B)⟩ id B (fun w2310 hb B hHeld=>?_)
        refine with_tabW impl_ApplyEntry.tab5 impl_ApplyEntry.bits5 (fun HT_ HW_=>?_)
        replace F2:=bn F2 hb
        replace F3:=bn F3 hb
        replace F4:=bn F4 hb
        replace F6:=bn F6 hb
        replace RP2306:=rn RP2306 hb
        replace RS2306:=rn RS2306 hb
        clear hb
        refine pvq 0 (some 29) (bits 12 1) HT_ ?_
        refine pvq 1 (some 30) (bits 12 3) HT_ ?_
        refine svq 2 (some 31) (bits 12 7) HT_ ?_
        refine svq 3 (some 32) (bits 12 15) HT_ ?_
        refine svq 4 (some 33) (bits 12 31) HT_ ?_
        refine svq 5 (some 34) (bits 12 63) HT_ ?_
        refine svq 6 (some 35) (bits 12 127) HT_ ?_
        refine svq 7 (some 36) (bits 12 255) HT_ ?_
        refine svq 8 (some 37) (bits 12 511) HT_ ?_
        refine svq 9 (some 38) (bits 12 1023) HT_ ?_
        refine svq 10 (some 39) (bits 12 2047) HT_ ?_
        refine pvq 11 (some 40) (bits 12 4095) HT_ ?_
        refine nmq ?_
        refine done_ (done_of HT_.out (by kernel_rfl)) ?_
        clear c2_0 c2_1 c2_2 c2_3 c2_4 c2_5
        obtain ⟨c2_0,c2_1,c2_2,c2_3,c2_4,c2_5⟩:=cs6 F2
        clear c3_0 c3_1 c3_2 c3_3 c3_4 c3_5
        obtain ⟨c3_0,c3_1,c3_2,c3_3,c3_4,c3_5⟩:=cs6 F3
        clear c6_0 c6_1 c6_2 c6_3 c6_4 c6_5
        obtain ⟨c6_0,c6_1,c6_2,c6_3,c6_4,c6_5⟩:=cs6 F6)
       all_goals go_wp2_with (first
        | (go_at_call 51;with_reducible refine cl (impl_stateTakes.M a b _ _ ps _ _ ss false c k x v o _ (cb HRP B) (cb HRS B)) B fun w2311 hb B=>?_;replace F2:=bn F2 hb;replace F3:=bn F3 hb;replace F4:=bn F4 hb;replace F6:=bn F6 hb;replace RP2306:=rn RP2306 hb;replace RS2306:=rn RS2306 hb;clear c2_0 c2_1 c2_2 c2_3 c2_4 c2_5;obtain ⟨c2_0,c2_1,c2_2,c2_3,c2_4,c2_5⟩:=cs6 F2;clear c3_0 c3_1 c3_2 c3_3 c3_4 c3_5;obtain ⟨c3_0,c3_1,c3_2,c3_3,c3_4,c3_5⟩:=cs6 F3;clear c6_0 c6_1 c6_2 c6_3 c6_4 c6_5;obtain ⟨c6_0,c6_1,c6_2,c6_3,c6_4,c6_5⟩:=cs6 F6;clear hb)
        | (go_at_call 52;with_reducible refine cr (impl_ApplyCommand.M _ _ ps k x v o _ (cb HRP B) HCP.out) B fun AC2312 kC2312 w2312 hb B RC2312 QC2312=>?_;have DP2306_C2312:=fr QC2312 RP2306;have DS2306_C2312:=fr QC2312 RS2306;replace F2:=bn F2 hb;replace F3:=bn F3 hb;replace F4:=bn F4 hb;replace F6:=bn F6 hb;replace RP2306:=rn RP2306 hb;replace RS2306:=rn RS2306 hb;clear QC2312;clear c2_0 c2_1 c2_2 c2_3 c2_4 c2_5;obtain ⟨c2_0,c2_1,c2_2,c2_3,c2_4,c2_5⟩:=cs6 F2;clear c3_0 c3_1 c3_2 c3_3 c3_4 c3_5;obtain ⟨c3_0,c3_1,c3_2,c3_3,c3_4,c3_5⟩:=cs6 F3;clear c6_0 c6_1 c6_2 c6_3 c6_4 c6_5;obtain ⟨c6_0,c6_1,c6_2,c6_3,c6_4,c6_5⟩:=cs6 F6;clear hb)
        | ((with_reducible refine gate_store (t:=35) (p:=85) rfl ?_);obtain ⟨y0,y1,y2,y3,y4,y5,z0,z1,z2,z3,z4,z5⟩:=cz6 F6;refine sxq 38 35 85 2 [.slice AC2312 (apM ps k x v o).1.length kC2312] [.string a,.string b,.slice AC2312 (apM ps k x v o).1.length kC2312,.slice AS2306 ss.length kS2306,.bool false,.string c] B F6 L6 fun w2313 hk B G=>?_;replace F2:=bk F2 hk N2_6.out;replace F3:=bk F3 hk N3_6.out;replace F4:=bk F4 hk N4_6.out;replace RP2306:=rk RP2306 F6 (by decide) hk;replace RS2306:=rk RS2306 F6 (by decide) hk;replace RC2312:=rk RC2312 F6 (by decide) hk;replace F6:=G;clear c2_0 c2_1 c2_2 c2_3 c2_4 c2_5;obtain ⟨c2_0,c2_1,c2_2,c2_3,c2_4,c2_5⟩:=cs6 F2;clear c3_0 c3_1 c3_2 c3_3 c3_4 c3_5;obtain ⟨c3_0,c3_1,c3_2,c3_3,c3_4,c3_5⟩:=cs6 F3;clear c6_0 c6_1 c6_2 c6_3 c6_4 c6_5;obtain ⟨c6_0,c6_1,c6_2,c6_3,c6_4,c6_5⟩:=cs6 F6;clear hk y0 z0 y1 z1 y2 z2 y3 z3 y4 z4 y5 z5)
        | (go_at_call 53;with_reducible refine cr (impl_SessionPut.M _ _ ss ci sq (apM ps k x v o).2 _ (cb HRS B) HCS.out) B fun AU2314 kU2314 w2314 hb B RU2314 QU2314=>?_;have DP2306_U2314:=fr QU2314 RP2306;have DS2306_U2314:=fr QU2314 RS2306;have DC2312_U2314:=fr QU2314 RC2312;replace F2:=bn F2 hb;replace F3:=bn F3 hb;replace F4:=bn F4 hb;replace F6:=bn F6 hb;replace RS2306:=rn RS2306 hb;replace RC2312:=rn RC2312 hb;clear QU2314;clear c6_0 c6_1 c6_2 c6_3 c6_4 c6_5;obtain ⟨c6_0,c6_1,c6_2,c6_3,c6_4,c6_5⟩:=cs6 F6;clear hb)
        | ((with_reducible refine gate_store (t:=36) (p:=98) rfl ?_);obtain ⟨y0,y1,y2,y3,y4,y5,z0,z1,z2,z3,z4,z5⟩:=cz6 F6;refine sxq 38 36 98 3 [.slice AU2314 (putB ss ⟨ci,sq,(apM ps k x v o).2⟩).1.length kU2314] [.string a,.string b,.slice AC2312 (apM ps k x v o).1.length kC2312,.slice AU2314 (putB ss ⟨ci,sq,(apM ps k x v o).2⟩).1.length kU2314,.bool false,.string c] B F6 L6 fun w2315 hk B G=>?_;replace F2:=bk F2 hk N2_6.out;replace F3:=bk F3 hk N3_6.out;replace F4:=bk F4 hk N4_6.out;replace RS2306:=rk RS2306 F6 (by decide) hk;replace RC2312:=rk RC2312 F6 (by decide) hk;replace RU2314:=rk RU2314 F6 (by decide) hk;replace F6:=G;clear c6_0 c6_1 c6_2 c6_3 c6_4 c6_5;obtain ⟨c6_0,c6_1,c6_2,c6_3,c6_4,c6_5⟩:=cs6 F6;clear hk y0 z0 y1 z1 y2 z2 y3 z3 y4 z4 y5 z5)
        | ((with_reducible refine gate_store (t:=38) (p:=4) rfl ?_);obtain ⟨y0,y1,y2,y3,y4,y5,z0,z1,z2,z3,z4,z5⟩:=cz6 F4;refine sxq 38 38 4 0 [.string a,.string b,.slice AC2312 (apM ps k x v o).1.length kC2312,.slice AU2314 (putB ss ⟨ci,sq,(apM ps k x v o).2⟩).1.length kU2314,.bool false,.string c] [.string a,.string b,.slice AC2312 (apM ps k x v o).1.length kC2312,.slice AU2314 (putB ss ⟨ci,sq,(apM ps k x v o).2⟩).1.length kU2314,.bool false,.string c] B F4 L4 fun w2316 hk B G=>?_;replace F2:=bk F2 hk N2_4.out;replace F3:=bk F3 hk N3_4.out;replace RS2306:=rk RS2306 F4 (by decide) hk;replace RC2312:=rk RC2312 F4 (by decide) hk;replace RU2314:=rk RU2314 F4 (by decide) hk;replace F4:=G;clear hk y0 z0 y1 z1 y2 z2 y3 z3 y4 z4 y5 z5))
       all_goals (try (refine bodyPost_ret (results_list (rs:=[.cell 4 38,.tmp 5]) rfl (by simp) (.cell g4 38 _ (0,0) _ rfl F4.out hu rfl (by kernel_rfl) (.tmp .nil))) rfl ?_);exact ⟨_,_,rfl,RC2312.out,RU2314.out,B.out⟩)

theorem spec_ApplyEntry.Mr (a b : ByteArray) (AP : Option Addr) (cP : Nat) (ps : List S105) (AS : Option Addr) (cS : Nat) (ss : List S76) (t : Bool) (c : ByteArray) (ci sq k : Int) (x : ByteArray) (v o : Int) (xa xb : ByteArray) (xp : List S105) (xs : List S76) (xt : Bool) (xc : ByteArray) (nn : Int) (hm : aeM ⟨a,b,ps,ss,t,c⟩ ci sq k x v o=(⟨xa,xb,xp,xs,xt,xc⟩,nn)) (w : World) (hrp : Kd.C k105 w AP ps.length ps) (hrs : Kd.C k76 w AS ss.length ss) (hcp : ps.length≤cP) (hcs : ss.length≤cS) : Calls Try.prog 9 #[.agg #[.string a,.string b,.slice AP ps.length cP,.slice AS ss.length cS,.bool t,.string c],.agg #[.int .i64 ci,.int .i64 sq,.int .i64 k,.string x,.int .i64 v,.int .i64 o]] w fun e w'=>∃ v2 v3,e=.returned (.tuple #[.agg #[.string xa,.string xb,v2,v3,.bool xt,.string xc],.int .i64 nn])∧Kd.R k105 105 w' w.heap.size (fun _=>True) v2 xp∧Kd.R k76 76 w' w.heap.size (fun _=>True) v3 xs∧Below w.heap.size w w':=by
 have h:=spec_ApplyEntry.M a b AP cP ps AS cS ss t c ci sq k x v o w hrp hrs hcp hcs
 rw [hm] at h
 exact h
theorem impl_ApplyEntry.Mr (a b : ByteArray) (AP : Option Addr) (cP : Nat) (ps : List S105) (AS : Option Addr) (cS : Nat) (ss : List S76) (t : Bool) (c : ByteArray) (ci sq k : Int) (x : ByteArray) (v o : Int) (xa xb : ByteArray) (xp : List S105) (xs : List S76) (xt : Bool) (xc : ByteArray) (nn : Int) (hm : aeM ⟨a,b,ps,ss,t,c⟩ ci sq k x v o=(⟨xa,xb,xp,xs,xt,xc⟩,nn)) (w : World) (hrp : Kd.C k105 w AP ps.length ps) (hrs : Kd.C k76 w AS ss.length ss) (hcp : ps.length≤cP) (hcs : ss.length≤cS) : Calls Try.prog 12 #[.agg #[.string a,.string b,.slice AP ps.length cP,.slice AS ss.length cS,.bool t,.string c],.agg #[.int .i64 ci,.int .i64 sq,.int .i64 k,.string x,.int .i64 v,.int .i64 o]] w fun e w'=>∃ v2 v3,e=.returned (.tuple #[.agg #[.string xa,.string xb,v2,v3,.bool xt,.string xc],.int .i64 nn])∧Kd.R k105 105 w' w.heap.size (fun _=>True) v2 xp∧Kd.R k76 76 w' w.heap.size (fun _=>True) v3 xs∧Below w.heap.size w w':=by
 have h:=impl_ApplyEntry.M a b AP cP ps AS cS ss t c ci sq k x v o w hrp hrs hcp hcs
 rw [hm] at h
 exact h
theorem laws_alive.M (w : World) : Calls Try.prog 21 #[] w fun e w'=>e=.returned (.bool true)∧Below w.heap.size w w':=laws_alive.calls 12 true w (by decide +kernel)

theorem sameP_loop (xs : List S105) (hn : xs.length≤2097152) (d : Nat) : ∀ (j : Nat),j + d=xs.length→∀ k,d + 1≤k→laws_samePairs.l0 k xs xs (j : Int)=some true:=by
 induction d with
 | zero =>
  intro j hj k hk
  obtain ⟨k,rfl⟩ : ∃ i,k=i + 1:=⟨k - 1,by omega⟩
  simp only [laws_samePairs.l0]
  rw [if_neg (by omega)]
 | succ d ih =>
  intro j hj k hk
  obtain ⟨k,rfl⟩ : ∃ i,k=i + 1:=⟨k - 1,by omega⟩
  have e:=ih (j + 1) (by omega) k (by omega)
  simp only [laws_samePairs.l0]
  rw [if_pos (by omega),if_pos (by omega),if_pos (by omega),if_neg (by simp),w64 (by omega) (by omega)]
  simpa using e
theorem laws_samePairs.M (A0 : Option Addr) (c0 : Nat) (A1 : Option Addr) (c1 : Nat) (l m : List S105) (he : l=m) (W : World) (h0 : Kd.C k105 W A0 l.length l) (hc0 : l.length≤c0) (h1 : Kd.C k105 W A1 m.length m) (hc1 : m.length≤c1) (hn : m.length≤2097152) :
  Calls Try.prog 64 #[.slice A0 l.length c0,.slice A1 m.length c1] W fun e w'=>e=.returned (.bool true)∧Below W.heap.size W w':=by
 subst he
 refine (laws_samePairs.calls (l.length + 21) A0 c0 l A1 c1 l true W h0 hc0 h1 hc1 ?_).mono (fun _ _ h=>⟨h.1,h.2.below⟩)
 unfold laws_samePairs.f
 rw [if_pos rfl]
 simpa using sameP_loop l hn l.length 0 (by omega) (l.length + 21) (by omega)
theorem sameS_loop (xs : List S76) (hn : xs.length≤2097152) (d : Nat) : ∀ (j : Nat),j + d=xs.length→∀ k,d + 1≤k→laws_sameSessions.l0 k xs xs (j : Int)=some true:=by
 induction d with
 | zero =>
  intro j hj k hk
  obtain ⟨k,rfl⟩ : ∃ i,k=i + 1:=⟨k - 1,by omega⟩
  simp only [laws_sameSessions.l0]
  rw [if_neg (by omega)]
 | succ d ih =>
  intro j hj k hk
  obtain ⟨k,rfl⟩ : ∃ i,k=i + 1:=⟨k - 1,by omega⟩
  have e:=ih (j + 1) (by omega) k (by omega)
  simp only [laws_sameSessions.l0]
  rw [if_pos (by omega),if_pos (by omega),if_pos (by omega),if_neg (by simp),w64 (by omega) (by omega)]
  simpa using e
theorem laws_sameSessions.M (A0 : Option Addr) (c0 : Nat) (A1 : Option Addr) (c1 : Nat) (l m : List S76) (he : l=m) (W : World) (h0 : Kd.C k76 W A0 l.length l) (hc0 : l.length≤c0) (h1 : Kd.C k76 W A1 m.length m) (hc1 : m.length≤c1) (hn : m.length≤2097152) :
  Calls Try.prog 65 #[.slice A0 l.length c0,.slice A1 m.length c1] W fun e w'=>e=.returned (.bool true)∧Below W.heap.size W w':=by
 subst he
 refine (laws_sameSessions.calls (l.length + 21) A0 c0 l A1 c1 l true W h0 hc0 h1 hc1 ?_).mono (fun _ _ h=>⟨h.1,h.2.below⟩)
 unfold laws_sameSessions.f
 rw [if_pos rfl]
 simpa using sameS_loop l hn l.length 0 (by omega) (l.length + 21) (by omega)
theorem laws_sameState.M (a b : ByteArray) (AP : Option Addr) (cP : Nat) (AQ : Option Addr) (cQ : Nat) (ps : List S105) (AS : Option Addr) (cS : Nat) (AU : Option Addr) (cU : Nat) (ss : List S76) (t : Bool) (c : ByteArray) (w : World) (hrp : Kd.C k105 w AP ps.length ps) (hrq : Kd.C k105 w AQ ps.length ps) (hrs : Kd.C k76 w AS ss.length ss) (hru : Kd.C k76 w AU ss.length ss) (hcp : ps.length≤cP) (hcq : ps.length≤cQ) (hcs : ss.length≤cS) (hcu : ss.length≤cU) (hpl : ps.length≤2097152) (hsl : ss.length≤2097152) : Calls Try.prog 17 #[.agg #[.string a,.string b,.slice AP ps.length cP,.slice AS ss.length cS,.bool t,.string c],.agg #[.string a,.string b,.slice AQ ps.length cQ,.slice AU ss.length cU,.bool t,.string c]] w fun e w'=>e=.returned (.bool true)∧Below w.heap.size w w':=by
 have B:=Aside0.mk (Below.refl w.heap.size w)
 have hu:=Try.underlying38
 have HRP:=Aside0.mk hrp
 have HRQ:=Aside0.mk hrq
 have HRS:=Aside0.mk hrs
 have HRU:=Aside0.mk hru
 clear hrp hrq hrs hru
 have HCP:=Aside0.mk hcp
 have HCQ:=Aside0.mk hcq
 have HCS:=Aside0.mk hcs
 have HCU:=Aside0.mk hcu
 clear hcp hcq hcs hcu
 go_enter Try.func17,Try.ntmps17
 go_wp2_with (first
  | ((with_reducible refine gate_dst (N:=2) rfl ?_);refine bxq 2 #[.string a,.string b,.slice AP ps.length cP,.slice AS ss.length cS,.bool t,.string c] 38 B fun g2 w1 hb B F2 L2 E2=>?_;obtain ⟨c2_0,c2_1,c2_2,c2_3,c2_4,c2_5⟩:=cs6 F2;clear hb E2)
  | ((with_reducible refine gate_dst (N:=3) rfl ?_);refine bxq 3 #[.string a,.string b,.slice AQ ps.length cQ,.slice AU ss.length cU,.bool t,.string c] 38 B fun g3 w2 hb B F3 L3 E3=>?_;replace F2:=bn F2 hb;clear c2_0 c2_1 c2_2 c2_3 c2_4 c2_5;obtain ⟨c2_0,c2_1,c2_2,c2_3,c2_4,c2_5⟩:=cs6 F2;obtain ⟨c3_0,c3_1,c3_2,c3_3,c3_4,c3_5⟩:=cs6 F3;clear hb E3)
  | (go_at_call 64;with_reducible refine cl (laws_samePairs.M _ _ _ _ ps ps rfl _ (cb HRP B) HCP.out (cb HRQ B) HCQ.out (by assumption)) B fun w3 hb B=>?_;replace F2:=bn F2 hb;replace F3:=bn F3 hb;clear c2_0 c2_1 c2_2 c2_3 c2_4 c2_5;obtain ⟨c2_0,c2_1,c2_2,c2_3,c2_4,c2_5⟩:=cs6 F2;clear c3_0 c3_1 c3_2 c3_3 c3_4 c3_5;obtain ⟨c3_0,c3_1,c3_2,c3_3,c3_4,c3_5⟩:=cs6 F3;clear hb)
  | (go_at_call 65;with_reducible refine cl (laws_sameSessions.M _ _ _ _ ss ss rfl _ (cb HRS B) HCS.out (cb HRU B) HCU.out (by assumption)) B fun w4 hb B=>?_;replace F2:=bn F2 hb;replace F3:=bn F3 hb;clear c2_0 c2_1 c2_2 c2_3 c2_4 c2_5;obtain ⟨c2_0,c2_1,c2_2,c2_3,c2_4,c2_5⟩:=cs6 F2;clear c3_0 c3_1 c3_2 c3_3 c3_4 c3_5;obtain ⟨c3_0,c3_1,c3_2,c3_3,c3_4,c3_5⟩:=cs6 F3;clear hb))
 all_goals go_ret
 all_goals exact ⟨by simp_all,B.out⟩
theorem laws_sameState.Z (AP : Option Addr) (cP : Nat) (AS : Option Addr) (cS : Nat) (w : World) (hrp : Kd.C k105 w AP 0 []) (hrs : Kd.C k76 w AS 0 []) : Calls Try.prog 17 #[.agg #[.string (⟨#[]⟩ : ByteArray),.string (⟨#[]⟩ : ByteArray),.slice AP 0 cP,.slice AS 0 cS,.bool false,.string (⟨#[]⟩ : ByteArray)],.agg #[.string (⟨#[]⟩ : ByteArray),.string (⟨#[]⟩ : ByteArray),.slice none 0 0,.slice none 0 0,.bool false,.string (⟨#[]⟩ : ByteArray)]] w fun e w'=>e=.returned (.bool true)∧Below w.heap.size w w' :=
 laws_sameState.M (⟨#[]⟩ : ByteArray) (⟨#[]⟩ : ByteArray) AP cP none 0 [] AS cS none 0 [] false (⟨#[]⟩ : ByteArray) w hrp (nilC _ _) hrs (nilC _ _) (Nat.zero_le _) (Nat.le_refl 0) (Nat.zero_le _) (Nat.le_refl 0) (Nat.zero_le _) (Nat.zero_le _)
theorem laws_noState.M (AP : Option Addr) (cP : Nat) (AS : Option Addr) (cS : Nat) (w : World) (hrp : Kd.C k105 w AP 0 []) (hrs : Kd.C k76 w AS 0 []) : Calls Try.prog 20 #[.agg #[.string (⟨#[]⟩ : ByteArray),.string (⟨#[]⟩ : ByteArray),.slice AP 0 cP,.slice AS 0 cS,.bool false,.string (⟨#[]⟩ : ByteArray)]] w fun e w'=>e=.returned (.bool true)∧Below w.heap.size w w':=by
 have B:=Aside0.mk (Below.refl w.heap.size w)
 have hu:=Try.underlying38
 have HRP:=Aside0.mk hrp
 have HRS:=Aside0.mk hrs
 clear hrp hrs
 go_enter Try.func20,Try.ntmps20
 go_wp2_with (first
  | ((with_reducible refine gate_dst (N:=1) rfl ?_);refine bxq 1 #[.string (⟨#[]⟩ : ByteArray),.string (⟨#[]⟩ : ByteArray),.slice AP ([] : List S105).length cP,.slice AS ([] : List S76).length cS,.bool false,.string (⟨#[]⟩ : ByteArray)] 38 B fun g1 w1 hb B F1 L1 E1=>?_;obtain ⟨c1_0,c1_1,c1_2,c1_3,c1_4,c1_5⟩:=cs6 F1;clear hb E1)
  | (go_at_call 17;with_reducible refine cl (laws_sameState.Z AP cP AS cS _ (cb HRP B) (cb HRS B)) B fun w2 hb B=>?_;clear hb))
 all_goals go_ret
 all_goals exact ⟨rfl,B.out⟩

/-! A reader of a code that functions share: what their calls keep. -/
section
variable {w W W' W0 : World} {g gb t p2 : Nat} {bs : List Int} {p p' : Int} {cs : Array Value} {α : Type} {d : Kd α} {e b : Nat} {v v1 : Value} {xs : List α}
def RB (g : Nat) : Nat→Prop:=fun k=>k=g
theorem bkr (F : Aside0 (W.heap[gb]?=some (.cells cs t (0,0)))) (HI : Aside0 (IsS133 w W g bs p)) (ht : t ≠ 133) (hk : Kept W W' (RB g)) : Aside0 (W'.heap[gb]?=some (.cells cs t (0,0))):=⟨blk_kept F.out hk (fun h=>HI.out.ne_blk F.out ht h.symm)⟩
theorem rkr (R : Aside0 (Ow d e W b v xs)) (HI : Aside0 (IsS133 w W g bs p)) (ht : ∀ q,q ∈ e :: d.E→q ≠ 133) (hk : Kept W W' (RB g)) : Aside0 (Ow d e W' b v xs):=⟨Kd.R_mono (Kd.R_kept (HI.out.apart R.out ht) hk (fun _ h=>h.2)) (fun _ _=>trivial)⟩
theorem hib (HI : Aside0 (IsS133 w W g bs p)) (hb : Below W.heap.size W W') : Aside0 (IsS133 w W' g bs p):=⟨HI.out.below hb⟩
theorem his (HI : Aside0 (IsS133 w W g bs p)) (F : Aside0 (W.heap[gb]?=some (.cells cs t (0,0)))) (ht : t ≠ 133) (hk : KeepBut W W' gb none) : Aside0 (IsS133 w W' g bs p):=⟨HI.out.kept (Kept.of_keep (Kept.refl W (RB gb)) hk (.inl rfl)) (fun h=>HI.out.ne_blk F.out ht h)⟩
theorem hig (HI : Aside0 (IsS133 w W g bs p)) (R : Aside0 (Ow d e W b v xs)) (ht : e ≠ 133) (hg : W.grownBy W' v.ownBlock) : Aside0 (IsS133 w W' g bs p):=⟨HI.out.grown hg (HI.out.own_ne R.out ht)⟩
theorem kkb (K : Aside0 (Kept W0 W (RB g))) (hb : Below W.heap.size W W') : Aside0 (Kept W0 W' (RB g)):=⟨K.out.below hb⟩
theorem kks (K : Aside0 (Kept W0 W (RB g))) (M : Aside0 (W0.heap.size≤gb)) (hk : KeepBut W W' gb none) : Aside0 (Kept W0 W' (RB g)):=⟨K.out.of_keep hk (.inr M.out)⟩
theorem kkr (K : Aside0 (Kept W0 W (RB g))) (hk : Kept W W' (RB g)) : Aside0 (Kept W0 W' (RB g)):=⟨K.out.then_ hk (fun _ h=>.inl h)⟩
theorem kkg (K : Aside0 (Kept W0 W (RB g))) (M : Aside0 (Fr W0 v)) (hg : W.grownBy W' v.ownBlock) : Aside0 (Kept W0 W' (RB g)):=⟨Kept.of_grown hg K.out (fun k h=>.inr (M.out k h))⟩
theorem mbx (E : Aside0 (gb=W.heap.size)) (K : Aside0 (Kept W0 W (RB g))) : Aside0 (W0.heap.size≤gb):=⟨E.out ▸ K.out.1⟩
theorem mrf (Q : Aside0 (Fr W v)) (K : Aside0 (Kept W0 W (RB g))) : Aside0 (Fr W0 v):=⟨fun k h=>Nat.le_trans K.out.1 (Q.out k h)⟩
theorem mra (hat : Aside0 (v1.ownBlock=v.ownBlock ∨ ∃ b,v1.ownBlock=some b∧W.heap.size≤b)) (M : Aside0 (Fr W0 v)) (K : Aside0 (Kept W0 W (RB g))) : Aside0 (Fr W0 v1):=⟨fun k h=>by
  rcases hat.out with h1 | ⟨b,h1,hb⟩
  · exact M.out k (h1 ▸ h)
  · rw [h1] at h
    cases h
    exact Nat.le_trans K.out.1 hb⟩
end
section
variable {P : Program} {F : FuncId} {args : Array Value} {w W : World} {Q : Ending→World→Prop} {g : Nat} {bs : List Int} {p N : Int} {α β τ σ : Type}
/-- what a call with a reader leaves -/
def Left (w W : World) (g : Nat) (bs : List Int) (p N : Int) (p' : Int) (w' : World) : Prop:=(p≤p'∧p'≤p + N)∧IsS133 w w' g bs p'∧Below w.heap.size w w'∧Kept W w' (RB g)
theorem cg1 {f : α→Value} {q : α→Prop} (c : Calls P F args W fun e w'=>∃ x p',e=.returned (f x)∧q x∧Left w W g bs p N p' w')
    (h : ∀ x p',q x→(p≤p'∧p'≤p + N)→∀ W',Kept W W' (RB g)→Aside0 (Below w.heap.size w W')→Aside0 (IsS133 w W' g bs p')→Q (.returned (f x)) W') : Calls P F args W Q :=
  c.mono (by rintro e W' ⟨x,p',rfl,hq,hp,hi,hb,hk⟩;exact h x p' hq hp W' hk ⟨hb⟩ ⟨hi⟩)
theorem cg2 {f : α→β→Value} {q : α→β→Prop} (c : Calls P F args W fun e w'=>∃ x y p',e=.returned (f x y)∧q x y∧Left w W g bs p N p' w')
    (h : ∀ x y p',q x y→(p≤p'∧p'≤p + N)→∀ W',Kept W W' (RB g)→Aside0 (Below w.heap.size w W')→Aside0 (IsS133 w W' g bs p')→Q (.returned (f x y)) W') : Calls P F args W Q :=
  c.mono (by rintro e W' ⟨x,y,p',rfl,hq,hp,hi,hb,hk⟩;exact h x y p' hq hp W' hk ⟨hb⟩ ⟨hi⟩)
theorem cg3 {f : α→β→τ→Value} {q : α→β→τ→Prop} (c : Calls P F args W fun e w'=>∃ x y z p',e=.returned (f x y z)∧q x y z∧Left w W g bs p N p' w')
    (h : ∀ x y z p',q x y z→(p≤p'∧p'≤p + N)→∀ W',Kept W W' (RB g)→Aside0 (Below w.heap.size w W')→Aside0 (IsS133 w W' g bs p')→Q (.returned (f x y z)) W') : Calls P F args W Q :=
  c.mono (by rintro e W' ⟨x,y,z,p',rfl,hq,hp,hi,hb,hk⟩;exact h x y z p' hq hp W' hk ⟨hb⟩ ⟨hi⟩)
theorem cgr {d : Kd α} {e : Nat} {f : Value→Value} {q : List α→Prop} (c : Calls P F args W fun r w'=>∃ v0 xs p',r=.returned (f v0)∧q xs∧Kd.R d e w' w.heap.size (fun _=>True) v0 xs∧Fr W v0∧Left w W g bs p N p' w')
    (h : ∀ xs A kk p',q xs→(p≤p'∧p'≤p + N)→∀ W',Kept W W' (RB g)→Aside0 (Below w.heap.size w W')→Aside0 (IsS133 w W' g bs p')→Aside0 (Ow d e W' w.heap.size (.slice A xs.length kk) xs)→Aside0 (Fr W (.slice A xs.length kk))→Q (.returned (f (.slice A xs.length kk))) W') : Calls P F args W Q :=
  c.mono (by
    rintro r W' ⟨v0,xs,p',rfl,hq,ho,hf,hp,hi,hb,hk⟩
    obtain ⟨A,kk,rfl⟩:=Kd.R_slice ho
    exact h xs A kk p' hq hp W' hk ⟨hb⟩ ⟨hi⟩ ⟨ho⟩ ⟨hf⟩)
/-- a state -/
theorem cgs {d : Kd α} {d' : Kd β} {e e' : Nat} {f : ByteArray→ByteArray→Value→Value→Bool→ByteArray→Value} {q : List α→List β→Prop} (c : Calls P F args W fun r w'=>∃ a b v0 v1 t c xs ys p',r=.returned (f a b v0 v1 t c)∧q xs ys∧(Kd.R d e w' w.heap.size (fun _=>True) v0 xs∧Fr W v0)∧(Kd.R d' e' w' w.heap.size (fun _=>True) v1 ys∧Fr W v1)∧Left w W g bs p N p' w')
    (h : ∀ a b t c xs ys A kk A' kk' p',q xs ys→(p≤p'∧p'≤p + N)→∀ W',Kept W W' (RB g)→Aside0 (Below w.heap.size w W')→Aside0 (IsS133 w W' g bs p')→Aside0 (Ow d e W' w.heap.size (.slice A xs.length kk) xs)→Aside0 (Fr W (.slice A xs.length kk))→Aside0 (Ow d' e' W' w.heap.size (.slice A' ys.length kk') ys)→Aside0 (Fr W (.slice A' ys.length kk')) →
      Q (.returned (f a b (.slice A xs.length kk) (.slice A' ys.length kk') t c)) W') : Calls P F args W Q :=
  c.mono (by
    rintro r W' ⟨a,b,v0,v1,t,c,xs,ys,p',rfl,hq,⟨ho,hf⟩,⟨ho',hf'⟩,hp,hi,hb,hk⟩
    obtain ⟨A,kk,rfl⟩:=Kd.R_slice ho
    obtain ⟨A',kk',rfl⟩:=Kd.R_slice ho'
    exact h a b t c xs ys A kk A' kk' p' hq hp W' hk ⟨hb⟩ ⟨hi⟩ ⟨ho⟩ ⟨hf⟩ ⟨ho'⟩ ⟨hf'⟩)
theorem copen {w W : World} {P : Program} {F : FuncId} {args : Array Value} {Q : Ending→World→Prop} {bs : List Int} {p : Int} (c : Calls P F args W fun e w'=>∃ g,e=.returned (.pointer (some ⟨g,0,none⟩))∧IsS133 w w' g bs p∧Below w.heap.size w w'∧Below W.heap.size W w')
    (h : ∀ g W',Below W.heap.size W W'→Aside0 (Below w.heap.size w W')→Aside0 (IsS133 w W' g bs p)→Q (.returned (.pointer (some ⟨g,0,none⟩))) W') : Calls P F args W Q :=
  c.mono (by rintro e W' ⟨g,rfl,hi,hb,hb'⟩;exact h g W' hb' ⟨hb⟩ ⟨hi⟩)
theorem kept_keep {W W' : World} {g : Nat} (h : KeepBut W W' g none) : Kept W W' (RB g):=Kept.of_keep (Kept.refl W _) h (.inl rfl)
end

/-! What draws of states give. -/
section
variable {P : Program} {F : FuncId} {args : Array Value} {w W : World} {Q : Ending→World→Prop} {α β : Type} {d : Kd α} {d' : Kd β} {e e' : Nat}
end
/-- where a walk is to stand -/
structure Stop (p : Prop) : Prop where
  out : p

namespace Dw
/-! Eventually: for all large enough numbers of rounds;small lemmas on numbers and lists. -/
def Evn (P : Nat→Prop) : Prop:=∃ K,∀ k,K≤k→P k
theorem Evn.all {P : Nat→Prop} (h : ∀ k,P k) : Evn P:=⟨0,fun k _=>h k⟩
theorem Evn.mp {P Q : Nat→Prop} (hp : Evn P) (hq : Evn fun k=>P k→Q k) : Evn Q:=by
 obtain ⟨K1,h1⟩:=hp
 obtain ⟨K2,h2⟩:=hq
 exact ⟨max K1 K2,fun k hk=>h2 k (by omega) (h1 k (by omega))⟩
theorem Evn.some {P : Nat→Prop} (h : Evn P) : ∃ k,P k:=by
 obtain ⟨K,h⟩:=h
 exact ⟨K,h K (Nat.le_refl K)⟩
theorem w64 {x : Int} (h0 : -9223372036854775808≤x) (h1 : x≤9223372036854775807) : wrap64 x=x:=by
 unfold wrap64
 omega
theorem rd_drop {xs : List Int} {j : Nat} (h : j < xs.length) : xs.drop j=rd xs (j : Int) :: xs.drop (j + 1):=by
 rw [List.drop_eq_getElem_cons h]
 simp [rd,List.getD_eq_getElem?_getD,List.getElem?_eq_getElem h]
/-! The reader of a code: a pick is in its range;the place goes on by one. -/
def Code (b : List Int) : Prop:=b.length≤2000∧∀ x ∈ b,0≤x∧x≤255
/-! What a reader draws: a value with what is known of it,and the place behind it,not far. -/
def Dr {α : Type} (g : Nat→Option (α × Int)) (p c : Int) (P : α→Prop) : Prop:=∃ r q,p≤q∧q≤p + c∧P r∧Evn fun k=>g k=some (r,q)
theorem Dr.bind {α β : Type} {g : Nat→Option (α × Int)} {H : Nat→α × Int→Option (β × Int)} {p c C : Int} {P : α→Prop} {Q : β→Prop}
  (h1 : Dr g p c P) (h2 : ∀ bt : α × Int,P bt.1→p≤bt.2→bt.2≤p + c→Dr (fun k=>H k bt) bt.2 (C - c) Q) : Dr (fun k=>(g k).bind (H k)) p C Q:=by
 obtain ⟨r,q,hq0,hq1,hr,e⟩:=h1
 obtain ⟨r',q',h0,h1,hr',e'⟩:=h2 (r,q) hr hq0 hq1
 refine ⟨r',q',by simp only at h0;omega,by simp only at h1;omega,hr',Evn.mp e (Evn.mp e' (Evn.all fun k e' e=>?_))⟩
 dsimp only
 rw [e]
 exact e'
/-- a value that is computed on the way,by a function that draws nothing -/
theorem Dr.run {α β : Type} {g : Nat→Option α} {H : Nat→α→Option (β × Int)} {p c : Int} {Q : β→Prop} {r : α} (h1 : Evn fun k=>g k=some r) (h2 : Dr (fun k=>H k r) p c Q) : Dr (fun k=>(g k).bind (H k)) p c Q:=by
 obtain ⟨r',q',h0,h1',hr',e'⟩:=h2
 refine ⟨r',q',h0,h1',hr',Evn.mp h1 (Evn.mp e' (Evn.all fun k e' e=>?_))⟩
 dsimp only
 rw [e]
 exact e'
/-- What is drawn at the end: no place behind it. -/
def Drw {α : Type} (g : Nat→Option α) (P : α→Prop) : Prop:=∃ r,P r∧Evn fun k=>g k=some r
theorem Drw.bind {α β : Type} {g : Nat→Option (α × Int)} {H : Nat→α × Int→Option β} {p c : Int} {P : α→Prop} {Q : β→Prop}
  (h1 : Dr g p c P) (h2 : ∀ bt : α × Int,P bt.1→p≤bt.2→bt.2≤p + c→Drw (fun k=>H k bt) Q) : Drw (fun k=>(g k).bind (H k)) Q:=by
 obtain ⟨r,q,hq0,hq1,hr,e⟩:=h1
 obtain ⟨r',hr',e'⟩:=h2 (r,q) hr hq0 hq1
 refine ⟨r',hr',Evn.mp e (Evn.mp e' (Evn.all fun k e' e=>?_))⟩
 dsimp only
 rw [e]
 exact e'
theorem Drw.run {α β : Type} {g : Nat→Option α} {H : Nat→α→Option β} {Q : β→Prop} {r : α} (h1 : Evn fun k=>g k=some r) (h2 : Drw (fun k=>H k r) Q) : Drw (fun k=>(g k).bind (H k)) Q:=by
 obtain ⟨r',hr',e'⟩:=h2
 refine ⟨r',hr',Evn.mp h1 (Evn.mp e' (Evn.all fun k e' e=>?_))⟩
 dsimp only
 rw [e]
 exact e'
end Dw
theorem Dw.weight (j : Nat) : ∃ t : Int,spec_l1Weight.f (j : Int)=some t∧t ≠ 0:=by
 unfold spec_l1Weight.f
 split
 ·exact ⟨_,rfl,by decide⟩
 ·split
  ·exact ⟨_,rfl,by decide⟩
  ·split
   ·exact ⟨_,rfl,by decide⟩
   ·exact ⟨_,rfl,by decide⟩
theorem Dw.keyat_loop (d : Nat) : ∀ (j : Nat) (x : Int) (y : ByteArray),j + d=4→y.size≤j→∃ s,∀ k,d + 1≤k→spec_KeyAt.l0 k x y (j : Int)=some s:=by
 induction d with
 | zero =>
  intro j x y hj hy
  refine ⟨y,fun k hk=>?_⟩
  obtain ⟨k,rfl⟩ : ∃ i,k=i + 1:=⟨k - 1,by omega⟩
  rw [spec_KeyAt.l0,if_neg (by omega)]
 | succ d ih =>
  intro j x y hj hy
  obtain ⟨t,ht,h0⟩:=Dw.weight j
  have hz : (strOfNums [wrap64 (97 + wrap64 (Int.tdiv x t)) % 256]).size=1:=by rw [strOfNums_size];rfl
  by_cases hm : Int.tmod x t=0
  ·refine ⟨y ++ strOfNums [wrap64 (97 + wrap64 (Int.tdiv x t)) % 256],fun k hk=>?_⟩
   obtain ⟨k,rfl⟩ : ∃ i,k=i + 1:=⟨k - 1,by omega⟩
   rw [spec_KeyAt.l0,if_pos (by omega),ht]
   simp only [Option.bind_some]
   rw [if_neg h0,if_pos (by omega),if_neg h0,if_pos hm]
  ·obtain ⟨s,hs⟩:=ih (j + 1) (wrap64 (Int.tmod x t - 1)) (y ++ strOfNums [wrap64 (97 + wrap64 (Int.tdiv x t)) % 256]) (by omega) (by rw [ByteArray.size_append];omega)
   refine ⟨s,fun k hk=>?_⟩
   obtain ⟨k,rfl⟩ : ∃ i,k=i + 1:=⟨k - 1,by omega⟩
   rw [spec_KeyAt.l0,if_pos (by omega),ht]
   simp only [Option.bind_some]
   rw [if_neg h0,if_pos (by omega),if_neg h0,if_neg hm,w64 (x:=(j : Int) + 1) (by omega) (by omega),show (j : Int) + 1=((j + 1 : Nat) : Int) by omega]
   exact hs k (by omega)
theorem Dw.keyat (n : Int) : ∃ s,Dw.Evn fun k=>spec_KeyAt.f k n=some s:=by
 have e : ∃ b,spec_l1In.f n 0 475253=some b:=by
  unfold spec_l1In.f
  split
  ·exact ⟨_,rfl⟩
  ·exact ⟨_,rfl⟩
 obtain ⟨b,hb⟩:=e
 unfold spec_KeyAt.f
 rw [hb]
 simp only [Option.bind_some]
 cases b with
 | true =>
  obtain ⟨s,hs⟩:=Dw.keyat_loop 4 0 n (⟨#[]⟩ : ByteArray) (by omega) (by show 0≤0;omega)
  exact ⟨s,5,fun k hk=>(if_pos rfl).trans (hs k hk)⟩
 | false=>exact ⟨_,Dw.Evn.all fun k=>if_neg (by simp)⟩
theorem spec_l20Rd_pick.D (n : Int) (w W0 : World) (g : Nat) (bs : List Int) (p : Int) (hI : IsS133 w W0 g bs p) (hB : Below w.heap.size w W0) (hc : Dw.Code bs) (h0 : 0≤p) (h1 : p≤1099511627776) :
  Calls Try.prog 104 #[.pointer (some ⟨g,0,none⟩),.int .i64 n] W0 fun e w'=>∃ x p',e=.returned (.int .i64 x)∧(0≤x∧(1≤n→x < n)∧(n≤1→x=0))∧Left w W0 g bs p 1 p' w':=by
 obtain ⟨r,q,h2,h3,hr,k,e⟩:=Dw.dr_pick hc n h0 h1
 refine (spec_l20Rd_pick.calls k g bs p n r q w W0 hI hB (e k (Nat.le_refl k))).mono ?_
 rintro e w' ⟨rfl,hi,hb,hk⟩
 exact ⟨r,q,rfl,hr,⟨h2,h3⟩,hi,hb,kept_keep hk⟩
theorem spec_l20Rd_odd.D (n : Int) (hn : n≤1000000) (w W0 : World) (g : Nat) (bs : List Int) (p : Int) (hI : IsS133 w W0 g bs p) (hB : Below w.heap.size w W0) (hc : Dw.Code bs) (h0 : 0≤p) (h1 : p≤1099511627776) :
  Calls Try.prog 108 #[.pointer (some ⟨g,0,none⟩),.int .i64 n] W0 fun e w'=>∃ x p',e=.returned (.bool x)∧(n≤0→x=false)∧Left w W0 g bs p 1 p' w':=by
 obtain ⟨r,q,h2,h3,hr,k,e⟩:=Dw.dr_odd hc n h0 h1 hn
 refine (spec_l20Rd_odd.calls k g bs p n r q w W0 hI hB (e k (Nat.le_refl k))).mono ?_
 rintro e w' ⟨rfl,hi,hb,hk⟩
 exact ⟨r,q,rfl,hr,⟨h2,h3⟩,hi,hb,kept_keep hk⟩
theorem spec_KeyAt.D (n : Int) (w : World) : Calls Try.prog 123 #[.int .i64 n] w fun e w'=>∃ x,e=.returned (.string x)∧x=x∧Below w.heap.size w w':=by
 obtain ⟨r,k,e⟩:=Dw.keyat n
 refine (spec_KeyAt.calls k n r w (e k (Nat.le_refl k))).mono ?_
 rintro e w' ⟨rfl,h⟩
 exact ⟨r,rfl,rfl,h⟩
theorem tdiv8 {x : Int} (h0 : 0≤x) (h1 : x < 9) : 0≤Int.tdiv x 8∧Int.tdiv x 8 < 2:=by
 rw [Int.tdiv_eq_ediv_of_nonneg h0]
 omega
theorem spec_l20Value.D (n : Int) (hn : n≤1000000) (w W0 : World) (g : Nat) (bs : List Int) (p : Int) (hI : IsS133 w W0 g bs p) (hB : Below w.heap.size w W0) (hc : Dw.Code bs) (h0 : 0≤p) (h1 : p≤1099511000000) :
  Calls Try.prog 122 #[.pointer (some ⟨g,0,none⟩),.int .i64 n] W0 fun e w'=>∃ x p',e=.returned (.int .i64 x)∧(True)∧Left w W0 g bs p 3 p' w':=by
 have B:=Aside0.mk hB
 have HI:=Aside0.mk hI
 have HC:=Aside0.mk hc
 have KK:=Aside0.mk (Kept.refl W0 (RB g))
 clear hB hI hc
 go_enter Try.func122,Try.ntmps122
 go_wp2_with (first
  | (go_at_call 108;(with_reducible refine cg1 (spec_l20Rd_odd.D n (by omega) w _ g bs p HI.out B.out HC.out (by omega) (by omega)) fun x1 p1 hx1 hp1 w1 hk B HI2=>?_);replace KK:=kkr KK hk;replace HI:=HI2;clear hk;skip)
  | ((with_reducible refine gate_dst (N:=8) rfl ?_);refine lt (Kd.int .i64) 3 ?hg (N:=8) ?hd ([(-1),(1000)] : List Int) [.int .i64 (-1),.int .i64 (1000)] ?hr (Reps.one (show Kd.M (Kd.int .i64) _ _ _ (-1) [.int .i64 (-1)] from rfl) (Reps.one (show Kd.M (Kd.int .i64) _ _ _ (1000) [.int .i64 (1000)] from rfl) (Reps.none _ _))) (by simp) B ?_;(case hd | hg=>rfl);(case hr=>go_simp;first | done | rfl);intro z8 hz8 AL8 kL8 w51 hb B RL8 QL8;have MRL8:=mrf QL8 KK;replace HI:=hib HI hb;replace KK:=kkb KK hb;clear hb QL8)
  | (go_at_call 104;(with_reducible refine cg1 (spec_l20Rd_pick.D 2 w _ g bs p1 HI.out B.out HC.out (by omega) (by omega)) fun x52 p52 hx52 hp52 w52 hk B HI2=>?_);replace RL8:=rkr RL8 HI (by decide) hk;replace KK:=kkr KK hk;replace HI:=HI2;clear hk;skip;have hj52:=hx52.1;have hi52 : x52 < (z8.length : Int):=(by rw [← hz8];have:=hx52.2.1 (by omega);simpa using this);obtain ⟨ad52,hA52,y52⟩:=Kd.at_int (rc RL8) x52 hj52 hi52;generalize rd z8 x52=v52 at *;cases hA52;have fj52:=eq_true hj52;have fi52:=eq_true hi52)
  | (go_at_call 104;(with_reducible refine cg1 (spec_l20Rd_pick.D 20 w _ g bs p1 HI.out B.out HC.out (by omega) (by omega)) fun x101 p101 hx101 hp101 w101 hk B HI2=>?_);replace KK:=kkr KK hk;replace HI:=HI2;clear hk;skip)
  | ((with_reducible refine gate_dst (N:=15) rfl ?_);refine lt (Kd.int .i64) 3 ?hg (N:=15) ?hd ([(x101),(999)] : List Int) [.int .i64 (x101),.int .i64 (999)] ?hr (Reps.one (show Kd.M (Kd.int .i64) _ _ _ (x101) [.int .i64 (x101)] from rfl) (Reps.one (show Kd.M (Kd.int .i64) _ _ _ (999) [.int .i64 (999)] from rfl) (Reps.none _ _))) (by simp) B ?_;(case hd | hg=>rfl);(case hr=>go_simp;first | done | rfl);intro z15 hz15 AL15 kL15 w102 hb B RL15 QL15;have MRL15:=mrf QL15 KK;replace HI:=hib HI hb;replace KK:=kkb KK hb;clear hb QL15)
  | (go_at_call 104;(with_reducible refine cg1 (spec_l20Rd_pick.D 9 w _ g bs p101 HI.out B.out HC.out (by omega) (by omega)) fun x103 p103 hx103 hp103 w103 hk B HI2=>?_);replace RL15:=rkr RL15 HI (by decide) hk;replace KK:=kkr KK hk;replace HI:=HI2;clear hk;skip;obtain ⟨i17,hi17⟩ : ∃ i : Int,Int.tdiv x103 8=i:=⟨_,rfl⟩;have hb17:=tdiv8 hx103.1 (hx103.2.1 (by omega));rw [hi17] at hb17;have hv17 : IntKind.i64.wrap i17=i17:=(i64_w _).trans (w64 (by omega) (by omega));have hv18 : wrap64 i17=i17:=(w64 (by omega) (by omega));have hj17:=hb17.1;have hi17 : i17 < (z15.length : Int):=(by rw [← hz15];have:=hb17.2;simpa using this);obtain ⟨ad17,hA17,y17⟩:=Kd.at_int (rc RL15) i17 hj17 hi17;generalize rd z15 i17=v17 at *;cases hA17;have fj17:=eq_true hj17;have fi17:=eq_true hi17))
 all_goals go_ret
 all_goals exact ⟨_,_,rfl,trivial,⟨by omega,by omega⟩,HI.out,B.out,KK.out⟩
theorem spec_l20Key.D (n : Int) (hn : n≤1000000) (w W0 : World) (g : Nat) (bs : List Int) (p : Int) (hI : IsS133 w W0 g bs p) (hB : Below w.heap.size w W0) (hc : Dw.Code bs) (h0 : 0≤p) (h1 : p≤1099511000000) :
  Calls Try.prog 120 #[.pointer (some ⟨g,0,none⟩),.int .i64 n] W0 fun e w'=>∃ x p',e=.returned (.string x)∧(True)∧Left w W0 g bs p 6 p' w':=by
 have B:=Aside0.mk hB
 have HI:=Aside0.mk hI
 have HC:=Aside0.mk hc
 have KK:=Aside0.mk (Kept.refl W0 (RB g))
 clear hB hI hc
 go_enter Try.func120,Try.ntmps120
 go_wp2_with (first
  | (go_at_call 108;(with_reducible refine cg1 (spec_l20Rd_odd.D n (by omega) w _ g bs p HI.out B.out HC.out (by omega) (by omega)) fun x1 p1 hx1 hp1 w1 hk B HI2=>?_);replace KK:=kkr KK hk;replace HI:=HI2;clear hk;skip)
  | ((with_reducible refine gate_dst (N:=10) rfl ?_);refine lt Kd.string 9 ?hg (N:=10) ?hd ([((⟨#[]⟩ : ByteArray)),((⟨#[65]⟩ : ByteArray)),((⟨#[97,49]⟩ : ByteArray)),((⟨#[97,98,99,100,101]⟩ : ByteArray)),((⟨#[98,123]⟩ : ByteArray)),((⟨#[97,32,98]⟩ : ByteArray))] : List ByteArray) [.string (⟨#[]⟩ : ByteArray),.string (⟨#[65]⟩ : ByteArray),.string (⟨#[97,49]⟩ : ByteArray),.string (⟨#[97,98,99,100,101]⟩ : ByteArray),.string (⟨#[98,123]⟩ : ByteArray),.string (⟨#[97,32,98]⟩ : ByteArray)] ?hr (Reps.one (show Kd.M Kd.string _ _ _ ((⟨#[]⟩ : ByteArray)) [.string (⟨#[]⟩ : ByteArray)] from rfl) (Reps.one (show Kd.M Kd.string _ _ _ ((⟨#[65]⟩ : ByteArray)) [.string (⟨#[65]⟩ : ByteArray)] from rfl) (Reps.one (show Kd.M Kd.string _ _ _ ((⟨#[97,49]⟩ : ByteArray)) [.string (⟨#[97,49]⟩ : ByteArray)] from rfl) (Reps.one (show Kd.M Kd.string _ _ _ ((⟨#[97,98,99,100,101]⟩ : ByteArray)) [.string (⟨#[97,98,99,100,101]⟩ : ByteArray)] from rfl) (Reps.one (show Kd.M Kd.string _ _ _ ((⟨#[98,123]⟩ : ByteArray)) [.string (⟨#[98,123]⟩ : ByteArray)] from rfl) (Reps.one (show Kd.M Kd.string _ _ _ ((⟨#[97,32,98]⟩ : ByteArray)) [.string (⟨#[97,32,98]⟩ : ByteArray)] from rfl) (Reps.none _ _))))))) (by simp) B ?_;(case hd | hg=>rfl);(case hr=>go_simp;first | done | rfl);intro z10 hz10 AL10 kL10 w51 hb B RL10 QL10;have MRL10:=mrf QL10 KK;replace HI:=hib HI hb;replace KK:=kkb KK hb;clear hb QL10)
  | (go_at_call 104;(with_reducible refine cg1 (spec_l20Rd_pick.D 6 w _ g bs p1 HI.out B.out HC.out (by omega) (by omega)) fun x52 p52 hx52 hp52 w52 hk B HI2=>?_);replace RL10:=rkr RL10 HI (by decide) hk;replace KK:=kkr KK hk;replace HI:=HI2;clear hk;skip;have hi52 : x52 < (z10.length : Int):=(by rw [← hz10];have:=hx52.2.1 (by omega);simpa using this);obtain ⟨ad52,hA52,y52⟩:=Kd.at_string (rc RL10) x52 hx52.1 hi52;have hj52:=hx52.1;generalize rdOf ByteArray.empty z10 x52=s52 at *;cases hA52;have j52:=eq_true hj52;have i52:=eq_true hi52)
  | (go_at_call 104;(with_reducible refine cg1 (spec_l20Rd_pick.D 12 w _ g bs p1 HI.out B.out HC.out (by omega) (by omega)) fun x101 p101 hx101 hp101 w101 hk B HI2=>?_);replace KK:=kkr KK hk;replace HI:=HI2;clear hk;skip)
  | ((with_reducible refine gate_dst (N:=18) rfl ?_);refine lt Kd.string 9 ?hg (N:=18) ?hd ([((⟨#[122,122,122,122]⟩ : ByteArray)),((⟨#[122,122,122]⟩ : ByteArray)),((⟨#[97,122,122,122]⟩ : ByteArray)),((⟨#[122]⟩ : ByteArray)),((⟨#[97,97,97,97]⟩ : ByteArray))] : List ByteArray) [.string (⟨#[122,122,122,122]⟩ : ByteArray),.string (⟨#[122,122,122]⟩ : ByteArray),.string (⟨#[97,122,122,122]⟩ : ByteArray),.string (⟨#[122]⟩ : ByteArray),.string (⟨#[97,97,97,97]⟩ : ByteArray)] ?hr (Reps.one (show Kd.M Kd.string _ _ _ ((⟨#[122,122,122,122]⟩ : ByteArray)) [.string (⟨#[122,122,122,122]⟩ : ByteArray)] from rfl) (Reps.one (show Kd.M Kd.string _ _ _ ((⟨#[122,122,122]⟩ : ByteArray)) [.string (⟨#[122,122,122]⟩ : ByteArray)] from rfl) (Reps.one (show Kd.M Kd.string _ _ _ ((⟨#[97,122,122,122]⟩ : ByteArray)) [.string (⟨#[97,122,122,122]⟩ : ByteArray)] from rfl) (Reps.one (show Kd.M Kd.string _ _ _ ((⟨#[122]⟩ : ByteArray)) [.string (⟨#[122]⟩ : ByteArray)] from rfl) (Reps.one (show Kd.M Kd.string _ _ _ ((⟨#[97,97,97,97]⟩ : ByteArray)) [.string (⟨#[97,97,97,97]⟩ : ByteArray)] from rfl) (Reps.none _ _)))))) (by simp) B ?_;(case hd | hg=>rfl);(case hr=>go_simp;first | done | rfl);intro z18 hz18 AL18 kL18 w201 hb B RL18 QL18;have MRL18:=mrf QL18 KK;replace HI:=hib HI hb;replace KK:=kkb KK hb;clear hb QL18)
  | (go_at_call 104;(with_reducible refine cg1 (spec_l20Rd_pick.D 5 w _ g bs p101 HI.out B.out HC.out (by omega) (by omega)) fun x202 p202 hx202 hp202 w202 hk B HI2=>?_);replace RL18:=rkr RL18 HI (by decide) hk;replace KK:=kkr KK hk;replace HI:=HI2;clear hk;skip;have hi202 : x202 < (z18.length : Int):=(by rw [← hz18];have:=hx202.2.1 (by omega);simpa using this);obtain ⟨ad202,hA202,y202⟩:=Kd.at_string (rc RL18) x202 hx202.1 hi202;have hj202:=hx202.1;generalize rdOf ByteArray.empty z18 x202=s202 at *;cases hA202;have j202:=eq_true hj202;have i202:=eq_true hi202)
  | (go_at_call 104;(with_reducible refine cg1 (spec_l20Rd_pick.D 2 w _ g bs p101 HI.out B.out HC.out (by omega) (by omega)) fun x251 p251 hx251 hp251 w251 hk B HI2=>?_);replace KK:=kkr KK hk;replace HI:=HI2;clear hk;skip;refine Stop.out ?_))
 all_goals try (go_ret;exact ⟨_,_,rfl,trivial,⟨by omega,by omega⟩,HI.out,B.out,KK.out⟩;done)
 refine ⟨?_⟩
 have hc0:=hx251.1
 have hc1:=hx251.2.1 (by omega)
 obtain ⟨m0,hm0⟩ : ∃ m : Nat,1 + x251=(m : Int):=⟨(1 + x251).toNat,by omega⟩
 go_wp2
 go_loopg [5,6] (m0 + 1) (fun kx v5 v6 wr=>∃ (m : Nat) (s : ByteArray) (pp : Int),v5=.string s∧v6=.int .i64 (m : Int)∧m < kx∧m≤2∧s.size + m≤4∧(p≤pp∧pp + (m : Int)≤p + 6)∧Aside0 (IsS133 w wr g bs pp)∧Aside0 (Kept W0 wr (RB g))∧Aside0 (Below w.heap.size w wr))
 case atStart=>exact ⟨m0,_,_,rfl,congrArg (Value.int .i64) (by omega),by omega,by omega,by show 0 + m0≤4;omega,by omega,HI,KK,B⟩
 case round =>
  clear HI KK B hm0
  obtain ⟨m,s,pp,rfl,rfl,hm,hm2,hsz,hpp,HI,KK,B⟩:=hrel
  by_cases hp : 0 < m
  ·obtain ⟨d,rfl⟩ : ∃ d,gk=d + 1:=⟨gk - 1,by omega⟩
   have cj : decide ((0 : Int) < (m : Int))=true:=decide_eq_true (by omega)
   go_wp2_with (first
    | (go_at_call 104;(with_reducible refine cg1 (spec_l20Rd_pick.D 4 w _ g bs pp HI.out B.out HC.out (by omega) (by omega)) fun x301 p301 hx301 hp301 w301 hk B HI2=>?_);replace KK:=kkr KK hk;replace HI:=HI2;clear hk;skip)
    | ((with_reducible refine gate_dst (N:=35) rfl ?_);refine lt (Kd.int .u8) 5 ?hg (N:=35) ?hd ([((97 + x301))] : List Int) [.int .u8 ((97 + x301))] ?hr (Reps.one (show Kd.M (Kd.int .u8) _ _ _ ((97 + x301)) [.int .u8 ((97 + x301))] from rfl) (Reps.none _ _)) (by simp) B ?_;(case hd | hg=>rfl);(case hr=>go_simp;first | done | rfl);intro z35 hz35 AL35 kL35 w302 hb B RL35 QL35;have MRL35:=mrf QL35 KK;replace HI:=hib HI hb;replace KK:=kkb KK hb;clear hb QL35;have hcv35:=own_string (P:=Try.prog) Try.underlying49 Try.underlying5 Try.underlying9 (Kd.own_of_R RL35.out);have hsz35 : (strOfNums z35).size=1:=(by rw [← hz35];rw [strOfNums_size];rfl);have hle35 : decide (s.size + (strOfNums z35).size≤9223372036854775807)=true:=decide_eq_true (by omega)))
   go_roundg d
   case measure=>omega
   case rel=>exact ⟨m - 1,_,_,rfl,congrArg (Value.int .i64) (by omega),by omega,by omega,by rw [ByteArray.size_append,hsz35];omega,by omega,HI,KK,B⟩
  ·have cj : decide ((0 : Int) < (m : Int))=false:=decide_eq_false (by omega)
   go_wp2
   go_ret
   exact ⟨_,_,rfl,trivial,⟨by omega,by omega⟩,HI.out,B.out,KK.out⟩

theorem spec_l20Pairs.D (n : Int) (hn : n≤1000000) (w W0 : World) (g : Nat) (bs : List Int) (p : Int) (hI : IsS133 w W0 g bs p) (hB : Below w.heap.size w W0) (hc : Dw.Code bs) (h0 : 0≤p) (h1 : p≤1099500000000) :
  Calls Try.prog 106 #[.pointer (some ⟨g,0,none⟩),.int .i64 n] W0 fun e w'=>∃ v0 xs p',e=.returned (v0)∧(xs.length≤300)∧Kd.R k105 105 w' w.heap.size (fun _=>True) v0 xs∧Fr W0 v0∧Left w W0 g bs p 90 p' w':=by
 have hu:=Try.underlying105
 have B:=Aside0.mk hB
 have HI:=Aside0.mk hI
 have HC:=Aside0.mk hc
 have KK:=Aside0.mk (Kept.refl W0 (RB g))
 clear hB hI hc
 go_enter Try.func106,Try.ntmps106
 go_wp2_with (first
  | ((with_reducible refine gate_dst (N:=12) rfl ?_);refine lt k105 105 ?hg (N:=12) ?hd ([] : List S105) [] ?hr (Reps.none _ _) (by simp) B ?_;(case hd | hg=>rfl);(case hr=>go_simp;first | done | rfl);intro z12 hz12 AL12 kL12 w1 hb B RL12 QL12;have MRL12:=mrf QL12 KK;replace HI:=hib HI hb;replace KK:=kkb KK hb;clear hb QL12;subst hz12)
  | (go_at_call 104;(with_reducible refine cg1 (spec_l20Rd_pick.D 9 w _ g bs p HI.out B.out HC.out (by omega) (by omega)) fun x2 p2 hx2 hp2 w2 hk B HI2=>?_);replace RL12:=rkr RL12 HI (by decide) hk;replace KK:=kkr KK hk;replace HI:=HI2;clear hk;skip))
 have hx1:=hx2.1
 have hx2:=hx2.2.1 (by omega)
 obtain ⟨m0,rfl⟩ : ∃ m : Nat,x2=(m : Int):=⟨x2.toNat,by omega⟩
 go_loopg [5,6] (m0 + 1) (fun kx v5 v6 wr=>∃ (m : Nat) (xs : List S105) (pp : Int),v6=.int .i64 (m : Int)∧m < kx∧m≤8∧xs.length + m≤8∧(p≤pp∧pp + 9 * (m : Int)≤p + 80)∧Aside0 (IsS133 w wr g bs pp)∧Aside0 (Kept W0 wr (RB g))∧Aside0 (Below w.heap.size w wr)∧Aside0 (Ow k105 105 wr w.heap.size v5 xs)∧Aside0 (Fr W0 v5))
 case atStart=>exact ⟨m0,[],_,rfl,by omega,by omega,by simp only [List.length_nil];omega,by omega,HI,KK,B,RL12,MRL12⟩
 case round =>
  clear HI KK B RL12 MRL12
  obtain ⟨m,xs,pp,rfl,hm,hm8,hxl,hpp,HI,KK,B,Rp5,MRp5⟩:=hrel
  obtain ⟨A5,k5,rfl⟩:=Kd.R_slice Rp5.out
  by_cases hm0 : 0 < m
  ·obtain ⟨d,rfl⟩ : ∃ d,gk=d + 1:=⟨gk - 1,by omega⟩
   have cj : decide ((0 : Int) < (m : Int))=true:=decide_eq_true (by omega)
   have hw : wrap64 ((m : Int) - 1)=((m - 1 : Nat) : Int):=by unfold wrap64;omega
   go_wp2_with (first
    | (go_at_call 120;(with_reducible refine cg1 (spec_l20Key.D 0 (by omega) w _ g bs pp HI.out B.out HC.out (by omega) (by omega)) fun x301 p301 hx301 hp301 w301 hk B HI2=>?_);replace Rp5:=rkr Rp5 HI (by decide) hk;replace KK:=kkr KK hk;replace HI:=HI2;clear hk;skip)
    | (go_at_call 122;(with_reducible refine cg1 (spec_l20Value.D 0 (by omega) w _ g bs p301 HI.out B.out HC.out (by omega) (by omega)) fun x302 p302 hx302 hp302 w302 hk B HI2=>?_);replace Rp5:=rkr Rp5 HI (by decide) hk;replace KK:=kkr KK hk;replace HI:=HI2;clear hk;skip)
    | (go_at_call 88;with_reducible refine crz (spec_PairPut.M _ _ xs x301 x302 _ (rc Rp5) (rl Rp5)) B fun zC303 hzC303 AC303 kC303 w303 hb B RC303 QC303=>?_;have MRC303:=mrf QC303 KK;replace Rp5:=rn Rp5 hb;replace HI:=hib HI hb;replace KK:=kkb KK hb;clear QC303;clear hb))
   go_roundg d
   case measure=>omega
   case rel=>exact ⟨m - 1,zC303,_,congrArg (Value.int .i64) (by omega),by omega,by omega,by rw [← hzC303];have:=putM_len xs x301 x302;omega,by omega,HI,KK,B,RC303,MRC303⟩
  ·have cj : decide ((0 : Int) < (m : Int))=false:=decide_eq_false (by omega)
   go_wp2_with (first
    | (go_at_call 104;(with_reducible refine cg1 (spec_l20Rd_pick.D 16 w _ g bs pp HI.out B.out HC.out (by omega) (by omega)) fun x501 p501 hx501 hp501 w501 hk B HI2=>?_);replace Rp5:=rkr Rp5 HI (by decide) hk;replace KK:=kkr KK hk;replace HI:=HI2;clear hk;skip))
   ·rename_i hb7
    clear hb7 hx501
    go_loopg [5,9] 201 (fun kx v5 v9 wr=>∃ (i : Nat) (xs : List S105) (pp : Int),v9=.int .i64 (i : Int)∧i≤200∧200 < i + kx∧xs.length≤48∧(p≤pp∧pp≤p + 81)∧Aside0 (IsS133 w wr g bs pp)∧Aside0 (Kept W0 wr (RB g))∧Aside0 (Below w.heap.size w wr)∧Aside0 (Ow k105 105 wr w.heap.size v5 xs)∧Aside0 (Fr W0 v5))
    case atStart=>exact ⟨0,xs,_,rfl,by omega,by omega,by omega,by omega,HI,KK,B,Rp5,MRp5⟩
    case round =>
     clear HI KK B Rp5 MRp5 hxl hpp hp501
     obtain ⟨i,xs,pp,rfl,hi,hk2,hxl,hpp,HI,KK,B,Rp5,MRp5⟩:=hrel
     obtain ⟨A5,k5,rfl⟩:=Kd.R_slice Rp5.out
     by_cases hgo : xs.length < 48∧i < 200
     ·obtain ⟨d,rfl⟩ : ∃ d,gk=d + 1:=⟨gk - 1,by omega⟩
      have c1 : decide ((xs.length : Int) < 48)=true:=decide_eq_true (by omega)
      have c2 : decide ((i : Int) < 200)=true:=decide_eq_true (by omega)
      go_wp2_with (first
       | (go_at_call 123;with_reducible refine cx (spec_KeyAt.D _ _) B fun x701 hx701 w701 hb B=>?_;replace Rp5:=rn Rp5 hb;replace HI:=hib HI hb;replace KK:=kkb KK hb;clear hb)
       | (go_at_call 88;with_reducible refine crz (spec_PairPut.M _ _ xs x701 (i : Int) _ (rc Rp5) (rl Rp5)) B fun zC702 hzC702 AC702 kC702 w702 hb B RC702 QC702=>?_;have MRC702:=mrf QC702 KK;replace Rp5:=rn Rp5 hb;replace HI:=hib HI hb;replace KK:=kkb KK hb;clear QC702;clear hb))
      go_roundg d
      case measure=>omega
      case rel=>exact ⟨i + 1,zC702,_,congrArg (Value.int .i64) (by omega),by omega,by omega,by rw [← hzC702];have:=putM_len xs x701 (i : Int);omega,by omega,HI,KK,B,RC702,MRC702⟩
     ·have cc : (decide ((xs.length : Int) < 48) && decide ((i : Int) < 200))=false:=by simp only [Bool.and_eq_false_iff,decide_eq_false_iff_not];omega
      by_cases hl : xs.length < 48
      ·have c1 : decide ((xs.length : Int) < 48)=true:=decide_eq_true (by omega)
       have c2 : decide ((i : Int) < 200)=false:=decide_eq_false (by omega)
       go_wp2_with (first
        | (go_at_call 108;(with_reducible refine cg1 (spec_l20Rd_odd.D n (by omega) w _ g bs pp HI.out B.out HC.out (by omega) (by omega)) fun x901 p901 hx901 hp901 w901 hk B HI2=>?_);replace Rp5:=rkr Rp5 HI (by decide) hk;replace KK:=kkr KK hk;replace HI:=HI2;clear hk;skip)
        | ((with_reducible refine gate_dst (N:=60) rfl ?_);refine lt k105 105 ?hg (N:=60) ?hd ([⟨(⟨#[]⟩ : ByteArray),0⟩,⟨(⟨#[122,122,122,122]⟩ : ByteArray),-1⟩,⟨(⟨#[122,122,122,122]⟩ : ByteArray),1000⟩,⟨(⟨#[97]⟩ : ByteArray),1⟩,⟨(⟨#[65]⟩ : ByteArray),0⟩] : List S105) [.string (⟨#[]⟩ : ByteArray),.int .i64 (0),.string (⟨#[122,122,122,122]⟩ : ByteArray),.int .i64 (-1),.string (⟨#[122,122,122,122]⟩ : ByteArray),.int .i64 (1000),.string (⟨#[97]⟩ : ByteArray),.int .i64 (1),.string (⟨#[65]⟩ : ByteArray),.int .i64 (0)] ?hr (Reps.c2 (k105_mkM _ _ _ ⟨(⟨#[]⟩ : ByteArray),0⟩) (Reps.c2 (k105_mkM _ _ _ ⟨(⟨#[122,122,122,122]⟩ : ByteArray),-1⟩) (Reps.c2 (k105_mkM _ _ _ ⟨(⟨#[122,122,122,122]⟩ : ByteArray),1000⟩) (Reps.c2 (k105_mkM _ _ _ ⟨(⟨#[97]⟩ : ByteArray),1⟩) (Reps.c2 (k105_mkM _ _ _ ⟨(⟨#[65]⟩ : ByteArray),0⟩) (Reps.none _ _)))))) (by simp) B ?_;(case hd | hg=>rfl);(case hr=>go_simp;first | done | rfl);intro z60 hz60 AL60 kL60 w951 hb B RL60 QL60;have MRL60:=mrf QL60 KK;replace Rp5:=rn Rp5 hb;replace HI:=hib HI hb;replace KK:=kkb KK hb;clear hb QL60)
        | (go_at_call 104;(with_reducible refine cg1 (spec_l20Rd_pick.D 5 w _ g bs p901 HI.out B.out HC.out (by omega) (by omega)) fun x952 p952 hx952 hp952 w952 hk B HI2=>?_);replace Rp5:=rkr Rp5 HI (by decide) hk;replace RL60:=rkr RL60 HI (by decide) hk;replace KK:=kkr KK hk;replace HI:=HI2;clear hk;skip;have hi952 : x952 < (z60.length : Int):=(by rw [← hz60];have:=hx952.2.1 (by omega);simpa using this);obtain ⟨ad952,hA952,y952_0,y952_1⟩:=at_T105 (rc RL60) x952 hx952.1 hi952;have hj952:=hx952.1;generalize rd_T105 z60 x952=y952 at *;cases hA952;have j952:=eq_true hj952;have i952:=eq_true hi952)
        | ((with_reducible refine gate_dst (N:=65) rfl ?_);refine lt k105 105 ?hg (N:=65) ?hd ([⟨y952.f0,y952.f1⟩] : List S105) [.string y952.f0,.int .i64 (y952.f1)] ?hr (Reps.c2 (k105_mkM _ _ _ ⟨y952.f0,y952.f1⟩) (Reps.none _ _)) (by simp) B ?_;(case hd | hg=>rfl);(case hr=>go_simp;first | done | rfl);intro z65 hz65 AL65 kL65 w953 hb B RL65 QL65;have MRL65:=mrf QL65 KK;replace Rp5:=rn Rp5 hb;replace HI:=hib HI hb;replace KK:=kkb KK hb;clear hb QL65)
        | ((with_reducible refine gate_builtin (b:=.append) (xs:=#[.tmp 54,.tmp 65]) rfl ?_);at_builtin;refine apx k105 105 rfl (.tmp 54) (.tmp 65) 35 (.agg #[.string (⟨#[]⟩ : ByteArray),.int .i64 (0)]) 24 rfl Try.underlying35 info105 rfl (by decide) (by omega) rfl rfl Rp5 (rc RL65) (fun x cs h=>by rw [k105_open h];exact k105_mkM _ _ _ x) (by rw [← hz65];simp only [List.length_cons,List.length_nil];omega) B ?_;intro z66 hz66 AL66 kL66 w954 hg B RL66 hat;replace HI:=hig HI Rp5 (by decide) hg;have MRL66:=mra hat MRp5 KK;replace KK:=kkg KK MRp5 hg;clear hg hat))
       all_goals go_ret
       all_goals first
        | exact ⟨_,_,_,rfl,by omega,Rp5.out,MRp5.out,⟨by omega,by omega⟩,HI.out,B.out,KK.out⟩
        | exact ⟨_,_,_,rfl,by rw [← hz66,← hz65];simp only [List.length_append,List.length_cons,List.length_nil];omega,RL66.out,MRL66.out,⟨by omega,by omega⟩,HI.out,B.out,KK.out⟩
      ·have c1 : decide ((xs.length : Int) < 48)=false:=decide_eq_false (by omega)
       go_wp2_with (first
        | (go_at_call 108;(with_reducible refine cg1 (spec_l20Rd_odd.D n (by omega) w _ g bs pp HI.out B.out HC.out (by omega) (by omega)) fun x1001 p1001 hx1001 hp1001 w1001 hk B HI2=>?_);replace Rp5:=rkr Rp5 HI (by decide) hk;replace KK:=kkr KK hk;replace HI:=HI2;clear hk;skip)
        | ((with_reducible refine gate_dst (N:=60) rfl ?_);refine lt k105 105 ?hg (N:=60) ?hd ([⟨(⟨#[]⟩ : ByteArray),0⟩,⟨(⟨#[122,122,122,122]⟩ : ByteArray),-1⟩,⟨(⟨#[122,122,122,122]⟩ : ByteArray),1000⟩,⟨(⟨#[97]⟩ : ByteArray),1⟩,⟨(⟨#[65]⟩ : ByteArray),0⟩] : List S105) [.string (⟨#[]⟩ : ByteArray),.int .i64 (0),.string (⟨#[122,122,122,122]⟩ : ByteArray),.int .i64 (-1),.string (⟨#[122,122,122,122]⟩ : ByteArray),.int .i64 (1000),.string (⟨#[97]⟩ : ByteArray),.int .i64 (1),.string (⟨#[65]⟩ : ByteArray),.int .i64 (0)] ?hr (Reps.c2 (k105_mkM _ _ _ ⟨(⟨#[]⟩ : ByteArray),0⟩) (Reps.c2 (k105_mkM _ _ _ ⟨(⟨#[122,122,122,122]⟩ : ByteArray),-1⟩) (Reps.c2 (k105_mkM _ _ _ ⟨(⟨#[122,122,122,122]⟩ : ByteArray),1000⟩) (Reps.c2 (k105_mkM _ _ _ ⟨(⟨#[97]⟩ : ByteArray),1⟩) (Reps.c2 (k105_mkM _ _ _ ⟨(⟨#[65]⟩ : ByteArray),0⟩) (Reps.none _ _)))))) (by simp) B ?_;(case hd | hg=>rfl);(case hr=>go_simp;first | done | rfl);intro z60 hz60 AL60 kL60 w1051 hb B RL60 QL60;have MRL60:=mrf QL60 KK;replace Rp5:=rn Rp5 hb;replace HI:=hib HI hb;replace KK:=kkb KK hb;clear hb QL60)
        | (go_at_call 104;(with_reducible refine cg1 (spec_l20Rd_pick.D 5 w _ g bs p1001 HI.out B.out HC.out (by omega) (by omega)) fun x1052 p1052 hx1052 hp1052 w1052 hk B HI2=>?_);replace Rp5:=rkr Rp5 HI (by decide) hk;replace RL60:=rkr RL60 HI (by decide) hk;replace KK:=kkr KK hk;replace HI:=HI2;clear hk;skip;have hi1052 : x1052 < (z60.length : Int):=(by rw [← hz60];have:=hx1052.2.1 (by omega);simpa using this);obtain ⟨ad1052,hA1052,y1052_0,y1052_1⟩:=at_T105 (rc RL60) x1052 hx1052.1 hi1052;have hj1052:=hx1052.1;generalize rd_T105 z60 x1052=y1052 at *;cases hA1052;have j1052:=eq_true hj1052;have i1052:=eq_true hi1052)
        | ((with_reducible refine gate_dst (N:=65) rfl ?_);refine lt k105 105 ?hg (N:=65) ?hd ([⟨y1052.f0,y1052.f1⟩] : List S105) [.string y1052.f0,.int .i64 (y1052.f1)] ?hr (Reps.c2 (k105_mkM _ _ _ ⟨y1052.f0,y1052.f1⟩) (Reps.none _ _)) (by simp) B ?_;(case hd | hg=>rfl);(case hr=>go_simp;first | done | rfl);intro z65 hz65 AL65 kL65 w1053 hb B RL65 QL65;have MRL65:=mrf QL65 KK;replace Rp5:=rn Rp5 hb;replace HI:=hib HI hb;replace KK:=kkb KK hb;clear hb QL65)
        | ((with_reducible refine gate_builtin (b:=.append) (xs:=#[.tmp 54,.tmp 65]) rfl ?_);at_builtin;refine apx k105 105 rfl (.tmp 54) (.tmp 65) 35 (.agg #[.string (⟨#[]⟩ : ByteArray),.int .i64 (0)]) 24 rfl Try.underlying35 info105 rfl (by decide) (by omega) rfl rfl Rp5 (rc RL65) (fun x cs h=>by rw [k105_open h];exact k105_mkM _ _ _ x) (by rw [← hz65];simp only [List.length_cons,List.length_nil];omega) B ?_;intro z66 hz66 AL66 kL66 w1054 hg B RL66 hat;replace HI:=hig HI Rp5 (by decide) hg;have MRL66:=mra hat MRp5 KK;replace KK:=kkg KK MRp5 hg;clear hg hat))
       all_goals go_ret
       all_goals first
        | exact ⟨_,_,_,rfl,by omega,Rp5.out,MRp5.out,⟨by omega,by omega⟩,HI.out,B.out,KK.out⟩
        | exact ⟨_,_,_,rfl,by rw [← hz66,← hz65];simp only [List.length_append,List.length_cons,List.length_nil];omega,RL66.out,MRL66.out,⟨by omega,by omega⟩,HI.out,B.out,KK.out⟩
   ·go_wp2_with (first
     | (go_at_call 108;(with_reducible refine cg1 (spec_l20Rd_odd.D n (by omega) w _ g bs p501 HI.out B.out HC.out (by omega) (by omega)) fun x1101 p1101 hx1101 hp1101 w1101 hk B HI2=>?_);replace Rp5:=rkr Rp5 HI (by decide) hk;replace KK:=kkr KK hk;replace HI:=HI2;clear hk;skip)
     | ((with_reducible refine gate_dst (N:=60) rfl ?_);refine lt k105 105 ?hg (N:=60) ?hd ([⟨(⟨#[]⟩ : ByteArray),0⟩,⟨(⟨#[122,122,122,122]⟩ : ByteArray),-1⟩,⟨(⟨#[122,122,122,122]⟩ : ByteArray),1000⟩,⟨(⟨#[97]⟩ : ByteArray),1⟩,⟨(⟨#[65]⟩ : ByteArray),0⟩] : List S105) [.string (⟨#[]⟩ : ByteArray),.int .i64 (0),.string (⟨#[122,122,122,122]⟩ : ByteArray),.int .i64 (-1),.string (⟨#[122,122,122,122]⟩ : ByteArray),.int .i64 (1000),.string (⟨#[97]⟩ : ByteArray),.int .i64 (1),.string (⟨#[65]⟩ : ByteArray),.int .i64 (0)] ?hr (Reps.c2 (k105_mkM _ _ _ ⟨(⟨#[]⟩ : ByteArray),0⟩) (Reps.c2 (k105_mkM _ _ _ ⟨(⟨#[122,122,122,122]⟩ : ByteArray),-1⟩) (Reps.c2 (k105_mkM _ _ _ ⟨(⟨#[122,122,122,122]⟩ : ByteArray),1000⟩) (Reps.c2 (k105_mkM _ _ _ ⟨(⟨#[97]⟩ : ByteArray),1⟩) (Reps.c2 (k105_mkM _ _ _ ⟨(⟨#[65]⟩ : ByteArray),0⟩) (Reps.none _ _)))))) (by simp) B ?_;(case hd | hg=>rfl);(case hr=>go_simp;first | done | rfl);intro z60 hz60 AL60 kL60 w1151 hb B RL60 QL60;have MRL60:=mrf QL60 KK;replace Rp5:=rn Rp5 hb;replace HI:=hib HI hb;replace KK:=kkb KK hb;clear hb QL60)
     | (go_at_call 104;(with_reducible refine cg1 (spec_l20Rd_pick.D 5 w _ g bs p1101 HI.out B.out HC.out (by omega) (by omega)) fun x1152 p1152 hx1152 hp1152 w1152 hk B HI2=>?_);replace Rp5:=rkr Rp5 HI (by decide) hk;replace RL60:=rkr RL60 HI (by decide) hk;replace KK:=kkr KK hk;replace HI:=HI2;clear hk;skip;have hi1152 : x1152 < (z60.length : Int):=(by rw [← hz60];have:=hx1152.2.1 (by omega);simpa using this);obtain ⟨ad1152,hA1152,y1152_0,y1152_1⟩:=at_T105 (rc RL60) x1152 hx1152.1 hi1152;have hj1152:=hx1152.1;generalize rd_T105 z60 x1152=y1152 at *;cases hA1152;have j1152:=eq_true hj1152;have i1152:=eq_true hi1152)
     | ((with_reducible refine gate_dst (N:=65) rfl ?_);refine lt k105 105 ?hg (N:=65) ?hd ([⟨y1152.f0,y1152.f1⟩] : List S105) [.string y1152.f0,.int .i64 (y1152.f1)] ?hr (Reps.c2 (k105_mkM _ _ _ ⟨y1152.f0,y1152.f1⟩) (Reps.none _ _)) (by simp) B ?_;(case hd | hg=>rfl);(case hr=>go_simp;first | done | rfl);intro z65 hz65 AL65 kL65 w1153 hb B RL65 QL65;have MRL65:=mrf QL65 KK;replace Rp5:=rn Rp5 hb;replace HI:=hib HI hb;replace KK:=kkb KK hb;clear hb QL65)
     | ((with_reducible refine gate_builtin (b:=.append) (xs:=#[.tmp 54,.tmp 65]) rfl ?_);at_builtin;refine apx k105 105 rfl (.tmp 54) (.tmp 65) 35 (.agg #[.string (⟨#[]⟩ : ByteArray),.int .i64 (0)]) 24 rfl Try.underlying35 info105 rfl (by decide) (by omega) rfl rfl Rp5 (rc RL65) (fun x cs h=>by rw [k105_open h];exact k105_mkM _ _ _ x) (by rw [← hz65];simp only [List.length_cons,List.length_nil];omega) B ?_;intro z66 hz66 AL66 kL66 w1154 hg B RL66 hat;replace HI:=hig HI Rp5 (by decide) hg;have MRL66:=mra hat MRp5 KK;replace KK:=kkg KK MRp5 hg;clear hg hat))
    all_goals go_ret
    all_goals first
     | exact ⟨_,_,_,rfl,by omega,Rp5.out,MRp5.out,⟨by omega,by omega⟩,HI.out,B.out,KK.out⟩
     | exact ⟨_,_,_,rfl,by rw [← hz66,← hz65];simp only [List.length_append,List.length_cons,List.length_nil];omega,RL66.out,MRL66.out,⟨by omega,by omega⟩,HI.out,B.out,KK.out⟩

theorem spec_l20Session.D (n : Int) (hn : n≤1000000) (w W0 : World) (g : Nat) (bs : List Int) (p : Int) (hI : IsS133 w W0 g bs p) (hB : Below w.heap.size w W0) (hc : Dw.Code bs) (h0 : 0≤p) (h1 : p≤1099505000000) :
  Calls Try.prog 124 #[.pointer (some ⟨g,0,none⟩),.int .i64 n] W0 fun e w'=>∃ x y u p',e=.returned (.agg #[.int .i64 x,.int .i64 y,.int .i64 u])∧(True)∧Left w W0 g bs p 5 p' w':=by
 have hu:=Try.underlying76
 have B:=Aside0.mk hB
 have HI:=Aside0.mk hI
 have HC:=Aside0.mk hc
 have KK:=Aside0.mk (Kept.refl W0 (RB g))
 clear hB hI hc
 go_enter Try.func124,Try.ntmps124
 go_wp2_with (first
  | ((with_reducible refine gate_dst (N:=4) rfl ?_);refine bxq 4 #[.int .i64 (0),.int .i64 (0),.int .i64 (0)] 76 B fun g4 w1 hb B F4 L4 E4=>?_;have M4:=mbx E4 KK;replace HI:=hib HI hb;replace KK:=kkb KK hb;clear hb E4)
  | (go_at_call 108;(with_reducible refine cg1 (spec_l20Rd_odd.D n (by omega) w _ g bs p HI.out B.out HC.out (by omega) (by omega)) fun x2 p2 hx2 hp2 w2 hk B HI2=>?_);replace F4:=bkr F4 HI (by decide) hk;replace KK:=kkr KK hk;replace HI:=HI2;clear hk;skip)
  | ((with_reducible refine gate_dst (N:=14) rfl ?_);refine lt k76 76 ?hg (N:=14) ?hd ([⟨-1,1,0⟩,⟨4,1,0⟩,⟨1,0,0⟩,⟨1,1000,0⟩,⟨1,1,-3⟩,⟨1,1,1000⟩] : List S76) [.int .i64 (-1),.int .i64 (1),.int .i64 (0),.int .i64 (4),.int .i64 (1),.int .i64 (0),.int .i64 (1),.int .i64 (0),.int .i64 (0),.int .i64 (1),.int .i64 (1000),.int .i64 (0),.int .i64 (1),.int .i64 (1),.int .i64 (-3),.int .i64 (1),.int .i64 (1),.int .i64 (1000)] ?hr (Reps.c3 (k76_mkM _ _ _ ⟨-1,1,0⟩) (Reps.c3 (k76_mkM _ _ _ ⟨4,1,0⟩) (Reps.c3 (k76_mkM _ _ _ ⟨1,0,0⟩) (Reps.c3 (k76_mkM _ _ _ ⟨1,1000,0⟩) (Reps.c3 (k76_mkM _ _ _ ⟨1,1,-3⟩) (Reps.c3 (k76_mkM _ _ _ ⟨1,1,1000⟩) (Reps.none _ _))))))) (by simp) B ?_;(case hd | hg=>rfl);(case hr=>go_simp;first | done | rfl);intro z14 hz14 AL14 kL14 w51 hb B RL14 QL14;have NB4_L14:=nb QL14 F4;have MRL14:=mrf QL14 KK;replace F4:=bn F4 hb;replace HI:=hib HI hb;replace KK:=kkb KK hb;clear hb QL14)
  | (go_at_call 104;(with_reducible refine cg1 (spec_l20Rd_pick.D 6 w _ g bs p2 HI.out B.out HC.out (by omega) (by omega)) fun x52 p52 hx52 hp52 w52 hk B HI2=>?_);replace F4:=bkr F4 HI (by decide) hk;replace RL14:=rkr RL14 HI (by decide) hk;replace KK:=kkr KK hk;replace HI:=HI2;clear hk;skip;have hi52 : x52 < (z14.length : Int):=(by rw [← hz14];have:=hx52.2.1 (by omega);simpa using this);obtain ⟨ad52,hA52,y52_0,y52_1,y52_2⟩:=at_T76 (rc RL14) x52 hx52.1 hi52;have hj52:=hx52.1;generalize rd_T76 z14 x52=y52 at *;cases hA52;have j52:=eq_true hj52;have i52:=eq_true hi52)
  | ((with_reducible refine gate_store (t:=76) (p:=4) rfl ?_);obtain ⟨y0,y1,y2,z0,z1,z2⟩:=cz3 F4;refine sxq 76 76 4 0 [.int .i64 (y52.f0),.int .i64 (y52.f1),.int .i64 (y52.f2)] [.int .i64 (y52.f0),.int .i64 (y52.f1),.int .i64 (y52.f2)] B F4 L4 fun w53 hk B G=>?_;replace RL14:=rkn RL14 hk NB4_L14;replace HI:=his HI F4 (by decide) hk;replace KK:=kks KK M4 hk;replace F4:=G;clear hk y0 z0 y1 z1 y2 z2)
  | (go_at_call 104;(with_reducible refine cg1 (spec_l20Rd_pick.D 4 w _ g bs p2 HI.out B.out HC.out (by omega) (by omega)) fun x101 p101 hx101 hp101 w101 hk B HI2=>?_);replace F4:=bkr F4 HI (by decide) hk;replace KK:=kkr KK hk;replace HI:=HI2;clear hk;skip)
  | (go_at_call 104;(with_reducible refine cg1 (spec_l20Rd_pick.D 6 w _ g bs p101 HI.out B.out HC.out (by omega) (by omega)) fun x102 p102 hx102 hp102 w102 hk B HI2=>?_);replace F4:=bkr F4 HI (by decide) hk;replace KK:=kkr KK hk;replace HI:=HI2;clear hk;skip)
  | (go_at_call 104;(with_reducible refine cg1 (spec_l20Rd_pick.D 9 w _ g bs p102 HI.out B.out HC.out (by omega) (by omega)) fun x103 p103 hx103 hp103 w103 hk B HI2=>?_);replace F4:=bkr F4 HI (by decide) hk;replace KK:=kkr KK hk;replace HI:=HI2;clear hk;skip)
  | ((with_reducible refine gate_store (t:=76) (p:=4) rfl ?_);obtain ⟨y0,y1,y2,z0,z1,z2⟩:=cz3 F4;refine sxq 76 76 4 0 [.int .i64 (x101),.int .i64 (1 + x102),.int .i64 (x103 + -2)] [.int .i64 (x101),.int .i64 (1 + x102),.int .i64 (x103 + -2)] B F4 L4 fun w104 hk B G=>?_;replace HI:=his HI F4 (by decide) hk;replace KK:=kks KK M4 hk;replace F4:=G;clear hk y0 z0 y1 z1 y2 z2))
 all_goals (refine bodyPost_ret (results_single rfl (.cell g4 76 _ (0,0) _ rfl F4.out hu rfl (by kernel_rfl) .nil)) rfl ?_)
 all_goals exact ⟨_,_,_,_,rfl,trivial,⟨by omega,by omega⟩,HI.out,B.out,KK.out⟩
theorem spec_l20Sessions.D (n : Int) (hn : n≤1000000) (w W0 : World) (g : Nat) (bs : List Int) (p : Int) (hI : IsS133 w W0 g bs p) (hB : Below w.heap.size w W0) (hc : Dw.Code bs) (h0 : 0≤p) (h1 : p≤1099500000000) :
  Calls Try.prog 107 #[.pointer (some ⟨g,0,none⟩),.int .i64 n] W0 fun e w'=>∃ v0 xs p',e=.returned (v0)∧(xs.length≤300)∧Kd.R k76 76 w' w.heap.size (fun _=>True) v0 xs∧Fr W0 v0∧Left w W0 g bs p 70 p' w':=by
 have hu:=Try.underlying76
 have B:=Aside0.mk hB
 have HI:=Aside0.mk hI
 have HC:=Aside0.mk hc
 have KK:=Aside0.mk (Kept.refl W0 (RB g))
 clear hB hI hc
 go_enter Try.func107,Try.ntmps107
 go_wp2_with (first
  | ((with_reducible refine gate_dst (N:=9) rfl ?_);refine lt k76 76 ?hg (N:=9) ?hd ([] : List S76) [] ?hr (Reps.none _ _) (by simp) B ?_;(case hd | hg=>rfl);(case hr=>go_simp;first | done | rfl);intro z9 hz9 AL9 kL9 w1 hb B RL9 QL9;have MRL9:=mrf QL9 KK;replace HI:=hib HI hb;replace KK:=kkb KK hb;clear hb QL9;subst hz9)
  | (go_at_call 104;(with_reducible refine cg1 (spec_l20Rd_pick.D 5 w _ g bs p HI.out B.out HC.out (by omega) (by omega)) fun x2 p2 hx2 hp2 w2 hk B HI2=>?_);replace RL9:=rkr RL9 HI (by decide) hk;replace KK:=kkr KK hk;replace HI:=HI2;clear hk;skip))
 have hx1:=hx2.1
 have hx2:=hx2.2.1 (by omega)
 obtain ⟨m0,rfl⟩ : ∃ m : Nat,x2=(m : Int):=⟨x2.toNat,by omega⟩
 go_loopg [5,6] (m0 + 1) (fun kx v5 v6 wr=>∃ (m : Nat) (xs : List S76) (pp : Int),v6=.int .i64 (m : Int)∧m < kx∧m≤4∧xs.length + m≤4∧(p≤pp∧pp + 5 * (m : Int)≤p + 30)∧Aside0 (IsS133 w wr g bs pp)∧Aside0 (Kept W0 wr (RB g))∧Aside0 (Below w.heap.size w wr)∧Aside0 (Ow k76 76 wr w.heap.size v5 xs)∧Aside0 (Fr W0 v5))
 case atStart=>exact ⟨m0,[],_,rfl,by omega,by omega,by simp only [List.length_nil];omega,by omega,HI,KK,B,RL9,MRL9⟩
 case round =>
  clear HI KK B RL9 MRL9
  obtain ⟨m,xs,pp,rfl,hm,hm8,hxl,hpp,HI,KK,B,Rp5,MRp5⟩:=hrel
  obtain ⟨A5,k5,rfl⟩:=Kd.R_slice Rp5.out
  by_cases hm0 : 0 < m
  ·obtain ⟨d,rfl⟩ : ∃ d,gk=d + 1:=⟨gk - 1,by omega⟩
   have cj : decide ((0 : Int) < (m : Int))=true:=decide_eq_true (by omega)
   go_wp2_with (first
    | (go_at_call 124;(with_reducible refine cg3 (spec_l20Session.D 0 (by omega) w _ g bs pp HI.out B.out HC.out (by omega) (by omega)) fun x301 y301 u301 p301 hx301 hp301 w301 hk B HI2=>?_);replace Rp5:=rkr Rp5 HI (by decide) hk;replace KK:=kkr KK hk;replace HI:=HI2;clear hk;skip)
    | (go_at_call 44;with_reducible refine crz (spec_SessionPut.M _ _ xs x301 y301 u301 _ (rc Rp5) (rl Rp5)) B fun zU302 hzU302 AU302 kU302 w302 hb B RU302 QU302=>?_;have MRU302:=mrf QU302 KK;replace Rp5:=rn Rp5 hb;replace HI:=hib HI hb;replace KK:=kkb KK hb;clear QU302;clear hb))
   go_roundg d
   case measure=>omega
   case rel=>exact ⟨m - 1,zU302,_,congrArg (Value.int .i64) (by omega),by omega,by omega,by rw [← hzU302];have:=putB_length xs ⟨x301,y301,u301⟩;omega,by omega,HI,KK,B,RU302,MRU302⟩
  ·have cj : decide ((0 : Int) < (m : Int))=false:=decide_eq_false (by omega)
   go_wp2_with (first
    | (go_at_call 108;(with_reducible refine cg1 (spec_l20Rd_odd.D n (by omega) w _ g bs pp HI.out B.out HC.out (by omega) (by omega)) fun x501 p501 hx501 hp501 w501 hk B HI2=>?_);replace Rp5:=rkr Rp5 HI (by decide) hk;replace KK:=kkr KK hk;replace HI:=HI2;clear hk;skip)
    | (go_at_call 104;(with_reducible refine cg1 (spec_l20Rd_pick.D 2 w _ g bs p501 HI.out B.out HC.out (by omega) (by omega)) fun x601 p601 hx601 hp601 w601 hk B HI2=>?_);replace Rp5:=rkr Rp5 HI (by decide) hk;replace KK:=kkr KK hk;replace HI:=HI2;clear hk;skip)
    | ((with_reducible refine gate_builtin (b:=.append) (xs:=#[.tmp 30,.tmp 31]) rfl ?_);at_builtin;refine apx k76 76 rfl (.tmp 30) (.tmp 31) 36 (.agg #[.int .i64 (0),.int .i64 (0),.int .i64 (0)]) 24 rfl Try.underlying36 info76 rfl (by decide) (by omega) rfl rfl Rp5 (rc Rp5) (fun x cs h=>by rw [k76_open h];exact k76_mkM _ _ _ x) (by omega) B ?_;intro z32 hz32 AL32 kL32 w701 hg B RL32 hat;replace HI:=hig HI Rp5 (by decide) hg;have MRL32:=mra hat MRp5 KK;replace KK:=kkg KK MRp5 hg;clear hg hat)
    | (go_at_call 124;(with_reducible refine cg3 (spec_l20Session.D 1 (by omega) w _ g bs p601 HI.out B.out HC.out (by omega) (by omega)) fun x801 y801 u801 p801 hx801 hp801 w801 hk B HI2=>?_);replace Rp5:=rkr Rp5 HI (by decide) hk;replace KK:=kkr KK hk;replace HI:=HI2;clear hk;skip)
    | ((with_reducible refine gate_dst (N:=36) rfl ?_);refine lt k76 76 ?hg (N:=36) ?hd ([⟨x801,y801,u801⟩] : List S76) [.int .i64 (x801),.int .i64 (y801),.int .i64 (u801)] ?hr (Reps.c3 (k76_mkM _ _ _ ⟨x801,y801,u801⟩) (Reps.none _ _)) (by simp) B ?_;(case hd | hg=>rfl);(case hr=>go_simp;first | done | rfl);intro z36 hz36 AL36 kL36 w802 hb B RL36 QL36;have MRL36:=mrf QL36 KK;replace Rp5:=rn Rp5 hb;replace HI:=hib HI hb;replace KK:=kkb KK hb;clear hb QL36)
    | ((with_reducible refine gate_builtin (b:=.append) (xs:=#[.tmp 33,.tmp 36]) rfl ?_);at_builtin;refine apx k76 76 rfl (.tmp 33) (.tmp 36) 36 (.agg #[.int .i64 (0),.int .i64 (0),.int .i64 (0)]) 24 rfl Try.underlying36 info76 rfl (by decide) (by omega) rfl rfl Rp5 (rc RL36) (fun x cs h=>by rw [k76_open h];exact k76_mkM _ _ _ x) (by rw [← hz36];simp only [List.length_cons,List.length_nil];omega) B ?_;intro z37 hz37 AL37 kL37 w803 hg B RL37 hat;replace HI:=hig HI Rp5 (by decide) hg;have MRL37:=mra hat MRp5 KK;replace KK:=kkg KK MRp5 hg;clear hg hat))
   all_goals go_ret
   all_goals first
    | exact ⟨_,_,_,rfl,by omega,Rp5.out,MRp5.out,⟨by omega,by omega⟩,HI.out,B.out,KK.out⟩
    | exact ⟨_,_,_,rfl,by rw [← hz32];simp only [List.length_append];omega,RL32.out,MRL32.out,⟨by omega,by omega⟩,HI.out,B.out,KK.out⟩
    | exact ⟨_,_,_,rfl,by rw [← hz37,← hz36];simp only [List.length_append,List.length_cons,List.length_nil];omega,RL37.out,MRL37.out,⟨by omega,by omega⟩,HI.out,B.out,KK.out⟩

theorem spec_l20Span.D (n : Int) (hn : n≤1000000) (w W0 : World) (g : Nat) (bs : List Int) (p : Int) (hI : IsS133 w W0 g bs p) (hB : Below w.heap.size w W0) (hc : Dw.Code bs) (h0 : 0≤p) (h1 : p≤1099505000000) :
  Calls Try.prog 103 #[.pointer (some ⟨g,0,none⟩),.int .i64 n] W0 fun e w'=>∃ x y p',e=.returned (.agg #[.string x,.string y])∧(True)∧Left w W0 g bs p 20 p' w':=by
 have hu:=Try.underlying34
 have B:=Aside0.mk hB
 have HI:=Aside0.mk hI
 have HC:=Aside0.mk hc
 have KK:=Aside0.mk (Kept.refl W0 (RB g))
 clear hB hI hc
 go_enter Try.func103,Try.ntmps103
 go_wp2_with (first
  | ((with_reducible refine gate_dst (N:=4) rfl ?_);refine bxq 4 #[.string (⟨#[]⟩ : ByteArray),.string (⟨#[]⟩ : ByteArray)] 34 B fun g4 w1 hb B F4 L4 E4=>?_;have M4:=mbx E4 KK;replace HI:=hib HI hb;replace KK:=kkb KK hb;clear hb E4)
  | (go_at_call 108;(with_reducible refine cg1 (spec_l20Rd_odd.D n (by omega) w _ g bs p HI.out B.out HC.out (by omega) (by omega)) fun x2 p2 hx2 hp2 w2 hk B HI2=>?_);replace F4:=bkr F4 HI (by decide) hk;replace KK:=kkr KK hk;replace HI:=HI2;clear hk;skip)
  | ((with_reducible refine gate_dst (N:=15) rfl ?_);refine lt k34 34 ?hg (N:=15) ?hd ([⟨(⟨#[98]⟩ : ByteArray),(⟨#[98]⟩ : ByteArray)⟩,⟨(⟨#[99]⟩ : ByteArray),(⟨#[98]⟩ : ByteArray)⟩,⟨(⟨#[]⟩ : ByteArray),(⟨#[97]⟩ : ByteArray)⟩,⟨(⟨#[65]⟩ : ByteArray),(⟨#[]⟩ : ByteArray)⟩,⟨(⟨#[]⟩ : ByteArray),(⟨#[97,98,99,100,101]⟩ : ByteArray)⟩] : List S34) [.string (⟨#[98]⟩ : ByteArray),.string (⟨#[98]⟩ : ByteArray),.string (⟨#[99]⟩ : ByteArray),.string (⟨#[98]⟩ : ByteArray),.string (⟨#[]⟩ : ByteArray),.string (⟨#[97]⟩ : ByteArray),.string (⟨#[65]⟩ : ByteArray),.string (⟨#[]⟩ : ByteArray),.string (⟨#[]⟩ : ByteArray),.string (⟨#[97,98,99,100,101]⟩ : ByteArray)] ?hr (Reps.c2 (k34_mkM _ _ _ ⟨(⟨#[98]⟩ : ByteArray),(⟨#[98]⟩ : ByteArray)⟩) (Reps.c2 (k34_mkM _ _ _ ⟨(⟨#[99]⟩ : ByteArray),(⟨#[98]⟩ : ByteArray)⟩) (Reps.c2 (k34_mkM _ _ _ ⟨(⟨#[]⟩ : ByteArray),(⟨#[97]⟩ : ByteArray)⟩) (Reps.c2 (k34_mkM _ _ _ ⟨(⟨#[65]⟩ : ByteArray),(⟨#[]⟩ : ByteArray)⟩) (Reps.c2 (k34_mkM _ _ _ ⟨(⟨#[]⟩ : ByteArray),(⟨#[97,98,99,100,101]⟩ : ByteArray)⟩) (Reps.none _ _)))))) (by simp) B ?_;(case hd | hg=>rfl);(case hr=>go_simp;first | done | rfl);intro z15 hz15 AL15 kL15 w51 hb B RL15 QL15;have NB4_L15:=nb QL15 F4;have MRL15:=mrf QL15 KK;replace F4:=bn F4 hb;replace HI:=hib HI hb;replace KK:=kkb KK hb;clear hb QL15)
  | (go_at_call 104;(with_reducible refine cg1 (spec_l20Rd_pick.D 5 w _ g bs p2 HI.out B.out HC.out (by omega) (by omega)) fun x52 p52 hx52 hp52 w52 hk B HI2=>?_);replace F4:=bkr F4 HI (by decide) hk;replace RL15:=rkr RL15 HI (by decide) hk;replace KK:=kkr KK hk;replace HI:=HI2;clear hk;skip;have hi52 : x52 < (z15.length : Int):=(by rw [← hz15];have:=hx52.2.1 (by omega);simpa using this);obtain ⟨ad52,hA52,y52_0,y52_1⟩:=at_T34 (rc RL15) x52 hx52.1 hi52;have hj52:=hx52.1;generalize rd_T34 z15 x52=y52 at *;cases hA52;have j52:=eq_true hj52;have i52:=eq_true hi52)
  | ((with_reducible refine gate_store (t:=34) (p:=4) rfl ?_);obtain ⟨y0,y1,z0,z1⟩:=cz2 F4;refine sxq 34 34 4 0 [.string y52.f0,.string y52.f1] [.string y52.f0,.string y52.f1] B F4 L4 fun w53 hk B G=>?_;replace RL15:=rkn RL15 hk NB4_L15;replace HI:=his HI F4 (by decide) hk;replace KK:=kks KK M4 hk;replace F4:=G;clear hk y0 z0 y1 z1)
  | (go_at_call 120;(with_reducible refine cg1 (spec_l20Key.D 0 (by omega) w _ g bs p2 HI.out B.out HC.out (by omega) (by omega)) fun x101 p101 hx101 hp101 w101 hk B HI2=>?_);replace F4:=bkr F4 HI (by decide) hk;replace KK:=kkr KK hk;replace HI:=HI2;clear hk;skip)
  | (go_at_call 120;(with_reducible refine cg1 (spec_l20Key.D 0 (by omega) w _ g bs p101 HI.out B.out HC.out (by omega) (by omega)) fun x102 p102 hx102 hp102 w102 hk B HI2=>?_);replace F4:=bkr F4 HI (by decide) hk;replace KK:=kkr KK hk;replace HI:=HI2;clear hk;skip)
  | (go_at_call 104;(with_reducible refine cg1 (spec_l20Rd_pick.D 6 w _ g bs p102 HI.out B.out HC.out (by omega) (by omega)) fun x103 p103 hx103 hp103 w103 hk B HI2=>?_);replace F4:=bkr F4 HI (by decide) hk;replace KK:=kkr KK hk;replace HI:=HI2;clear hk;skip)
  | ((with_reducible refine gate_store (t:=34) (p:=4) rfl ?_);obtain ⟨y0,y1,z0,z1⟩:=cz2 F4;refine sxq 34 34 4 0 [.string (⟨#[]⟩ : ByteArray),.string (⟨#[]⟩ : ByteArray)] [.string (⟨#[]⟩ : ByteArray),.string (⟨#[]⟩ : ByteArray)] B F4 L4 fun w201 hk B G=>?_;replace HI:=his HI F4 (by decide) hk;replace KK:=kks KK M4 hk;replace F4:=G;clear hk y0 z0 y1 z1)
  | ((with_reducible refine gate_store (t:=34) (p:=4) rfl ?_);obtain ⟨y0,y1,z0,z1⟩:=cz2 F4;refine sxq 34 34 4 0 [.string x101,.string (⟨#[]⟩ : ByteArray)] [.string x101,.string (⟨#[]⟩ : ByteArray)] B F4 L4 fun w251 hk B G=>?_;replace HI:=his HI F4 (by decide) hk;replace KK:=kks KK M4 hk;replace F4:=G;clear hk y0 z0 y1 z1)
  | ((with_reducible refine gate_store (t:=34) (p:=4) rfl ?_);obtain ⟨y0,y1,z0,z1⟩:=cz2 F4;refine sxq 34 34 4 0 [.string (⟨#[]⟩ : ByteArray),.string x102] [.string (⟨#[]⟩ : ByteArray),.string x102] B F4 L4 fun w301 hk B G=>?_;replace HI:=his HI F4 (by decide) hk;replace KK:=kks KK M4 hk;replace F4:=G;clear hk y0 z0 y1 z1)
  | ((with_reducible refine gate_store (t:=34) (p:=4) rfl ?_);obtain ⟨y0,y1,z0,z1⟩:=cz2 F4;refine sxq 34 34 4 0 [.string x101,.string x102] [.string x101,.string x102] B F4 L4 fun w351 hk B G=>?_;replace HI:=his HI F4 (by decide) hk;replace KK:=kks KK M4 hk;replace F4:=G;clear hk y0 z0 y1 z1)
  | ((with_reducible refine gate_store (t:=34) (p:=4) rfl ?_);obtain ⟨y0,y1,z0,z1⟩:=cz2 F4;refine sxq 34 34 4 0 [.string x102,.string x101] [.string x102,.string x101] B F4 L4 fun w401 hk B G=>?_;replace HI:=his HI F4 (by decide) hk;replace KK:=kks KK M4 hk;replace F4:=G;clear hk y0 z0 y1 z1)
  | ((with_reducible refine gate_store (t:=34) (p:=4) rfl ?_);obtain ⟨y0,y1,z0,z1⟩:=cz2 F4;refine sxq 34 34 4 0 [.string x101,.string (⟨#[]⟩ : ByteArray)] [.string x101,.string (⟨#[]⟩ : ByteArray)] B F4 L4 fun w451 hk B G=>?_;replace HI:=his HI F4 (by decide) hk;replace KK:=kks KK M4 hk;replace F4:=G;clear hk y0 z0 y1 z1))
 all_goals (refine bodyPost_ret (results_single rfl (.cell g4 34 _ (0,0) _ rfl F4.out hu rfl (by kernel_rfl) .nil)) rfl ?_)
 all_goals exact ⟨_,_,_,rfl,trivial,⟨by omega,by omega⟩,HI.out,B.out,KK.out⟩

def spec_PairScan.T7 : Bool × List (List Nat × List Nat):=(true,[([],[]),([],[]),([],[]),([1,2],[1,2]),([3],[3]),([4],[4]),([0,5],[0,5])])
def spec_PairScan.B7 : List Nat:=[0,0,0,6,14,30,63]
theorem spec_PairScan.tab7 : rtab .any (opsOf Try.f121 7)=spec_PairScan.T7:=by kernel_rfl
theorem spec_PairScan.bits7 : waitsOk spec_PairScan.T7.2 spec_PairScan.B7=true:=by kernel_rfl
theorem spec_PairScan.M (A0 : Option Addr) (c0 : Nat) (l : List S105) (a b : ByteArray) (w : World) (hr0 : Kd.C k105 w A0 l.length l) (hc0 : l.length≤c0) : Calls Try.prog 121 #[.slice A0 l.length c0,.agg #[.string a,.string b],.int .i64 48] w fun e w'=>∃ v0,e=.returned v0∧Kd.R k105 105 w' w.heap.size (fun _=>True) v0 (inM l a b)∧Below w.heap.size w w':=by
 have B:=Aside0.mk (Below.refl w.heap.size w)
 have hu:=Try.underlying34
 have HR0:=Aside0.mk hr0
 have HC0:=Aside0.mk hc0
 have L63:=Aside0.mk hr0.2.1
 clear hr0 hc0
 obtain ⟨r,hr⟩ : ∃ r,inM l a b=r:=⟨_,rfl⟩
 rw [hr]
 have l148 : l1B 48 0 48=true:=by decide
 go_enter Try.func121,Try.ntmps121
 go_wp2_with (first
  | ((with_reducible refine gate_dst (N:=4) rfl ?_);refine bxq 4 #[.string a,.string b] 34 B fun g4 w1 hb B F4 L4 E4=>?_;obtain ⟨c4_0,c4_1⟩:=cs2 F4;clear hb E4)
  | ((with_reducible refine gate_dst (N:=9) rfl ?_);refine lt k105 105 ?hg (N:=9) ?hd ([] : List S105) [] ?hr (Reps.none _ _) (by simp) B ?_;(case hd | hg=>rfl);(case hr=>go_simp;first | done | rfl);intro z9 hz9 AL9 kL9 w2 hb B RL9 QL9;replace F4:=bn F4 hb;clear c4_0 c4_1;obtain ⟨c4_0,c4_1⟩:=cs2 F4;clear hb QL9)
  | (go_at_call 81;with_reducible refine cl (spec_PairsValid.M _ _ l _ (cb HR0 B)) B fun w3 hb B=>?_;replace F4:=bn F4 hb;replace RL9:=rn RL9 hb;clear c4_0 c4_1;obtain ⟨c4_0,c4_1⟩:=cs2 F4;clear hb)
  | (go_at_call 80;with_reducible refine cl (spec_IntervalValid.M a b _) B fun w4 hb B=>?_;replace F4:=bn F4 hb;replace RL9:=rn RL9 hb;clear hb)
  | (go_at_call 83;with_reducible refine cl (spec_l1In.M 48 0 48 _) B fun w5 hb B=>?_;replace F4:=bn F4 hb;replace RL9:=rn RL9 hb;clear hb))
 all_goals try (refine useEq (a:=r) (b:=([] : List S105)) ?_ (fun hM=>?_);(rw [← hr];unfold inM;grind);subst hM;subst hz9;go_ret;exact ⟨_,rfl,RL9.out,B.out⟩)
 have hv : prB l=true∧ivB a b=true:=by grind
 have hrq : l.filter (fun p=>insB a b p.f0)=r:=by rw [← hr];unfold inM;simp [hv.1,hv.2]
 subst hz9
 have h48:=prB_len hv.1
 have HV:=Aside0.mk hv
 have H:=Aside0.mk (show ([] : List S105) ++ (l.drop 0).filter (fun p=>insB a b p.f0)=r from hrq)
 clear hr hrq hv c4_0 c4_1
 go_loopg [7,8] (l.length + 1) (fun kx v7 v8 wr=>∃ (j : Nat) (p : List S105),v8=.int .i64 (j : Int)∧j≤l.length∧l.length < j + kx∧p.length≤j∧Aside0 (Below w.heap.size w wr)∧Aside0 (wr.heap[g4]?=some (.cells #[.string a,.string b] 34 (0,0)))∧Aside0 (Ow k105 105 wr w.heap.size v7 p)∧Aside0 (p ++ (l.drop j).filter (fun p=>insB a b p.f0)=r))
 case atStart=>exact ⟨0,[],rfl,by omega,by omega,by simp,B,F4,RL9,H⟩
 case round =>
  clear H B F4 RL9
  obtain ⟨j,p,rfl,hj,hk,hpl,B,F4,Rp7,H⟩:=hrel
  obtain ⟨A7,k7,rfl⟩:=Kd.R_slice Rp7.out
  obtain ⟨c4_0,c4_1⟩:=cs2 F4
  by_cases hlt : j < l.length
  ·have HS:=H.out
   rw [pr_drop hlt,List.filter_cons] at HS
   have hhi:=has_ins HV.out.1 HV.out.2 hlt
   clear H
   obtain ⟨d,rfl⟩ : ∃ d,gk=d + 1:=⟨gk - 1,by omega⟩
   have cj : decide ((j : Int) < (l.length : Int))=true:=decide_eq_true (by omega)
   have cp : decide ((p.length : Int) < 48)=true:=decide_eq_true (by omega)
   obtain ⟨ad,hA,y0,y1⟩:=at_T105 (cb HR0 B) (j : Int) (by omega) (by omega)
   cases hA
   rw [Int.toNat_natCast] at y0 y1
   have j1:=eq_true (show (j : Int) < (l.length : Int) by omega)
   have j2:=eq_true hlt
   generalize hy : rd_T105 l (j : Int)=y at *
   have HT:=Aside0.mk HS
   have HH:=Aside0.mk hhi
   clear HS hhi
   try go_wp2
   all_goals (
    refine rg (n:=7) (S:=fun W=>W.heap[g4]?=some (.cells #[.string a,.string b] 34 (0,0))∧Kd.C k105 W (some ad) l.length l) (ds:=[]) #[false,false,false,false,false,false,false] (by kernel_rfl) rfl rfl ⟨F4.out,(cb HR0 B)⟩ id B (fun w101 hb B hHeld=>?_)
    refine with_tabW spec_PairScan.tab7 spec_PairScan.bits7 (fun HT_ HW_=>?_)
    replace F4:=bn F4 hb
    replace Rp7:=rn Rp7 hb
    clear hb
    refine tvq 0 (some 36) (bits 7 1) HT_ HW_ rfl hHeld (by intro w' hS;obtain ⟨s0,s1⟩:=hS;obtain ⟨q0,q1⟩:=cs2 (Aside0.mk s0);go_simp;with_reducible rfl) ?_
    refine pvq 1 (some 37) (bits 7 3) HT_ ?_
    refine pvq 2 (some 38) (bits 7 7) HT_ ?_
    refine pvq 3 (some 39) (bits 7 15) HT_ ?_
    refine pvq 4 (some 40) (bits 7 31) HT_ ?_
    refine tvq 5 (some 41) (bits 7 63) HT_ HW_ rfl hHeld (by intro w' hS;obtain ⟨s0,s1⟩:=hS;obtain ⟨_,hA,q0,q1⟩:=at_T105 s1 (j : Int) (by omega) (by omega);cases hA;rw [Int.toNat_natCast] at q0 q1;rw [hy] at q0 q1;go_simp;with_reducible rfl) ?_
    refine nmq ?_
    refine one_ (i:=6) (N:=some 42) (bits 7 127) rfl rfl (one_of HT_.out (by kernel_rfl)) (by decide) (fun K hK=>?_)
    refine gsq Try.func42 #[.agg #[.string a,.string b],.string y.f0] ?_
    with_reducible refine cl (spec_IntervalHas.M a b y.f0 _) B fun w102 hb B=>?_
    replace F4:=bn F4 hb
    replace Rp7:=rn Rp7 hb
    clear hb
    refine ⟨_,rfl,?_⟩
    refine hK.out _ _ ⟨F4.out,(cb HR0 B)⟩ (fun hHeld=>?_)
    clear hK K
    refine npq (some 42) ?_
    refine done_ (done_of HT_.out (by kernel_rfl)) ?_
    clear y0 y1
    obtain ⟨ad2,hA,y0,y1⟩:=at_T105 (cb HR0 B) (j : Int) (by omega) (by omega)
    cases hA
    rw [Int.toNat_natCast,hy] at y0 y1)
   all_goals go_wp2_with (first
    | ((with_reducible refine gate_dst (N:=48) rfl ?_);refine lt k105 105 ?hg (N:=48) ?hd ([⟨y.f0,y.f1⟩] : List S105) [.string y.f0,.int .i64 (y.f1)] ?hr (Reps.c2 (k105_mkM _ _ _ ⟨y.f0,y.f1⟩) (Reps.none _ _)) (by simp) B ?_;(case hd | hg=>rfl);(case hr=>go_simp;first | done | rfl);intro z48 hz48 AL48 kL48 w103 hb B RL48 QL48;replace F4:=bn F4 hb;replace Rp7:=rn Rp7 hb;clear hb QL48)
    | ((with_reducible refine gate_builtin (b:=.append) (xs:=#[.tmp 43,.tmp 48]) rfl ?_);at_builtin;refine apx k105 105 rfl (.tmp 43) (.tmp 48) 35 (.agg #[.string (⟨#[]⟩ : ByteArray),.int .i64 (0)]) 24 rfl Try.underlying35 info105 rfl (by decide) (by omega) rfl rfl Rp7 (rc RL48) (fun x cs h=>by rw [k105_open h];exact k105_mkM _ _ _ x) (by rw [← hz48];simp only [List.length_cons,List.length_nil];omega) B ?_;intro z49 hz49 AL49 kL49 w104 hg B RL49 hat;replace F4:=bga F4 hg Rp7 (by decide);clear hg hat))
   all_goals first
    | (refine useEq (a:=hasB a b y.f0) (b:=true) ?_ (fun hK=>?_);(first | assumption | (simp_all;done));have HS:=HT.out;rw [← HH.out,hK,if_pos rfl] at HS;go_roundg d;(case measure=>omega);(case rel=>exact ⟨j + 1,z49,congrArg (Value.int .i64) (Int.natCast_succ _).symm,by omega,by omega,(by rw [← hz49,← hz48];simp only [List.length_append,List.length_cons,List.length_nil];omega),B,F4,RL49,⟨by rw [← hz49,← hz48,List.append_assoc];exact HS⟩⟩))
    | (refine useEq (a:=hasB a b y.f0) (b:=false) ?_ (fun hK=>?_);(first | assumption | (simp_all;done));have HS:=HT.out;rw [← HH.out,hK,if_neg (by simp)] at HS;go_roundg d;(case measure=>omega);(case rel=>exact ⟨j + 1,p,congrArg (Value.int .i64) (Int.natCast_succ _).symm,by omega,by omega,by omega,B,F4,Rp7,⟨HS⟩⟩))
  ·have cj : decide ((j : Int) < (l.length : Int))=false:=decide_eq_false (by omega)
   have hr:=H.out
   rw [List.drop_of_length_le (by omega),List.filter_nil,List.append_nil] at hr
   subst hr
   clear H
   go_wp2
   go_ret
   exact ⟨_,rfl,Rp7.out,B.out⟩
theorem spec_PairsIn.M (A0 : Option Addr) (c0 : Nat) (l : List S105) (a b : ByteArray) (w : World) (hr0 : Kd.C k105 w A0 l.length l) (hc0 : l.length≤c0) : Calls Try.prog 105 #[.slice A0 l.length c0,.agg #[.string a,.string b]] w fun e w'=>∃ v0,e=.returned v0∧Kd.R k105 105 w' w.heap.size (fun _=>True) v0 (inM l a b)∧Below w.heap.size w w':=by
 have B:=Aside0.mk (Below.refl w.heap.size w)
 have hu:=Try.underlying34
 have HR0:=Aside0.mk hr0
 have HC0:=Aside0.mk hc0
 have L63:=Aside0.mk hr0.2.1
 clear hr0 hc0
 go_enter Try.func105,Try.ntmps105
 go_wp2_with (first
  | ((with_reducible refine gate_dst (N:=3) rfl ?_);refine bxq 3 #[.string a,.string b] 34 B fun g3 w1 hb B F3 L3 E3=>?_;obtain ⟨c3_0,c3_1⟩:=cs2 F3;clear hb E3)
  | (go_at_call 121;with_reducible refine cr (spec_PairScan.M _ _ l a b _ (cb HR0 B) HC0.out) B fun AI2 kI2 w2 hb B RI2 QI2=>?_;clear QI2;clear hb))
 go_ret
 exact ⟨_,rfl,RI2.out,B.out⟩

def spec_l20State.T4 : Bool × List (List Nat × List Nat):=(true,[([],[]),([],[]),([1],[1]),([],[]),([2,3,2],[2,3]),([],[]),([5,4],[5]),([0,4,6],[0,4,6]),([],[]),([8,7,6,0,1,2,3,4,5,6,7,8],[7,8])])
def spec_l20State.B4 : List Nat:=[0,0,2,0,14,0,62,127,0,511]
theorem spec_l20State.tab4 : rtab .any (opsOf Try.f62 4)=spec_l20State.T4:=by kernel_rfl
theorem spec_l20State.bits4 : waitsOk spec_l20State.T4.2 spec_l20State.B4=true:=by kernel_rfl
theorem spec_l20State.D (n : Int) (hn : n≤1000000) (w W0 : World) (g : Nat) (bs : List Int) (p : Int) (hI : IsS133 w W0 g bs p) (hB : Below w.heap.size w W0) (hc : Dw.Code bs) (h0 : 0≤p) (h1 : p≤1099498000000) :
  Calls Try.prog 62 #[.pointer (some ⟨g,0,none⟩),.int .i64 n] W0 fun e w'=>∃ a b v0 v1 t c xs ys p',e=.returned (.agg #[.string a,.string b,v0,v1,.bool t,.string c])∧(xs.length≤300∧ys.length≤300)∧(Kd.R k105 105 w' w.heap.size (fun _=>True) v0 xs∧Fr W0 v0)∧(Kd.R k76 76 w' w.heap.size (fun _=>True) v1 ys∧Fr W0 v1)∧Left w W0 g bs p 1000 p' w':=by
 have hu:=Try.underlying38
 have hu2:=Try.underlying34
 have B:=Aside0.mk hB
 have HI:=Aside0.mk hI
 have HC:=Aside0.mk hc
 have KK:=Aside0.mk (Kept.refl W0 (RB g))
 clear hB hI hc
 go_enter Try.func62,Try.ntmps62
 go_upto_if 14 with (first
  | ((with_reducible refine gate_dst (N:=4) rfl ?_);refine bxq 4 #[.string (⟨#[]⟩ : ByteArray),.string (⟨#[]⟩ : ByteArray),.slice none 0 0,.slice none 0 0,.bool false,.string (⟨#[]⟩ : ByteArray)] 38 B fun g4 w1 hb B F4 L4 E4=>?_;have M4:=mbx E4 KK;replace HI:=hib HI hb;replace KK:=kkb KK hb;clear hb E4)
  | (go_at_call 103;(with_reducible refine cg2 (spec_l20Span.D 0 (by omega) w _ g bs p HI.out B.out HC.out (by omega) (by omega)) fun x2 y2 p2 hx2 hp2 w2 hk B HI2=>?_);replace F4:=bkr F4 HI (by decide) hk;replace KK:=kkr KK hk;replace HI:=HI2;clear hk;skip)
  | ((with_reducible refine gate_dst (N:=5) rfl ?_);refine bxq 5 #[.string (⟨#[]⟩ : ByteArray),.string (⟨#[]⟩ : ByteArray)] 34 B fun g5 w3 hb B F5 L5 E5=>?_;have N4_5:=ne1 E5 F4;have M5:=mbx E5 KK;replace F4:=bn F4 hb;replace HI:=hib HI hb;replace KK:=kkb KK hb;clear hb E5)
  | ((with_reducible refine gate_store (t:=34) (p:=5) rfl ?_);obtain ⟨y0,y1,z0,z1⟩:=cz2 F5;refine sxq 34 34 5 0 [.string x2,.string y2] [.string x2,.string y2] B F5 L5 fun w4 hk B G=>?_;replace F4:=bk F4 hk N4_5.out;replace HI:=his HI F5 (by decide) hk;replace KK:=kks KK M5 hk;replace F5:=G;clear hk y0 z0 y1 z1)
  | (go_at_call 104;(with_reducible refine cg1 (spec_l20Rd_pick.D 2 w _ g bs p2 HI.out B.out HC.out (by omega) (by omega)) fun x5 p5 hx5 hp5 w5 hk B HI2=>?_);replace F4:=bkr F4 HI (by decide) hk;replace F5:=bkr F5 HI (by decide) hk;replace KK:=kkr KK hk;replace HI:=HI2;clear hk;skip))
 go_cut [5] (fun v5 wc=>∃ (va vb : ByteArray),v5=.pointer (some ⟨g5,0,none⟩)∧Aside0 (wc.heap[g5]?=some (.cells #[.string va,.string vb] 34 (0,0)))∧Aside0 (wc.heap[g4]?=some (.cells #[.string (⟨#[]⟩ : ByteArray),.string (⟨#[]⟩ : ByteArray),.slice none 0 0,.slice none 0 0,.bool false,.string (⟨#[]⟩ : ByteArray)] 38 (0,0)))∧Aside0 (IsS133 w wc g bs p5)∧Aside0 (Kept W0 wc (RB g))∧Aside0 (Below w.heap.size w wc))
 case first =>
  go_wp2_with (first
   | ((with_reducible refine gate_store (t:=34) (p:=5) rfl ?_);obtain ⟨y0,y1,z0,z1⟩:=cz2 F5;refine sxq 34 34 5 0 [.string (⟨#[]⟩ : ByteArray),.string (⟨#[]⟩ : ByteArray)] [.string (⟨#[]⟩ : ByteArray),.string (⟨#[]⟩ : ByteArray)] B F5 L5 fun w51 hk B G=>?_;replace F4:=bk F4 hk N4_5.out;replace HI:=his HI F5 (by decide) hk;replace KK:=kks KK M5 hk;replace F5:=G;clear hk y0 z0 y1 z1))
  all_goals (go_meet;(case rel=>exact ⟨_,_,rfl,F5,F4,HI,KK,B⟩))
 case rest =>
  clear B HI KK F4 F5
  obtain ⟨va,vb,rfl,F5,F4,HI,KK,B⟩:=hcut
  obtain ⟨c4_0,c4_1,c4_2,c4_3,c4_4,c4_5⟩:=cs6 F4
  obtain ⟨c5_0,c5_1⟩:=cs2 F5
  try go_wp2
  all_goals (
   refine rg (n:=10) (S:=fun W=>W.heap[g5]?=some (.cells #[.string va,.string vb] 34 (0,0))) (ds:=[]) #[false,false,false,false,false,false,false,false,false,false] (by kernel_rfl) rfl rfl F5.out id B (fun w101 hb B hHeld=>?_)
   refine with_tabW spec_l20State.tab4 spec_l20State.bits4 (fun HT_ HW_=>?_)
   replace F4:=bn F4 hb
   replace F5:=bn F5 hb
   replace HI:=hib HI hb
   replace KK:=kkb KK hb
   clear hb
   refine join_ 1 (bits 10 511) (σ:=Option Addr × Nat × List S105 × Option Addr × Nat × List S105 × Option Addr × Nat × List S76 × Nat × Int) (fun (ADs18,kDs18,zDs18,AIs20,kIs20,zIs20,ADs22,kDs22,zDs22,g6,ps22)=>[(16,.agg #[.string va,.string vb]),(17,.pointer (some ⟨g,0,none⟩)),(18,.slice ADs18 zDs18.length kDs18),(19,.agg #[.string va,.string vb]),(20,.slice AIs20 zIs20.length kIs20),(21,.pointer (some ⟨g,0,none⟩)),(22,.slice ADs22 zDs22.length kDs22),(23,.agg #[.string va,.string vb,.slice AIs20 zIs20.length kIs20,.slice ADs22 zDs22.length kDs22,.bool false,.string (⟨#[]⟩ : ByteArray)]),(6,.pointer (some ⟨g6,0,none⟩))]) (fun (ADs18,kDs18,zDs18,AIs20,kIs20,zIs20,ADs22,kDs22,zDs22,g6,ps22) W=>Aside0 (Below w.heap.size w W)∧Aside0 (W.heap[g4]?=some (.cells #[.string (⟨#[]⟩ : ByteArray),.string (⟨#[]⟩ : ByteArray),.slice none 0 0,.slice none 0 0,.bool false,.string (⟨#[]⟩ : ByteArray)] 38 (0,0)))∧Aside0 (W.heap[g5]?=some (.cells #[.string va,.string vb] 34 (0,0)))∧Aside0 (W.heap[g6]?=some (.cells #[.string (⟨#[]⟩ : ByteArray),.string (⟨#[]⟩ : ByteArray),.slice none 0 0,.slice none 0 0,.bool false,.string (⟨#[]⟩ : ByteArray)] 38 (0,0)))∧Aside0 (w.heap.size≤g6)∧Aside0 (g4 ≠ g6)∧Aside0 (g5 ≠ g6)∧Aside0 (Ow k105 105 W w.heap.size (.slice AIs20 zIs20.length kIs20) zIs20)∧Aside0 (Ow k76 76 W w.heap.size (.slice ADs22 zDs22.length kDs22) zDs22)∧Aside0 (IsS133 w W g bs ps22)∧Aside0 (Kept W0 W (RB g))∧Aside0 (W0.heap.size≤g6)∧Aside0 (Fr W0 (.slice AIs20 zIs20.length kIs20))∧Aside0 (Fr W0 (.slice ADs22 zDs22.length kDs22))∧(p5≤ps22∧ps22≤p5 + 160)∧zIs20.length≤300∧zDs22.length≤300) ?_ (fun J=>?_)
   rotate_left
   ·refine tvq 0 (some 16) (bits 10 1) HT_ HW_ rfl hHeld (by intro w' hS;have s0:=hS;obtain ⟨q0,q1⟩:=cs2 (Aside0.mk s0);go_simp;with_reducible rfl) ?_
    refine pvq 1 (some 17) (bits 10 3) HT_ ?_
    refine tvq 3 (some 19) (bits 10 11) HT_ HW_ rfl hHeld (by intro w' hS;have s0:=hS;obtain ⟨q0,q1⟩:=cs2 (Aside0.mk s0);go_simp;with_reducible rfl) ?_
    refine pvq 5 (some 21) (bits 10 43) HT_ ?_
    refine nmq ?_
    refine two_ (i:=2) (j:=8) (Ni:=some 18) (Nj:=some 6) (bits 10 47) (bits 10 299) rfl rfl rfl rfl (two_of HT_.out (by kernel_rfl)) (by decide) (by decide) (fun K hK=>?_) (fun K hK=>?_)
    ·refine gsq Try.func106 #[.pointer (some ⟨g,0,none⟩),.int .i64 (0)] ?_
     (with_reducible refine cgr (spec_l20Pairs.D 0 (by omega) w _ g bs p5 HI.out B.out HC.out (by omega) (by omega)) fun zDs18 ADs18 kDs18 ps18 hxs18 hps18 w102 hk B HI2 RDs18 QDs18=>?_)
     have MRDs18:=mrf QDs18 KK
     replace F4:=bkr F4 HI (by decide) hk
     replace F5:=bkr F5 HI (by decide) hk
     replace KK:=kkr KK hk
     replace HI:=HI2
     clear hk QDs18
     refine ⟨_,rfl,?_⟩
     refine hK.out _ _ F5.out (fun hHeld=>?_)
     clear hK K
     refine npq (some 18) ?_
     refine two_ (i:=4) (j:=8) (Ni:=some 20) (Nj:=some 6) (bits 10 63) (bits 10 303) rfl rfl rfl rfl (two_of HT_.out (by kernel_rfl)) (by decide) (by decide) (fun K hK=>?_) (fun K hK=>?_)
     ·refine gsq Try.func105 #[.slice ADs18 zDs18.length kDs18,.agg #[.string va,.string vb]] ?_
      with_reducible refine crz (spec_PairsIn.M _ _ zDs18 va vb _ (rc RDs18) (rl RDs18)) B fun zIs20 hzIs20 AIs20 kIs20 w103 hb B RIs20 QIs20=>?_
      have MRIs20:=mrf QIs20 KK
      replace F4:=bn F4 hb
      replace F5:=bn F5 hb
      replace HI:=hib HI hb
      replace KK:=kkb KK hb
      clear hb
      refine ⟨_,rfl,?_⟩
      refine hK.out _ _ F5.out (fun hHeld=>?_)
      clear hK K
      refine npq (some 20) ?_
      clear QIs20
      refine two_ (i:=6) (j:=8) (Ni:=some 22) (Nj:=some 6) (bits 10 127) (bits 10 319) rfl rfl rfl rfl (two_of HT_.out (by kernel_rfl)) (by decide) (by decide) (fun K hK=>?_) (fun K hK=>?_)
      ·refine gsq Try.func107 #[.pointer (some ⟨g,0,none⟩),.int .i64 (0)] ?_
       (with_reducible refine cgr (spec_l20Sessions.D 0 (by omega) w _ g bs ps18 HI.out B.out HC.out (by omega) (by omega)) fun zDs22 ADs22 kDs22 ps22 hxs22 hps22 w104 hk B HI2 RDs22 QDs22=>?_)
       have DIs20_Ds22:=fr QDs22 RIs20
       have MRDs22:=mrf QDs22 KK
       replace F4:=bkr F4 HI (by decide) hk
       replace F5:=bkr F5 HI (by decide) hk
       replace RIs20:=rkr RIs20 HI (by decide) hk
       replace KK:=kkr KK hk
       replace HI:=HI2
       clear hk QDs22
       refine ⟨_,rfl,?_⟩
       refine hK.out _ _ F5.out (fun hHeld=>?_)
       clear hK K
       refine npq (some 22) ?_
       refine pvq 7 (some 23) (bits 10 255) HT_ ?_
       refine nmq ?_
       refine one_ (i:=8) (N:=some 6) (bits 10 511) rfl rfl (one_of HT_.out (by kernel_rfl)) (by decide) (fun K hK=>?_)
       refine bxs (cs:=#[.string (⟨#[]⟩ : ByteArray),.string (⟨#[]⟩ : ByteArray),.slice none 0 0,.slice none 0 0,.bool false,.string (⟨#[]⟩ : ByteArray)]) (t:=38) (by rfl) rfl ?hr B (fun g6 w105 hb B F6 L6 E6=>?_)
       (case hr=>go_simp;first | done | rfl)
       have N4_6:=ne1 E6 F4
       have N5_6:=ne1 E6 F5
       have M6:=mbx E6 KK
       replace F4:=bn F4 hb
       replace F5:=bn F5 hb
       replace RIs20:=rn RIs20 hb
       replace RDs22:=rn RDs22 hb
       replace HI:=hib HI hb
       replace KK:=kkb KK hb
       clear hb E6
       refine hK.out _ _ F5.out (fun hHeld=>?_)
       clear hK K
       refine npq (some 6) ?_
       refine norm_ (a':=_) ?_ (J ⟨ADs18,kDs18,zDs18,AIs20,kIs20,zIs20,ADs22,kDs22,zDs22,g6,ps22⟩ _ ⟨B,F4,F5,F6,L6,N4_6,N5_6,RIs20,RDs22,HI,KK,M6,MRIs20,MRDs22,(by omega),(by rw [← hzIs20];exact Nat.le_trans (inM_len _ _ _) hxs18),hxs22⟩)
       simp only [putAll,Act.put,za,zb,zc]
       try rfl
      ·refine bxs (cs:=#[.string (⟨#[]⟩ : ByteArray),.string (⟨#[]⟩ : ByteArray),.slice none 0 0,.slice none 0 0,.bool false,.string (⟨#[]⟩ : ByteArray)]) (t:=38) (by rfl) rfl ?hr B (fun g6 w104 hb B F6 L6 E6=>?_)
       (case hr=>go_simp;first | done | rfl)
       have N4_6:=ne1 E6 F4
       have N5_6:=ne1 E6 F5
       have M6:=mbx E6 KK
       replace F4:=bn F4 hb
       replace F5:=bn F5 hb
       replace RIs20:=rn RIs20 hb
       replace HI:=hib HI hb
       replace KK:=kkb KK hb
       clear hb E6
       refine hK.out _ _ F5.out (fun hHeld=>?_)
       clear hK K
       refine npq (some 6) ?_
       refine one_ (i:=6) (N:=some 22) (bits 10 383) rfl rfl (one_of HT_.out (by kernel_rfl)) (by decide) (fun K hK=>?_)
       refine gsq Try.func107 #[.pointer (some ⟨g,0,none⟩),.int .i64 (0)] ?_
       (with_reducible refine cgr (spec_l20Sessions.D 0 (by omega) w _ g bs ps18 HI.out B.out HC.out (by omega) (by omega)) fun zDs22 ADs22 kDs22 ps22 hxs22 hps22 w105 hk B HI2 RDs22 QDs22=>?_)
       have DIs20_Ds22:=fr QDs22 RIs20
       have MRDs22:=mrf QDs22 KK
       replace F4:=bkr F4 HI (by decide) hk
       replace F5:=bkr F5 HI (by decide) hk
       replace F6:=bkr F6 HI (by decide) hk
       replace RIs20:=rkr RIs20 HI (by decide) hk
       replace KK:=kkr KK hk
       replace HI:=HI2
       clear hk QDs22
       refine ⟨_,rfl,?_⟩
       refine hK.out _ _ F5.out (fun hHeld=>?_)
       clear hK K
       refine npq (some 22) ?_
       refine pvq 7 (some 23) (bits 10 511) HT_ ?_
       refine nmq ?_
       refine norm_ (a':=_) ?_ (J ⟨ADs18,kDs18,zDs18,AIs20,kIs20,zIs20,ADs22,kDs22,zDs22,g6,ps22⟩ _ ⟨B,F4,F5,F6,L6,N4_6,N5_6,RIs20,RDs22,HI,KK,M6,MRIs20,MRDs22,(by omega),(by rw [← hzIs20];exact Nat.le_trans (inM_len _ _ _) hxs18),hxs22⟩)
       simp only [putAll,Act.put,za,zb,zc]
       try rfl
     ·refine bxs (cs:=#[.string (⟨#[]⟩ : ByteArray),.string (⟨#[]⟩ : ByteArray),.slice none 0 0,.slice none 0 0,.bool false,.string (⟨#[]⟩ : ByteArray)]) (t:=38) (by rfl) rfl ?hr B (fun g6 w103 hb B F6 L6 E6=>?_)
      (case hr=>go_simp;first | done | rfl)
      have N4_6:=ne1 E6 F4
      have N5_6:=ne1 E6 F5
      have M6:=mbx E6 KK
      replace F4:=bn F4 hb
      replace F5:=bn F5 hb
      replace RDs18:=rn RDs18 hb
      replace HI:=hib HI hb
      replace KK:=kkb KK hb
      clear hb E6
      refine hK.out _ _ F5.out (fun hHeld=>?_)
      clear hK K
      refine npq (some 6) ?_
      refine one_ (i:=4) (N:=some 20) (bits 10 319) rfl rfl (one_of HT_.out (by kernel_rfl)) (by decide) (fun K hK=>?_)
      refine gsq Try.func105 #[.slice ADs18 zDs18.length kDs18,.agg #[.string va,.string vb]] ?_
      with_reducible refine crz (spec_PairsIn.M _ _ zDs18 va vb _ (rc RDs18) (rl RDs18)) B fun zIs20 hzIs20 AIs20 kIs20 w104 hb B RIs20 QIs20=>?_
      have MRIs20:=mrf QIs20 KK
      replace F4:=bn F4 hb
      replace F5:=bn F5 hb
      replace F6:=bn F6 hb
      replace HI:=hib HI hb
      replace KK:=kkb KK hb
      clear hb
      refine ⟨_,rfl,?_⟩
      refine hK.out _ _ F5.out (fun hHeld=>?_)
      clear hK K
      refine npq (some 20) ?_
      clear QIs20
      refine one_ (i:=6) (N:=some 22) (bits 10 383) rfl rfl (one_of HT_.out (by kernel_rfl)) (by decide) (fun K hK=>?_)
      refine gsq Try.func107 #[.pointer (some ⟨g,0,none⟩),.int .i64 (0)] ?_
      (with_reducible refine cgr (spec_l20Sessions.D 0 (by omega) w _ g bs ps18 HI.out B.out HC.out (by omega) (by omega)) fun zDs22 ADs22 kDs22 ps22 hxs22 hps22 w105 hk B HI2 RDs22 QDs22=>?_)
      have DIs20_Ds22:=fr QDs22 RIs20
      have MRDs22:=mrf QDs22 KK
      replace F4:=bkr F4 HI (by decide) hk
      replace F5:=bkr F5 HI (by decide) hk
      replace F6:=bkr F6 HI (by decide) hk
      replace RIs20:=rkr RIs20 HI (by decide) hk
      replace KK:=kkr KK hk
      replace HI:=HI2
      clear hk QDs22
      refine ⟨_,rfl,?_⟩
      refine hK.out _ _ F5.out (fun hHeld=>?_)
      clear hK K
      refine npq (some 22) ?_
      refine pvq 7 (some 23) (bits 10 511) HT_ ?_
      refine nmq ?_
      refine norm_ (a':=_) ?_ (J ⟨ADs18,kDs18,zDs18,AIs20,kIs20,zIs20,ADs22,kDs22,zDs22,g6,ps22⟩ _ ⟨B,F4,F5,F6,L6,N4_6,N5_6,RIs20,RDs22,HI,KK,M6,MRIs20,MRDs22,(by omega),(by rw [← hzIs20];exact Nat.le_trans (inM_len _ _ _) hxs18),hxs22⟩)
      simp only [putAll,Act.put,za,zb,zc]
      try rfl
    ·refine bxs (cs:=#[.string (⟨#[]⟩ : ByteArray),.string (⟨#[]⟩ : ByteArray),.slice none 0 0,.slice none 0 0,.bool false,.string (⟨#[]⟩ : ByteArray)]) (t:=38) (by rfl) rfl ?hr B (fun g6 w102 hb B F6 L6 E6=>?_)
     (case hr=>go_simp;first | done | rfl)
     have N4_6:=ne1 E6 F4
     have N5_6:=ne1 E6 F5
     have M6:=mbx E6 KK
     replace F4:=bn F4 hb
     replace F5:=bn F5 hb
     replace HI:=hib HI hb
     replace KK:=kkb KK hb
     clear hb E6
     refine hK.out _ _ F5.out (fun hHeld=>?_)
     clear hK K
     refine npq (some 6) ?_
     refine one_ (i:=2) (N:=some 18) (bits 10 303) rfl rfl (one_of HT_.out (by kernel_rfl)) (by decide) (fun K hK=>?_)
     refine gsq Try.func106 #[.pointer (some ⟨g,0,none⟩),.int .i64 (0)] ?_
     (with_reducible refine cgr (spec_l20Pairs.D 0 (by omega) w _ g bs p5 HI.out B.out HC.out (by omega) (by omega)) fun zDs18 ADs18 kDs18 ps18 hxs18 hps18 w103 hk B HI2 RDs18 QDs18=>?_)
     have MRDs18:=mrf QDs18 KK
     replace F4:=bkr F4 HI (by decide) hk
     replace F5:=bkr F5 HI (by decide) hk
     replace F6:=bkr F6 HI (by decide) hk
     replace KK:=kkr KK hk
     replace HI:=HI2
     clear hk QDs18
     refine ⟨_,rfl,?_⟩
     refine hK.out _ _ F5.out (fun hHeld=>?_)
     clear hK K
     refine npq (some 18) ?_
     refine one_ (i:=4) (N:=some 20) (bits 10 319) rfl rfl (one_of HT_.out (by kernel_rfl)) (by decide) (fun K hK=>?_)
     refine gsq Try.func105 #[.slice ADs18 zDs18.length kDs18,.agg #[.string va,.string vb]] ?_
     with_reducible refine crz (spec_PairsIn.M _ _ zDs18 va vb _ (rc RDs18) (rl RDs18)) B fun zIs20 hzIs20 AIs20 kIs20 w104 hb B RIs20 QIs20=>?_
     have MRIs20:=mrf QIs20 KK
     replace F4:=bn F4 hb
     replace F5:=bn F5 hb
     replace F6:=bn F6 hb
     replace HI:=hib HI hb
     replace KK:=kkb KK hb
     clear hb
     refine ⟨_,rfl,?_⟩
     refine hK.out _ _ F5.out (fun hHeld=>?_)
     clear hK K
     refine npq (some 20) ?_
     clear QIs20
     refine one_ (i:=6) (N:=some 22) (bits 10 383) rfl rfl (one_of HT_.out (by kernel_rfl)) (by decide) (fun K hK=>?_)
     refine gsq Try.func107 #[.pointer (some ⟨g,0,none⟩),.int .i64 (0)] ?_
     (with_reducible refine cgr (spec_l20Sessions.D 0 (by omega) w _ g bs ps18 HI.out B.out HC.out (by omega) (by omega)) fun zDs22 ADs22 kDs22 ps22 hxs22 hps22 w105 hk B HI2 RDs22 QDs22=>?_)
     have DIs20_Ds22:=fr QDs22 RIs20
     have MRDs22:=mrf QDs22 KK
     replace F4:=bkr F4 HI (by decide) hk
     replace F5:=bkr F5 HI (by decide) hk
     replace F6:=bkr F6 HI (by decide) hk
     replace RIs20:=rkr RIs20 HI (by decide) hk
     replace KK:=kkr KK hk
     replace HI:=HI2
     clear hk QDs22
     refine ⟨_,rfl,?_⟩
     refine hK.out _ _ F5.out (fun hHeld=>?_)
     clear hK K
     refine npq (some 22) ?_
     refine pvq 7 (some 23) (bits 10 511) HT_ ?_
     refine nmq ?_
     refine norm_ (a':=_) ?_ (J ⟨ADs18,kDs18,zDs18,AIs20,kIs20,zIs20,ADs22,kDs22,zDs22,g6,ps22⟩ _ ⟨B,F4,F5,F6,L6,N4_6,N5_6,RIs20,RDs22,HI,KK,M6,MRIs20,MRDs22,(by omega),(by rw [← hzIs20];exact Nat.le_trans (inM_len _ _ _) hxs18),hxs22⟩)
     simp only [putAll,Act.put,za,zb,zc]
     try rfl
   rintro ⟨ADs18,kDs18,zDs18,AIs20,kIs20,zIs20,ADs22,kDs22,zDs22,g6,ps22⟩ w106 ⟨B,F4,F5,F6,L6,N4_6,N5_6,RIs20,RDs22,HI,KK,M6,MRIs20,MRDs22,hpj4,hlIs20,hlDs22⟩
   refine norm_ (a':=?_) ?_ ?_
   rotate_left
   ·simp only [putAll,Act.put,za,zb,zc]
    rfl
   refine one_ (i:=9) (N:=none) (bits 10 1023) rfl rfl (one_of HT_.out (by kernel_rfl)) (by decide) (fun K hK=>?_)
   obtain ⟨y0,y1,y2,y3,y4,y5,z0,z1,z2,z3,z4,z5⟩:=cz6 F6
   refine sxs (g:=g6) 0 [.string va,.string vb,.slice AIs20 zIs20.length kIs20,.slice ADs22 zDs22.length kDs22,.bool false,.string (⟨#[]⟩ : ByteArray)] [.string va,.string vb,.slice AIs20 zIs20.length kIs20,.slice ADs22 zDs22.length kDs22,.bool false,.string (⟨#[]⟩ : ByteArray)] (by rfl) rfl ?hr B F6 L6 rfl (Nat.le_of_ble_eq_true rfl) (fun w107 hk B G=>?_)
   (case hr=>go_simp;first | done | rfl)
   replace F4:=bk F4 hk N4_6.out
   replace F5:=bk F5 hk N5_6.out
   replace RIs20:=rk RIs20 F6 (by decide) hk
   replace RDs22:=rk RDs22 F6 (by decide) hk
   replace HI:=his HI F6 (by decide) hk
   replace KK:=kks KK M6 hk
   replace F6:=G
   clear hk y0 z0 y1 z1 y2 z2 y3 z3 y4 z4 y5 z5
   refine hK.out _ _ F5.out (fun hHeld=>?_)
   clear hK K
   refine done_ (done_of HT_.out (by kernel_rfl)) ?_
   clear c5_0 c5_1
   obtain ⟨c5_0,c5_1⟩:=cs2 F5
   obtain ⟨c6_0,c6_1,c6_2,c6_3,c6_4,c6_5⟩:=cs6 F6)
  go_upto_if 26 with (first
   | (go_at_call 104;(with_reducible refine cg1 (spec_l20Rd_pick.D 5 w _ g bs ps22 HI.out B.out HC.out (by omega) (by omega)) fun x151 p151 hx151 hp151 w151 hk B HI2=>?_);replace F4:=bkr F4 HI (by decide) hk;replace F5:=bkr F5 HI (by decide) hk;replace F6:=bkr F6 HI (by decide) hk;replace RIs20:=rkr RIs20 HI (by decide) hk;replace RDs22:=rkr RDs22 HI (by decide) hk;replace KK:=kkr KK hk;replace HI:=HI2;clear hk;clear c5_0 c5_1;obtain ⟨c5_0,c5_1⟩:=cs2 F5;clear c6_0 c6_1 c6_2 c6_3 c6_4 c6_5;obtain ⟨c6_0,c6_1,c6_2,c6_3,c6_4,c6_5⟩:=cs6 F6;skip))
  go_cut [6] (fun v6 wc=>∃ (tb : Bool) (ct : ByteArray) (pp : Int),v6=.pointer (some ⟨g6,0,none⟩)∧(p≤pp∧pp≤p + 300)∧Aside0 (wc.heap[g6]?=some (.cells #[.string va,.string vb,.slice AIs20 zIs20.length kIs20,.slice ADs22 zDs22.length kDs22,.bool tb,.string ct] 38 (0,0)))∧Aside0 (wc.heap[g4]?=some (.cells #[.string (⟨#[]⟩ : ByteArray),.string (⟨#[]⟩ : ByteArray),.slice none 0 0,.slice none 0 0,.bool false,.string (⟨#[]⟩ : ByteArray)] 38 (0,0)))∧Aside0 (Ow k105 105 wc w.heap.size (.slice AIs20 zIs20.length kIs20) zIs20)∧Aside0 (Ow k76 76 wc w.heap.size (.slice ADs22 zDs22.length kDs22) zDs22)∧Aside0 (IsS133 w wc g bs pp)∧Aside0 (Kept W0 wc (RB g))∧Aside0 (Below w.heap.size w wc))
  case first =>
   go_wp2_with (first
    | ((with_reducible refine gate_store (t:=4) (p:=27) rfl ?_);obtain ⟨y0,y1,y2,y3,y4,y5,z0,z1,z2,z3,z4,z5⟩:=cz6 F6;refine sxq 38 4 27 4 [.bool true] [.string va,.string vb,.slice AIs20 zIs20.length kIs20,.slice ADs22 zDs22.length kDs22,.bool true,.string (⟨#[]⟩ : ByteArray)] B F6 L6 fun w201 hk B G=>?_;replace F4:=bk F4 hk N4_6.out;replace F5:=bk F5 hk N5_6.out;replace RIs20:=rk RIs20 F6 (by decide) hk;replace RDs22:=rk RDs22 F6 (by decide) hk;replace HI:=his HI F6 (by decide) hk;replace KK:=kks KK M6 hk;replace F6:=G;clear c5_0 c5_1;obtain ⟨c5_0,c5_1⟩:=cs2 F5;clear c6_0 c6_1 c6_2 c6_3 c6_4 c6_5;obtain ⟨c6_0,c6_1,c6_2,c6_3,c6_4,c6_5⟩:=cs6 F6;clear hk y0 z0 y1 z1 y2 z2 y3 z3 y4 z4 y5 z5)
    | (go_at_call 41;with_reducible refine cl (spec_IntervalCut.M va vb (⟨#[99]⟩ : ByteArray) _) B fun w202 hb B=>?_;replace F4:=bn F4 hb;replace F5:=bn F5 hb;replace F6:=bn F6 hb;replace RIs20:=rn RIs20 hb;replace RDs22:=rn RDs22 hb;replace HI:=hib HI hb;replace KK:=kkb KK hb;clear c6_0 c6_1 c6_2 c6_3 c6_4 c6_5;obtain ⟨c6_0,c6_1,c6_2,c6_3,c6_4,c6_5⟩:=cs6 F6;clear hb)
    | ((with_reducible refine gate_dst (N:=7) rfl ?_);refine bxq 7 #[.string (⟨#[]⟩ : ByteArray),.string (⟨#[]⟩ : ByteArray)] 34 B fun g7 w203 hb B F7 L7 E7=>?_;have N4_7:=ne1 E7 F4;have N5_7:=ne1 E7 F5;have N6_7:=ne1 E7 F6;have M7:=mbx E7 KK;replace F4:=bn F4 hb;replace F5:=bn F5 hb;replace F6:=bn F6 hb;replace RIs20:=rn RIs20 hb;replace RDs22:=rn RDs22 hb;replace HI:=hib HI hb;replace KK:=kkb KK hb;clear c6_0 c6_1 c6_2 c6_3 c6_4 c6_5;obtain ⟨c6_0,c6_1,c6_2,c6_3,c6_4,c6_5⟩:=cs6 F6;clear hb E7)
    | ((with_reducible refine gate_dst (N:=8) rfl ?_);refine bxq 8 #[.string (⟨#[]⟩ : ByteArray),.string (⟨#[]⟩ : ByteArray)] 34 B fun g8 w204 hb B F8 L8 E8=>?_;have N4_8:=ne1 E8 F4;have N5_8:=ne1 E8 F5;have N6_8:=ne1 E8 F6;have N7_8:=ne1 E8 F7;have M8:=mbx E8 KK;replace F4:=bn F4 hb;replace F5:=bn F5 hb;replace F6:=bn F6 hb;replace F7:=bn F7 hb;replace RIs20:=rn RIs20 hb;replace RDs22:=rn RDs22 hb;replace HI:=hib HI hb;replace KK:=kkb KK hb;clear c6_0 c6_1 c6_2 c6_3 c6_4 c6_5;obtain ⟨c6_0,c6_1,c6_2,c6_3,c6_4,c6_5⟩:=cs6 F6;clear hb E8)
    | ((with_reducible refine gate_store (t:=34) (p:=7) rfl ?_);obtain ⟨y0,y1,z0,z1⟩:=cz2 F7;refine sxq 34 34 7 0 [.string (cutV va vb (⟨#[99]⟩ : ByteArray)).1,.string (cutV va vb (⟨#[99]⟩ : ByteArray)).2.1] [.string (cutV va vb (⟨#[99]⟩ : ByteArray)).1,.string (cutV va vb (⟨#[99]⟩ : ByteArray)).2.1] B F7 L7 fun w205 hk B G=>?_;replace F4:=bk F4 hk N4_7.out;replace F5:=bk F5 hk N5_7.out;replace F6:=bk F6 hk N6_7.out;replace F8:=bk F8 hk N7_8.out.symm;replace RIs20:=rk RIs20 F7 (by decide) hk;replace RDs22:=rk RDs22 F7 (by decide) hk;replace HI:=his HI F7 (by decide) hk;replace KK:=kks KK M7 hk;replace F7:=G;clear c6_0 c6_1 c6_2 c6_3 c6_4 c6_5;obtain ⟨c6_0,c6_1,c6_2,c6_3,c6_4,c6_5⟩:=cs6 F6;clear hk y0 z0 y1 z1)
    | ((with_reducible refine gate_store (t:=34) (p:=8) rfl ?_);obtain ⟨y0,y1,z0,z1⟩:=cz2 F8;refine sxq 34 34 8 0 [.string (cutV va vb (⟨#[99]⟩ : ByteArray)).2.2.1,.string (cutV va vb (⟨#[99]⟩ : ByteArray)).2.2.2.1] [.string (cutV va vb (⟨#[99]⟩ : ByteArray)).2.2.1,.string (cutV va vb (⟨#[99]⟩ : ByteArray)).2.2.2.1] B F8 L8 fun w206 hk B G=>?_;replace F4:=bk F4 hk N4_8.out;replace F5:=bk F5 hk N5_8.out;replace F6:=bk F6 hk N6_8.out;replace RIs20:=rk RIs20 F8 (by decide) hk;replace RDs22:=rk RDs22 F8 (by decide) hk;replace HI:=his HI F8 (by decide) hk;replace KK:=kks KK M8 hk;replace F8:=G;clear c6_0 c6_1 c6_2 c6_3 c6_4 c6_5;obtain ⟨c6_0,c6_1,c6_2,c6_3,c6_4,c6_5⟩:=cs6 F6;clear hk y0 z0 y1 z1)
    | (go_at_call 104;(with_reducible refine cg1 (spec_l20Rd_pick.D 2 w _ g bs p151 HI.out B.out HC.out (by omega) (by omega)) fun x207 p207 hx207 hp207 w207 hk B HI2=>?_);replace F4:=bkr F4 HI (by decide) hk;replace F5:=bkr F5 HI (by decide) hk;replace F6:=bkr F6 HI (by decide) hk;replace RIs20:=rkr RIs20 HI (by decide) hk;replace RDs22:=rkr RDs22 HI (by decide) hk;replace KK:=kkr KK hk;replace HI:=HI2;clear hk;clear c6_0 c6_1 c6_2 c6_3 c6_4 c6_5;obtain ⟨c6_0,c6_1,c6_2,c6_3,c6_4,c6_5⟩:=cs6 F6;skip)
    | ((with_reducible refine gate_store (t:=9) (p:=40) rfl ?_);obtain ⟨y0,y1,y2,y3,y4,y5,z0,z1,z2,z3,z4,z5⟩:=cz6 F6;refine sxq 38 9 40 5 [.string (⟨#[99]⟩ : ByteArray)] [.string va,.string vb,.slice AIs20 zIs20.length kIs20,.slice ADs22 zDs22.length kDs22,.bool true,.string (⟨#[99]⟩ : ByteArray)] B F6 L6 fun w208 hk B G=>?_;replace F4:=bk F4 hk N4_6.out;replace F5:=bk F5 hk N5_6.out;replace RIs20:=rk RIs20 F6 (by decide) hk;replace RDs22:=rk RDs22 F6 (by decide) hk;replace HI:=his HI F6 (by decide) hk;replace KK:=kks KK M6 hk;replace F6:=G;clear c6_0 c6_1 c6_2 c6_3 c6_4 c6_5;obtain ⟨c6_0,c6_1,c6_2,c6_3,c6_4,c6_5⟩:=cs6 F6;clear hk y0 z0 y1 z1 y2 z2 y3 z3 y4 z4 y5 z5))
   all_goals (go_meet;(case rel=>exact ⟨_,_,_,rfl,by omega,F6,F4,RIs20,RDs22,HI,KK,B⟩))
  case rest =>
   clear B HI KK F4 F5 F6 RIs20 RDs22
   obtain ⟨tb,ct,pp,rfl,hpp,F6,F4,RIs20,RDs22,HI,KK,B⟩:=hcut
   obtain ⟨c4_0,c4_1,c4_2,c4_3,c4_4,c4_5⟩:=cs6 F4
   obtain ⟨c6_0,c6_1,c6_2,c6_3,c6_4,c6_5⟩:=cs6 F6
   go_upto_if 43 with (first
    | (go_at_call 108;(with_reducible refine cg1 (spec_l20Rd_odd.D n (by omega) w _ g bs pp HI.out B.out HC.out (by omega) (by omega)) fun x301 p301 hx301 hp301 w301 hk B HI2=>?_);replace F4:=bkr F4 HI (by decide) hk;replace F6:=bkr F6 HI (by decide) hk;replace RIs20:=rkr RIs20 HI (by decide) hk;replace RDs22:=rkr RDs22 HI (by decide) hk;replace KK:=kkr KK hk;replace HI:=HI2;clear hk;clear c6_0 c6_1 c6_2 c6_3 c6_4 c6_5;obtain ⟨c6_0,c6_1,c6_2,c6_3,c6_4,c6_5⟩:=cs6 F6;skip))
   go_cut [6] (fun v6 wc=>∃ (x0 x1 : ByteArray) (v2 v3 : Value) (x4 : Bool) (x5 : ByteArray) (xs : List S105) (ys : List S76) (pq : Int),v6=.pointer (some ⟨g6,0,none⟩)∧(p≤pq∧pq≤p + 900)∧(xs.length≤300∧ys.length≤300)∧Aside0 (wc.heap[g6]?=some (.cells #[.string x0,.string x1,v2,v3,.bool x4,.string x5] 38 (0,0)))∧Aside0 (wc.heap[g4]?=some (.cells #[.string (⟨#[]⟩ : ByteArray),.string (⟨#[]⟩ : ByteArray),.slice none 0 0,.slice none 0 0,.bool false,.string (⟨#[]⟩ : ByteArray)] 38 (0,0)))∧(Aside0 (Ow k105 105 wc w.heap.size (v2) xs)∧Aside0 (Fr W0 v2))∧(Aside0 (Ow k76 76 wc w.heap.size (v3) ys)∧Aside0 (Fr W0 v3))∧Aside0 (IsS133 w wc g bs pq)∧Aside0 (Kept W0 wc (RB g))∧Aside0 (Below w.heap.size w wc))
   case first =>
    go_wp2_with (first
     | (go_at_call 104;(with_reducible refine cg1 (spec_l20Rd_pick.D 5 w _ g bs p301 HI.out B.out HC.out (by omega) (by omega)) fun x351 p351 hx351 hp351 w351 hk B HI2=>?_);replace F4:=bkr F4 HI (by decide) hk;replace F6:=bkr F6 HI (by decide) hk;replace RIs20:=rkr RIs20 HI (by decide) hk;replace RDs22:=rkr RDs22 HI (by decide) hk;replace KK:=kkr KK hk;replace HI:=HI2;clear hk;clear c6_0 c6_1 c6_2 c6_3 c6_4 c6_5;obtain ⟨c6_0,c6_1,c6_2,c6_3,c6_4,c6_5⟩:=cs6 F6;skip)
     | (go_at_call 103;(with_reducible refine cg2 (spec_l20Span.D 1 (by omega) w _ g bs p351 HI.out B.out HC.out (by omega) (by omega)) fun x401 y401 p401 hx401 hp401 w401 hk B HI2=>?_);replace F4:=bkr F4 HI (by decide) hk;replace F6:=bkr F6 HI (by decide) hk;replace RIs20:=rkr RIs20 HI (by decide) hk;replace RDs22:=rkr RDs22 HI (by decide) hk;replace KK:=kkr KK hk;replace HI:=HI2;clear hk;clear c6_0 c6_1 c6_2 c6_3 c6_4 c6_5;obtain ⟨c6_0,c6_1,c6_2,c6_3,c6_4,c6_5⟩:=cs6 F6;skip)
     | ((with_reducible refine gate_store (t:=34) (p:=55) rfl ?_);obtain ⟨y0,y1,y2,y3,y4,y5,z0,z1,z2,z3,z4,z5⟩:=cz6 F6;refine sxq 38 34 55 0 [.string x401,.string y401] [.string x401,.string y401,.slice AIs20 zIs20.length kIs20,.slice ADs22 zDs22.length kDs22,.bool tb,.string ct] B F6 L6 fun w402 hk B G=>?_;replace F4:=bk F4 hk N4_6.out;replace RIs20:=rk RIs20 F6 (by decide) hk;replace RDs22:=rk RDs22 F6 (by decide) hk;replace HI:=his HI F6 (by decide) hk;replace KK:=kks KK M6 hk;replace F6:=G;clear c6_0 c6_1 c6_2 c6_3 c6_4 c6_5;obtain ⟨c6_0,c6_1,c6_2,c6_3,c6_4,c6_5⟩:=cs6 F6;clear hk y0 z0 y1 z1 y2 z2 y3 z3 y4 z4 y5 z5)
     | (go_at_call 106;(with_reducible refine cgr (spec_l20Pairs.D 1 (by omega) w _ g bs p351 HI.out B.out HC.out (by omega) (by omega)) fun zD451 AD451 kD451 p451 hx451 hp451 w451 hk B HI2 RD451 QD451=>?_);have DIs20_D451:=fr QD451 RIs20;have DDs22_D451:=fr QD451 RDs22;have MRD451:=mrf QD451 KK;replace F4:=bkr F4 HI (by decide) hk;replace F6:=bkr F6 HI (by decide) hk;replace RIs20:=rkr RIs20 HI (by decide) hk;replace RDs22:=rkr RDs22 HI (by decide) hk;replace KK:=kkr KK hk;replace HI:=HI2;clear hk QD451;clear c6_0 c6_1 c6_2 c6_3 c6_4 c6_5;obtain ⟨c6_0,c6_1,c6_2,c6_3,c6_4,c6_5⟩:=cs6 F6;skip)
     | ((with_reducible refine gate_store (t:=35) (p:=60) rfl ?_);obtain ⟨y0,y1,y2,y3,y4,y5,z0,z1,z2,z3,z4,z5⟩:=cz6 F6;refine sxq 38 35 60 2 [.slice AD451 zD451.length kD451] [.string va,.string vb,.slice AD451 zD451.length kD451,.slice ADs22 zDs22.length kDs22,.bool tb,.string ct] B F6 L6 fun w452 hk B G=>?_;replace F4:=bk F4 hk N4_6.out;replace RIs20:=rk RIs20 F6 (by decide) hk;replace RDs22:=rk RDs22 F6 (by decide) hk;replace RD451:=rk RD451 F6 (by decide) hk;replace HI:=his HI F6 (by decide) hk;replace KK:=kks KK M6 hk;replace F6:=G;clear c6_0 c6_1 c6_2 c6_3 c6_4 c6_5;obtain ⟨c6_0,c6_1,c6_2,c6_3,c6_4,c6_5⟩:=cs6 F6;clear hk y0 z0 y1 z1 y2 z2 y3 z3 y4 z4 y5 z5)
     | (go_at_call 107;(with_reducible refine cgr (spec_l20Sessions.D 1 (by omega) w _ g bs p351 HI.out B.out HC.out (by omega) (by omega)) fun zD501 AD501 kD501 p501 hx501 hp501 w501 hk B HI2 RD501 QD501=>?_);have DIs20_D501:=fr QD501 RIs20;have DDs22_D501:=fr QD501 RDs22;have MRD501:=mrf QD501 KK;replace F4:=bkr F4 HI (by decide) hk;replace F6:=bkr F6 HI (by decide) hk;replace RIs20:=rkr RIs20 HI (by decide) hk;replace RDs22:=rkr RDs22 HI (by decide) hk;replace KK:=kkr KK hk;replace HI:=HI2;clear hk QD501;clear c6_0 c6_1 c6_2 c6_3 c6_4 c6_5;obtain ⟨c6_0,c6_1,c6_2,c6_3,c6_4,c6_5⟩:=cs6 F6;skip)
     | ((with_reducible refine gate_store (t:=36) (p:=65) rfl ?_);obtain ⟨y0,y1,y2,y3,y4,y5,z0,z1,z2,z3,z4,z5⟩:=cz6 F6;refine sxq 38 36 65 3 [.slice AD501 zD501.length kD501] [.string va,.string vb,.slice AIs20 zIs20.length kIs20,.slice AD501 zD501.length kD501,.bool tb,.string ct] B F6 L6 fun w502 hk B G=>?_;replace F4:=bk F4 hk N4_6.out;replace RIs20:=rk RIs20 F6 (by decide) hk;replace RDs22:=rk RDs22 F6 (by decide) hk;replace RD501:=rk RD501 F6 (by decide) hk;replace HI:=his HI F6 (by decide) hk;replace KK:=kks KK M6 hk;replace F6:=G;clear c6_0 c6_1 c6_2 c6_3 c6_4 c6_5;obtain ⟨c6_0,c6_1,c6_2,c6_3,c6_4,c6_5⟩:=cs6 F6;clear hk y0 z0 y1 z1 y2 z2 y3 z3 y4 z4 y5 z5)
     | ((with_reducible refine gate_store (t:=9) (p:=68) rfl ?_);obtain ⟨y0,y1,y2,y3,y4,y5,z0,z1,z2,z3,z4,z5⟩:=cz6 F6;refine sxq 38 9 68 5 [.string (⟨#[98]⟩ : ByteArray)] [.string va,.string vb,.slice AIs20 zIs20.length kIs20,.slice ADs22 zDs22.length kDs22,.bool tb,.string (⟨#[98]⟩ : ByteArray)] B F6 L6 fun w551 hk B G=>?_;replace F4:=bk F4 hk N4_6.out;replace RIs20:=rk RIs20 F6 (by decide) hk;replace RDs22:=rk RDs22 F6 (by decide) hk;replace HI:=his HI F6 (by decide) hk;replace KK:=kks KK M6 hk;replace F6:=G;clear c6_0 c6_1 c6_2 c6_3 c6_4 c6_5;obtain ⟨c6_0,c6_1,c6_2,c6_3,c6_4,c6_5⟩:=cs6 F6;clear hk y0 z0 y1 z1 y2 z2 y3 z3 y4 z4 y5 z5)
     | ((with_reducible refine gate_store (t:=4) (p:=69) rfl ?_);obtain ⟨y0,y1,y2,y3,y4,y5,z0,z1,z2,z3,z4,z5⟩:=cz6 F6;refine sxq 38 4 69 4 [.bool false] [.string va,.string vb,.slice AIs20 zIs20.length kIs20,.slice ADs22 zDs22.length kDs22,.bool false,.string (⟨#[98]⟩ : ByteArray)] B F6 L6 fun w552 hk B G=>?_;replace F4:=bk F4 hk N4_6.out;replace RIs20:=rk RIs20 F6 (by decide) hk;replace RDs22:=rk RDs22 F6 (by decide) hk;replace HI:=his HI F6 (by decide) hk;replace KK:=kks KK M6 hk;replace F6:=G;clear c6_0 c6_1 c6_2 c6_3 c6_4 c6_5;obtain ⟨c6_0,c6_1,c6_2,c6_3,c6_4,c6_5⟩:=cs6 F6;clear hk y0 z0 y1 z1 y2 z2 y3 z3 y4 z4 y5 z5)
     | ((with_reducible refine gate_store (t:=34) (p:=47) rfl ?_);obtain ⟨y0,y1,y2,y3,y4,y5,z0,z1,z2,z3,z4,z5⟩:=cz6 F6;refine sxq 38 34 47 0 [.string (⟨#[109]⟩ : ByteArray),.string (⟨#[110]⟩ : ByteArray)] [.string (⟨#[109]⟩ : ByteArray),.string (⟨#[110]⟩ : ByteArray),.slice AIs20 zIs20.length kIs20,.slice ADs22 zDs22.length kDs22,.bool tb,.string ct] B F6 L6 fun w601 hk B G=>?_;replace F4:=bk F4 hk N4_6.out;replace RIs20:=rk RIs20 F6 (by decide) hk;replace RDs22:=rk RDs22 F6 (by decide) hk;replace HI:=his HI F6 (by decide) hk;replace KK:=kks KK M6 hk;replace F6:=G;clear c6_0 c6_1 c6_2 c6_3 c6_4 c6_5;obtain ⟨c6_0,c6_1,c6_2,c6_3,c6_4,c6_5⟩:=cs6 F6;clear hk y0 z0 y1 z1 y2 z2 y3 z3 y4 z4 y5 z5)
     | ((with_reducible refine gate_dst (N:=49) rfl ?_);refine lt k105 105 ?hg (N:=49) ?hd ([⟨(⟨#[110]⟩ : ByteArray),1⟩] : List S105) [.string (⟨#[110]⟩ : ByteArray),.int .i64 (1)] ?hr (Reps.c2 (k105_mkM _ _ _ ⟨(⟨#[110]⟩ : ByteArray),1⟩) (Reps.none _ _)) (by simp) B ?_;(case hd | hg=>rfl);(case hr=>go_simp;first | done | rfl);intro z49 hz49 AL49 kL49 w602 hb B RL49 QL49;have DIs20_L49:=fr QL49 RIs20;have DDs22_L49:=fr QL49 RDs22;have MRL49:=mrf QL49 KK;replace F4:=bn F4 hb;replace F6:=bn F6 hb;replace RIs20:=rn RIs20 hb;replace RDs22:=rn RDs22 hb;replace HI:=hib HI hb;replace KK:=kkb KK hb;clear c6_0 c6_1 c6_2 c6_3 c6_4 c6_5;obtain ⟨c6_0,c6_1,c6_2,c6_3,c6_4,c6_5⟩:=cs6 F6;clear hb QL49)
     | ((with_reducible refine gate_store (t:=35) (p:=50) rfl ?_);obtain ⟨y0,y1,y2,y3,y4,y5,z0,z1,z2,z3,z4,z5⟩:=cz6 F6;refine sxq 38 35 50 2 [.slice AL49 z49.length kL49] [.string (⟨#[109]⟩ : ByteArray),.string (⟨#[110]⟩ : ByteArray),.slice AL49 z49.length kL49,.slice ADs22 zDs22.length kDs22,.bool tb,.string ct] B F6 L6 fun w603 hk B G=>?_;replace F4:=bk F4 hk N4_6.out;replace RIs20:=rk RIs20 F6 (by decide) hk;replace RDs22:=rk RDs22 F6 (by decide) hk;replace RL49:=rk RL49 F6 (by decide) hk;replace HI:=his HI F6 (by decide) hk;replace KK:=kks KK M6 hk;replace F6:=G;clear c6_0 c6_1 c6_2 c6_3 c6_4 c6_5;obtain ⟨c6_0,c6_1,c6_2,c6_3,c6_4,c6_5⟩:=cs6 F6;clear hk y0 z0 y1 z1 y2 z2 y3 z3 y4 z4 y5 z5))
    all_goals (go_meet;(case rel=>first
     | exact ⟨_,_,_,_,_,_,_,_,_,rfl,by omega,⟨hlIs20,hlDs22⟩,F6,F4,⟨RIs20,MRIs20⟩,⟨RDs22,MRDs22⟩,HI,KK,B⟩
     | exact ⟨_,_,_,_,_,_,_,_,_,rfl,by omega,⟨hx451,hlDs22⟩,F6,F4,⟨RD451,MRD451⟩,⟨RDs22,MRDs22⟩,HI,KK,B⟩
     | exact ⟨_,_,_,_,_,_,_,_,_,rfl,by omega,⟨hlIs20,hx501⟩,F6,F4,⟨RIs20,MRIs20⟩,⟨RD501,MRD501⟩,HI,KK,B⟩
     | exact ⟨_,_,_,_,_,_,_,_,_,rfl,by omega,⟨(by rw [← hz49];simp),hlDs22⟩,F6,F4,⟨RL49,MRL49⟩,⟨RDs22,MRDs22⟩,HI,KK,B⟩))
   case rest =>
    clear B HI KK F4 F6
    obtain ⟨x0,x1,v2,v3,x4,x5,xs,ys,pq,rfl,hpq,⟨hl1,hl2⟩,F6,F4,⟨RX,MRX⟩,⟨RY,MRY⟩,HI,KK,B⟩:=hcut
    obtain ⟨AX,kX,rfl⟩:=Kd.R_slice RX.out
    obtain ⟨AY,kY,rfl⟩:=Kd.R_slice RY.out
    obtain ⟨c6_0,c6_1,c6_2,c6_3,c6_4,c6_5⟩:=cs6 F6
    go_wp2_with (first
     | ((with_reducible refine gate_store (t:=38) (p:=4) rfl ?_);obtain ⟨y0,y1,y2,y3,y4,y5,z0,z1,z2,z3,z4,z5⟩:=cz6 F4;refine sxq 38 38 4 0 [.string x0,.string x1,.slice AX xs.length kX,.slice AY ys.length kY,.bool x4,.string x5] [.string x0,.string x1,.slice AX xs.length kX,.slice AY ys.length kY,.bool x4,.string x5] B F4 L4 fun w701 hk B G=>?_;replace F6:=bk F6 hk N4_6.out.symm;replace RX:=rk RX F4 (by decide) hk;replace RY:=rk RY F4 (by decide) hk;replace HI:=his HI F4 (by decide) hk;replace KK:=kks KK M4 hk;replace F4:=G;clear hk y0 z0 y1 z1 y2 z2 y3 z3 y4 z4 y5 z5))
    try (refine bodyPost_ret (results_single rfl (.cell g4 38 _ (0,0) _ rfl F4.out hu rfl (by kernel_rfl) .nil)) rfl ?_)
    exact ⟨_,_,_,_,_,_,_,_,_,rfl,⟨hl1,hl2⟩,⟨RX.out,MRX.out⟩,⟨RY.out,MRY.out⟩,⟨by omega,by omega⟩,HI.out,B.out,KK.out⟩

/-! Calls with the reader that give commands and entries. -/
section
variable {P : Program} {F : FuncId} {args : Array Value} {w W : World} {g : Nat} {bs : List Int} {p N : Int} {Q : Ending→World→Prop} {α β τ σ μ ν : Type}
theorem cg4 {f : α→β→τ→σ→Value} {q : α→β→τ→σ→Prop} (c : Calls P F args W fun e w'=>∃ x y z u p',e=.returned (f x y z u)∧q x y z u∧Left w W g bs p N p' w')
    (h : ∀ x y z u p',q x y z u→(p≤p'∧p'≤p + N)→∀ W',Kept W W' (RB g)→Aside0 (Below w.heap.size w W')→Aside0 (IsS133 w W' g bs p')→Q (.returned (f x y z u)) W') : Calls P F args W Q :=
  c.mono (by rintro e W' ⟨x,y,z,u,p',rfl,hq,hp,hi,hb,hk⟩;exact h x y z u p' hq hp W' hk ⟨hb⟩ ⟨hi⟩)
theorem cg6 {f : α→β→τ→σ→μ→ν→Value} {q : α→β→τ→σ→μ→ν→Prop} (c : Calls P F args W fun e w'=>∃ x y z u v o p',e=.returned (f x y z u v o)∧q x y z u v o∧Left w W g bs p N p' w')
    (h : ∀ x y z u v o p',q x y z u v o→(p≤p'∧p'≤p + N)→∀ W',Kept W W' (RB g)→Aside0 (Below w.heap.size w W')→Aside0 (IsS133 w W' g bs p')→Q (.returned (f x y z u v o)) W') : Calls P F args W Q :=
  c.mono (by rintro e W' ⟨x,y,z,u,v,o,p',rfl,hq,hp,hi,hb,hk⟩;exact h x y z u v o p' hq hp W' hk ⟨hb⟩ ⟨hi⟩)
variable {ops' : Array Oper} {o : Oper} {a : Act} {QE : Exit→Act→World→Prop} {Kc : Act→World→Prop}
/-- an element that is read in a region that draws its order -/
theorem lds {N : Tmp} {v : Value} (h : Kc (a.put (some N) v) W) (hw : Region.wanted o (yielded ops' a.tmps)=true:=by rfl) (hd : o.dst=some N:=by exact rfl) (hrun : (execOp a.eval o).run P W=.ok (.value v) W:=by go_simp;first | done | rfl) :
    if Region.wanted o (yielded ops' a.tmps)=true then Oper.wp P o a W Kc QE else Kc (a.put (some N) undef) W:=value_ hw hd hrun h
end

theorem spec_l20Cmd.D (n : Int) (hn : n≤1000000) (w W0 : World) (g : Nat) (bs : List Int) (p : Int) (hI : IsS133 w W0 g bs p) (hB : Below w.heap.size w W0) (hc : Dw.Code bs) (h0 : 0≤p) (h1 : p≤1099505000000) :
  Calls Try.prog 115 #[.pointer (some ⟨g,0,none⟩),.int .i64 n] W0 fun e w'=>∃ x y u z p',e=.returned (.agg #[.int .i64 x,.string y,.int .i64 u,.int .i64 z])∧(True)∧Left w W0 g bs p 20 p' w':=by
 have hu:=Try.underlying42
 have B:=Aside0.mk hB
 have HI:=Aside0.mk hI
 have HC:=Aside0.mk hc
 have KK:=Aside0.mk (Kept.refl W0 (RB g))
 clear hB hI hc
 go_enter Try.func115,Try.ntmps115
 go_wp2_with (first
  | ((with_reducible refine gate_dst (N:=4) rfl ?_);refine bxq 4 #[.int .i64 (0),.string (⟨#[]⟩ : ByteArray),.int .i64 (0),.int .i64 (0)] 42 B fun g4 w1 hb B F4 L4 E4=>?_;have M4:=mbx E4 KK;replace HI:=hib HI hb;replace KK:=kkb KK hb;clear hb E4)
  | (go_at_call 108;(with_reducible refine cg1 (spec_l20Rd_odd.D n (by omega) w _ g bs p HI.out B.out HC.out (by omega) (by omega)) fun x2 p2 hx2 hp2 w2 hk B HI2=>?_);replace F4:=bkr F4 HI (by decide) hk;replace KK:=kkr KK hk;replace HI:=HI2;clear hk;skip)
  | ((with_reducible refine gate_dst (N:=19) rfl ?_);refine lt k42 42 ?hg (N:=19) ?hd ([⟨0,(⟨#[]⟩ : ByteArray),0,0⟩,⟨1,(⟨#[]⟩ : ByteArray),0,0⟩,⟨1,(⟨#[98]⟩ : ByteArray),1,0⟩,⟨2,(⟨#[98]⟩ : ByteArray),1000,0⟩,⟨2,(⟨#[98]⟩ : ByteArray),0,1⟩,⟨4,(⟨#[98]⟩ : ByteArray),0,-2⟩,⟨4,(⟨#[98]⟩ : ByteArray),-1,0⟩,⟨6,(⟨#[98]⟩ : ByteArray),0,0⟩,⟨3,(⟨#[65]⟩ : ByteArray),0,0⟩,⟨5,(⟨#[98,49]⟩ : ByteArray),0,0⟩] : List S42) [.int .i64 (0),.string (⟨#[]⟩ : ByteArray),.int .i64 (0),.int .i64 (0),.int .i64 (1),.string (⟨#[]⟩ : ByteArray),.int .i64 (0),.int .i64 (0),.int .i64 (1),.string (⟨#[98]⟩ : ByteArray),.int .i64 (1),.int .i64 (0),.int .i64 (2),.string (⟨#[98]⟩ : ByteArray),.int .i64 (1000),.int .i64 (0),.int .i64 (2),.string (⟨#[98]⟩ : ByteArray),.int .i64 (0),.int .i64 (1),.int .i64 (4),.string (⟨#[98]⟩ : ByteArray),.int .i64 (0),.int .i64 (-2),.int .i64 (4),.string (⟨#[98]⟩ : ByteArray),.int .i64 (-1),.int .i64 (0),.int .i64 (6),.string (⟨#[98]⟩ : ByteArray),.int .i64 (0),.int .i64 (0),.int .i64 (3),.string (⟨#[65]⟩ : ByteArray),.int .i64 (0),.int .i64 (0),.int .i64 (5),.string (⟨#[98,49]⟩ : ByteArray),.int .i64 (0),.int .i64 (0)] ?hr (Reps.c4 (k42_mkM _ _ _ ⟨0,(⟨#[]⟩ : ByteArray),0,0⟩) (Reps.c4 (k42_mkM _ _ _ ⟨1,(⟨#[]⟩ : ByteArray),0,0⟩) (Reps.c4 (k42_mkM _ _ _ ⟨1,(⟨#[98]⟩ : ByteArray),1,0⟩) (Reps.c4 (k42_mkM _ _ _ ⟨2,(⟨#[98]⟩ : ByteArray),1000,0⟩) (Reps.c4 (k42_mkM _ _ _ ⟨2,(⟨#[98]⟩ : ByteArray),0,1⟩) (Reps.c4 (k42_mkM _ _ _ ⟨4,(⟨#[98]⟩ : ByteArray),0,-2⟩) (Reps.c4 (k42_mkM _ _ _ ⟨4,(⟨#[98]⟩ : ByteArray),-1,0⟩) (Reps.c4 (k42_mkM _ _ _ ⟨6,(⟨#[98]⟩ : ByteArray),0,0⟩) (Reps.c4 (k42_mkM _ _ _ ⟨3,(⟨#[65]⟩ : ByteArray),0,0⟩) (Reps.c4 (k42_mkM _ _ _ ⟨5,(⟨#[98,49]⟩ : ByteArray),0,0⟩) (Reps.none _ _))))))))))) (by simp) B ?_;(case hd | hg=>rfl);(case hr=>go_simp;first | done | rfl);intro z19 hz19 AL19 kL19 w51 hb B RL19 QL19;have NB4_L19:=nb QL19 F4;have MRL19:=mrf QL19 KK;replace F4:=bn F4 hb;replace HI:=hib HI hb;replace KK:=kkb KK hb;clear hb QL19)
  | (go_at_call 104;(with_reducible refine cg1 (spec_l20Rd_pick.D 10 w _ g bs p2 HI.out B.out HC.out (by omega) (by omega)) fun x52 p52 hx52 hp52 w52 hk B HI2=>?_);replace F4:=bkr F4 HI (by decide) hk;replace RL19:=rkr RL19 HI (by decide) hk;replace KK:=kkr KK hk;replace HI:=HI2;clear hk;skip;have hi52 : x52 < (z19.length : Int):=(by rw [← hz19];have:=hx52.2.1 (by omega);simpa using this);obtain ⟨ad52,hA52,y52_0,y52_1,y52_2,y52_3⟩:=at_T42 (rc RL19) x52 hx52.1 hi52;have hj52:=hx52.1;generalize rd_T42 z19 x52=y52 at *;cases hA52;have j52:=eq_true hj52;have i52:=eq_true hi52)
  | ((with_reducible refine gate_store (t:=42) (p:=4) rfl ?_);obtain ⟨y0,y1,y2,y3,z0,z1,z2,z3⟩:=cz4 F4;refine sxq 42 42 4 0 [.int .i64 (y52.f0),.string y52.f1,.int .i64 (y52.f2),.int .i64 (y52.f3)] [.int .i64 (y52.f0),.string y52.f1,.int .i64 (y52.f2),.int .i64 (y52.f3)] B F4 L4 fun w53 hk B G=>?_;replace RL19:=rkn RL19 hk NB4_L19;replace HI:=his HI F4 (by decide) hk;replace KK:=kks KK M4 hk;replace F4:=G;clear hk y0 z0 y1 z1 y2 z2 y3 z3)
  | (go_at_call 120;(with_reducible refine cg1 (spec_l20Key.D 0 (by omega) w _ g bs p2 HI.out B.out HC.out (by omega) (by omega)) fun x101 p101 hx101 hp101 w101 hk B HI2=>?_);replace F4:=bkr F4 HI (by decide) hk;replace KK:=kkr KK hk;replace HI:=HI2;clear hk;skip)
  | (go_at_call 104;(with_reducible refine cg1 (spec_l20Rd_pick.D 2 w _ g bs p101 HI.out B.out HC.out (by omega) (by omega)) fun x102 p102 hx102 hp102 w102 hk B HI2=>?_);replace F4:=bkr F4 HI (by decide) hk;replace KK:=kkr KK hk;replace HI:=HI2;clear hk;skip)
  | ((with_reducible refine gate_dst (N:=29) rfl ?_);refine lt Kd.string 9 ?hg (N:=29) ?hd ([((⟨#[98]⟩ : ByteArray)),((⟨#[99]⟩ : ByteArray)),((⟨#[100]⟩ : ByteArray)),((⟨#[109]⟩ : ByteArray))] : List ByteArray) [.string (⟨#[98]⟩ : ByteArray),.string (⟨#[99]⟩ : ByteArray),.string (⟨#[100]⟩ : ByteArray),.string (⟨#[109]⟩ : ByteArray)] ?hr (Reps.one (show Kd.M Kd.string _ _ _ ((⟨#[98]⟩ : ByteArray)) [.string (⟨#[98]⟩ : ByteArray)] from rfl) (Reps.one (show Kd.M Kd.string _ _ _ ((⟨#[99]⟩ : ByteArray)) [.string (⟨#[99]⟩ : ByteArray)] from rfl) (Reps.one (show Kd.M Kd.string _ _ _ ((⟨#[100]⟩ : ByteArray)) [.string (⟨#[100]⟩ : ByteArray)] from rfl) (Reps.one (show Kd.M Kd.string _ _ _ ((⟨#[109]⟩ : ByteArray)) [.string (⟨#[109]⟩ : ByteArray)] from rfl) (Reps.none _ _))))) (by simp) B ?_;(case hd | hg=>rfl);(case hr=>go_simp;first | done | rfl);intro z29 hz29 AL29 kL29 w101 hb B RL29 QL29;have MRL29:=mrf QL29 KK;replace F4:=bn F4 hb;replace HI:=hib HI hb;replace KK:=kkb KK hb;clear hb QL29)
  | (go_at_call 104;(with_reducible refine cg1 (spec_l20Rd_pick.D 4 w _ g bs p102 HI.out B.out HC.out (by omega) (by omega)) fun x102 p102 hx102 hp102 w102 hk B HI2=>?_);replace F4:=bkr F4 HI (by decide) hk;replace RL29:=rkr RL29 HI (by decide) hk;replace KK:=kkr KK hk;replace HI:=HI2;clear hk;skip;have hi102 : x102 < (z29.length : Int):=(by rw [← hz29];have:=hx102.2.1 (by omega);simpa using this);obtain ⟨ad102,hA102,y102⟩:=Kd.at_string (rc RL29) x102 hx102.1 hi102;have hj102:=hx102.1;generalize rdOf ByteArray.empty z29 x102=x101 at *;cases hA102;have j102:=eq_true hj102;have i102:=eq_true hi102)
  | (go_at_call 104;(with_reducible refine cg1 (spec_l20Rd_pick.D 8 w _ g bs p102 HI.out B.out HC.out (by omega) (by omega)) fun x201 p201 hx201 hp201 w201 hk B HI2=>?_);replace F4:=bkr F4 HI (by decide) hk;replace KK:=kkr KK hk;replace HI:=HI2;clear hk;skip)
  | ((with_reducible refine gate_store (t:=42) (p:=4) rfl ?_);obtain ⟨y0,y1,y2,y3,z0,z1,z2,z3⟩:=cz4 F4;refine sxq 42 42 4 0 [.int .i64 (1),.string x101,.int .i64 (0),.int .i64 (0)] [.int .i64 (1),.string x101,.int .i64 (0),.int .i64 (0)] B F4 L4 fun w251 hk B G=>?_;replace HI:=his HI F4 (by decide) hk;replace KK:=kks KK M4 hk;replace F4:=G;clear hk y0 z0 y1 z1 y2 z2 y3 z3)
  | ((with_reducible refine gate_store (t:=42) (p:=4) rfl ?_);obtain ⟨y0,y1,y2,y3,z0,z1,z2,z3⟩:=cz4 F4;refine sxq 42 42 4 0 [.int .i64 (3),.string x101,.int .i64 (0),.int .i64 (0)] [.int .i64 (3),.string x101,.int .i64 (0),.int .i64 (0)] B F4 L4 fun w301 hk B G=>?_;replace HI:=his HI F4 (by decide) hk;replace KK:=kks KK M4 hk;replace F4:=G;clear hk y0 z0 y1 z1 y2 z2 y3 z3)
  | (go_at_call 104;(with_reducible refine cg1 (spec_l20Rd_pick.D 5 w _ g bs p201 HI.out B.out HC.out (by omega) (by omega)) fun x351 p351 hx351 hp351 w351 hk B HI2=>?_);replace F4:=bkr F4 HI (by decide) hk;replace KK:=kkr KK hk;replace HI:=HI2;clear hk;skip)
  | (go_at_call 104;(with_reducible refine cg1 (spec_l20Rd_pick.D 5 w _ g bs p351 HI.out B.out HC.out (by omega) (by omega)) fun x352 p352 hx352 hp352 w352 hk B HI2=>?_);replace F4:=bkr F4 HI (by decide) hk;replace KK:=kkr KK hk;replace HI:=HI2;clear hk;skip)
  | ((with_reducible refine gate_store (t:=42) (p:=4) rfl ?_);obtain ⟨y0,y1,y2,y3,z0,z1,z2,z3⟩:=cz4 F4;refine sxq 42 42 4 0 [.int .i64 (4),.string x101,.int .i64 (x352),.int .i64 (x351 - 1)] [.int .i64 (4),.string x101,.int .i64 (x352),.int .i64 (x351 - 1)] B F4 L4 fun w353 hk B G=>?_;replace HI:=his HI F4 (by decide) hk;replace KK:=kks KK M4 hk;replace F4:=G;clear hk y0 z0 y1 z1 y2 z2 y3 z3)
  | (go_at_call 122;(with_reducible refine cg1 (spec_l20Value.D 0 (by omega) w _ g bs p201 HI.out B.out HC.out (by omega) (by omega)) fun x401 p401 hx401 hp401 w401 hk B HI2=>?_);replace F4:=bkr F4 HI (by decide) hk;replace KK:=kkr KK hk;replace HI:=HI2;clear hk;skip)
  | ((with_reducible refine gate_store (t:=42) (p:=4) rfl ?_);obtain ⟨y0,y1,y2,y3,z0,z1,z2,z3⟩:=cz4 F4;refine sxq 42 42 4 0 [.int .i64 (2),.string x101,.int .i64 (Int.tmod x401 1000),.int .i64 (0)] [.int .i64 (2),.string x101,.int .i64 (Int.tmod x401 1000),.int .i64 (0)] B F4 L4 fun w402 hk B G=>?_;replace HI:=his HI F4 (by decide) hk;replace KK:=kks KK M4 hk;replace F4:=G;clear hk y0 z0 y1 z1 y2 z2 y3 z3))
 all_goals (refine bodyPost_ret (results_single rfl (.cell g4 42 _ (0,0) _ rfl F4.out hu rfl (by kernel_rfl) .nil)) rfl ?_)
 all_goals exact ⟨_,_,_,_,_,rfl,trivial,⟨by omega,by omega⟩,HI.out,B.out,KK.out⟩
theorem spec_l20Any.D (n : Int) (hn : n≤1000000) (w W0 : World) (g : Nat) (bs : List Int) (p : Int) (hI : IsS133 w W0 g bs p) (hB : Below w.heap.size w W0) (hc : Dw.Code bs) (h0 : 0≤p) (h1 : p≤1099503000000) :
  Calls Try.prog 109 #[.pointer (some ⟨g,0,none⟩),.int .i64 n] W0 fun e w'=>∃ x y u z p',e=.returned (.agg #[.int .i64 x,.string y,.int .i64 u,.int .i64 z])∧(True)∧Left w W0 g bs p 40 p' w':=by
 have hu:=Try.underlying42
 have B:=Aside0.mk hB
 have HI:=Aside0.mk hI
 have HC:=Aside0.mk hc
 have KK:=Aside0.mk (Kept.refl W0 (RB g))
 clear hB hI hc
 go_enter Try.func109,Try.ntmps109
 go_wp2_with (first
  | ((with_reducible refine gate_dst (N:=4) rfl ?_);refine bxq 4 #[.int .i64 (0),.string (⟨#[]⟩ : ByteArray),.int .i64 (0),.int .i64 (0)] 42 B fun g4 w1 hb B F4 L4 E4=>?_;have M4:=mbx E4 KK;replace HI:=hib HI hb;replace KK:=kkb KK hb;clear hb E4)
  | (go_at_call 115;(with_reducible refine cg4 (spec_l20Cmd.D n (by omega) w _ g bs p HI.out B.out HC.out (by omega) (by omega)) fun ca2 cb2 cc2 cd2 p2 hx2 hp2 w2 hk B HI2=>?_);replace F4:=bkr F4 HI (by decide) hk;replace KK:=kkr KK hk;replace HI:=HI2;clear hk;skip)
  | ((with_reducible refine gate_dst (N:=5) rfl ?_);refine bxq 5 #[.int .i64 (0),.string (⟨#[]⟩ : ByteArray),.int .i64 (0),.int .i64 (0)] 42 B fun g5 w3 hb B F5 L5 E5=>?_;have N4_5:=ne1 E5 F4;have M5:=mbx E5 KK;replace F4:=bn F4 hb;replace HI:=hib HI hb;replace KK:=kkb KK hb;obtain ⟨c5_0,c5_1,c5_2,c5_3⟩:=cs4 F5;clear hb E5)
  | ((with_reducible refine gate_store (t:=42) (p:=5) rfl ?_);obtain ⟨y0,y1,y2,y3,z0,z1,z2,z3⟩:=cz4 F5;refine sxq 42 42 5 0 [.int .i64 (ca2),.string cb2,.int .i64 (cc2),.int .i64 (cd2)] [.int .i64 (ca2),.string cb2,.int .i64 (cc2),.int .i64 (cd2)] B F5 L5 fun w4 hk B G=>?_;replace F4:=bk F4 hk N4_5.out;replace HI:=his HI F5 (by decide) hk;replace KK:=kks KK M5 hk;replace F5:=G;clear c5_0 c5_1 c5_2 c5_3;obtain ⟨c5_0,c5_1,c5_2,c5_3⟩:=cs4 F5;clear hk y0 z0 y1 z1 y2 z2 y3 z3)
  | (go_at_call 104;(with_reducible refine cg1 (spec_l20Rd_pick.D 5 w _ g bs p2 HI.out B.out HC.out (by omega) (by omega)) fun x5 p5 hx5 hp5 w5 hk B HI2=>?_);replace F4:=bkr F4 HI (by decide) hk;replace F5:=bkr F5 HI (by decide) hk;replace KK:=kkr KK hk;replace HI:=HI2;clear hk;clear c5_0 c5_1 c5_2 c5_3;obtain ⟨c5_0,c5_1,c5_2,c5_3⟩:=cs4 F5;skip)
  | (go_at_call 120;(with_reducible refine cg1 (spec_l20Key.D 0 (by omega) w _ g bs p5 HI.out B.out HC.out (by omega) (by omega)) fun x101 p101 hx101 hp101 w101 hk B HI2=>?_);replace F4:=bkr F4 HI (by decide) hk;replace KK:=kkr KK hk;replace HI:=HI2;clear hk;skip)
  | ((with_reducible refine gate_dst (N:=14) rfl ?_);refine lt Kd.string 9 ?hg (N:=14) ?hd ([((⟨#[]⟩ : ByteArray)),((⟨#[98]⟩ : ByteArray)),((⟨#[99]⟩ : ByteArray)),(x101)] : List ByteArray) [.string (⟨#[]⟩ : ByteArray),.string (⟨#[98]⟩ : ByteArray),.string (⟨#[99]⟩ : ByteArray),.string x101] ?hr (Reps.one (show Kd.M Kd.string _ _ _ ((⟨#[]⟩ : ByteArray)) [.string (⟨#[]⟩ : ByteArray)] from rfl) (Reps.one (show Kd.M Kd.string _ _ _ ((⟨#[98]⟩ : ByteArray)) [.string (⟨#[98]⟩ : ByteArray)] from rfl) (Reps.one (show Kd.M Kd.string _ _ _ ((⟨#[99]⟩ : ByteArray)) [.string (⟨#[99]⟩ : ByteArray)] from rfl) (Reps.one (show Kd.M Kd.string _ _ _ (x101) [.string x101] from rfl) (Reps.none _ _))))) (by simp) B ?_;(case hd | hg=>rfl);(case hr=>go_simp;first | done | rfl);intro z14 hz14 AL14 kL14 w102 hb B RL14 QL14;have MRL14:=mrf QL14 KK;replace F4:=bn F4 hb;replace HI:=hib HI hb;replace KK:=kkb KK hb;clear hb QL14)
  | (go_at_call 104;(with_reducible refine cg1 (spec_l20Rd_pick.D 4 w _ g bs p101 HI.out B.out HC.out (by omega) (by omega)) fun x103 p103 hx103 hp103 w103 hk B HI2=>?_);replace F4:=bkr F4 HI (by decide) hk;replace RL14:=rkr RL14 HI (by decide) hk;replace KK:=kkr KK hk;replace HI:=HI2;clear hk;skip;have hi103 : x103 < (z14.length : Int):=(by rw [← hz14];have:=hx103.2.1 (by omega);simpa using this);obtain ⟨ad103,hA103,y103⟩:=Kd.at_string (rc RL14) x103 hx103.1 hi103;have hj103:=hx103.1;generalize rdOf ByteArray.empty z14 x103=s103 at *;cases hA103;have j103:=eq_true hj103;have i103:=eq_true hi103)
  | ((with_reducible refine gate_store (t:=42) (p:=4) rfl ?_);obtain ⟨y0,y1,y2,y3,z0,z1,z2,z3⟩:=cz4 F4;refine sxq 42 42 4 0 [.int .i64 (5),.string s103,.int .i64 (0),.int .i64 (0)] [.int .i64 (5),.string s103,.int .i64 (0),.int .i64 (0)] B F4 L4 fun w104 hk B G=>?_;replace RL14:=rk RL14 F4 (by decide) hk;replace HI:=his HI F4 (by decide) hk;replace KK:=kks KK M4 hk;replace F4:=G;clear hk y0 z0 y1 z1 y2 z2 y3 z3)
  | ((with_reducible refine gate_store (t:=42) (p:=4) rfl ?_);obtain ⟨y0,y1,y2,y3,z0,z1,z2,z3⟩:=cz4 F4;refine sxq 42 42 4 0 [.int .i64 (ca2),.string cb2,.int .i64 (cc2),.int .i64 (cd2)] [.int .i64 (ca2),.string cb2,.int .i64 (cc2),.int .i64 (cd2)] B F4 L4 fun w151 hk B G=>?_;replace HI:=his HI F4 (by decide) hk;replace KK:=kks KK M4 hk;replace F4:=G;clear hk y0 z0 y1 z1 y2 z2 y3 z3))
 all_goals (refine bodyPost_ret (results_single rfl (.cell g4 42 _ (0,0) _ rfl F4.out hu rfl (by kernel_rfl) .nil)) rfl ?_)
 all_goals exact ⟨_,_,_,_,_,rfl,trivial,⟨by omega,by omega⟩,HI.out,B.out,KK.out⟩

def spec_l20Entry.T3 : Bool × List (List Nat × List Nat):=(true,[([],[]),([],[]),([1],[1]),([2],[2]),([],[]),([4],[4]),([5],[5]),([],[]),([7],[7]),([8],[8]),([],[]),([10],[10]),([11],[11]),([],[]),([0,3,6,9,12,13],[0,3,6,9,12,13]),([],[]),([15],[15]),([14,16],[14,16]),([17],[17]),([18,16,0,1,2,3,4,5,6,7,8,9,10,11,12,13,14,15,16,17,18],[18])])
def spec_l20Entry.B3 : List Nat:=[0,0,2,6,0,16,48,0,128,384,0,1024,3072,0,16383,0,32768,131071,262143,524287]
theorem spec_l20Entry.tab3 : rtab .any (opsOf Try.f63 3)=spec_l20Entry.T3:=by kernel_rfl
theorem spec_l20Entry.bits3 : waitsOk spec_l20Entry.T3.2 spec_l20Entry.B3=true:=by kernel_rfl
theorem spec_l20Entry.D (n : Int) (hn : n≤1000000) (w W0 : World) (g : Nat) (bs : List Int) (p : Int) (hI : IsS133 w W0 g bs p) (hB : Below w.heap.size w W0) (hc : Dw.Code bs) (h0 : 0≤p) (h1 : p≤1099501000000) :
  Calls Try.prog 63 #[.pointer (some ⟨g,0,none⟩),.int .i64 n] W0 fun e w'=>∃ cl sq x y u z p',e=.returned (.agg #[.int .i64 cl,.int .i64 sq,.int .i64 x,.string y,.int .i64 u,.int .i64 z])∧(True)∧Left w W0 g bs p 50 p' w':=by
 have hu:=Try.underlying44
 have B:=Aside0.mk hB
 have HI:=Aside0.mk hI
 have HC:=Aside0.mk hc
 have KK:=Aside0.mk (Kept.refl W0 (RB g))
 clear hB hI hc
 go_enter Try.func63,Try.ntmps63
 go_wp2_with (first
  | ((with_reducible refine gate_dst (N:=4) rfl ?_);refine bxq 4 #[.int .i64 (0),.int .i64 (0),.int .i64 (0),.string (⟨#[]⟩ : ByteArray),.int .i64 (0),.int .i64 (0)] 44 B fun g4 w1 hb B F4 L4 E4=>?_;have M4:=mbx E4 KK;replace HI:=hib HI hb;replace KK:=kkb KK hb;clear hb E4)
  | (go_at_call 104;(with_reducible refine cg1 (spec_l20Rd_pick.D 4 w _ g bs p HI.out B.out HC.out (by omega) (by omega)) fun x2 p2 hx2 hp2 w2 hk B HI2=>?_);replace F4:=bkr F4 HI (by decide) hk;replace KK:=kkr KK hk;replace HI:=HI2;clear hk;skip)
  | (go_at_call 104;(with_reducible refine cg1 (spec_l20Rd_pick.D 6 w _ g bs p2 HI.out B.out HC.out (by omega) (by omega)) fun x3 p3 hx3 hp3 w3 hk B HI2=>?_);replace F4:=bkr F4 HI (by decide) hk;replace KK:=kkr KK hk;replace HI:=HI2;clear hk;skip)
  | (go_at_call 109;(with_reducible refine cg4 (spec_l20Any.D 0 (by omega) w _ g bs p3 HI.out B.out HC.out (by omega) (by omega)) fun ca4 cb4 cc4 cd4 p4 hx4 hp4 w4 hk B HI2=>?_);replace F4:=bkr F4 HI (by decide) hk;replace KK:=kkr KK hk;replace HI:=HI2;clear hk;skip)
  | ((with_reducible refine gate_dst (N:=5) rfl ?_);refine bxq 5 #[.int .i64 (0),.int .i64 (0),.int .i64 (0),.string (⟨#[]⟩ : ByteArray),.int .i64 (0),.int .i64 (0)] 44 B fun g5 w5 hb B F5 L5 E5=>?_;have N4_5:=ne1 E5 F4;have M5:=mbx E5 KK;replace F4:=bn F4 hb;replace HI:=hib HI hb;replace KK:=kkb KK hb;obtain ⟨c5_0,c5_1,c5_2,c5_3,c5_4,c5_5⟩:=cs6 F5;clear hb E5)
  | ((with_reducible refine gate_store (t:=44) (p:=5) rfl ?_);obtain ⟨y0,y1,y2,y3,y4,y5,z0,z1,z2,z3,z4,z5⟩:=cz6 F5;refine sxq 44 44 5 0 [.int .i64 (x2),.int .i64 ((1 + x3)),.int .i64 (ca4),.string cb4,.int .i64 (cc4),.int .i64 (cd4)] [.int .i64 (x2),.int .i64 ((1 + x3)),.int .i64 (ca4),.string cb4,.int .i64 (cc4),.int .i64 (cd4)] B F5 L5 fun w6 hk B G=>?_;replace F4:=bk F4 hk N4_5.out;replace HI:=his HI F5 (by decide) hk;replace KK:=kks KK M5 hk;replace F5:=G;clear c5_0 c5_1 c5_2 c5_3 c5_4 c5_5;obtain ⟨c5_0,c5_1,c5_2,c5_3,c5_4,c5_5⟩:=cs6 F5;clear hk y0 z0 y1 z1 y2 z2 y3 z3 y4 z4 y5 z5)
  | (go_at_call 108;(with_reducible refine cg1 (spec_l20Rd_odd.D n (by omega) w _ g bs p4 HI.out B.out HC.out (by omega) (by omega)) fun x7 p7 hx7 hp7 w7 hk B HI2=>?_);replace F4:=bkr F4 HI (by decide) hk;replace F5:=bkr F5 HI (by decide) hk;replace KK:=kkr KK hk;replace HI:=HI2;clear hk;clear c5_0 c5_1 c5_2 c5_3 c5_4 c5_5;obtain ⟨c5_0,c5_1,c5_2,c5_3,c5_4,c5_5⟩:=cs6 F5;skip)
  | ((with_reducible refine gate_store (t:=44) (p:=4) rfl ?_);obtain ⟨y0,y1,y2,y3,y4,y5,z0,z1,z2,z3,z4,z5⟩:=cz6 F4;refine sxq 44 44 4 0 [.int .i64 (x2),.int .i64 ((1 + x3)),.int .i64 (ca4),.string cb4,.int .i64 (cc4),.int .i64 (cd4)] [.int .i64 (x2),.int .i64 ((1 + x3)),.int .i64 (ca4),.string cb4,.int .i64 (cc4),.int .i64 (cd4)] B F4 L4 fun w201 hk B G=>?_;replace HI:=his HI F4 (by decide) hk;replace KK:=kks KK M4 hk;replace F4:=G;clear hk y0 z0 y1 z1 y2 z2 y3 z3 y4 z4 y5 z5))
 all_goals try (refine bodyPost_ret (results_single rfl (.cell g4 44 _ (0,0) _ rfl F4.out hu rfl (by kernel_rfl) .nil)) rfl ?_;exact ⟨_,_,_,_,_,_,_,rfl,trivial,⟨by omega,by omega⟩,HI.out,B.out,KK.out⟩)
 all_goals (
  refine rg (n:=20) (S:=fun W=>W.heap[g5]?=some (.cells #[.int .i64 (x2),.int .i64 ((1 + x3)),.int .i64 (ca4),.string cb4,.int .i64 (cc4),.int .i64 (cd4)] 44 (0,0))) (ds:=[]) #[false,false,false,false,false,false,false,false,false,false,false,false,false,false,false,false,false,false,false,false] (by kernel_rfl) rfl rfl F5.out id B (fun w101 hb B hHeld=>?_)
  refine with_tabW spec_l20Entry.tab3 spec_l20Entry.bits3 (fun HT_ HW_=>?_)
  replace F4:=bn F4 hb
  replace F5:=bn F5 hb
  replace HI:=hib HI hb
  replace KK:=kkb KK hb
  clear hb
  refine join_ 3 (bits 20 131071) (σ:=Option Addr × Nat × List S44 × Int × Int) (fun (AL31,kL31,z31,ps33,xs33)=>[(17,.agg #[.int .i64 (0),.int .i64 (0),.int .i64 (0),.string (⟨#[]⟩ : ByteArray),.int .i64 (0),.int .i64 (0)]),(18,.pointer (some ⟨g5,2,none⟩)),(19,.agg #[.int .i64 (ca4),.string cb4,.int .i64 (cc4),.int .i64 (cd4)]),(20,.agg #[.int .i64 (4),.int .i64 (1),.int .i64 (ca4),.string cb4,.int .i64 (cc4),.int .i64 (cd4)]),(21,.pointer (some ⟨g5,2,none⟩)),(22,.agg #[.int .i64 (ca4),.string cb4,.int .i64 (cc4),.int .i64 (cd4)]),(23,.agg #[.int .i64 (-1),.int .i64 (1),.int .i64 (ca4),.string cb4,.int .i64 (cc4),.int .i64 (cd4)]),(24,.pointer (some ⟨g5,2,none⟩)),(25,.agg #[.int .i64 (ca4),.string cb4,.int .i64 (cc4),.int .i64 (cd4)]),(26,.agg #[.int .i64 (1),.int .i64 (0),.int .i64 (ca4),.string cb4,.int .i64 (cc4),.int .i64 (cd4)]),(27,.pointer (some ⟨g5,2,none⟩)),(28,.agg #[.int .i64 (ca4),.string cb4,.int .i64 (cc4),.int .i64 (cd4)]),(29,.agg #[.int .i64 (1),.int .i64 (1000),.int .i64 (ca4),.string cb4,.int .i64 (cc4),.int .i64 (cd4)]),(30,.agg #[.int .i64 (1),.int .i64 (1),.int .i64 (0),.string (⟨#[]⟩ : ByteArray),.int .i64 (0),.int .i64 (0)]),(31,.slice AL31 z31.length kL31),(32,.pointer (some ⟨g,0,none⟩)),(33,.int .i64 (xs33))]) (fun (AL31,kL31,z31,ps33,xs33) W=>Aside0 (Below w.heap.size w W)∧Aside0 (W.heap[g4]?=some (.cells #[.int .i64 (0),.int .i64 (0),.int .i64 (0),.string (⟨#[]⟩ : ByteArray),.int .i64 (0),.int .i64 (0)] 44 (0,0)))∧Aside0 (W.heap[g5]?=some (.cells #[.int .i64 (x2),.int .i64 ((1 + x3)),.int .i64 (ca4),.string cb4,.int .i64 (cc4),.int .i64 (cd4)] 44 (0,0)))∧Aside0 (Ow k44 44 W w.heap.size (.slice AL31 z31.length kL31) z31)∧Aside0 (IsS133 w W g bs ps33)∧Aside0 (Kept W0 W (RB g))∧Aside0 (Fr W0 (.slice AL31 z31.length kL31))∧(p7≤ps33∧ps33≤p7 + 1)∧(0≤xs33∧xs33 < 6)∧z31.length=6∧Aside0 (∀ k_,(.slice AL31 z31.length kL31 : Value).ownBlock=some k_→k_ ≠ g4)∧Aside0 (∀ k_,(.slice AL31 z31.length kL31 : Value).ownBlock=some k_→k_ ≠ g5)) ?_ (fun J=>?_)
  rotate_left
  ·refine pvq 0 (some 17) (bits 20 1) HT_ ?_
   refine pvq 1 (some 18) (bits 20 3) HT_ ?_
   refine tvq 2 (some 19) (bits 20 7) HT_ HW_ rfl hHeld (by intro w' hS;have s0:=hS;obtain ⟨q0,q1,q2,q3,q4,q5⟩:=cs6 (Aside0.mk s0);go_simp;with_reducible rfl) ?_
   refine pvq 3 (some 20) (bits 20 15) HT_ ?_
   refine pvq 4 (some 21) (bits 20 31) HT_ ?_
   refine tvq 5 (some 22) (bits 20 63) HT_ HW_ rfl hHeld (by intro w' hS;have s0:=hS;obtain ⟨q0,q1,q2,q3,q4,q5⟩:=cs6 (Aside0.mk s0);go_simp;with_reducible rfl) ?_
   refine pvq 6 (some 23) (bits 20 127) HT_ ?_
   refine pvq 7 (some 24) (bits 20 255) HT_ ?_
   refine tvq 8 (some 25) (bits 20 511) HT_ HW_ rfl hHeld (by intro w' hS;have s0:=hS;obtain ⟨q0,q1,q2,q3,q4,q5⟩:=cs6 (Aside0.mk s0);go_simp;with_reducible rfl) ?_
   refine pvq 9 (some 26) (bits 20 1023) HT_ ?_
   refine pvq 10 (some 27) (bits 20 2047) HT_ ?_
   refine tvq 11 (some 28) (bits 20 4095) HT_ HW_ rfl hHeld (by intro w' hS;have s0:=hS;obtain ⟨q0,q1,q2,q3,q4,q5⟩:=cs6 (Aside0.mk s0);go_simp;with_reducible rfl) ?_
   refine pvq 12 (some 29) (bits 20 8191) HT_ ?_
   refine pvq 13 (some 30) (bits 20 16383) HT_ ?_
   refine pvq 15 (some 32) (bits 20 49151) HT_ ?_
   refine nmq ?_
   refine two_ (i:=14) (j:=16) (Ni:=some 31) (Nj:=some 33) (bits 20 65535) (bits 20 114687) rfl rfl rfl rfl (two_of HT_.out (by kernel_rfl)) (by decide) (by decide) (fun K hK=>?_) (fun K hK=>?_)
   ·refine lts k44 44 (by rfl) rfl ([⟨0,0,0,(⟨#[]⟩ : ByteArray),0,0⟩,⟨4,1,ca4,cb4,cc4,cd4⟩,⟨-1,1,ca4,cb4,cc4,cd4⟩,⟨1,0,ca4,cb4,cc4,cd4⟩,⟨1,1000,ca4,cb4,cc4,cd4⟩,⟨1,1,0,(⟨#[]⟩ : ByteArray),0,0⟩] : List S44) [.int .i64 (0),.int .i64 (0),.int .i64 (0),.string (⟨#[]⟩ : ByteArray),.int .i64 (0),.int .i64 (0),.int .i64 (4),.int .i64 (1),.int .i64 (ca4),.string cb4,.int .i64 (cc4),.int .i64 (cd4),.int .i64 (-1),.int .i64 (1),.int .i64 (ca4),.string cb4,.int .i64 (cc4),.int .i64 (cd4),.int .i64 (1),.int .i64 (0),.int .i64 (ca4),.string cb4,.int .i64 (cc4),.int .i64 (cd4),.int .i64 (1),.int .i64 (1000),.int .i64 (ca4),.string cb4,.int .i64 (cc4),.int .i64 (cd4),.int .i64 (1),.int .i64 (1),.int .i64 (0),.string (⟨#[]⟩ : ByteArray),.int .i64 (0),.int .i64 (0)] ?hr (Reps.c6 (k44_mkM _ _ _ ⟨0,0,0,(⟨#[]⟩ : ByteArray),0,0⟩) (Reps.c6 (k44_mkM _ _ _ ⟨4,1,ca4,cb4,cc4,cd4⟩) (Reps.c6 (k44_mkM _ _ _ ⟨-1,1,ca4,cb4,cc4,cd4⟩) (Reps.c6 (k44_mkM _ _ _ ⟨1,0,ca4,cb4,cc4,cd4⟩) (Reps.c6 (k44_mkM _ _ _ ⟨1,1000,ca4,cb4,cc4,cd4⟩) (Reps.c6 (k44_mkM _ _ _ ⟨1,1,0,(⟨#[]⟩ : ByteArray),0,0⟩) (Reps.none _ _))))))) (by simp) B (fun z31 hz31 AL31 kL31 w102 hb B RL31 QL31=>?_)
    (case hr=>go_simp;first | done | rfl)
    have NB4_L31:=nb QL31 F4
    have NB5_L31:=nb QL31 F5
    have MRL31:=mrf QL31 KK
    replace F4:=bn F4 hb
    replace F5:=bn F5 hb
    replace HI:=hib HI hb
    replace KK:=kkb KK hb
    clear hb QL31
    refine hK.out _ _ F5.out (fun hHeld=>?_)
    clear hK K
    refine npq (some 31) ?_
    refine one_ (i:=16) (N:=some 33) (bits 20 131071) rfl rfl (one_of HT_.out (by kernel_rfl)) (by decide) (fun K hK=>?_)
    refine gsq Try.func104 #[.pointer (some ⟨g,0,none⟩),.int .i64 (6)] ?_
    (with_reducible refine cg1 (spec_l20Rd_pick.D 6 w _ g bs p7 HI.out B.out HC.out (by omega) (by omega)) fun xs33 ps33 hxs33 hps33 w103 hk B HI2=>?_)
    replace F4:=bkr F4 HI (by decide) hk
    replace F5:=bkr F5 HI (by decide) hk
    replace RL31:=rkr RL31 HI (by decide) hk
    replace KK:=kkr KK hk
    replace HI:=HI2
    clear hk
    refine ⟨_,rfl,?_⟩
    refine hK.out _ _ F5.out (fun hHeld=>?_)
    clear hK K
    refine npq (some 33) ?_
    refine norm_ (a':=_) ?_ (J ⟨AL31,kL31,z31,ps33,xs33⟩ _ ⟨B,F4,F5,RL31,HI,KK,MRL31,(by omega),⟨hxs33.1,hxs33.2.1 (by omega)⟩,(by rw [← hz31];rfl),NB4_L31,NB5_L31⟩)
    simp only [putAll,Act.put,za,zb,zc]
    try rfl
   ·refine gsq Try.func104 #[.pointer (some ⟨g,0,none⟩),.int .i64 (6)] ?_
    (with_reducible refine cg1 (spec_l20Rd_pick.D 6 w _ g bs p7 HI.out B.out HC.out (by omega) (by omega)) fun xs33 ps33 hxs33 hps33 w102 hk B HI2=>?_)
    replace F4:=bkr F4 HI (by decide) hk
    replace F5:=bkr F5 HI (by decide) hk
    replace KK:=kkr KK hk
    replace HI:=HI2
    clear hk
    refine ⟨_,rfl,?_⟩
    refine hK.out _ _ F5.out (fun hHeld=>?_)
    clear hK K
    refine npq (some 33) ?_
    refine one_ (i:=14) (N:=some 31) (bits 20 131071) rfl rfl (one_of HT_.out (by kernel_rfl)) (by decide) (fun K hK=>?_)
    refine lts k44 44 (by rfl) rfl ([⟨0,0,0,(⟨#[]⟩ : ByteArray),0,0⟩,⟨4,1,ca4,cb4,cc4,cd4⟩,⟨-1,1,ca4,cb4,cc4,cd4⟩,⟨1,0,ca4,cb4,cc4,cd4⟩,⟨1,1000,ca4,cb4,cc4,cd4⟩,⟨1,1,0,(⟨#[]⟩ : ByteArray),0,0⟩] : List S44) [.int .i64 (0),.int .i64 (0),.int .i64 (0),.string (⟨#[]⟩ : ByteArray),.int .i64 (0),.int .i64 (0),.int .i64 (4),.int .i64 (1),.int .i64 (ca4),.string cb4,.int .i64 (cc4),.int .i64 (cd4),.int .i64 (-1),.int .i64 (1),.int .i64 (ca4),.string cb4,.int .i64 (cc4),.int .i64 (cd4),.int .i64 (1),.int .i64 (0),.int .i64 (ca4),.string cb4,.int .i64 (cc4),.int .i64 (cd4),.int .i64 (1),.int .i64 (1000),.int .i64 (ca4),.string cb4,.int .i64 (cc4),.int .i64 (cd4),.int .i64 (1),.int .i64 (1),.int .i64 (0),.string (⟨#[]⟩ : ByteArray),.int .i64 (0),.int .i64 (0)] ?hr (Reps.c6 (k44_mkM _ _ _ ⟨0,0,0,(⟨#[]⟩ : ByteArray),0,0⟩) (Reps.c6 (k44_mkM _ _ _ ⟨4,1,ca4,cb4,cc4,cd4⟩) (Reps.c6 (k44_mkM _ _ _ ⟨-1,1,ca4,cb4,cc4,cd4⟩) (Reps.c6 (k44_mkM _ _ _ ⟨1,0,ca4,cb4,cc4,cd4⟩) (Reps.c6 (k44_mkM _ _ _ ⟨1,1000,ca4,cb4,cc4,cd4⟩) (Reps.c6 (k44_mkM _ _ _ ⟨1,1,0,(⟨#[]⟩ : ByteArray),0,0⟩) (Reps.none _ _))))))) (by simp) B (fun z31 hz31 AL31 kL31 w103 hb B RL31 QL31=>?_)
    (case hr=>go_simp;first | done | rfl)
    have NB4_L31:=nb QL31 F4
    have NB5_L31:=nb QL31 F5
    have MRL31:=mrf QL31 KK
    replace F4:=bn F4 hb
    replace F5:=bn F5 hb
    replace HI:=hib HI hb
    replace KK:=kkb KK hb
    clear hb QL31
    refine hK.out _ _ F5.out (fun hHeld=>?_)
    clear hK K
    refine npq (some 31) ?_
    refine norm_ (a':=_) ?_ (J ⟨AL31,kL31,z31,ps33,xs33⟩ _ ⟨B,F4,F5,RL31,HI,KK,MRL31,(by omega),⟨hxs33.1,hxs33.2.1 (by omega)⟩,(by rw [← hz31];rfl),NB4_L31,NB5_L31⟩)
    simp only [putAll,Act.put,za,zb,zc]
    try rfl
  rintro ⟨AL31,kL31,z31,ps33,xs33⟩ w104 ⟨B,F4,F5,RL31,HI,KK,MRL31,hpj3,hb33,hl31,NB4_L31,NB5_L31⟩
  refine norm_ (a':=?_) ?_ ?_
  rotate_left
  ·simp only [putAll,Act.put,za,zb,zc]
   rfl
  have his33 : xs33 < (z31.length : Int):=by omega
  obtain ⟨ads33,hAs33,ys33_0,ys33_1,ys33_2,ys33_3,ys33_4,ys33_5⟩:=at_T44 (rc RL31) xs33 hb33.1 his33
  have hjs33:=hb33.1
  generalize rd_T44 z31 xs33=ys33 at *
  cases hAs33
  have js33:=eq_true hjs33
  have is33:=eq_true his33
  refine pvq 17 (some 34) (bits 20 262143) HT_ ?_
  refine nmq ?_
  refine one_ (i:=18) (N:=some 35) (bits 20 524287) rfl rfl (one_of HT_.out (by kernel_rfl)) (by decide) (fun K hK=>?_)
  refine lds (N:=35) ?_
  refine hK.out _ _ F5.out (fun hHeld=>?_)
  clear hK K
  refine npq (some 35) ?_
  refine one_ (i:=19) (N:=none) (bits 20 1048575) rfl rfl (one_of HT_.out (by kernel_rfl)) (by decide) (fun K hK=>?_)
  obtain ⟨y0,y1,y2,y3,y4,y5,z0,z1,z2,z3,z4,z5⟩:=cz6 F4
  refine sxs (g:=g4) 0 [.int .i64 (ys33.f0),.int .i64 (ys33.f1),.int .i64 (ys33.f2.f0),.string ys33.f2.f1,.int .i64 (ys33.f2.f2),.int .i64 (ys33.f2.f3)] [.int .i64 (ys33.f0),.int .i64 (ys33.f1),.int .i64 (ys33.f2.f0),.string ys33.f2.f1,.int .i64 (ys33.f2.f2),.int .i64 (ys33.f2.f3)] (by rfl) rfl ?hr B F4 L4 rfl (Nat.le_of_ble_eq_true rfl) (fun w105 hk B G=>?_)
  (case hr=>go_simp;first | done | rfl)
  replace F5:=bk F5 hk N4_5.out.symm
  replace RL31:=rkn RL31 hk NB4_L31
  replace HI:=his HI F4 (by decide) hk
  replace KK:=kks KK M4 hk
  replace F4:=G
  clear hk y0 z0 y1 z1 y2 z2 y3 z3 y4 z4 y5 z5
  refine hK.out _ _ F5.out (fun hHeld=>?_)
  clear hK K
  refine done_ (done_of HT_.out (by kernel_rfl)) ?_)
 all_goals try go_wp2
 all_goals try (refine bodyPost_ret (results_single rfl (.cell g4 44 _ (0,0) _ rfl F4.out hu rfl (by kernel_rfl) .nil)) rfl ?_;exact ⟨_,_,_,_,_,_,_,rfl,trivial,⟨by omega,by omega⟩,HI.out,B.out,KK.out⟩)

def spec_DrawApplyEntry.T3 : Bool × List (List Nat × List Nat):=(true,[([],[]),([],[]),([1],[1]),([0,2,0],[0]),([2,3,0,1,2,3],[2])])
def spec_DrawApplyEntry.B3 : List Nat:=[0,0,2,7,15]
theorem spec_DrawApplyEntry.tab3 : rtab .any (opsOf Try.f16 3)=spec_DrawApplyEntry.T3:=by kernel_rfl
theorem spec_DrawApplyEntry.bits3 : waitsOk spec_DrawApplyEntry.T3.2 spec_DrawApplyEntry.B3=true:=by kernel_rfl
theorem spec_DrawApplyEntry.D (A0 : Option Addr) (c0 : Nat) (l : List Int) (w : World) (hr0 : Kd.C (Kd.int .u8) w A0 l.length l) (hc0 : l.length≤c0) (hs : ∀ x ∈ l,(Lit.int .u8 x).wf=true) : Calls Try.prog 16 #[.slice A0 l.length c0] w fun e w'=>∃ a b v0 v1 t c xs ys i j k x v o,e=.returned (.tuple #[.agg #[.string a,.string b,v0,v1,.bool t,.string c],.agg #[.int .i64 i,.int .i64 j,.int .i64 k,.string x,.int .i64 v,.int .i64 o]])∧(xs.length≤300∧ys.length≤300)∧Kd.R k105 105 w' w.heap.size (fun _=>True) v0 xs∧Kd.R k76 76 w' w.heap.size (fun _=>True) v1 ys∧Below w.heap.size w w':=by
 obtain ⟨bs,hc,ho⟩:=Dw.spec_open l hs
 have B:=Aside0.mk (Below.refl w.heap.size w)
 have HR0:=Aside0.mk hr0
 have HC0:=Aside0.mk hc0
 have HC:=Aside0.mk hc
 have HO:=Aside0.mk ho
 clear hr0 hc0 hs hc ho
 have hu:=Try.underlying38
 have hu2:=Try.underlying44
 go_enter Try.func16,Try.ntmps16
 go_wp2_with (first
  | ((with_reducible refine gate_dst (N:=2) rfl ?_);refine bxq 2 #[.string (⟨#[]⟩ : ByteArray),.string (⟨#[]⟩ : ByteArray),.slice none 0 0,.slice none 0 0,.bool false,.string (⟨#[]⟩ : ByteArray)] 38 B fun g2 w1 hb B F2 L2 E2=>?_;clear hb E2)
  | ((with_reducible refine gate_dst (N:=3) rfl ?_);refine bxq 3 #[.int .i64 (0),.int .i64 (0),.int .i64 (0),.string (⟨#[]⟩ : ByteArray),.int .i64 (0),.int .i64 (0)] 44 B fun g3 w2 hb B F3 L3 E3=>?_;have N2_3:=ne1 E3 F2;replace F2:=bn F2 hb;clear hb E3)
  | (go_at_call 61;(with_reducible refine copen (spec_l20Open.calls _ _ l bs 0 w _ B.out HR0.out HC0.out HO.out) fun g w3 hb B HI=>?_);replace F2:=bn F2 hb;replace F3:=bn F3 hb;clear hb)
  | (go_at_call 62;(with_reducible refine cgs (spec_l20State.D 14 (by omega) w _ g bs 0 HI.out B.out HC.out (by omega) (by omega)) fun a4 b4 t4 c4 zP4 zS4 AP4 kP4 AS4 kS4 p4 hx4 hp4 w4 hk B HI2 RP4 QP4 RS4 QS4=>?_);have DP4_S4:=Aside0.mk (dty RP4 RS4 (by decide));replace F2:=bkr F2 HI (by decide) hk;replace F3:=bkr F3 HI (by decide) hk;replace HI:=HI2;clear hk QP4 QS4;skip)
  | ((with_reducible refine gate_dst (N:=5) rfl ?_);refine bxq 5 #[.string (⟨#[]⟩ : ByteArray),.string (⟨#[]⟩ : ByteArray),.slice none 0 0,.slice none 0 0,.bool false,.string (⟨#[]⟩ : ByteArray)] 38 B fun g5 w5 hb B F5 L5 E5=>?_;have N2_5:=ne1 E5 F2;have N3_5:=ne1 E5 F3;replace F2:=bn F2 hb;replace F3:=bn F3 hb;replace RP4:=rn RP4 hb;replace RS4:=rn RS4 hb;replace HI:=hib HI hb;obtain ⟨c5_0,c5_1,c5_2,c5_3,c5_4,c5_5⟩:=cs6 F5;clear hb E5)
  | ((with_reducible refine gate_store (t:=38) (p:=5) rfl ?_);obtain ⟨y0,y1,y2,y3,y4,y5,z0,z1,z2,z3,z4,z5⟩:=cz6 F5;refine sxq 38 38 5 0 [.string a4,.string b4,.slice AP4 zP4.length kP4,.slice AS4 zS4.length kS4,.bool t4,.string c4] [.string a4,.string b4,.slice AP4 zP4.length kP4,.slice AS4 zS4.length kS4,.bool t4,.string c4] B F5 L5 fun w6 hk B G=>?_;replace F2:=bk F2 hk N2_5.out;replace F3:=bk F3 hk N3_5.out;replace RP4:=rk RP4 F5 (by decide) hk;replace RS4:=rk RS4 F5 (by decide) hk;replace HI:=his HI F5 (by decide) hk;replace F5:=G;clear c5_0 c5_1 c5_2 c5_3 c5_4 c5_5;obtain ⟨c5_0,c5_1,c5_2,c5_3,c5_4,c5_5⟩:=cs6 F5;clear hk y0 z0 y1 z1 y2 z2 y3 z3 y4 z4 y5 z5))
 all_goals (
  refine rg (n:=5) (S:=fun W=>W.heap[g5]?=some (.cells #[.string a4,.string b4,.slice AP4 zP4.length kP4,.slice AS4 zS4.length kS4,.bool t4,.string c4] 38 (0,0))) (ds:=[]) #[false,false,false,false,false] (by kernel_rfl) rfl rfl F5.out id B (fun w7 hb B hHeld=>?_)
  refine with_tabW spec_DrawApplyEntry.tab3 spec_DrawApplyEntry.bits3 (fun HT_ HW_=>?_)
  replace F2:=bn F2 hb
  replace F3:=bn F3 hb
  replace F5:=bn F5 hb
  replace RP4:=rn RP4 hb
  replace RS4:=rn RS4 hb
  replace HI:=hib HI hb
  clear hb
  refine tvq 0 (some 10) (bits 5 1) HT_ HW_ rfl hHeld (by intro w' hS;have s0:=hS;obtain ⟨q0,q1,q2,q3,q4,q5⟩:=cs6 (Aside0.mk s0);go_simp;with_reducible rfl) ?_
  refine pvq 1 (some 11) (bits 5 3) HT_ ?_
  refine nmq ?_
  refine one_ (i:=2) (N:=some 12) (bits 5 7) rfl rfl (one_of HT_.out (by kernel_rfl)) (by decide) (fun K hK=>?_)
  refine gsq Try.func63 #[.pointer (some ⟨g,0,none⟩),.int .i64 (14)] ?_
  (with_reducible refine cg6 (spec_l20Entry.D 14 (by omega) w _ g bs p4 HI.out B.out HC.out (by omega) (by omega)) fun ea8 eb8 ec8 ed8 ef8 eg8 p8 hx8 hp8 w8 hk B HI2=>?_)
  replace F2:=bkr F2 HI (by decide) hk
  replace F3:=bkr F3 HI (by decide) hk
  replace F5:=bkr F5 HI (by decide) hk
  replace RP4:=rkr RP4 HI (by decide) hk
  replace RS4:=rkr RS4 HI (by decide) hk
  replace HI:=HI2
  clear hk
  refine ⟨_,rfl,?_⟩
  refine hK.out _ _ F5.out (fun hHeld=>?_)
  clear hK K
  refine npq (some 12) ?_
  refine one_ (i:=3) (N:=none) (bits 5 15) rfl rfl (one_of HT_.out (by kernel_rfl)) (by decide) (fun K hK=>?_)
  obtain ⟨y0,y1,y2,y3,y4,y5,z0,z1,z2,z3,z4,z5⟩:=cz6 F2
  refine sxs (g:=g2) 0 [.string a4,.string b4,.slice AP4 zP4.length kP4,.slice AS4 zS4.length kS4,.bool t4,.string c4] [.string a4,.string b4,.slice AP4 zP4.length kP4,.slice AS4 zS4.length kS4,.bool t4,.string c4] (by rfl) rfl ?hr B F2 L2 rfl (Nat.le_of_ble_eq_true rfl) (fun w9 hk B G=>?_)
  (case hr=>go_simp;first | done | rfl)
  replace F3:=bk F3 hk N2_3.out.symm
  replace F5:=bk F5 hk N2_5.out.symm
  replace RP4:=rk RP4 F2 (by decide) hk
  replace RS4:=rk RS4 F2 (by decide) hk
  replace HI:=his HI F2 (by decide) hk
  replace F2:=G
  clear hk y0 z0 y1 z1 y2 z2 y3 z3 y4 z4 y5 z5
  refine hK.out _ _ F5.out (fun hHeld=>?_)
  clear hK K
  refine one_ (i:=4) (N:=none) (bits 5 31) rfl rfl (one_of HT_.out (by kernel_rfl)) (by decide) (fun K hK=>?_)
  obtain ⟨y0,y1,y2,y3,y4,y5,z0,z1,z2,z3,z4,z5⟩:=cz6 F3
  refine sxs (g:=g3) 0 [.int .i64 (ea8),.int .i64 (eb8),.int .i64 (ec8),.string ed8,.int .i64 (ef8),.int .i64 (eg8)] [.int .i64 (ea8),.int .i64 (eb8),.int .i64 (ec8),.string ed8,.int .i64 (ef8),.int .i64 (eg8)] (by rfl) rfl ?hr B F3 L3 rfl (Nat.le_of_ble_eq_true rfl) (fun w10 hk B G=>?_)
  (case hr=>go_simp;first | done | rfl)
  replace F2:=bk F2 hk N2_3.out
  replace F5:=bk F5 hk N3_5.out.symm
  replace RP4:=rk RP4 F3 (by decide) hk
  replace RS4:=rk RS4 F3 (by decide) hk
  replace HI:=his HI F3 (by decide) hk
  replace F3:=G
  clear hk y0 z0 y1 z1 y2 z2 y3 z3 y4 z4 y5 z5
  refine hK.out _ _ F5.out (fun hHeld=>?_)
  clear hK K
  refine done_ (done_of HT_.out (by kernel_rfl)) ?_)
 all_goals try go_wp2
 all_goals (refine bodyPost_ret (results_list (rs:=[.cell 2 38,.cell 3 44]) rfl (by simp) (.cell g2 38 _ (0,0) _ rfl F2.out hu rfl (by kernel_rfl) (.cell g3 44 _ (0,0) _ rfl F3.out hu2 rfl (by kernel_rfl) .nil))) rfl ?_)
 all_goals exact ⟨_,_,_,_,_,_,_,_,_,_,_,_,_,_,rfl,⟨hx4.1,hx4.2⟩,RP4.out,RS4.out,B.out⟩

/-! What the draws for entries and logs give. -/
section
variable {P : Program} {F : FuncId} {args : Array Value} {w W : World} {Q : Ending→World→Prop} {α β γ : Type} {d : Kd α} {d' : Kd β} {d2 : Kd γ} {e e' e2 : Nat}
theorem cdae {f : ByteArray→ByteArray→Value→Value→Bool→ByteArray→Int→Int→Int→ByteArray→Int→Int→Value} {q : List α→List β→Prop} (c : Calls P F args W fun r w'=>∃ a b v0 v1 t c xs ys i j k x v o,r=.returned (f a b v0 v1 t c i j k x v o)∧q xs ys∧Kd.R d e w' W.heap.size (fun _=>True) v0 xs∧Kd.R d' e' w' W.heap.size (fun _=>True) v1 ys∧Below W.heap.size W w') (B : Aside0 (Below w.heap.size w W))
    (h : ∀ a b t c xs ys i j k x v o A kk A' kk' W',q xs ys→Below W.heap.size W W'→Aside0 (Below w.heap.size w W')→Aside0 (Ow d e W' w.heap.size (.slice A xs.length kk) xs)→Aside0 (Ow d' e' W' w.heap.size (.slice A' ys.length kk') ys)→Q (.returned (f a b (.slice A xs.length kk) (.slice A' ys.length kk') t c i j k x v o)) W') : Calls P F args W Q :=
  c.mono (by
    rintro r W' ⟨a,b,v0,v1,t,c,xs,ys,i,j,k,x,v,o,rfl,hq,ho,ho',hb⟩
    obtain ⟨A,kk,rfl⟩:=Kd.R_slice ho
    obtain ⟨A',kk',rfl⟩:=Kd.R_slice ho'
    exact h a b t c xs ys i j k x v o A kk A' kk' W' hq hb ⟨below_step B.out hb⟩ ⟨Kd.R_lower ho (below_size B.out)⟩ ⟨Kd.R_lower ho' (below_size B.out)⟩)
end

theorem laws_noState.E (AP : Option Addr) (cP : Nat) (ps : List S105) (AS : Option Addr) (cS : Nat) (ss : List S76) (hp : ps=[]) (hs : ss=[]) (w : World) (hrp : Kd.C k105 w AP ps.length ps) (hrs : Kd.C k76 w AS ss.length ss) :
  Calls Try.prog 20 #[.agg #[.string (⟨#[]⟩ : ByteArray),.string (⟨#[]⟩ : ByteArray),.slice AP ps.length cP,.slice AS ss.length cS,.bool false,.string (⟨#[]⟩ : ByteArray)]] w fun e w'=>e=.returned (.bool true)∧Below w.heap.size w w':=by
 subst hp hs
 exact laws_noState.M AP cP AS cS w hrp hrs

end Go.Proofs.Ythofkheehldioaa.PFnApplyEntry
