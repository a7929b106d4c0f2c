/- Walks over models, part 2: spin rdstate rd4 rdcmd rdent drapplyentry drae nostE lawFnApplyEntry. -/
import Derived.Test.YthofkheehldioaaPFnApplyEntryx0
import Derived.Deep.RegionHeld3
import Derived.Lib.Strings
import Derived.Laws.BytesArg
import Derived.Test.YthofkheehldioaaPFnApplyEntryx71
import Derived.Test.YthofkheehldioaaPFnApplyEntryx72
import Derived.Test.YthofkheehldioaaPFnApplyEntryx78
import Derived.Test.YthofkheehldioaaPFnApplyEntryx54
import Derived.Test.YthofkheehldioaaPFnApplyEntryx55
import Derived.Test.YthofkheehldioaaPFnApplyEntryx53
import Derived.Test.YthofkheehldioaaPFnApplyEntryx62
import Derived.Test.YthofkheehldioaaPFnApplyEntryx61
import Derived.Test.YthofkheehldioaaMFnApplyEntry0
import Derived.Test.YthofkheehldioaaMFnApplyEntry1
namespace Go.Proofs.Ythofkheehldioaa.PFnApplyEntry
open Go.RowKit Go.Proofs.YthofkheehldioaaW.PrintWords Go.Proofs.YthofkheehldioaaW.PrintLast Go.Proofs.YthofkheehldioaaW.PrintMore
set_option linter.unusedVariables false
set_option linter.unusedSimpArgs false
set_option maxHeartbeats 4000000
set_option maxRecDepth 100000
attribute [local go_sem] leq_str geq_str gtr_str
def spec_PairScan.T7 : Bool × List (List Nat × List Nat):=(true,[([],[]),([],[]),([],[]),([1,2],[1,2]),([3],[3]),([4],[4]),([0,5],[0,5])])
def spec_PairScan.B7 : List Nat:=[0,0,0,6,14,30,63]
theorem spec_PairScan.tab7 : rtab .any (opsOf Try.f121 7)=spec_PairScan.T7:=by kernel_rfl
theorem spec_PairScan.bits7 : waitsOk spec_PairScan.T7.2 spec_PairScan.B7=true:=by kernel_rfl
theorem spec_PairScan.M (A0 : Option Addr) (c0 : Nat) (l : List S105) (a b : ByteArray) (w : World) (hr0 : Kd.C k105 w A0 l.length l) (hc0 : l.length≤c0) : Calls Try.prog 121 #[.slice A0 l.length c0,.agg #[.string a,.string b],.int .i64 48] w fun e w'=>∃ v0,e=.returned v0∧Kd.R k105 105 w' w.heap.size (fun _=>True) v0 (inM l a b)∧Below w.heap.size w w':=by
 have B:=Aside0.mk (Below.refl w.heap.size w)
 have hu:=Try.underlying34
 have HR0:=Aside0.mk hr0
 have HC0:=Aside0.mk hc0
 have L63:=Aside0.mk hr0.2.1
 clear hr0 hc0
 obtain ⟨r,hr⟩ : ∃ r,inM l a b=r:=⟨_,rfl⟩
 rw [hr]
 have l148 : l1B 48 0 48=true:=by decide
 go_enter Try.func121,Try.ntmps121
 go_wp2_with (first
  | ((with_reducible refine gate_dst (N:=4) rfl ?_);refine bxq 4 #[.string a,.string b] 34 B fun g4 w1 hb B F4 L4 E4=>?_;obtain ⟨c4_0,c4_1⟩:=cs2 F4;clear hb E4)
  | ((with_reducible refine gate_dst (N:=9) rfl ?_);refine lt k105 105 ?hg (N:=9) ?hd ([] : List S105) [] ?hr (Reps.none _ _) (by simp) B ?_;(case hd | hg=>rfl);(case hr=>go_simp;first | done | rfl);intro z9 hz9 AL9 kL9 w2 hb B RL9 QL9;replace F4:=bn F4 hb;clear c4_0 c4_1;obtain ⟨c4_0,c4_1⟩:=cs2 F4;clear hb QL9)
  | (go_at_call 81;with_reducible refine cl (spec_PairsValid.M _ _ l _ (cb HR0 B)) B fun w3 hb B=>?_;replace F4:=bn F4 hb;replace RL9:=rn RL9 hb;clear c4_0 c4_1;obtain ⟨c4_0,c4_1⟩:=cs2 F4;clear hb)
  | (go_at_call 80;with_reducible refine cl (spec_IntervalValid.M a b _) B fun w4 hb B=>?_;replace F4:=bn F4 hb;replace RL9:=rn RL9 hb;clear hb)
  | (go_at_call 83;with_reducible refine cl (spec_l1In.M 48 0 48 _) B fun w5 hb B=>?_;replace F4:=bn F4 hb;replace RL9:=rn RL9 hb;clear hb))
 all_goals try (refine useEq (a:=r) (b:=([] : List S105)) ?_ (fun hM=>?_);(rw [← hr];unfold inM;grind);subst hM;subst hz9;go_ret;exact ⟨_,rfl,RL9.out,B.out⟩)
 have hv : prB l=true∧ivB a b=true:=by grind
 have hrq : l.filter (fun p=>insB a b p.f0)=r:=by rw [← hr];unfold inM;simp [hv.1,hv.2]
 subst hz9
 have h48:=prB_len hv.1
 have HV:=Aside0.mk hv
 have H:=Aside0.mk (show ([] : List S105) ++ (l.drop 0).filter (fun p=>insB a b p.f0)=r from hrq)
 clear hr hrq hv c4_0 c4_1
 go_loopg [7,8] (l.length + 1) (fun kx v7 v8 wr=>∃ (j : Nat) (p : List S105),v8=.int .i64 (j : Int)∧j≤l.length∧l.length < j + kx∧p.length≤j∧Aside0 (Below w.heap.size w wr)∧Aside0 (wr.heap[g4]?=some (.cells #[.string a,.string b] 34 (0,0)))∧Aside0 (Ow k105 105 wr w.heap.size v7 p)∧Aside0 (p ++ (l.drop j).filter (fun p=>insB a b p.f0)=r))
 case atStart=>exact ⟨0,[],rfl,by omega,by omega,by simp,B,F4,RL9,H⟩
 case round =>
  clear H B F4 RL9
  obtain ⟨j,p,rfl,hj,hk,hpl,B,F4,Rp7,H⟩:=hrel
  obtain ⟨A7,k7,rfl⟩:=Kd.R_slice Rp7.out
  obtain ⟨c4_0,c4_1⟩:=cs2 F4
  by_cases hlt : j < l.length
  ·have HS:=H.out
   rw [pr_drop hlt,List.filter_cons] at HS
   have hhi:=has_ins HV.out.1 HV.out.2 hlt
   clear H
   obtain ⟨d,rfl⟩ : ∃ d,gk=d + 1:=⟨gk - 1,by omega⟩
   have cj : decide ((j : Int) < (l.length : Int))=true:=decide_eq_true (by omega)
   have cp : decide ((p.length : Int) < 48)=true:=decide_eq_true (by omega)
   obtain ⟨ad,hA,y0,y1⟩:=at_T105 (cb HR0 B) (j : Int) (by omega) (by omega)
   cases hA
   rw [Int.toNat_natCast] at y0 y1
   have j1:=eq_true (show (j : Int) < (l.length : Int) by omega)
   have j2:=eq_true hlt
   generalize hy : rd_T105 l (j : Int)=y at *
   have HT:=Aside0.mk HS
   have HH:=Aside0.mk hhi
   clear HS hhi
   try go_wp2
   all_goals (
    refine rg (n:=7) (S:=fun W=>W.heap[g4]?=some (.cells #[.string a,.string b] 34 (0,0))∧Kd.C k105 W (some ad) l.length l) (ds:=[]) #[false,false,false,false,false,false,false] (by kernel_rfl) rfl rfl ⟨F4.out,(cb HR0 B)⟩ id B (fun w101 hb B hHeld=>?_)
    refine with_tabW spec_PairScan.tab7 spec_PairScan.bits7 (fun HT_ HW_=>?_)
    replace F4:=bn F4 hb
    replace Rp7:=rn Rp7 hb
    clear hb
    refine tvq 0 (some 36) (bits 7 1) HT_ HW_ rfl hHeld (by intro w' hS;obtain ⟨s0,s1⟩:=hS;obtain ⟨q0,q1⟩:=cs2 (Aside0.mk s0);go_simp;with_reducible rfl) ?_
    refine pvq 1 (some 37) (bits 7 3) HT_ ?_
    refine pvq 2 (some 38) (bits 7 7) HT_ ?_
    refine pvq 3 (some 39) (bits 7 15) HT_ ?_
    refine pvq 4 (some 40) (bits 7 31) HT_ ?_
    refine tvq 5 (some 41) (bits 7 63) HT_ HW_ rfl hHeld (by intro w' hS;obtain ⟨s0,s1⟩:=hS;obtain ⟨_,hA,q0,q1⟩:=at_T105 s1 (j : Int) (by omega) (by omega);cases hA;rw [Int.toNat_natCast] at q0 q1;rw [hy] at q0 q1;go_simp;with_reducible rfl) ?_
    refine nmq ?_
    refine one_ (i:=6) (N:=some 42) (bits 7 127) rfl rfl (one_of HT_.out (by kernel_rfl)) (by decide) (fun K hK=>?_)
    refine gsq Try.func42 #[.agg #[.string a,.string b],.string y.f0] ?_
    with_reducible refine cl (spec_IntervalHas.M a b y.f0 _) B fun w102 hb B=>?_
    replace F4:=bn F4 hb
    replace Rp7:=rn Rp7 hb
    clear hb
    refine ⟨_,rfl,?_⟩
    refine hK.out _ _ ⟨F4.out,(cb HR0 B)⟩ (fun hHeld=>?_)
    clear hK K
    refine npq (some 42) ?_
    refine done_ (done_of HT_.out (by kernel_rfl)) ?_
    clear y0 y1
    obtain ⟨ad2,hA,y0,y1⟩:=at_T105 (cb HR0 B) (j : Int) (by omega) (by omega)
    cases hA
    rw [Int.toNat_natCast,hy] at y0 y1)
   all_goals go_wp2_with (first
    | ((with_reducible refine gate_dst (N:=48) rfl ?_);refine lt k105 105 ?hg (N:=48) ?hd ([⟨y.f0,y.f1⟩] : List S105) [.string y.f0,.int .i64 (y.f1)] ?hr (Reps.c2 (k105_mkM _ _ _ ⟨y.f0,y.f1⟩) (Reps.none _ _)) (by simp) B ?_;(case hd | hg=>rfl);(case hr=>go_simp;first | done | rfl);intro z48 hz48 AL48 kL48 w103 hb B RL48 QL48;replace F4:=bn F4 hb;replace Rp7:=rn Rp7 hb;clear hb QL48)
    | ((with_reducible refine gate_builtin (b:=.append) (xs:=#[.tmp 43,.tmp 48]) rfl ?_);at_builtin;refine apx k105 105 rfl (.tmp 43) (.tmp 48) 35 (.agg #[.string (⟨#[]⟩ : ByteArray),.int .i64 (0)]) 24 rfl Try.underlying35 info105 rfl (by decide) (by omega) rfl rfl Rp7 (rc RL48) (fun x cs h=>by rw [k105_open h];exact k105_mkM _ _ _ x) (by rw [← hz48];simp only [List.length_cons,List.length_nil];omega) B ?_;intro z49 hz49 AL49 kL49 w104 hg B RL49 hat;replace F4:=bga F4 hg Rp7 (by decide);clear hg hat))
   all_goals first
    | (refine useEq (a:=hasB a b y.f0) (b:=true) ?_ (fun hK=>?_);(first | assumption | (simp_all;done));have HS:=HT.out;rw [← HH.out,hK,if_pos rfl] at HS;go_roundg d;(case measure=>omega);(case rel=>exact ⟨j + 1,z49,congrArg (Value.int .i64) (Int.natCast_succ _).symm,by omega,by omega,(by rw [← hz49,← hz48];simp only [List.length_append,List.length_cons,List.length_nil];omega),B,F4,RL49,⟨by rw [← hz49,← hz48,List.append_assoc];exact HS⟩⟩))
    | (refine useEq (a:=hasB a b y.f0) (b:=false) ?_ (fun hK=>?_);(first | assumption | (simp_all;done));have HS:=HT.out;rw [← HH.out,hK,if_neg (by simp)] at HS;go_roundg d;(case measure=>omega);(case rel=>exact ⟨j + 1,p,congrArg (Value.int .i64) (Int.natCast_succ _).symm,by omega,by omega,by omega,B,F4,Rp7,⟨HS⟩⟩))
  ·have cj : decide ((j : Int) < (l.length : Int))=false:=decide_eq_false (by omega)
   have hr:=H.out
   rw [List.drop_of_length_le (by omega),List.filter_nil,List.append_nil] at hr
   subst hr
   clear H
   go_wp2
   go_ret
   exact ⟨_,rfl,Rp7.out,B.out⟩
theorem spec_PairsIn.M (A0 : Option Addr) (c0 : Nat) (l : List S105) (a b : ByteArray) (w : World) (hr0 : Kd.C k105 w A0 l.length l) (hc0 : l.length≤c0) : Calls Try.prog 105 #[.slice A0 l.length c0,.agg #[.string a,.string b]] w fun e w'=>∃ v0,e=.returned v0∧Kd.R k105 105 w' w.heap.size (fun _=>True) v0 (inM l a b)∧Below w.heap.size w w':=by
 have B:=Aside0.mk (Below.refl w.heap.size w)
 have hu:=Try.underlying34
 have HR0:=Aside0.mk hr0
 have HC0:=Aside0.mk hc0
 have L63:=Aside0.mk hr0.2.1
 clear hr0 hc0
 go_enter Try.func105,Try.ntmps105
 go_wp2_with (first
  | ((with_reducible refine gate_dst (N:=3) rfl ?_);refine bxq 3 #[.string a,.string b] 34 B fun g3 w1 hb B F3 L3 E3=>?_;obtain ⟨c3_0,c3_1⟩:=cs2 F3;clear hb E3)
  | (go_at_call 121;with_reducible refine cr (spec_PairScan.M _ _ l a b _ (cb HR0 B) HC0.out) B fun AI2 kI2 w2 hb B RI2 QI2=>?_;clear QI2;clear hb))
 go_ret
 exact ⟨_,rfl,RI2.out,B.out⟩

def spec_l20State.T4 : Bool × List (List Nat × List Nat):=(true,[([],[]),([],[]),([1],[1]),([],[]),([2,3,2],[2,3]),([],[]),([5,4],[5]),([0,4,6],[0,4,6]),([],[]),([8,7,6,0,1,2,3,4,5,6,7,8],[7,8])])
def spec_l20State.B4 : List Nat:=[0,0,2,0,14,0,62,127,0,511]
theorem spec_l20State.tab4 : rtab .any (opsOf Try.f62 4)=spec_l20State.T4:=by kernel_rfl
theorem spec_l20State.bits4 : waitsOk spec_l20State.T4.2 spec_l20State.B4=true:=by kernel_rfl
theorem spec_l20State.D (n : Int) (hn : n≤1000000) (w W0 : World) (g : Nat) (bs : List Int) (p : Int) (hI : IsS133 w W0 g bs p) (hB : Below w.heap.size w W0) (hc : Dw.Code bs) (h0 : 0≤p) (h1 : p≤1099498000000) :
  Calls Try.prog 62 #[.pointer (some ⟨g,0,none⟩),.int .i64 n] W0 fun e w'=>∃ a b v0 v1 t c xs ys p',e=.returned (.agg #[.string a,.string b,v0,v1,.bool t,.string c])∧(xs.length≤300∧ys.length≤300)∧(Kd.R k105 105 w' w.heap.size (fun _=>True) v0 xs∧Fr W0 v0)∧(Kd.R k76 76 w' w.heap.size (fun _=>True) v1 ys∧Fr W0 v1)∧Left w W0 g bs p 1000 p' w':=by
 have hu:=Try.underlying38
 have hu2:=Try.underlying34
 have B:=Aside0.mk hB
 have HI:=Aside0.mk hI
 have HC:=Aside0.mk hc
 have KK:=Aside0.mk (Kept.refl W0 (RB g))
 clear hB hI hc
 go_enter Try.func62,Try.ntmps62
 go_upto_if 14 with (first
  | ((with_reducible refine gate_dst (N:=4) rfl ?_);refine bxq 4 #[.string (⟨#[]⟩ : ByteArray),.string (⟨#[]⟩ : ByteArray),.slice none 0 0,.slice none 0 0,.bool false,.string (⟨#[]⟩ : ByteArray)] 38 B fun g4 w1 hb B F4 L4 E4=>?_;have M4:=mbx E4 KK;replace HI:=hib HI hb;replace KK:=kkb KK hb;clear hb E4)
  | (go_at_call 103;(with_reducible refine cg2 (spec_l20Span.D 0 (by omega) w _ g bs p HI.out B.out HC.out (by omega) (by omega)) fun x2 y2 p2 hx2 hp2 w2 hk B HI2=>?_);replace F4:=bkr F4 HI (by decide) hk;replace KK:=kkr KK hk;replace HI:=HI2;clear hk;skip)
  | ((with_reducible refine gate_dst (N:=5) rfl ?_);refine bxq 5 #[.string (⟨#[]⟩ : ByteArray),.string (⟨#[]⟩ : ByteArray)] 34 B fun g5 w3 hb B F5 L5 E5=>?_;have N4_5:=ne1 E5 F4;have M5:=mbx E5 KK;replace F4:=bn F4 hb;replace HI:=hib HI hb;replace KK:=kkb KK hb;clear hb E5)
  | ((with_reducible refine gate_store (t:=34) (p:=5) rfl ?_);obtain ⟨y0,y1,z0,z1⟩:=cz2 F5;refine sxq 34 34 5 0 [.string x2,.string y2] [.string x2,.string y2] B F5 L5 fun w4 hk B G=>?_;replace F4:=bk F4 hk N4_5.out;replace HI:=his HI F5 (by decide) hk;replace KK:=kks KK M5 hk;replace F5:=G;clear hk y0 z0 y1 z1)
  | (go_at_call 104;(with_reducible refine cg1 (spec_l20Rd_pick.D 2 w _ g bs p2 HI.out B.out HC.out (by omega) (by omega)) fun x5 p5 hx5 hp5 w5 hk B HI2=>?_);replace F4:=bkr F4 HI (by decide) hk;replace F5:=bkr F5 HI (by decide) hk;replace KK:=kkr KK hk;replace HI:=HI2;clear hk;skip))
 go_cut [5] (fun v5 wc=>∃ (va vb : ByteArray),v5=.pointer (some ⟨g5,0,none⟩)∧Aside0 (wc.heap[g5]?=some (.cells #[.string va,.string vb] 34 (0,0)))∧Aside0 (wc.heap[g4]?=some (.cells #[.string (⟨#[]⟩ : ByteArray),.string (⟨#[]⟩ : ByteArray),.slice none 0 0,.slice none 0 0,.bool false,.string (⟨#[]⟩ : ByteArray)] 38 (0,0)))∧Aside0 (IsS133 w wc g bs p5)∧Aside0 (Kept W0 wc (RB g))∧Aside0 (Below w.heap.size w wc))
 case first =>
  go_wp2_with (first
   | ((with_reducible refine gate_store (t:=34) (p:=5) rfl ?_);obtain ⟨y0,y1,z0,z1⟩:=cz2 F5;refine sxq 34 34 5 0 [.string (⟨#[]⟩ : ByteArray),.string (⟨#[]⟩ : ByteArray)] [.string (⟨#[]⟩ : ByteArray),.string (⟨#[]⟩ : ByteArray)] B F5 L5 fun w51 hk B G=>?_;replace F4:=bk F4 hk N4_5.out;replace HI:=his HI F5 (by decide) hk;replace KK:=kks KK M5 hk;replace F5:=G;clear hk y0 z0 y1 z1))
  all_goals (go_meet;(case rel=>exact ⟨_,_,rfl,F5,F4,HI,KK,B⟩))
 case rest =>
  clear B HI KK F4 F5
  obtain ⟨va,vb,rfl,F5,F4,HI,KK,B⟩:=hcut
  obtain ⟨c4_0,c4_1,c4_2,c4_3,c4_4,c4_5⟩:=cs6 F4
  obtain ⟨c5_0,c5_1⟩:=cs2 F5
  try go_wp2
  all_goals (
   refine rg (n:=10) (S:=fun W=>W.heap[g5]?=some (.cells #[.string va,.string vb] 34 (0,0))) (ds:=[]) #[false,false,false,false,false,false,false,false,false,false] (by kernel_rfl) rfl rfl F5.out id B (fun w101 hb B hHeld=>?_)
   refine with_tabW spec_l20State.tab4 spec_l20State.bits4 (fun HT_ HW_=>?_)
   replace F4:=bn F4 hb
   replace F5:=bn F5 hb
   replace HI:=hib HI hb
   replace KK:=kkb KK hb
   clear hb
   refine join_ 1 (bits 10 511) (σ:=Option Addr × Nat × List S105 × Option Addr × Nat × List S105 × Option Addr × Nat × List S76 × Nat × Int) (fun (ADs18,kDs18,zDs18,AIs20,kIs20,zIs20,ADs22,kDs22,zDs22,g6,ps22)=>[(16,.agg #[.string va,.string vb]),(17,.pointer (some ⟨g,0,none⟩)),(18,.slice ADs18 zDs18.length kDs18),(19,.agg #[.string va,.string vb]),(20,.slice AIs20 zIs20.length kIs20),(21,.pointer (some ⟨g,0,none⟩)),(22,.slice ADs22 zDs22.length kDs22),(23,.agg #[.string va,.string vb,.slice AIs20 zIs20.length kIs20,.slice ADs22 zDs22.length kDs22,.bool false,.string (⟨#[]⟩ : ByteArray)]),(6,.pointer (some ⟨g6,0,none⟩))]) (fun (ADs18,kDs18,zDs18,AIs20,kIs20,zIs20,ADs22,kDs22,zDs22,g6,ps22) W=>Aside0 (Below w.heap.size w W)∧Aside0 (W.heap[g4]?=some (.cells #[.string (⟨#[]⟩ : ByteArray),.string (⟨#[]⟩ : ByteArray),.slice none 0 0,.slice none 0 0,.bool false,.string (⟨#[]⟩ : ByteArray)] 38 (0,0)))∧Aside0 (W.heap[g5]?=some (.cells #[.string va,.string vb] 34 (0,0)))∧Aside0 (W.heap[g6]?=some (.cells #[.string (⟨#[]⟩ : ByteArray),.string (⟨#[]⟩ : ByteArray),.slice none 0 0,.slice none 0 0,.bool false,.string (⟨#[]⟩ : ByteArray)] 38 (0,0)))∧Aside0 (w.heap.size≤g6)∧Aside0 (g4 ≠ g6)∧Aside0 (g5 ≠ g6)∧Aside0 (Ow k105 105 W w.heap.size (.slice AIs20 zIs20.length kIs20) zIs20)∧Aside0 (Ow k76 76 W w.heap.size (.slice ADs22 zDs22.length kDs22) zDs22)∧Aside0 (IsS133 w W g bs ps22)∧Aside0 (Kept W0 W (RB g))∧Aside0 (W0.heap.size≤g6)∧Aside0 (Fr W0 (.slice AIs20 zIs20.length kIs20))∧Aside0 (Fr W0 (.slice ADs22 zDs22.length kDs22))∧(p5≤ps22∧ps22≤p5 + 160)∧zIs20.length≤300∧zDs22.length≤300) ?_ (fun J=>?_)
   rotate_left
   ·refine tvq 0 (some 16) (bits 10 1) HT_ HW_ rfl hHeld (by intro w' hS;have s0:=hS;obtain ⟨q0,q1⟩:=cs2 (Aside0.mk s0);go_simp;with_reducible rfl) ?_
    refine pvq 1 (some 17) (bits 10 3) HT_ ?_
    refine tvq 3 (some 19) (bits 10 11) HT_ HW_ rfl hHeld (by intro w' hS;have s0:=hS;obtain ⟨q0,q1⟩:=cs2 (Aside0.mk s0);go_simp;with_reducible rfl) ?_
    refine pvq 5 (some 21) (bits 10 43) HT_ ?_
    refine nmq ?_
    refine two_ (i:=2) (j:=8) (Ni:=some 18) (Nj:=some 6) (bits 10 47) (bits 10 299) rfl rfl rfl rfl (two_of HT_.out (by kernel_rfl)) (by decide) (by decide) (fun K hK=>?_) (fun K hK=>?_)
    ·refine gsq Try.func106 #[.pointer (some ⟨g,0,none⟩),.int .i64 (0)] ?_
     (with_reducible refine cgr (spec_l20Pairs.D 0 (by omega) w _ g bs p5 HI.out B.out HC.out (by omega) (by omega)) fun zDs18 ADs18 kDs18 ps18 hxs18 hps18 w102 hk B HI2 RDs18 QDs18=>?_)
     have MRDs18:=mrf QDs18 KK
     replace F4:=bkr F4 HI (by decide) hk
     replace F5:=bkr F5 HI (by decide) hk
     replace KK:=kkr KK hk
     replace HI:=HI2
     clear hk QDs18
     refine ⟨_,rfl,?_⟩
     refine hK.out _ _ F5.out (fun hHeld=>?_)
     clear hK K
     refine npq (some 18) ?_
     refine two_ (i:=4) (j:=8) (Ni:=some 20) (Nj:=some 6) (bits 10 63) (bits 10 303) rfl rfl rfl rfl (two_of HT_.out (by kernel_rfl)) (by decide) (by decide) (fun K hK=>?_) (fun K hK=>?_)
     ·refine gsq Try.func105 #[.slice ADs18 zDs18.length kDs18,.agg #[.string va,.string vb]] ?_
      with_reducible refine crz (spec_PairsIn.M _ _ zDs18 va vb _ (rc RDs18) (rl RDs18)) B fun zIs20 hzIs20 AIs20 kIs20 w103 hb B RIs20 QIs20=>?_
      have MRIs20:=mrf QIs20 KK
      replace F4:=bn F4 hb
      replace F5:=bn F5 hb
      replace HI:=hib HI hb
      replace KK:=kkb KK hb
      clear hb
      refine ⟨_,rfl,?_⟩
      refine hK.out _ _ F5.out (fun hHeld=>?_)
      clear hK K
      refine npq (some 20) ?_
      clear QIs20
      refine two_ (i:=6) (j:=8) (Ni:=some 22) (Nj:=some 6) (bits 10 127) (bits 10 319) rfl rfl rfl rfl (two_of HT_.out (by kernel_rfl)) (by decide) (by decide) (fun K hK=>?_) (fun K hK=>?_)
      ·refine gsq Try.func107 #[.pointer (some ⟨g,0,none⟩),.int .i64 (0)] ?_
       (with_reducible refine cgr (spec_l20Sessions.D 0 (by omega) w _ g bs ps18 HI.out B.out HC.out (by omega) (by omega)) fun zDs22 ADs22 kDs22 ps22 hxs22 hps22 w104 hk B HI2 RDs22 QDs22=>?_)
       have DIs20_Ds22:=fr QDs22 RIs20
       have MRDs22:=mrf QDs22 KK
       replace F4:=bkr F4 HI (by decide) hk
       replace F5:=bkr F5 HI (by decide) hk
       replace RIs20:=rkr RIs20 HI (by decide) hk
       replace KK:=kkr KK hk
       replace HI:=HI2
       clear hk QDs22
       refine ⟨_,rfl,?_⟩
       refine hK.out _ _ F5.out (fun hHeld=>?_)
       clear hK K
       refine npq (some 22) ?_
       refine pvq 7 (some 23) (bits 10 255) HT_ ?_
       refine nmq ?_
       refine one_ (i:=8) (N:=some 6) (bits 10 511) rfl rfl (one_of HT_.out (by kernel_rfl)) (by decide) (fun K hK=>?_)
       refine bxs (cs:=#[.string (⟨#[]⟩ : ByteArray),.string (⟨#[]⟩ : ByteArray),.slice none 0 0,.slice none 0 0,.bool false,.string (⟨#[]⟩ : ByteArray)]) (t:=38) (by rfl) rfl ?hr B (fun g6 w105 hb B F6 L6 E6=>?_)
       (case hr=>go_simp;first | done | rfl)
       have N4_6:=ne1 E6 F4
       have N5_6:=ne1 E6 F5
       have M6:=mbx E6 KK
       replace F4:=bn F4 hb
       replace F5:=bn F5 hb
       replace RIs20:=rn RIs20 hb
       replace RDs22:=rn RDs22 hb
       replace HI:=hib HI hb
       replace KK:=kkb KK hb
       clear hb E6
       refine hK.out _ _ F5.out (fun hHeld=>?_)
       clear hK K
       refine npq (some 6) ?_
       refine norm_ (a':=_) ?_ (J ⟨ADs18,kDs18,zDs18,AIs20,kIs20,zIs20,ADs22,kDs22,zDs22,g6,ps22⟩ _ ⟨B,F4,F5,F6,L6,N4_6,N5_6,RIs20,RDs22,HI,KK,M6,MRIs20,MRDs22,(by omega),(by rw [← hzIs20];exact Nat.le_trans (inM_len _ _ _) hxs18),hxs22⟩)
       simp only [putAll,Act.put,za,zb,zc]
       try rfl
      ·refine bxs (cs:=#[.string (⟨#[]⟩ : ByteArray),.string (⟨#[]⟩ : ByteArray),.slice none 0 0,.slice none 0 0,.bool false,.string (⟨#[]⟩ : ByteArray)]) (t:=38) (by rfl) rfl ?hr B (fun g6 w104 hb B F6 L6 E6=>?_)
       (case hr=>go_simp;first | done | rfl)
       have N4_6:=ne1 E6 F4
       have N5_6:=ne1 E6 F5
       have M6:=mbx E6 KK
       replace F4:=bn F4 hb
       replace F5:=bn F5 hb
       replace RIs20:=rn RIs20 hb
       replace HI:=hib HI hb
       replace KK:=kkb KK hb
       clear hb E6
       refine hK.out _ _ F5.out (fun hHeld=>?_)
       clear hK K
       refine npq (some 6) ?_
       refine one_ (i:=6) (N:=some 22) (bits 10 383) rfl rfl (one_of HT_.out (by kernel_rfl)) (by decide) (fun K hK=>?_)
       refine gsq Try.func107 #[.pointer (some ⟨g,0,none⟩),.int .i64 (0)] ?_
       (with_reducible refine cgr (spec_l20Sessions.D 0 (by omega) w _ g bs ps18 HI.out B.out HC.out (by omega) (by omega)) fun zDs22 ADs22 kDs22 ps22 hxs22 hps22 w105 hk B HI2 RDs22 QDs22=>?_)
       have DIs20_Ds22:=fr QDs22 RIs20
       have MRDs22:=mrf QDs22 KK
       replace F4:=bkr F4 HI (by decide) hk
       replace F5:=bkr F5 HI (by decide) hk
       replace F6:=bkr F6 HI (by decide) hk
       replace RIs20:=rkr RIs20 HI (by decide) hk
       replace KK:=kkr KK hk
       replace HI:=HI2
       clear hk QDs22
       refine ⟨_,rfl,?_⟩
       refine hK.out _ _ F5.out (fun hHeld=>?_)
       clear hK K
       refine npq (some 22) ?_
       refine pvq 7 (some 23) (bits 10 511) HT_ ?_
       refine nmq ?_
       refine norm_ (a':=_) ?_ (J ⟨ADs18,kDs18,zDs18,AIs20,kIs20,zIs20,ADs22,kDs22,zDs22,g6,ps22⟩ _ ⟨B,F4,F5,F6,L6,N4_6,N5_6,RIs20,RDs22,HI,KK,M6,MRIs20,MRDs22,(by omega),(by rw [← hzIs20];exact Nat.le_trans (inM_len _ _ _) hxs18),hxs22⟩)
       simp only [putAll,Act.put,za,zb,zc]
       try rfl
     ·refine bxs (cs:=#[.string (⟨#[]⟩ : ByteArray),.string (⟨#[]⟩ : ByteArray),.slice none 0 0,.slice none 0 0,.bool false,.string (⟨#[]⟩ : ByteArray)]) (t:=38) (by rfl) rfl ?hr B (fun g6 w103 hb B F6 L6 E6=>?_)
      (case hr=>go_simp;first | done | rfl)
      have N4_6:=ne1 E6 F4
      have N5_6:=ne1 E6 F5
      have M6:=mbx E6 KK
      replace F4:=bn F4 hb
      replace F5:=bn F5 hb
      replace RDs18:=rn RDs18 hb
      replace HI:=hib HI hb
      replace KK:=kkb KK hb
      clear hb E6
      refine hK.out _ _ F5.out (fun hHeld=>?_)
      clear hK K
      refine npq (some 6) ?_
      refine one_ (i:=4) (N:=some 20) (bits 10 319) rfl rfl (one_of HT_.out (by kernel_rfl)) (by decide) (fun K hK=>?_)
      refine gsq Try.func105 #[.slice ADs18 zDs18.length kDs18,.agg #[.string va,.string vb]] ?_
      with_reducible refine crz (spec_PairsIn.M _ _ zDs18 va vb _ (rc RDs18) (rl RDs18)) B fun zIs20 hzIs20 AIs20 kIs20 w104 hb B RIs20 QIs20=>?_
      have MRIs20:=mrf QIs20 KK
      replace F4:=bn F4 hb
      replace F5:=bn F5 hb
      replace F6:=bn F6 hb
      replace HI:=hib HI hb
      replace KK:=kkb KK hb
      clear hb
      refine ⟨_,rfl,?_⟩
      refine hK.out _ _ F5.out (fun hHeld=>?_)
      clear hK K
      refine npq (some 20) ?_
      clear QIs20
      refine one_ (i:=6) (N:=some 22) (bits 10 383) rfl rfl (one_of HT_.out (by kernel_rfl)) (by decide) (fun K hK=>?_)
      refine gsq Try.func107 #[.pointer (some ⟨g,0,none⟩),.int .i64 (0)] ?_
      (with_reducible refine cgr (spec_l20Sessions.D 0 (by omega) w _ g bs ps18 HI.out B.out HC.out (by omega) (by omega)) fun zDs22 ADs22 kDs22 ps22 hxs22 hps22 w105 hk B HI2 RDs22 QDs22=>?_)
      have DIs20_Ds22:=fr QDs22 RIs20
      have MRDs22:=mrf QDs22 KK
      replace F4:=bkr F4 HI (by decide) hk
      replace F5:=bkr F5 HI (by decide) hk
      replace F6:=bkr F6 HI (by decide) hk
      replace RIs20:=rkr RIs20 HI (by decide) hk
      replace KK:=kkr KK hk
      replace HI:=HI2
      clear hk QDs22
      refine ⟨_,rfl,?_⟩
      refine hK.out _ _ F5.out (fun hHeld=>?_)
      clear hK K
      refine npq (some 22) ?_
      refine pvq 7 (some 23) (bits 10 511) HT_ ?_
      refine nmq ?_
      refine norm_ (a':=_) ?_ (J ⟨ADs18,kDs18,zDs18,AIs20,kIs20,zIs20,ADs22,kDs22,zDs22,g6,ps22⟩ _ ⟨B,F4,F5,F6,L6,N4_6,N5_6,RIs20,RDs22,HI,KK,M6,MRIs20,MRDs22,(by omega),(by rw [← hzIs20];exact Nat.le_trans (inM_len _ _ _) hxs18),hxs22⟩)
      simp only [putAll,Act.put,za,zb,zc]
      try rfl
    ·refine bxs (cs:=#[.string (⟨#[]⟩ : ByteArray),.string (⟨#[]⟩ : ByteArray),.slice none 0 0,.slice none 0 0,.bool false,.string (⟨#[]⟩ : ByteArray)]) (t:=38) (by rfl) rfl ?hr B (fun g6 w102 hb B F6 L6 E6=>?_)
     (case hr=>go_simp;first | done | rfl)
     have N4_6:=ne1 E6 F4
     have N5_6:=ne1 E6 F5
     have M6:=mbx E6 KK
     replace F4:=bn F4 hb
     replace F5:=bn F5 hb
     replace HI:=hib HI hb
     replace KK:=kkb KK hb
     clear hb E6
     refine hK.out _ _ F5.out (fun hHeld=>?_)
     clear hK K
     refine npq (some 6) ?_
     refine one_ (i:=2) (N:=some 18) (bits 10 303) rfl rfl (one_of HT_.out (by kernel_rfl)) (by decide) (fun K hK=>?_)
     refine gsq Try.func106 #[.pointer (some ⟨g,0,none⟩),.int .i64 (0)] ?_
     (with_reducible refine cgr (spec_l20Pairs.D 0 (by omega) w _ g bs p5 HI.out B.out HC.out (by omega) (by omega)) fun zDs18 ADs18 kDs18 ps18 hxs18 hps18 w103 hk B HI2 RDs18 QDs18=>?_)
     have MRDs18:=mrf QDs18 KK
     replace F4:=bkr F4 HI (by decide) hk
     replace F5:=bkr F5 HI (by decide) hk
     replace F6:=bkr F6 HI (by decide) hk
     replace KK:=kkr KK hk
     replace HI:=HI2
     clear hk QDs18
     refine ⟨_,rfl,?_⟩
     refine hK.out _ _ F5.out (fun hHeld=>?_)
     clear hK K
     refine npq (some 18) ?_
     refine one_ (i:=4) (N:=some 20) (bits 10 319) rfl rfl (one_of HT_.out (by kernel_rfl)) (by decide) (fun K hK=>?_)
     refine gsq Try.func105 #[.slice ADs18 zDs18.length kDs18,.agg #[.string va,.string vb]] ?_
     with_reducible refine crz (spec_PairsIn.M _ _ zDs18 va vb _ (rc RDs18) (rl RDs18)) B fun zIs20 hzIs20 AIs20 kIs20 w104 hb B RIs20 QIs20=>?_
     have MRIs20:=mrf QIs20 KK
     replace F4:=bn F4 hb
     replace F5:=bn F5 hb
     replace F6:=bn F6 hb
     replace HI:=hib HI hb
     replace KK:=kkb KK hb
     clear hb
     refine ⟨_,rfl,?_⟩
     refine hK.out _ _ F5.out (fun hHeld=>?_)
     clear hK K
     refine npq (some 20) ?_
     clear QIs20
     refine one_ (i:=6) (N:=some 22) (bits 10 383) rfl rfl (one_of HT_.out (by kernel_rfl)) (by decide) (fun K hK=>?_)
     refine gsq Try.func107 #[.pointer (some ⟨g,0,none⟩),.int .i64 (0)] ?_
     (with_reducible refine cgr (spec_l20Sessions.D 0 (by omega) w _ g bs ps18 HI.out B.out HC.out (by omega) (by omega)) fun zDs22 ADs22 kDs22 ps22 hxs22 hps22 w105 hk B HI2 RDs22 QDs22=>?_)
     have DIs20_Ds22:=fr QDs22 RIs20
     have MRDs22:=mrf QDs22 KK
     replace F4:=bkr F4 HI (by decide) hk
     replace F5:=bkr F5 HI (by decide) hk
     replace F6:=bkr F6 HI (by decide) hk
     replace RIs20:=rkr RIs20 HI (by decide) hk
     replace KK:=kkr KK hk
     replace HI:=HI2
     clear hk QDs22
     refine ⟨_,rfl,?_⟩
     refine hK.out _ _ F5.out (fun hHeld=>?_)
     clear hK K
     refine npq (some 22) ?_
     refine pvq 7 (some 23) (bits 10 511) HT_ ?_
     refine nmq ?_
     refine norm_ (a':=_) ?_ (J ⟨ADs18,kDs18,zDs18,AIs20,kIs20,zIs20,ADs22,kDs22,zDs22,g6,ps22⟩ _ ⟨B,F4,F5,F6,L6,N4_6,N5_6,RIs20,RDs22,HI,KK,M6,MRIs20,MRDs22,(by omega),(by rw [← hzIs20];exact Nat.le_trans (inM_len _ _ _) hxs18),hxs22⟩)
     simp only [putAll,Act.put,za,zb,zc]
     try rfl
   rintro ⟨ADs18,kDs18,zDs18,AIs20,kIs20,zIs20,ADs22,kDs22,zDs22,g6,ps22⟩ w106 ⟨B,F4,F5,F6,L6,N4_6,N5_6,RIs20,RDs22,HI,KK,M6,MRIs20,MRDs22,hpj4,hlIs20,hlDs22⟩
   refine norm_ (a':=?_) ?_ ?_
   rotate_left
   ·simp only [putAll,Act.put,za,zb,zc]
    rfl
   refine one_ (i:=9) (N:=none) (bits 10 1023) rfl rfl (one_of HT_.out (by kernel_rfl)) (by decide) (fun K hK=>?_)
   obtain ⟨y0,y1,y2,y3,y4,y5,z0,z1,z2,z3,z4,z5⟩:=cz6 F6
   refine sxs (g:=g6) 0 [.string va,.string vb,.slice AIs20 zIs20.length kIs20,.slice ADs22 zDs22.length kDs22,.bool false,.string (⟨#[]⟩ : ByteArray)] [.string va,.string vb,.slice AIs20 zIs20.length kIs20,.slice ADs22 zDs22.length kDs22,.bool false,.string (⟨#[]⟩ : ByteArray)] (by rfl) rfl ?hr B F6 L6 rfl (Nat.le_of_ble_eq_true rfl) (fun w107 hk B G=>?_)
   (case hr=>go_simp;first | done | rfl)
   replace F4:=bk F4 hk N4_6.out
   replace F5:=bk F5 hk N5_6.out
   replace RIs20:=rk RIs20 F6 (by decide) hk
   replace RDs22:=rk RDs22 F6 (by decide) hk
   replace HI:=his HI F6 (by decide) hk
   replace KK:=kks KK M6 hk
   replace F6:=G
   clear hk y0 z0 y1 z1 y2 z2 y3 z3 y4 z4 y5 z5
   refine hK.out _ _ F5.out (fun hHeld=>?_)
   clear hK K
   refine done_ (done_of HT_.out (by kernel_rfl)) ?_
   clear c5_0 c5_1
   obtain ⟨c5_0,c5_1⟩:=cs2 F5
   obtain ⟨c6_0,c6_1,c6_2,c6_3,c6_4,c6_5⟩:=cs6 F6)
  go_upto_if 26 with (first
   | (go_at_call 104;(with_reducible refine cg1 (spec_l20Rd_pick.D 5 w _ g bs ps22 HI.out B.out HC.out (by omega) (by omega)) fun x151 p151 hx151 hp151 w151 hk B HI2=>?_);replace F4:=bkr F4 HI (by decide) hk;replace F5:=bkr F5 HI (by decide) hk;replace F6:=bkr F6 HI (by decide) hk;replace RIs20:=rkr RIs20 HI (by decide) hk;replace RDs22:=rkr RDs22 HI (by decide) hk;replace KK:=kkr KK hk;replace HI:=HI2;clear hk;clear c5_0 c5_1;obtain ⟨c5_0,c5_1⟩:=cs2 F5;clear c6_0 c6_1 c6_2 c6_3 c6_4 c6_5;obtain ⟨c6_0,c6_1,c6_2,c6_3,c6_4,c6_5⟩:=cs6 F6;skip))
  go_cut [6] (fun v6 wc=>∃ (tb : Bool) (ct : ByteArray) (pp : Int),v6=.pointer (some ⟨g6,0,none⟩)∧(p≤pp∧pp≤p + 300)∧Aside0 (wc.heap[g6]?=some (.cells #[.string va,.string vb,.slice AIs20 zIs20.length kIs20,.slice ADs22 zDs22.length kDs22,.bool tb,.string ct] 38 (0,0)))∧Aside0 (wc.heap[g4]?=some (.cells #[.string (⟨#[]⟩ : ByteArray),.string (⟨#[]⟩ : ByteArray),.slice none 0 0,.slice none 0 0,.bool false,.string (⟨#[]⟩ : ByteArray)] 38 (0,0)))∧Aside0 (Ow k105 105 wc w.heap.size (.slice AIs20 zIs20.length kIs20) zIs20)∧Aside0 (Ow k76 76 wc w.heap.size (.slice ADs22 zDs22.length kDs22) zDs22)∧Aside0 (IsS133 w wc g bs pp)∧Aside0 (Kept W0 wc (RB g))∧Aside0 (Below w.heap.size w wc))
  case first =>
   go_wp2_with (first
    | ((with_reducible refine gate_store (t:=4) (p:=27) rfl ?_);obtain ⟨y0,y1,y2,y3,y4,y5,z0,z1,z2,z3,z4,z5⟩:=cz6 F6;refine sxq 38 4 27 4 [.bool true] [.string va,.string vb,.slice AIs20 zIs20.length kIs20,.slice ADs22 zDs22.length kDs22,.bool true,.string (⟨#[]⟩ : ByteArray)] B F6 L6 fun w201 hk B G=>?_;replace F4:=bk F4 hk N4_6.out;replace F5:=bk F5 hk N5_6.out;replace RIs20:=rk RIs20 F6 (by decide) hk;replace RDs22:=rk RDs22 F6 (by decide) hk;replace HI:=his HI F6 (by decide) hk;replace KK:=kks KK M6 hk;replace F6:=G;clear c5_0 c5_1;obtain ⟨c5_0,c5_1⟩:=cs2 F5;clear c6_0 c6_1 c6_2 c6_3 c6_4 c6_5;obtain ⟨c6_0,c6_1,c6_2,c6_3,c6_4,c6_5⟩:=cs6 F6;clear hk y0 z0 y1 z1 y2 z2 y3 z3 y4 z4 y5 z5)
    | (go_at_call 41;with_reducible refine cl (spec_IntervalCut.M va vb (⟨#[99]⟩ : ByteArray) _) B fun w202 hb B=>?_;replace F4:=bn F4 hb;replace F5:=bn F5 hb;replace F6:=bn F6 hb;replace RIs20:=rn RIs20 hb;replace RDs22:=rn RDs22 hb;replace HI:=hib HI hb;replace KK:=kkb KK hb;clear c6_0 c6_1 c6_2 c6_3 c6_4 c6_5;obtain ⟨c6_0,c6_1,c6_2,c6_3,c6_4,c6_5⟩:=cs6 F6;clear hb)
    | ((with_reducible refine gate_dst (N:=7) rfl ?_);refine bxq 7 #[.string (⟨#[]⟩ : ByteArray),.string (⟨#[]⟩ : ByteArray)] 34 B fun g7 w203 hb B F7 L7 E7=>?_;have N4_7:=ne1 E7 F4;have N5_7:=ne1 E7 F5;have N6_7:=ne1 E7 F6;have M7:=mbx E7 KK;replace F4:=bn F4 hb;replace F5:=bn F5 hb;replace F6:=bn F6 hb;replace RIs20:=rn RIs20 hb;replace RDs22:=rn RDs22 hb;replace HI:=hib HI hb;replace KK:=kkb KK hb;clear c6_0 c6_1 c6_2 c6_3 c6_4 c6_5;obtain ⟨c6_0,c6_1,c6_2,c6_3,c6_4,c6_5⟩:=cs6 F6;clear hb E7)
    | ((with_reducible refine gate_dst (N:=8) rfl ?_);refine bxq 8 #[.string (⟨#[]⟩ : ByteArray),.string (⟨#[]⟩ : ByteArray)] 34 B fun g8 w204 hb B F8 L8 E8=>?_;have N4_8:=ne1 E8 F4;have N5_8:=ne1 E8 F5;have N6_8:=ne1 E8 F6;have N7_8:=ne1 E8 F7;have M8:=mbx E8 KK;replace F4:=bn F4 hb;replace F5:=bn F5 hb;replace F6:=bn F6 hb;replace F7:=bn F7 hb;replace RIs20:=rn RIs20 hb;replace RDs22:=rn RDs22 hb;replace HI:=hib HI hb;replace KK:=kkb KK hb;clear c6_0 c6_1 c6_2 c6_3 c6_4 c6_5;obtain ⟨c6_0,c6_1,c6_2,c6_3,c6_4,c6_5⟩:=cs6 F6;clear hb E8)
    | ((with_reducible refine gate_store (t:=34) (p:=7) rfl ?_);obtain ⟨y0,y1,z0,z1⟩:=cz2 F7;refine sxq 34 34 7 0 [.string (cutV va vb (⟨#[99]⟩ : ByteArray)).1,.string (cutV va vb (⟨#[99]⟩ : ByteArray)).2.1] [.string (cutV va vb (⟨#[99]⟩ : ByteArray)).1,.string (cutV va vb (⟨#[99]⟩ : ByteArray)).2.1] B F7 L7 fun w205 hk B G=>?_;replace F4:=bk F4 hk N4_7.out;replace F5:=bk F5 hk N5_7.out;replace F6:=bk F6 hk N6_7.out;replace F8:=bk F8 hk N7_8.out.symm;replace RIs20:=rk RIs20 F7 (by decide) hk;replace RDs22:=rk RDs22 F7 (by decide) hk;replace HI:=his HI F7 (by decide) hk;replace KK:=kks KK M7 hk;replace F7:=G;clear c6_0 c6_1 c6_2 c6_3 c6_4 c6_5;obtain ⟨c6_0,c6_1,c6_2,c6_3,c6_4,c6_5⟩:=cs6 F6;clear hk y0 z0 y1 z1)
    | ((with_reducible refine gate_store (t:=34) (p:=8) rfl ?_);obtain ⟨y0,y1,z0,z1⟩:=cz2 F8;refine sxq 34 34 8 0 [.string (cutV va vb (⟨#[99]⟩ : ByteArray)).2.2.1,.string (cutV va vb (⟨#[99]⟩ : ByteArray)).2.2.2.1] [.string (cutV va vb (⟨#[99]⟩ : ByteArray)).2.2.1,.string (cutV va vb (⟨#[99]⟩ : ByteArray)).2.2.2.1] B F8 L8 fun w206 hk B G=>?_;replace F4:=bk F4 hk N4_8.out;replace F5:=bk F5 hk N5_8.out;replace F6:=bk F6 hk N6_8.out;replace RIs20:=rk RIs20 F8 (by decide) hk;replace RDs22:=rk RDs22 F8 (by decide) hk;replace HI:=his HI F8 (by decide) hk;replace KK:=kks KK M8 hk;replace F8:=G;clear c6_0 c6_1 c6_2 c6_3 c6_4 c6_5;obtain ⟨c6_0,c6_1,c6_2,c6_3,c6_4,c6_5⟩:=cs6 F6;clear hk y0 z0 y1 z1)
    | (go_at_call 104;(with_reducible refine cg1 (spec_l20Rd_pick.D 2 w _ g bs p151 HI.out B.out HC.out (by omega) (by omega)) fun x207 p207 hx207 hp207 w207 hk B HI2=>?_);replace F4:=bkr F4 HI (by decide) hk;replace F5:=bkr F5 HI (by decide) hk;replace F6:=bkr F6 HI (by decide) hk;replace RIs20:=rkr RIs20 HI (by decide) hk;replace RDs22:=rkr RDs22 HI (by decide) hk;replace KK:=kkr KK hk;replace HI:=HI2;clear hk;clear c6_0 c6_1 c6_2 c6_3 c6_4 c6_5;obtain ⟨c6_0,c6_1,c6_2,c6_3,c6_4,c6_5⟩:=cs6 F6;skip)
    | ((with_reducible refine gate_store (t:=9) (p:=40) rfl ?_);obtain ⟨y0,y1,y2,y3,y4,y5,z0,z1,z2,z3,z4,z5⟩:=cz6 F6;refine sxq 38 9 40 5 [.string (⟨#[99]⟩ : ByteArray)] [.string va,.string vb,.slice AIs20 zIs20.length kIs20,.slice ADs22 zDs22.length kDs22,.bool true,.string (⟨#[99]⟩ : ByteArray)] B F6 L6 fun w208 hk B G=>?_;replace F4:=bk F4 hk N4_6.out;replace F5:=bk F5 hk N5_6.out;replace RIs20:=rk RIs20 F6 (by decide) hk;replace RDs22:=rk RDs22 F6 (by decide) hk;replace HI:=his HI F6 (by decide) hk;replace KK:=kks KK M6 hk;replace F6:=G;clear c6_0 c6_1 c6_2 c6_3 c6_4 c6_5;obtain ⟨c6_0,c6_1,c6_2,c6_3,c6_4,c6_5⟩:=cs6 F6;clear hk y0 z0 y1 z1 y2 z2 y3 z3 y4 z4 y5 z5))
   all_goals (go_meet;(case rel=>exact ⟨_,_,_,rfl,by omega,F6,F4,RIs20,RDs22,HI,KK,B⟩))
  case rest =>
   clear B HI KK F4 F5 F6 RIs20 RDs22
   obtain ⟨tb,ct,pp,rfl,hpp,F6,F4,RIs20,RDs22,HI,KK,B⟩:=hcut
   obtain ⟨c4_0,c4_1,c4_2,c4_3,c4_4,c4_5⟩:=cs6 F4
   obtain ⟨c6_0,c6_1,c6_2,c6_3,c6_4,c6_5⟩:=cs6 F6
   go_upto_if 43 with (first
    | (go_at_call 108;(with_reducible refine cg1 (spec_l20Rd_odd.D n (by omega) w _ g bs pp HI.out B.out HC.out (by omega) (by omega)) fun x301 p301 hx301 hp301 w301 hk B HI2=>?_);replace F4:=bkr F4 HI (by decide) hk;replace F6:=bkr F6 HI (by decide) hk;replace RIs20:=rkr RIs20 HI (by decide) hk;replace RDs22:=rkr RDs22 HI (by decide) hk;replace KK:=kkr KK hk;replace HI:=HI2;clear hk;clear c6_0 c6_1 c6_2 c6_3 c6_4 c6_5;obtain ⟨c6_0,c6_1,c6_2,c6_3,c6_4,c6_5⟩:=cs6 F6;skip))
   go_cut [6] (fun v6 wc=>∃ (x0 x1 : ByteArray) (v2 v3 : Value) (x4 : Bool) (x5 : ByteArray) (xs : List S105) (ys : List S76) (pq : Int),v6=.pointer (some ⟨g6,0,none⟩)∧(p≤pq∧pq≤p + 900)∧(xs.length≤300∧ys.length≤300)∧Aside0 (wc.heap[g6]?=some (.cells #[.string x0,.string x1,v2,v3,.bool x4,.string x5] 38 (0,0)))∧Aside0 (wc.heap[g4]?=some (.cells #[.string (⟨#[]⟩ : ByteArray),.string (⟨#[]⟩ : ByteArray),.slice none 0 0,.slice none 0 0,.bool false,.string (⟨#[]⟩ : ByteArray)] 38 (0,0)))∧(Aside0 (Ow k105 105 wc w.heap.size (v2) xs)∧Aside0 (Fr W0 v2))∧(Aside0 (Ow k76 76 wc w.heap.size (v3) ys)∧Aside0 (Fr W0 v3))∧Aside0 (IsS133 w wc g bs pq)∧Aside0 (Kept W0 wc (RB g))∧Aside0 (Below w.heap.size w wc))
   case first =>
    go_wp2_with (first
     | (go_at_call 104;(with_reducible refine cg1 (spec_l20Rd_pick.D 5 w _ g bs p301 HI.out B.out HC.out (by omega) (by omega)) fun x351 p351 hx351 hp351 w351 hk B HI2=>?_);replace F4:=bkr F4 HI (by decide) hk;replace F6:=bkr F6 HI (by decide) hk;replace RIs20:=rkr RIs20 HI (by decide) hk;replace RDs22:=rkr RDs22 HI (by decide) hk;replace KK:=kkr KK hk;replace HI:=HI2;clear hk;clear c6_0 c6_1 c6_2 c6_3 c6_4 c6_5;obtain ⟨c6_0,c6_1,c6_2,c6_3,c6_4,c6_5⟩:=cs6 F6;skip)
     | (go_at_call 103;(with_reducible refine cg2 (spec_l20Span.D 1 (by omega) w _ g bs p351 HI.out B.out HC.out (by omega) (by omega)) fun x401 y401 p401 hx401 hp401 w401 hk B HI2=>?_);replace F4:=bkr F4 HI (by decide) hk;replace F6:=bkr F6 HI (by decide) hk;replace RIs20:=rkr RIs20 HI (by decide) hk;replace RDs22:=rkr RDs22 HI (by decide) hk;replace KK:=kkr KK hk;replace HI:=HI2;clear hk;clear c6_0 c6_1 c6_2 c6_3 c6_4 c6_5;obtain ⟨c6_0,c6_1,c6_2,c6_3,c6_4,c6_5⟩:=cs6 F6;skip)
     | ((with_reducible refine gate_store (t:=34) (p:=55) rfl ?_);obtain ⟨y0,y1,y2,y3,y4,y5,z0,z1,z2,z3,z4,z5⟩:=cz6 F6;refine sxq 38 34 55 0 [.string x401,.string y401] [.string x401,.string y401,.slice AIs20 zIs20.length kIs20,.slice ADs22 zDs22.length kDs22,.bool tb,.string ct] B F6 L6 fun w402 hk B G=>?_;replace F4:=bk F4 hk N4_6.out;replace RIs20:=rk RIs20 F6 (by decide) hk;replace RDs22:=rk RDs22 F6 (by decide) hk;replace HI:=his HI F6 (by decide) hk;replace KK:=kks KK M6 hk;replace F6:=G;clear c6_0 c6_1 c6_2 c6_3 c6_4 c6_5;obtain ⟨c6_0,c6_1,c6_2,c6_3,c6_4,c6_5⟩:=cs6 F6;clear hk y0 z0 y1 z1 y2 z2 y3 z3 y4 z4 y5 z5)
     | (go_at_call 106;(with_reducible refine cgr (spec_l20Pairs.D 1 (by omega) w _ g bs p351 HI.out B.out HC.out (by omega) (by omega)) fun zD451 AD451 kD451 p451 hx451 hp451 w451 hk B HI2 RD451 QD451=>?_);have DIs20_D451:=fr QD451 RIs20;have DDs22_D451:=fr QD451 RDs22;have MRD451:=mrf QD451 KK;replace F4:=bkr F4 HI (by decide) hk;replace F6:=bkr F6 HI (by decide) hk;replace RIs20:=rkr RIs20 HI (by decide) hk;replace RDs22:=rkr RDs22 HI (by decide) hk;replace KK:=kkr KK hk;replace HI:=HI2;clear hk QD451;clear c6_0 c6_1 c6_2 c6_3 c6_4 c6_5;obtain ⟨c6_0,c6_1,c6_2,c6_3,c6_4,c6_5⟩:=cs6 F6;skip)
     | ((with_reducible refine gate_store (t:=35) (p:=60) rfl ?_);obtain ⟨y0,y1,y2,y3,y4,y5,z0,z1,z2,z3,z4,z5⟩:=cz6 F6;refine sxq 38 35 60 2 [.slice AD451 zD451.length kD451] [.string va,.string vb,.slice AD451 zD451.length kD451,.slice ADs22 zDs22.length kDs22,.bool tb,.string ct] B F6 L6 fun w452 hk B G=>?_;replace F4:=bk F4 hk N4_6.out;replace RIs20:=rk RIs20 F6 (by decide) hk;replace RDs22:=rk RDs22 F6 (by decide) hk;replace RD451:=rk RD451 F6 (by decide) hk;replace HI:=his HI F6 (by decide) hk;replace KK:=kks KK M6 hk;replace F6:=G;clear c6_0 c6_1 c6_2 c6_3 c6_4 c6_5;obtain ⟨c6_0,c6_1,c6_2,c6_3,c6_4,c6_5⟩:=cs6 F6;clear hk y0 z0 y1 z1 y2 z2 y3 z3 y4 z4 y5 z5)
     | (go_at_call 107;(with_reducible refine cgr (spec_l20Sessions.D 1 (by omega) w _ g bs p351 HI.out B.out HC.out (by omega) (by omega)) fun zD501 AD501 kD501 p501 hx501 hp501 w501 hk B HI2 RD501 QD501=>?_);have DIs20_D501:=fr QD501 RIs20;have DDs22_D501:=fr QD501 RDs22;have MRD501:=mrf QD501 KK;replace F4:=bkr F4 HI (by decide) hk;replace F6:=bkr F6 HI (by decide) hk;replace RIs20:=rkr RIs20 HI (by decide) hk;replace RDs22:=rkr RDs22 HI (by decide) hk;replace KK:=kkr KK hk;replace HI:=HI2;clear hk QD501;clear c6_0 c6_1 c6_2 c6_3 c6_4 c6_5;obtain ⟨c6_0,c6_1,c6_2,c6_3,c6_4,c6_5⟩:=cs6 F6;skip)
     | ((with_reducible refine gate_store (t:=36) (p:=65) rfl ?_);obtain ⟨y0,y1,y2,y3,y4,y5,z0,z1,z2,z3,z4,z5⟩:=cz6 F6;refine sxq 38 36 65 3 [.slice AD501 zD501.length kD501] [.string va,.string vb,.slice AIs20 zIs20.length kIs20,.slice AD501 zD501.length kD501,.bool tb,.string ct] B F6 L6 fun w502 hk B G=>?_;replace F4:=bk F4 hk N4_6.out;replace RIs20:=rk RIs20 F6 (by decide) hk;replace RDs22:=rk RDs22 F6 (by decide) hk;replace RD501:=rk RD501 F6 (by decide) hk;replace HI:=his HI F6 (by decide) hk;replace KK:=kks KK M6 hk;replace F6:=G;clear c6_0 c6_1 c6_2 c6_3 c6_4 c6_5;obtain ⟨c6_0,c6_1,c6_2,c6_3,c6_4,c6_5⟩:=cs6 F6;clear hk y0 z0 y1 z1 y2 z2 y3 z3 y4 z4 y5 z5)
     | ((with_reducible refine gate_store (t:=9) (p:=68) rfl ?_);obtain ⟨y0,y1,y2,y3,y4,y5,z0,z1,z2,z3,z4,z5⟩:=cz6 F6;refine sxq 38 9 68 5 [.string (⟨#[98]⟩ : ByteArray)] [.string va,.string vb,.slice AIs20 zIs20.length kIs20,.slice ADs22 zDs22.length kDs22,.bool tb,.string (⟨#[98]⟩ : ByteArray)] B F6 L6 fun w551 hk B G=>?_;replace F4:=bk F4 hk N4_6.out;replace RIs20:=rk RIs20 F6 (by decide) hk;replace RDs22:=rk RDs22 F6 (by decide) hk;replace HI:=his HI F6 (by decide) hk;replace KK:=kks KK M6 hk;replace F6:=G;clear c6_0 c6_1 c6_2 c6_3 c6_4 c6_5;obtain ⟨c6_0,c6_1,c6_2,c6_3,c6_4,c6_5⟩:=cs6 F6;clear hk y0 z0 y1 z1 y2 z2 y3 z3 y4 z4 y5 z5)
     | ((with_reducible refine gate_store (t:=4) (p:=69) rfl ?_);obtain ⟨y0,y1,y2,y3,y4,y5,z0,z1,z2,z3,z4,z5⟩:=cz6 F6;refine sxq 38 4 69 4 [.bool false] [.string va,.string vb,.slice AIs20 zIs20.length kIs20,.slice ADs22 zDs22.length kDs22,.bool false,.string (⟨#[98]⟩ : ByteArray)] B F6 L6 fun w552 hk B G=>?_;replace F4:=bk F4 hk N4_6.out;replace RIs20:=rk RIs20 F6 (by decide) hk;replace RDs22:=rk RDs22 F6 (by decide) hk;replace HI:=his HI F6 (by decide) hk;replace KK:=kks KK M6 hk;replace F6:=G;clear c6_0 c6_1 c6_2 c6_3 c6_4 c6_5;obtain ⟨c6_0,c6_1,c6_2,c6_3,c6_4,c6_5⟩:=cs6 F6;clear hk y0 z0 y1 z1 y2 z2 y3 z3 y4 z4 y5 z5)
     | ((with_reducible refine gate_store (t:=34) (p:=47) rfl ?_);obtain ⟨y0,y1,y2,y3,y4,y5,z0,z1,z2,z3,z4,z5⟩:=cz6 F6;refine sxq 38 34 47 0 [.string (⟨#[109]⟩ : ByteArray),.string (⟨#[110]⟩ : ByteArray)] [.string (⟨#[109]⟩ : ByteArray),.string (⟨#[110]⟩ : ByteArray),.slice AIs20 zIs20.length kIs20,.slice ADs22 zDs22.length kDs22,.bool tb,.string ct] B F6 L6 fun w601 hk B G=>?_;replace F4:=bk F4 hk N4_6.out;replace RIs20:=rk RIs20 F6 (by decide) hk;replace RDs22:=rk RDs22 F6 (by decide) hk;replace HI:=his HI F6 (by decide) hk;replace KK:=kks KK M6 hk;replace F6:=G;clear c6_0 c6_1 c6_2 c6_3 c6_4 c6_5;obtain ⟨c6_0,c6_1,c6_2,c6_3,c6_4,c6_5⟩:=cs6 F6;clear hk y0 z0 y1 z1 y2 z2 y3 z3 y4 z4 y5 z5)
     | ((with_reducible refine gate_dst (N:=49) rfl ?_);refine lt k105 105 ?hg (N:=49) ?hd ([⟨(⟨#[110]⟩ : ByteArray),1⟩] : List S105) [.string (⟨#[110]⟩ : ByteArray),.int .i64 (1)] ?hr (Reps.c2 (k105_mkM _ _ _ ⟨(⟨#[110]⟩ : ByteArray),1⟩) (Reps.none _ _)) (by simp) B ?_;(case hd | hg=>rfl);(case hr=>go_simp;first | done | rfl);intro z49 hz49 AL49 kL49 w602 hb B RL49 QL49;have DIs20_L49:=fr QL49 RIs20;have DDs22_L49:=fr QL49 RDs22;have MRL49:=mrf QL49 KK;replace F4:=bn F4 hb;replace F6:=bn F6 hb;replace RIs20:=rn RIs20 hb;replace RDs22:=rn RDs22 hb;replace HI:=hib HI hb;replace KK:=kkb KK hb;clear c6_0 c6_1 c6_2 c6_3 c6_4 c6_5;obtain ⟨c6_0,c6_1,c6_2,c6_3,c6_4,c6_5⟩:=cs6 F6;clear hb QL49)
     | ((with_reducible refine gate_store (t:=35) (p:=50) rfl ?_);obtain ⟨y0,y1,y2,y3,y4,y5,z0,z1,z2,z3,z4,z5⟩:=cz6 F6;refine sxq 38 35 50 2 [.slice AL49 z49.length kL49] [.string (⟨#[109]⟩ : ByteArray),.string (⟨#[110]⟩ : ByteArray),.slice AL49 z49.length kL49,.slice ADs22 zDs22.length kDs22,.bool tb,.string ct] B F6 L6 fun w603 hk B G=>?_;replace F4:=bk F4 hk N4_6.out;replace RIs20:=rk RIs20 F6 (by decide) hk;replace RDs22:=rk RDs22 F6 (by decide) hk;replace RL49:=rk RL49 F6 (by decide) hk;replace HI:=his HI F6 (by decide) hk;replace KK:=kks KK M6 hk;replace F6:=G;clear c6_0 c6_1 c6_2 c6_3 c6_4 c6_5;obtain ⟨c6_0,c6_1,c6_2,c6_3,c6_4,c6_5⟩:=cs6 F6;clear hk y0 z0 y1 z1 y2 z2 y3 z3 y4 z4 y5 z5))
    all_goals (go_meet;(case rel=>first
     | exact ⟨_,_,_,_,_,_,_,_,_,rfl,by omega,⟨hlIs20,hlDs22⟩,F6,F4,⟨RIs20,MRIs20⟩,⟨RDs22,MRDs22⟩,HI,KK,B⟩
     | exact ⟨_,_,_,_,_,_,_,_,_,rfl,by omega,⟨hx451,hlDs22⟩,F6,F4,⟨RD451,MRD451⟩,⟨RDs22,MRDs22⟩,HI,KK,B⟩
     | exact ⟨_,_,_,_,_,_,_,_,_,rfl,by omega,⟨hlIs20,hx501⟩,F6,F4,⟨RIs20,MRIs20⟩,⟨RD501,MRD501⟩,HI,KK,B⟩
     | exact ⟨_,_,_,_,_,_,_,_,_,rfl,by omega,⟨(by rw [← hz49];simp),hlDs22⟩,F6,F4,⟨RL49,MRL49⟩,⟨RDs22,MRDs22⟩,HI,KK,B⟩))
   case rest =>
    clear B HI KK F4 F6
    obtain ⟨x0,x1,v2,v3,x4,x5,xs,ys,pq,rfl,hpq,⟨hl1,hl2⟩,F6,F4,⟨RX,MRX⟩,⟨RY,MRY⟩,HI,KK,B⟩:=hcut
    obtain ⟨AX,kX,rfl⟩:=Kd.R_slice RX.out
    obtain ⟨AY,kY,rfl⟩:=Kd.R_slice RY.out
    obtain ⟨c6_0,c6_1,c6_2,c6_3,c6_4,c6_5⟩:=cs6 F6
    go_wp2_with (first
     | ((with_reducible refine gate_store (t:=38) (p:=4) rfl ?_);obtain ⟨y0,y1,y2,y3,y4,y5,z0,z1,z2,z3,z4,z5⟩:=cz6 F4;refine sxq 38 38 4 0 [.string x0,.string x1,.slice AX xs.length kX,.slice AY ys.length kY,.bool x4,.string x5] [.string x0,.string x1,.slice AX xs.length kX,.slice AY ys.length kY,.bool x4,.string x5] B F4 L4 fun w701 hk B G=>?_;replace F6:=bk F6 hk N4_6.out.symm;replace RX:=rk RX F4 (by decide) hk;replace RY:=rk RY F4 (by decide) hk;replace HI:=his HI F4 (by decide) hk;replace KK:=kks KK M4 hk;replace F4:=G;clear hk y0 z0 y1 z1 y2 z2 y3 z3 y4 z4 y5 z5))
    try (refine bodyPost_ret (results_single rfl (.cell g4 38 _ (0,0) _ rfl F4.out hu rfl (by kernel_rfl) .nil)) rfl ?_)
    exact ⟨_,_,_,_,_,_,_,_,_,rfl,⟨hl1,hl2⟩,⟨RX.out,MRX.out⟩,⟨RY.out,MRY.out⟩,⟨by omega,by omega⟩,HI.out,B.out,KK.out⟩

/-! Calls with the reader that give commands and entries. -/
section
variable {P : Program} {F : FuncId} {args : Array Value} {w W : World} {g : Nat} {bs : List Int} {p N : Int} {Q : Ending→World→Prop} {α β τ σ μ ν : Type}
theorem cg4 {f : α→β→τ→σ→Value} {q : α→β→τ→σ→Prop} (c : Calls P F args W fun e w'=>∃ x y z u p',e=.returned (f x y z u)∧q x y z u∧Left w W g bs p N p' w')
    (h : ∀ x y z u p',q x y z u→(p≤p'∧p'≤p + N)→∀ W',Kept W W' (RB g)→Aside0 (Below w.heap.size w W')→Aside0 (IsS133 w W' g bs p')→Q (.returned (f x y z u)) W') : Calls P F args W Q :=
  c.mono (by rintro e W' ⟨x,y,z,u,p',rfl,hq,hp,hi,hb,hk⟩;exact h x y z u p' hq hp W' hk ⟨hb⟩ ⟨hi⟩)
theorem cg6 {f : α→β→τ→σ→μ→ν→Value} {q : α→β→τ→σ→μ→ν→Prop} (c : Calls P F args W fun e w'=>∃ x y z u v o p',e=.returned (f x y z u v o)∧q x y z u v o∧Left w W g bs p N p' w')
    (h : ∀ x y z u v o p',q x y z u v o→(p≤p'∧p'≤p + N)→∀ W',Kept W W' (RB g)→Aside0 (Below w.heap.size w W')→Aside0 (IsS133 w W' g bs p')→Q (.returned (f x y z u v o)) W') : Calls P F args W Q :=
  c.mono (by rintro e W' ⟨x,y,z,u,v,o,p',rfl,hq,hp,hi,hb,hk⟩;exact h x y z u v o p' hq hp W' hk ⟨hb⟩ ⟨hi⟩)
variable {ops' : Array Oper} {o : Oper} {a : Act} {QE : Exit→Act→World→Prop} {Kc : Act→World→Prop}
/-- an element that is read in a region that draws its order -/
theorem lds {N : Tmp} {v : Value} (h : Kc (a.put (some N) v) W) (hw : Region.wanted o (yielded ops' a.tmps)=true:=by rfl) (hd : o.dst=some N:=by exact rfl) (hrun : (execOp a.eval o).run P W=.ok (.value v) W:=by go_simp;first | done | rfl) :
    if Region.wanted o (yielded ops' a.tmps)=true then Oper.wp P o a W Kc QE else Kc (a.put (some N) undef) W:=value_ hw hd hrun h
end

theorem spec_l20Cmd.D (n : Int) (hn : n≤1000000) (w W0 : World) (g : Nat) (bs : List Int) (p : Int) (hI : IsS133 w W0 g bs p) (hB : Below w.heap.size w W0) (hc : Dw.Code bs) (h0 : 0≤p) (h1 : p≤1099505000000) :
  Calls Try.prog 115 #[.pointer (some ⟨g,0,none⟩),.int .i64 n] W0 fun e w'=>∃ x y u z p',e=.returned (.agg #[.int .i64 x,.string y,.int .i64 u,.int .i64 z])∧(True)∧Left w W0 g bs p 20 p' w':=by
 have hu:=Try.underlying42
 have B:=Aside0.mk hB
 have HI:=Aside0.mk hI
 have HC:=Aside0.mk hc
 have KK:=Aside0.mk (Kept.refl W0 (RB g))
 clear hB hI hc
 go_enter Try.func115,Try.ntmps115
 go_wp2_with (first
  | ((with_reducible refine gate_dst (N:=4) rfl ?_);refine bxq 4 #[.int .i64 (0),.string (⟨#[]⟩ : ByteArray),.int .i64 (0),.int .i64 (0)] 42 B fun g4 w1 hb B F4 L4 E4=>?_;have M4:=mbx E4 KK;replace HI:=hib HI hb;replace KK:=kkb KK hb;clear hb E4)
  | (go_at_call 108;(with_reducible refine cg1 (spec_l20Rd_odd.D n (by omega) w _ g bs p HI.out B.out HC.out (by omega) (by omega)) fun x2 p2 hx2 hp2 w2 hk B HI2=>?_);replace F4:=bkr F4 HI (by decide) hk;replace KK:=kkr KK hk;replace HI:=HI2;clear hk;skip)
  | ((with_reducible refine gate_dst (N:=19) rfl ?_);refine lt k42 42 ?hg (N:=19) ?hd ([⟨0,(⟨#[]⟩ : ByteArray),0,0⟩,⟨1,(⟨#[]⟩ : ByteArray),0,0⟩,⟨1,(⟨#[98]⟩ : ByteArray),1,0⟩,⟨2,(⟨#[98]⟩ : ByteArray),1000,0⟩,⟨2,(⟨#[98]⟩ : ByteArray),0,1⟩,⟨4,(⟨#[98]⟩ : ByteArray),0,-2⟩,⟨4,(⟨#[98]⟩ : ByteArray),-1,0⟩,⟨6,(⟨#[98]⟩ : ByteArray),0,0⟩,⟨3,(⟨#[65]⟩ : ByteArray),0,0⟩,⟨5,(⟨#[98,49]⟩ : ByteArray),0,0⟩] : List S42) [.int .i64 (0),.string (⟨#[]⟩ : ByteArray),.int .i64 (0),.int .i64 (0),.int .i64 (1),.string (⟨#[]⟩ : ByteArray),.int .i64 (0),.int .i64 (0),.int .i64 (1),.string (⟨#[98]⟩ : ByteArray),.int .i64 (1),.int .i64 (0),.int .i64 (2),.string (⟨#[98]⟩ : ByteArray),.int .i64 (1000),.int .i64 (0),.int .i64 (2),.string (⟨#[98]⟩ : ByteArray),.int .i64 (0),.int .i64 (1),.int .i64 (4),.string (⟨#[98]⟩ : ByteArray),.int .i64 (0),.int .i64 (-2),.int .i64 (4),.string (⟨#[98]⟩ : ByteArray),.int .i64 (-1),.int .i64 (0),.int .i64 (6),.string (⟨#[98]⟩ : ByteArray),.int .i64 (0),.int .i64 (0),.int .i64 (3),.string (⟨#[65]⟩ : ByteArray),.int .i64 (0),.int .i64 (0),.int .i64 (5),.string (⟨#[98,49]⟩ : ByteArray),.int .i64 (0),.int .i64 (0)] ?hr (Reps.c4 (k42_mkM _ _ _ ⟨0,(⟨#[]⟩ : ByteArray),0,0⟩) (Reps.c4 (k42_mkM _ _ _ ⟨1,(⟨#[]⟩ : ByteArray),0,0⟩) (Reps.c4 (k42_mkM _ _ _ ⟨1,(⟨#[98]⟩ : ByteArray),1,0⟩) (Reps.c4 (k42_mkM _ _ _ ⟨2,(⟨#[98]⟩ : ByteArray),1000,0⟩) (Reps.c4 (k42_mkM _ _ _ ⟨2,(⟨#[98]⟩ : ByteArray),0,1⟩) (Reps.c4 (k42_mkM _ _ _ ⟨4,(⟨#[98]⟩ : ByteArray),0,-2⟩) (Reps.c4 (k42_mkM _ _ _ ⟨4,(⟨#[98]⟩ : ByteArray),-1,0⟩) (Reps.c4 (k42_mkM _ _ _ ⟨6,(⟨#[98]⟩ : ByteArray),0,0⟩) (Reps.c4 (k42_mkM _ _ _ ⟨3,(⟨#[65]⟩ : ByteArray),0,0⟩) (Reps.c4 (k42_mkM _ _ _ ⟨5,(⟨#[98,49]⟩ : ByteArray),0,0⟩) (Reps.none _ _))))))))))) (by simp) B ?_;(case hd | hg=>rfl);(case hr=>go_simp;first | done | rfl);intro z19 hz19 AL19 kL19 w51 hb B RL19 QL19;have NB4_L19:=nb QL19 F4;have MRL19:=mrf QL19 KK;replace F4:=bn F4 hb;replace HI:=hib HI hb;replace KK:=kkb KK hb;clear hb QL19)
  | (go_at_call 104;(with_reducible refine cg1 (spec_l20Rd_pick.D 10 w _ g bs p2 HI.out B.out HC.out (by omega) (by omega)) fun x52 p52 hx52 hp52 w52 hk B HI2=>?_);replace F4:=bkr F4 HI (by decide) hk;replace RL19:=rkr RL19 HI (by decide) hk;replace KK:=kkr KK hk;replace HI:=HI2;clear hk;skip;have hi52 : x52 < (z19.length : Int):=(by rw [← hz19];have:=hx52.2.1 (by omega);simpa using this);obtain ⟨ad52,hA52,y52_0,y52_1,y52_2,y52_3⟩:=at_T42 (rc RL19) x52 hx52.1 hi52;have hj52:=hx52.1;generalize rd_T42 z19 x52=y52 at *;cases hA52;have j52:=eq_true hj52;have i52:=eq_true hi52)
  | ((with_reducible refine gate_store (t:=42) (p:=4) rfl ?_);obtain ⟨y0,y1,y2,y3,z0,z1,z2,z3⟩:=cz4 F4;refine sxq 42 42 4 0 [.int .i64 (y52.f0),.string y52.f1,.int .i64 (y52.f2),.int .i64 (y52.f3)] [.int .i64 (y52.f0),.string y52.f1,.int .i64 (y52.f2),.int .i64 (y52.f3)] B F4 L4 fun w53 hk B G=>?_;replace RL19:=rkn RL19 hk NB4_L19;replace HI:=his HI F4 (by decide) hk;replace KK:=kks KK M4 hk;replace F4:=G;clear hk y0 z0 y1 z1 y2 z2 y3 z3)
  | (go_at_call 120;(with_reducible refine cg1 (spec_l20Key.D 0 (by omega) w _ g bs p2 HI.out B.out HC.out (by omega) (by omega)) fun x101 p101 hx101 hp101 w101 hk B HI2=>?_);replace F4:=bkr F4 HI (by decide) hk;replace KK:=kkr KK hk;replace HI:=HI2;clear hk;skip)
  | (go_at_call 104;(with_reducible refine cg1 (spec_l20Rd_pick.D 2 w _ g bs p101 HI.out B.out HC.out (by omega) (by omega)) fun x102 p102 hx102 hp102 w102 hk B HI2=>?_);replace F4:=bkr F4 HI (by decide) hk;replace KK:=kkr KK hk;replace HI:=HI2;clear hk;skip)
  | ((with_reducible refine gate_dst (N:=29) rfl ?_);refine lt Kd.string 9 ?hg (N:=29) ?hd ([((⟨#[98]⟩ : ByteArray)),((⟨#[99]⟩ : ByteArray)),((⟨#[100]⟩ : ByteArray)),((⟨#[109]⟩ : ByteArray))] : List ByteArray) [.string (⟨#[98]⟩ : ByteArray),.string (⟨#[99]⟩ : ByteArray),.string (⟨#[100]⟩ : ByteArray),.string (⟨#[109]⟩ : ByteArray)] ?hr (Reps.one (show Kd.M Kd.string _ _ _ ((⟨#[98]⟩ : ByteArray)) [.string (⟨#[98]⟩ : ByteArray)] from rfl) (Reps.one (show Kd.M Kd.string _ _ _ ((⟨#[99]⟩ : ByteArray)) [.string (⟨#[99]⟩ : ByteArray)] from rfl) (Reps.one (show Kd.M Kd.string _ _ _ ((⟨#[100]⟩ : ByteArray)) [.string (⟨#[100]⟩ : ByteArray)] from rfl) (Reps.one (show Kd.M Kd.string _ _ _ ((⟨#[109]⟩ : ByteArray)) [.string (⟨#[109]⟩ : ByteArray)] from rfl) (Reps.none _ _))))) (by simp) B ?_;(case hd | hg=>rfl);(case hr=>go_simp;first | done | rfl);intro z29 hz29 AL29 kL29 w101 hb B RL29 QL29;have MRL29:=mrf QL29 KK;replace F4:=bn F4 hb;replace HI:=hib HI hb;replace KK:=kkb KK hb;clear hb QL29)
  | (go_at_call 104;(with_reducible refine cg1 (spec_l20Rd_pick.D 4 w _ g bs p102 HI.out B.out HC.out (by omega) (by omega)) fun x102 p102 hx102 hp102 w102 hk B HI2=>?_);replace F4:=bkr F4 HI (by decide) hk;replace RL29:=rkr RL29 HI (by decide) hk;replace KK:=kkr KK hk;replace HI:=HI2;clear hk;skip;have hi102 : x102 < (z29.length : Int):=(by rw [← hz29];have:=hx102.2.1 (by omega);simpa using this);obtain ⟨ad102,hA102,y102⟩:=Kd.at_string (rc RL29) x102 hx102.1 hi102;have hj102:=hx102.1;generalize rdOf ByteArray.empty z29 x102=x101 at *;cases hA102;have j102:=eq_true hj102;have i102:=eq_true hi102)
  | (go_at_call 104;(with_reducible refine cg1 (spec_l20Rd_pick.D 8 w _ g bs p102 HI.out B.out HC.out (by omega) (by omega)) fun x201 p201 hx201 hp201 w201 hk B HI2=>?_);replace F4:=bkr F4 HI (by decide) hk;replace KK:=kkr KK hk;replace HI:=HI2;clear hk;skip)
  | ((with_reducible refine gate_store (t:=42) (p:=4) rfl ?_);obtain ⟨y0,y1,y2,y3,z0,z1,z2,z3⟩:=cz4 F4;refine sxq 42 42 4 0 [.int .i64 (1),.string x101,.int .i64 (0),.int .i64 (0)] [.int .i64 (1),.string x101,.int .i64 (0),.int .i64 (0)] B F4 L4 fun w251 hk B G=>?_;replace HI:=his HI F4 (by decide) hk;replace KK:=kks KK M4 hk;replace F4:=G;clear hk y0 z0 y1 z1 y2 z2 y3 z3)
  | ((with_reducible refine gate_store (t:=42) (p:=4) rfl ?_);obtain ⟨y0,y1,y2,y3,z0,z1,z2,z3⟩:=cz4 F4;refine sxq 42 42 4 0 [.int .i64 (3),.string x101,.int .i64 (0),.int .i64 (0)] [.int .i64 (3),.string x101,.int .i64 (0),.int .i64 (0)] B F4 L4 fun w301 hk B G=>?_;replace HI:=his HI F4 (by decide) hk;replace KK:=kks KK M4 hk;replace F4:=G;clear hk y0 z0 y1 z1 y2 z2 y3 z3)
  | (go_at_call 104;(with_reducible refine cg1 (spec_l20Rd_pick.D 5 w _ g bs p201 HI.out B.out HC.out (by omega) (by omega)) fun x351 p351 hx351 hp351 w351 hk B HI2=>?_);replace F4:=bkr F4 HI (by decide) hk;replace KK:=kkr KK hk;replace HI:=HI2;clear hk;skip)
  | (go_at_call 104;(with_reducible refine cg1 (spec_l20Rd_pick.D 5 w _ g bs p351 HI.out B.out HC.out (by omega) (by omega)) fun x352 p352 hx352 hp352 w352 hk B HI2=>?_);replace F4:=bkr F4 HI (by decide) hk;replace KK:=kkr KK hk;replace HI:=HI2;clear hk;skip)
  | ((with_reducible refine gate_store (t:=42) (p:=4) rfl ?_);obtain ⟨y0,y1,y2,y3,z0,z1,z2,z3⟩:=cz4 F4;refine sxq 42 42 4 0 [.int .i64 (4),.string x101,.int .i64 (x352),.int .i64 (x351 - 1)] [.int .i64 (4),.string x101,.int .i64 (x352),.int .i64 (x351 - 1)] B F4 L4 fun w353 hk B G=>?_;replace HI:=his HI F4 (by decide) hk;replace KK:=kks KK M4 hk;replace F4:=G;clear hk y0 z0 y1 z1 y2 z2 y3 z3)
  | (go_at_call 122;(with_reducible refine cg1 (spec_l20Value.D 0 (by omega) w _ g bs p201 HI.out B.out HC.out (by omega) (by omega)) fun x401 p401 hx401 hp401 w401 hk B HI2=>?_);replace F4:=bkr F4 HI (by decide) hk;replace KK:=kkr KK hk;replace HI:=HI2;clear hk;skip)
  | ((with_reducible refine gate_store (t:=42) (p:=4) rfl ?_);obtain ⟨y0,y1,y2,y3,z0,z1,z2,z3⟩:=cz4 F4;refine sxq 42 42 4 0 [.int .i64 (2),.string x101,.int .i64 (Int.tmod x401 1000),.int .i64 (0)] [.int .i64 (2),.string x101,.int .i64 (Int.tmod x401 1000),.int .i64 (0)] B F4 L4 fun w402 hk B G=>?_;replace HI:=his HI F4 (by decide) hk;replace KK:=kks KK M4 hk;replace F4:=G;clear hk y0 z0 y1 z1 y2 z2 y3 z3))
 all_goals (refine bodyPost_ret (results_single rfl (.cell g4 42 _ (0,0) _ rfl F4.out hu rfl (by kernel_rfl) .nil)) rfl ?_)
 all_goals exact ⟨_,_,_,_,_,rfl,trivial,⟨by omega,by omega⟩,HI.out,B.out,KK.out⟩
theorem spec_l20Any.D (n : Int) (hn : n≤1000000) (w W0 : World) (g : Nat) (bs : List Int) (p : Int) (hI : IsS133 w W0 g bs p) (hB : Below w.heap.size w W0) (hc : Dw.Code bs) (h0 : 0≤p) (h1 : p≤1099503000000) :
  Calls Try.prog 109 #[.pointer (some ⟨g,0,none⟩),.int .i64 n] W0 fun e w'=>∃ x y u z p',e=.returned (.agg #[.int .i64 x,.string y,.int .i64 u,.int .i64 z])∧(True)∧Left w W0 g bs p 40 p' w':=by
 have hu:=Try.underlying42
 have B:=Aside0.mk hB
 have HI:=Aside0.mk hI
 have HC:=Aside0.mk hc
 have KK:=Aside0.mk (Kept.refl W0 (RB g))
 clear hB hI hc
 go_enter Try.func109,Try.ntmps109
 go_wp2_with (first
  | ((with_reducible refine gate_dst (N:=4) rfl ?_);refine bxq 4 #[.int .i64 (0),.string (⟨#[]⟩ : ByteArray),.int .i64 (0),.int .i64 (0)] 42 B fun g4 w1 hb B F4 L4 E4=>?_;have M4:=mbx E4 KK;replace HI:=hib HI hb;replace KK:=kkb KK hb;clear hb E4)
  | (go_at_call 115;(with_reducible refine cg4 (spec_l20Cmd.D n (by omega) w _ g bs p HI.out B.out HC.out (by omega) (by omega)) fun ca2 cb2 cc2 cd2 p2 hx2 hp2 w2 hk B HI2=>?_);replace F4:=bkr F4 HI (by decide) hk;replace KK:=kkr KK hk;replace HI:=HI2;clear hk;skip)
  | ((with_reducible refine gate_dst (N:=5) rfl ?_);refine bxq 5 #[.int .i64 (0),.string (⟨#[]⟩ : ByteArray),.int .i64 (0),.int .i64 (0)] 42 B fun g5 w3 hb B F5 L5 E5=>?_;have N4_5:=ne1 E5 F4;have M5:=mbx E5 KK;replace F4:=bn F4 hb;replace HI:=hib HI hb;replace KK:=kkb KK hb;obtain ⟨c5_0,c5_1,c5_2,c5_3⟩:=cs4 F5;clear hb E5)
  | ((with_reducible refine gate_store (t:=42) (p:=5) rfl ?_);obtain ⟨y0,y1,y2,y3,z0,z1,z2,z3⟩:=cz4 F5;refine sxq 42 42 5 0 [.int .i64 (ca2),.string cb2,.int .i64 (cc2),.int .i64 (cd2)] [.int .i64 (ca2),.string cb2,.int .i64 (cc2),.int .i64 (cd2)] B F5 L5 fun w4 hk B G=>?_;replace F4:=bk F4 hk N4_5.out;replace HI:=his HI F5 (by decide) hk;replace KK:=kks KK M5 hk;replace F5:=G;clear c5_0 c5_1 c5_2 c5_3;obtain ⟨c5_0,c5_1,c5_2,c5_3⟩:=cs4 F5;clear hk y0 z0 y1 z1 y2 z2 y3 z3)
  | (go_at_call 104;(with_reducible refine cg1 (spec_l20Rd_pick.D 5 w _ g bs p2 HI.out B.out HC.out (by omega) (by omega)) fun x5 p5 hx5 hp5 w5 hk B HI2=>?_);replace F4:=bkr F4 HI (by decide) hk;replace F5:=bkr F5 HI (by decide) hk;replace KK:=kkr KK hk;replace HI:=HI2;clear hk;clear c5_0 c5_1 c5_2 c5_3;obtain ⟨c5_0,c5_1,c5_2,c5_3⟩:=cs4 F5;skip)
  | (go_at_call 120;(with_reducible refine cg1 (spec_l20Key.D 0 (by omega) w _ g bs p5 HI.out B.out HC.out (by omega) (by omega)) fun x101 p101 hx101 hp101 w101 hk B HI2=>?_);replace F4:=bkr F4 HI (by decide) hk;replace KK:=kkr KK hk;replace HI:=HI2;clear hk;skip)
  | ((with_reducible refine gate_dst (N:=14) rfl ?_);refine lt Kd.string 9 ?hg (N:=14) ?hd ([((⟨#[]⟩ : ByteArray)),((⟨#[98]⟩ : ByteArray)),((⟨#[99]⟩ : ByteArray)),(x101)] : List ByteArray) [.string (⟨#[]⟩ : ByteArray),.string (⟨#[98]⟩ : ByteArray),.string (⟨#[99]⟩ : ByteArray),.string x101] ?hr (Reps.one (show Kd.M Kd.string _ _ _ ((⟨#[]⟩ : ByteArray)) [.string (⟨#[]⟩ : ByteArray)] from rfl) (Reps.one (show Kd.M Kd.string _ _ _ ((⟨#[98]⟩ : ByteArray)) [.string (⟨#[98]⟩ : ByteArray)] from rfl) (Reps.one (show Kd.M Kd.string _ _ _ ((⟨#[99]⟩ : ByteArray)) [.string (⟨#[99]⟩ : ByteArray)] from rfl) (Reps.one (show Kd.M Kd.string _ _ _ (x101) [.string x101] from rfl) (Reps.none _ _))))) (by simp) B ?_;(case hd | hg=>rfl);(case hr=>go_simp;first | done | rfl);intro z14 hz14 AL14 kL14 w102 hb B RL14 QL14;have MRL14:=mrf QL14 KK;replace F4:=bn F4 hb;replace HI:=hib HI hb;replace KK:=kkb KK hb;clear hb QL14)
  | (go_at_call 104;(with_reducible refine cg1 (spec_l20Rd_pick.D 4 w _ g bs p101 HI.out B.out HC.out (by omega) (by omega)) fun x103 p103 hx103 hp103 w103 hk B HI2=>?_);replace F4:=bkr F4 HI (by decide) hk;replace RL14:=rkr RL14 HI (by decide) hk;replace KK:=kkr KK hk;replace HI:=HI2;clear hk;skip;have hi103 : x103 < (z14.length : Int):=(by rw [← hz14];have:=hx103.2.1 (by omega);simpa using this);obtain ⟨ad103,hA103,y103⟩:=Kd.at_string (rc RL14) x103 hx103.1 hi103;have hj103:=hx103.1;generalize rdOf ByteArray.empty z14 x103=s103 at *;cases hA103;have j103:=eq_true hj103;have i103:=eq_true hi103)
  | ((with_reducible refine gate_store (t:=42) (p:=4) rfl ?_);obtain ⟨y0,y1,y2,y3,z0,z1,z2,z3⟩:=cz4 F4;refine sxq 42 42 4 0 [.int .i64 (5),.string s103,.int .i64 (0),.int .i64 (0)] [.int .i64 (5),.string s103,.int .i64 (0),.int .i64 (0)] B F4 L4 fun w104 hk B G=>?_;replace RL14:=rk RL14 F4 (by decide) hk;replace HI:=his HI F4 (by decide) hk;replace KK:=kks KK M4 hk;replace F4:=G;clear hk y0 z0 y1 z1 y2 z2 y3 z3)
  | ((with_reducible refine gate_store (t:=42) (p:=4) rfl ?_);obtain ⟨y0,y1,y2,y3,z0,z1,z2,z3⟩:=cz4 F4;refine sxq 42 42 4 0 [.int .i64 (ca2),.string cb2,.int .i64 (cc2),.int .i64 (cd2)] [.int .i64 (ca2),.string cb2,.int .i64 (cc2),.int .i64 (cd2)] B F4 L4 fun w151 hk B G=>?_;replace HI:=his HI F4 (by decide) hk;replace KK:=kks KK M4 hk;replace F4:=G;clear hk y0 z0 y1 z1 y2 z2 y3 z3))
 all_goals (refine bodyPost_ret (results_single rfl (.cell g4 42 _ (0,0) _ rfl F4.out hu rfl (by kernel_rfl) .nil)) rfl ?_)
 all_goals exact ⟨_,_,_,_,_,rfl,trivial,⟨by omega,by omega⟩,HI.out,B.out,KK.out⟩

def spec_l20Entry.T3 : Bool × List (List Nat × List Nat):=(true,[([],[]),([],[]),([1],[1]),([2],[2]),([],[]),([4],[4]),([5],[5]),([],[]),([7],[7]),([8],[8]),([],[]),([10],[10]),([11],[11]),([],[]),([0,3,6,9,12,13],[0,3,6,9,12,13]),([],[]),([15],[15]),([14,16],[14,16]),([17],[17]),([18,16,0,1,2,3,4,5,6,7,8,9,10,11,12,13,14,15,16,17,18],[18])])
def spec_l20Entry.B3 : List Nat:=[0,0,2,6,0,16,48,0,128,384,0,1024,3072,0,16383,0,32768,131071,262143,524287]
theorem spec_l20Entry.tab3 : rtab .any (opsOf Try.f63 3)=spec_l20Entry.T3:=by kernel_rfl
theorem spec_l20Entry.bits3 : waitsOk spec_l20Entry.T3.2 spec_l20Entry.B3=true:=by kernel_rfl
theorem spec_l20Entry.D (n : Int) (hn : n≤1000000) (w W0 : World) (g : Nat) (bs : List Int) (p : Int) (hI : IsS133 w W0 g bs p) (hB : Below w.heap.size w W0) (hc : Dw.Code bs) (h0 : 0≤p) (h1 : p≤1099501000000) :
  Calls Try.prog 63 #[.pointer (some ⟨g,0,none⟩),.int .i64 n] W0 fun e w'=>∃ cl sq x y u z p',e=.returned (.agg #[.int .i64 cl,.int .i64 sq,.int .i64 x,.string y,.int .i64 u,.int .i64 z])∧(True)∧Left w W0 g bs p 50 p' w':=by
 have hu:=Try.underlying44
 have B:=Aside0.mk hB
 have HI:=Aside0.mk hI
 have HC:=Aside0.mk hc
 have KK:=Aside0.mk (Kept.refl W0 (RB g))
 clear hB hI hc
 go_enter Try.func63,Try.ntmps63
 go_wp2_with (first
  | ((with_reducible refine gate_dst (N:=4) rfl ?_);refine bxq 4 #[.int .i64 (0),.int .i64 (0),.int .i64 (0),.string (⟨#[]⟩ : ByteArray),.int .i64 (0),.int .i64 (0)] 44 B fun g4 w1 hb B F4 L4 E4=>?_;have M4:=mbx E4 KK;replace HI:=hib HI hb;replace KK:=kkb KK hb;clear hb E4)
  | (go_at_call 104;(with_reducible refine cg1 (spec_l20Rd_pick.D 4 w _ g bs p HI.out B.out HC.out (by omega) (by omega)) fun x2 p2 hx2 hp2 w2 hk B HI2=>?_);replace F4:=bkr F4 HI (by decide) hk;replace KK:=kkr KK hk;replace HI:=HI2;clear hk;skip)
  | (go_at_call 104;(with_reducible refine cg1 (spec_l20Rd_pick.D 6 w _ g bs p2 HI.out B.out HC.out (by omega) (by omega)) fun x3 p3 hx3 hp3 w3 hk B HI2=>?_);replace F4:=bkr F4 HI (by decide) hk;replace KK:=kkr KK hk;replace HI:=HI2;clear hk;skip)
  | (go_at_call 109;(with_reducible refine cg4 (spec_l20Any.D 0 (by omega) w _ g bs p3 HI.out B.out HC.out (by omega) (by omega)) fun ca4 cb4 cc4 cd4 p4 hx4 hp4 w4 hk B HI2=>?_);replace F4:=bkr F4 HI (by decide) hk;replace KK:=kkr KK hk;replace HI:=HI2;clear hk;skip)
  | ((with_reducible refine gate_dst (N:=5) rfl ?_);refine bxq 5 #[.int .i64 (0),.int .i64 (0),.int .i64 (0),.string (⟨#[]⟩ : ByteArray),.int .i64 (0),.int .i64 (0)] 44 B fun g5 w5 hb B F5 L5 E5=>?_;have N4_5:=ne1 E5 F4;have M5:=mbx E5 KK;replace F4:=bn F4 hb;replace HI:=hib HI hb;replace KK:=kkb KK hb;obtain ⟨c5_0,c5_1,c5_2,c5_3,c5_4,c5_5⟩:=cs6 F5;clear hb E5)
  | ((with_reducible refine gate_store (t:=44) (p:=5) rfl ?_);obtain ⟨y0,y1,y2,y3,y4,y5,z0,z1,z2,z3,z4,z5⟩:=cz6 F5;refine sxq 44 44 5 0 [.int .i64 (x2),.int .i64 ((1 + x3)),.int .i64 (ca4),.string cb4,.int .i64 (cc4),.int .i64 (cd4)] [.int .i64 (x2),.int .i64 ((1 + x3)),.int .i64 (ca4),.string cb4,.int .i64 (cc4),.int .i64 (cd4)] B F5 L5 fun w6 hk B G=>?_;replace F4:=bk F4 hk N4_5.out;replace HI:=his HI F5 (by decide) hk;replace KK:=kks KK M5 hk;replace F5:=G;clear c5_0 c5_1 c5_2 c5_3 c5_4 c5_5;obtain ⟨c5_0,c5_1,c5_2,c5_3,c5_4,c5_5⟩:=cs6 F5;clear hk y0 z0 y1 z1 y2 z2 y3 z3 y4 z4 y5 z5)
  | (go_at_call 108;(with_reducible refine cg1 (spec_l20Rd_odd.D n (by omega) w _ g bs p4 HI.out B.out HC.out (by omega) (by omega)) fun x7 p7 hx7 hp7 w7 hk B HI2=>?_);replace F4:=bkr F4 HI (by decide) hk;replace F5:=bkr F5 HI (by decide) hk;replace KK:=kkr KK hk;replace HI:=HI2;clear hk;clear c5_0 c5_1 c5_2 c5_3 c5_4 c5_5;obtain ⟨c5_0,c5_1,c5_2,c5_3,c5_4,c5_5⟩:=cs6 F5;skip)
  | ((with_reducible refine gate_store (t:=44) (p:=4) rfl ?_);obtain ⟨y0,y1,y2,y3,y4,y5,z0,z1,z2,z3,z4,z5⟩:=cz6 F4;refine sxq 44 44 4 0 [.int .i64 (x2),.int .i64 ((1 + x3)),.int .i64 (ca4),.string cb4,.int .i64 (cc4),.int .i64 (cd4)] [.int .i64 (x2),.int .i64 ((1 + x3)),.int .i64 (ca4),.string cb4,.int .i64 (cc4),.int .i64 (cd4)] B F4 L4 fun w201 hk B G=>?_;replace HI:=his HI F4 (by decide) hk;replace KK:=kks KK M4 hk;replace F4:=G;clear hk y0 z0 y1 z1 y2 z2 y3 z3 y4 z4 y5 z5))
 all_goals try (refine bodyPost_ret (results_single rfl (.cell g4 44 _ (0,0) _ rfl F4.out hu rfl (by kernel_rfl) .nil)) rfl ?_;exact ⟨_,_,_,_,_,_,_,rfl,trivial,⟨by omega,by omega⟩,HI.out,B.out,KK.out⟩)
 all_goals (
  refine rg (n:=20) (S:=fun W=>W.heap[g5]?=some (.cells #[.int .i64 (x2),.int .i64 ((1 + x3)),.int .i64 (ca4),.string cb4,.int .i64 (cc4),.int .i64 (cd4)] 44 (0,0))) (ds:=[]) #[false,false,false,false,false,false,false,false,false,false,false,false,false,false,false,false,false,false,false,false] (by kernel_rfl) rfl rfl F5.out id B (fun w101 hb B hHeld=>?_)
  refine with_tabW spec_l20Entry.tab3 spec_l20Entry.bits3 (fun HT_ HW_=>?_)
  replace F4:=bn F4 hb
  replace F5:=bn F5 hb
  replace HI:=hib HI hb
  replace KK:=kkb KK hb
  clear hb
  refine join_ 3 (bits 20 131071) (σ:=Option Addr × Nat × List S44 × Int × Int) (fun (AL31,kL31,z31,ps33,xs33)=>[(17,.agg #[.int .i64 (0),.int .i64 (0),.int .i64 (0),.string (⟨#[]⟩ : ByteArray),.int .i64 (0),.int .i64 (0)]),(18,.pointer (some ⟨g5,2,none⟩)),(19,.agg #[.int .i64 (ca4),.string cb4,.int .i64 (cc4),.int .i64 (cd4)]),(20,.agg #[.int .i64 (4),.int .i64 (1),.int .i64 (ca4),.string cb4,.int .i64 (cc4),.int .i64 (cd4)]),(21,.pointer (some ⟨g5,2,none⟩)),(22,.agg #[.int .i64 (ca4),.string cb4,.int .i64 (cc4),.int .i64 (cd4)]),(23,.agg #[.int .i64 (-1),.int .i64 (1),.int .i64 (ca4),.string cb4,.int .i64 (cc4),.int .i64 (cd4)]),(24,.pointer (some ⟨g5,2,none⟩)),(25,.agg #[.int .i64 (ca4),.string cb4,.int .i64 (cc4),.int .i64 (cd4)]),(26,.agg #[.int .i64 (1),.int .i64 (0),.int .i64 (ca4),.string cb4,.int .i64 (cc4),.int .i64 (cd4)]),(27,.pointer (some ⟨g5,2,none⟩)),(28,.agg #[.int .i64 (ca4),.string cb4,.int .i64 (cc4),.int .i64 (cd4)]),(29,.agg #[.int .i64 (1),.int .i64 (1000),.int .i64 (ca4),.string cb4,.int .i64 (cc4),.int .i64 (cd4)]),(30,.agg #[.int .i64 (1),.int .i64 (1),.int .i64 (0),.string (⟨#[]⟩ : ByteArray),.int .i64 (0),.int .i64 (0)]),(31,.slice AL31 z31.length kL31),(32,.pointer (some ⟨g,0,none⟩)),(33,.int .i64 (xs33))]) (fun (AL31,kL31,z31,ps33,xs33) W=>Aside0 (Below w.heap.size w W)∧Aside0 (W.heap[g4]?=some (.cells #[.int .i64 (0),.int .i64 (0),.int .i64 (0),.string (⟨#[]⟩ : ByteArray),.int .i64 (0),.int .i64 (0)] 44 (0,0)))∧Aside0 (W.heap[g5]?=some (.cells #[.int .i64 (x2),.int .i64 ((1 + x3)),.int .i64 (ca4),.string cb4,.int .i64 (cc4),.int .i64 (cd4)] 44 (0,0)))∧Aside0 (Ow k44 44 W w.heap.size (.slice AL31 z31.length kL31) z31)∧Aside0 (IsS133 w W g bs ps33)∧Aside0 (Kept W0 W (RB g))∧Aside0 (Fr W0 (.slice AL31 z31.length kL31))∧(p7≤ps33∧ps33≤p7 + 1)∧(0≤xs33∧xs33 < 6)∧z31.length=6∧Aside0 (∀ k_,(.slice AL31 z31.length kL31 : Value).ownBlock=some k_→k_ ≠ g4)∧Aside0 (∀ k_,(.slice AL31 z31.length kL31 : Value).ownBlock=some k_→k_ ≠ g5)) ?_ (fun J=>?_)
  rotate_left
  ·refine pvq 0 (some 17) (bits 20 1) HT_ ?_
   refine pvq 1 (some 18) (bits 20 3) HT_ ?_
   refine tvq 2 (some 19) (bits 20 7) HT_ HW_ rfl hHeld (by intro w' hS;have s0:=hS;obtain ⟨q0,q1,q2,q3,q4,q5⟩:=cs6 (Aside0.mk s0);go_simp;with_reducible rfl) ?_
   refine pvq 3 (some 20) (bits 20 15) HT_ ?_
   refine pvq 4 (some 21) (bits 20 31) HT_ ?_
   refine tvq 5 (some 22) (bits 20 63) HT_ HW_ rfl hHeld (by intro w' hS;have s0:=hS;obtain ⟨q0,q1,q2,q3,q4,q5⟩:=cs6 (Aside0.mk s0);go_simp;with_reducible rfl) ?_
   refine pvq 6 (some 23) (bits 20 127) HT_ ?_
   refine pvq 7 (some 24) (bits 20 255) HT_ ?_
   refine tvq 8 (some 25) (bits 20 511) HT_ HW_ rfl hHeld (by intro w' hS;have s0:=hS;obtain ⟨q0,q1,q2,q3,q4,q5⟩:=cs6 (Aside0.mk s0);go_simp;with_reducible rfl) ?_
   refine pvq 9 (some 26) (bits 20 1023) HT_ ?_
   refine pvq 10 (some 27) (bits 20 2047) HT_ ?_
   refine tvq 11 (some 28) (bits 20 4095) HT_ HW_ rfl hHeld (by intro w' hS;have s0:=hS;obtain ⟨q0,q1,q2,q3,q4,q5⟩:=cs6 (Aside0.mk s0);go_simp;with_reducible rfl) ?_
   refine pvq 12 (some 29) (bits 20 8191) HT_ ?_
   refine pvq 13 (some 30) (bits 20 16383) HT_ ?_
   refine pvq 15 (some 32) (bits 20 49151) HT_ ?_
   refine nmq ?_
   refine two_ (i:=14) (j:=16) (Ni:=some 31) (Nj:=some 33) (bits 20 65535) (bits 20 114687) rfl rfl rfl rfl (two_of HT_.out (by kernel_rfl)) (by decide) (by decide) (fun K hK=>?_) (fun K hK=>?_)
   ·refine lts k44 44 (by rfl) rfl ([⟨0,0,0,(⟨#[]⟩ : ByteArray),0,0⟩,⟨4,1,ca4,cb4,cc4,cd4⟩,⟨-1,1,ca4,cb4,cc4,cd4⟩,⟨1,0,ca4,cb4,cc4,cd4⟩,⟨1,1000,ca4,cb4,cc4,cd4⟩,⟨1,1,0,(⟨#[]⟩ : ByteArray),0,0⟩] : List S44) [.int .i64 (0),.int .i64 (0),.int .i64 (0),.string (⟨#[]⟩ : ByteArray),.int .i64 (0),.int .i64 (0),.int .i64 (4),.int .i64 (1),.int .i64 (ca4),.string cb4,.int .i64 (cc4),.int .i64 (cd4),.int .i64 (-1),.int .i64 (1),.int .i64 (ca4),.string cb4,.int .i64 (cc4),.int .i64 (cd4),.int .i64 (1),.int .i64 (0),.int .i64 (ca4),.string cb4,.int .i64 (cc4),.int .i64 (cd4),.int .i64 (1),.int .i64 (1000),.int .i64 (ca4),.string cb4,.int .i64 (cc4),.int .i64 (cd4),.int .i64 (1),.int .i64 (1),.int .i64 (0),.string (⟨#[]⟩ : ByteArray),.int .i64 (0),.int .i64 (0)] ?hr (Reps.c6 (k44_mkM _ _ _ ⟨0,0,0,(⟨#[]⟩ : ByteArray),0,0⟩) (Reps.c6 (k44_mkM _ _ _ ⟨4,1,ca4,cb4,cc4,cd4⟩) (Reps.c6 (k44_mkM _ _ _ ⟨-1,1,ca4,cb4,cc4,cd4⟩) (Reps.c6 (k44_mkM _ _ _ ⟨1,0,ca4,cb4,cc4,cd4⟩) (Reps.c6 (k44_mkM _ _ _ ⟨1,1000,ca4,cb4,cc4,cd4⟩) (Reps.c6 (k44_mkM _ _ _ ⟨1,1,0,(⟨#[]⟩ : ByteArray),0,0⟩) (Reps.none _ _))))))) (by simp) B (fun z31 hz31 AL31 kL31 w102 hb B RL31 QL31=>?_)
    (case hr=>go_simp;first | done | rfl)
    have NB4_L31:=nb QL31 F4
    have NB5_L31:=nb QL31 F5
    have MRL31:=mrf QL31 KK
    replace F4:=bn F4 hb
    replace F5:=bn F5 hb
    replace HI:=hib HI hb
    replace KK:=kkb KK hb
    clear hb QL31
    refine hK.out _ _ F5.out (fun hHeld=>?_)
    clear hK K
    refine npq (some 31) ?_
    refine one_ (i:=16) (N:=some 33) (bits 20 131071) rfl rfl (one_of HT_.out (by kernel_rfl)) (by decide) (fun K hK=>?_)
    refine gsq Try.func104 #[.pointer (some ⟨g,0,none⟩),.int .i64 (6)] ?_
    (with_reducible refine cg1 (spec_l20Rd_pick.D 6 w _ g bs p7 HI.out B.out HC.out (by omega) (by omega)) fun xs33 ps33 hxs33 hps33 w103 hk B HI2=>?_)
    replace F4:=bkr F4 HI (by decide) hk
    replace F5:=bkr F5 HI (by decide) hk
    replace RL31:=rkr RL31 HI (by decide) hk
    replace KK:=kkr KK hk
    replace HI:=HI2
    clear hk
    refine ⟨_,rfl,?_⟩
    refine hK.out _ _ F5.out (fun hHeld=>?_)
    clear hK K
    refine npq (some 33) ?_
    refine norm_ (a':=_) ?_ (J ⟨AL31,kL31,z31,ps33,xs33⟩ _ ⟨B,F4,F5,RL31,HI,KK,MRL31,(by omega),⟨hxs33.1,hxs33.2.1 (by omega)⟩,(by rw [← hz31];rfl),NB4_L31,NB5_L31⟩)
    simp only [putAll,Act.put,za,zb,zc]
    try rfl
   ·refine gsq Try.func104 #[.pointer (some ⟨g,0,none⟩),.int .i64 (6)] ?_
    (with_reducible refine cg1 (spec_l20Rd_pick.D 6 w _ g bs p7 HI.out B.out HC.out (by omega) (by omega)) fun xs33 ps33 hxs33 hps33 w102 hk B HI2=>?_)
    replace F4:=bkr F4 HI (by decide) hk
    replace F5:=bkr F5 HI (by decide) hk
    replace KK:=kkr KK hk
    replace HI:=HI2
    clear hk
    refine ⟨_,rfl,?_⟩
    refine hK.out _ _ F5.out (fun hHeld=>?_)
    clear hK K
    refine npq (some 33) ?_
    refine one_ (i:=14) (N:=some 31) (bits 20 131071) rfl rfl (one_of HT_.out (by kernel_rfl)) (by decide) (fun K hK=>?_)
    refine lts k44 44 (by rfl) rfl ([⟨0,0,0,(⟨#[]⟩ : ByteArray),0,0⟩,⟨4,1,ca4,cb4,cc4,cd4⟩,⟨-1,1,ca4,cb4,cc4,cd4⟩,⟨1,0,ca4,cb4,cc4,cd4⟩,⟨1,1000,ca4,cb4,cc4,cd4⟩,⟨1,1,0,(⟨#[]⟩ : ByteArray),0,0⟩] : List S44) [.int .i64 (0),.int .i64 (0),.int .i64 (0),.string (⟨#[]⟩ : ByteArray),.int .i64 (0),.int .i64 (0),.int .i64 (4),.int .i64 (1),.int .i64 (ca4),.string cb4,.int .i64 (cc4),.int .i64 (cd4),.int .i64 (-1),.int .i64 (1),.int .i64 (ca4),.string cb4,.int .i64 (cc4),.int .i64 (cd4),.int .i64 (1),.int .i64 (0),.int .i64 (ca4),.string cb4,.int .i64 (cc4),.int .i64 (cd4),.int .i64 (1),.int .i64 (1000),.int .i64 (ca4),.string cb4,.int .i64 (cc4),.int .i64 (cd4),.int .i64 (1),.int .i64 (1),.int .i64 (0),.string (⟨#[]⟩ : ByteArray),.int .i64 (0),.int .i64 (0)] ?hr (Reps.c6 (k44_mkM _ _ _ ⟨0,0,0,(⟨#[]⟩ : ByteArray),0,0⟩) (Reps.c6 (k44_mkM _ _ _ ⟨4,1,ca4,cb4,cc4,cd4⟩) (Reps.c6 (k44_mkM _ _ _ ⟨-1,1,ca4,cb4,cc4,cd4⟩) (Reps.c6 (k44_mkM _ _ _ ⟨1,0,ca4,cb4,cc4,cd4⟩) (Reps.c6 (k44_mkM _ _ _ ⟨1,1000,ca4,cb4,cc4,cd4⟩) (Reps.c6 (k44_mkM _ _ _ ⟨1,1,0,(⟨#[]⟩ : ByteArray),0,0⟩) (Reps.none _ _))))))) (by simp) B (fun z31 hz31 AL31 kL31 w103 hb B RL31 QL31=>?_)
    (case hr=>go_simp;first | done | rfl)
    have NB4_L31:=nb QL31 F4
    have NB5_L31:=nb QL31 F5
    have MRL31:=mrf QL31 KK
    replace F4:=bn F4 hb
    replace F5:=bn F5 hb
    replace HI:=hib HI hb
    replace KK:=kkb KK hb
    clear hb QL31
    refine hK.out _ _ F5.out (fun hHeld=>?_)
    clear hK K
    refine npq (some 31) ?_
    refine norm_ (a':=_) ?_ (J ⟨AL31,kL31,z31,ps33,xs33⟩ _ ⟨B,F4,F5,RL31,HI,KK,MRL31,(by omega),⟨hxs33.1,hxs33.2.1 (by omega)⟩,(by rw [← hz31];rfl),NB4_L31,NB5_L31⟩)
    simp only [putAll,Act.put,za,zb,zc]
    try rfl
  rintro ⟨AL31,kL31,z31,ps33,xs33⟩ w104 ⟨B,F4,F5,RL31,HI,KK,MRL31,hpj3,hb33,hl31,NB4_L31,NB5_L31⟩
  refine norm_ (a':=?_) ?_ ?_
  rotate_left
  ·simp only [putAll,Act.put,za,zb,zc]
   rfl
  have his33 : xs33 < (z31.length : Int):=by omega
  obtain ⟨ads33,hAs33,ys33_0,ys33_1,ys33_2,ys33_3,ys33_4,ys33_5⟩:=at_T44 (rc RL31) xs33 hb33.1 his33
  have hjs33:=hb33.1
  generalize rd_T44 z31 xs33=ys33 at *
  cases hAs33
  have js33:=eq_true hjs33
  have is33:=eq_true his33
  refine pvq 17 (some 34) (bits 20 262143) HT_ ?_
  refine nmq ?_
  refine one_ (i:=18) (N:=some 35) (bits 20 524287) rfl rfl (one_of HT_.out (by kernel_rfl)) (by decide) (fun K hK=>?_)
  refine lds (N:=35) ?_
  refine hK.out _ _ F5.out (fun hHeld=>?_)
  clear hK K
  refine npq (some 35) ?_
  refine one_ (i:=19) (N:=none) (bits 20 1048575) rfl rfl (one_of HT_.out (by kernel_rfl)) (by decide) (fun K hK=>?_)
  obtain ⟨y0,y1,y2,y3,y4,y5,z0,z1,z2,z3,z4,z5⟩:=cz6 F4
  refine sxs (g:=g4) 0 [.int .i64 (ys33.f0),.int .i64 (ys33.f1),.int .i64 (ys33.f2.f0),.string ys33.f2.f1,.int .i64 (ys33.f2.f2),.int .i64 (ys33.f2.f3)] [.int .i64 (ys33.f0),.int .i64 (ys33.f1),.int .i64 (ys33.f2.f0),.string ys33.f2.f1,.int .i64 (ys33.f2.f2),.int .i64 (ys33.f2.f3)] (by rfl) rfl ?hr B F4 L4 rfl (Nat.le_of_ble_eq_true rfl) (fun w105 hk B G=>?_)
  (case hr=>go_simp;first | done | rfl)
  replace F5:=bk F5 hk N4_5.out.symm
  replace RL31:=rkn RL31 hk NB4_L31
  replace HI:=his HI F4 (by decide) hk
  replace KK:=kks KK M4 hk
  replace F4:=G
  clear hk y0 z0 y1 z1 y2 z2 y3 z3 y4 z4 y5 z5
  refine hK.out _ _ F5.out (fun hHeld=>?_)
  clear hK K
  refine done_ (done_of HT_.out (by kernel_rfl)) ?_)
 all_goals try go_wp2
 all_goals try (refine bodyPost_ret (results_single rfl (.cell g4 44 _ (0,0) _ rfl F4.out hu rfl (by kernel_rfl) .nil)) rfl ?_;exact ⟨_,_,_,_,_,_,_,rfl,trivial,⟨by omega,by omega⟩,HI.out,B.out,KK.out⟩)

def spec_DrawApplyEntry.T3 : Bool × List (List Nat × List Nat):=(true,[([],[]),([],[]),([1],[1]),([0,2,0],[0]),([2,3,0,1,2,3],[2])])
def spec_DrawApplyEntry.B3 : List Nat:=[0,0,2,7,15]
theorem spec_DrawApplyEntry.tab3 : rtab .any (opsOf Try.f16 3)=spec_DrawApplyEntry.T3:=by kernel_rfl
theorem spec_DrawApplyEntry.bits3 : waitsOk spec_DrawApplyEntry.T3.2 spec_DrawApplyEntry.B3=true:=by kernel_rfl
theorem spec_DrawApplyEntry.D (A0 : Option Addr) (c0 : Nat) (l : List Int) (w : World) (hr0 : Kd.C (Kd.int .u8) w A0 l.length l) (hc0 : l.length≤c0) (hs : ∀ x ∈ l,(Lit.int .u8 x).wf=true) : Calls Try.prog 16 #[.slice A0 l.length c0] w fun e w'=>∃ a b v0 v1 t c xs ys i j k x v o,e=.returned (.tuple #[.agg #[.string a,.string b,v0,v1,.bool t,.string c],.agg #[.int .i64 i,.int .i64 j,.int .i64 k,.string x,.int .i64 v,.int .i64 o]])∧(xs.length≤300∧ys.length≤300)∧Kd.R k105 105 w' w.heap.size (fun _=>True) v0 xs∧Kd.R k76 76 w' w.heap.size (fun _=>True) v1 ys∧Below w.heap.size w w':=by
 obtain ⟨bs,hc,ho⟩:=Dw.spec_open l hs
 have B:=Aside0.mk (Below.refl w.heap.size w)
 have HR0:=Aside0.mk hr0
 have HC0:=Aside0.mk hc0
 have HC:=Aside0.mk hc
 have HO:=Aside0.mk ho
 clear hr0 hc0 hs hc ho
 have hu:=Try.underlying38
 have hu2:=Try.underlying44
 go_enter Try.func16,Try.ntmps16
 go_wp2_with (first
  | ((with_reducible refine gate_dst (N:=2) rfl ?_);refine bxq 2 #[.string (⟨#[]⟩ : ByteArray),.string (⟨#[]⟩ : ByteArray),.slice none 0 0,.slice none 0 0,.bool false,.string (⟨#[]⟩ : ByteArray)] 38 B fun g2 w1 hb B F2 L2 E2=>?_;clear hb E2)
  | ((with_reducible refine gate_dst (N:=3) rfl ?_);refine bxq 3 #[.int .i64 (0),.int .i64 (0),.int .i64 (0),.string (⟨#[]⟩ : ByteArray),.int .i64 (0),.int .i64 (0)] 44 B fun g3 w2 hb B F3 L3 E3=>?_;have N2_3:=ne1 E3 F2;replace F2:=bn F2 hb;clear hb E3)
  | (go_at_call 61;(with_reducible refine copen (spec_l20Open.calls _ _ l bs 0 w _ B.out HR0.out HC0.out HO.out) fun g w3 hb B HI=>?_);replace F2:=bn F2 hb;replace F3:=bn F3 hb;clear hb)
  | (go_at_call 62;(with_reducible refine cgs (spec_l20State.D 14 (by omega) w _ g bs 0 HI.out B.out HC.out (by omega) (by omega)) fun a4 b4 t4 c4 zP4 zS4 AP4 kP4 AS4 kS4 p4 hx4 hp4 w4 hk B HI2 RP4 QP4 RS4 QS4=>?_);have DP4_S4:=Aside0.mk (dty RP4 RS4 (by decide));replace F2:=bkr F2 HI (by decide) hk;replace F3:=bkr F3 HI (by decide) hk;replace HI:=HI2;clear hk QP4 QS4;skip)
  | ((with_reducible refine gate_dst (N:=5) rfl ?_);refine bxq 5 #[.string (⟨#[]⟩ : ByteArray),.string (⟨#[]⟩ : ByteArray),.slice none 0 0,.slice none 0 0,.bool false,.string (⟨#[]⟩ : ByteArray)] 38 B fun g5 w5 hb B F5 L5 E5=>?_;have N2_5:=ne1 E5 F2;have N3_5:=ne1 E5 F3;replace F2:=bn F2 hb;replace F3:=bn F3 hb;replace RP4:=rn RP4 hb;replace RS4:=rn RS4 hb;replace HI:=hib HI hb;obtain ⟨c5_0,c5_1,c5_2,c5_3,c5_4,c5_5⟩:=cs6 F5;clear hb E5)
  | ((with_reducible refine gate_store (t:=38) (p:=5) rfl ?_);obtain ⟨y0,y1,y2,y3,y4,y5,z0,z1,z2,z3,z4,z5⟩:=cz6 F5;refine sxq 38 38 5 0 [.string a4,.string b4,.slice AP4 zP4.length kP4,.slice AS4 zS4.length kS4,.bool t4,.string c4] [.string a4,.string b4,.slice AP4 zP4.length kP4,.slice AS4 zS4.length kS4,.bool t4,.string c4] B F5 L5 fun w6 hk B G=>?_;replace F2:=bk F2 hk N2_5.out;replace F3:=bk F3 hk N3_5.out;replace RP4:=rk RP4 F5 (by decide) hk;replace RS4:=rk RS4 F5 (by decide) hk;replace HI:=his HI F5 (by decide) hk;replace F5:=G;clear c5_0 c5_1 c5_2 c5_3 c5_4 c5_5;obtain ⟨c5_0,c5_1,c5_2,c5_3,c5_4,c5_5⟩:=cs6 F5;clear hk y0 z0 y1 z1 y2 z2 y3 z3 y4 z4 y5 z5))
 all_goals (
  refine rg (n:=5) (S:=fun W=>W.heap[g5]?=some (.cells #[.string a4,.string b4,.slice AP4 zP4.length kP4,.slice AS4 zS4.length kS4,.bool t4,.string c4] 38 (0,0))) (ds:=[]) #[false,false,false,false,false] (by kernel_rfl) rfl rfl F5.out id B (fun w7 hb B hHeld=>?_)
  refine with_tabW spec_DrawApplyEntry.tab3 spec_DrawApplyEntry.bits3 (fun HT_ HW_=>?_)
  replace F2:=bn F2 hb
  replace F3:=bn F3 hb
  replace F5:=bn F5 hb
  replace RP4:=rn RP4 hb
  replace RS4:=rn RS4 hb
  replace HI:=hib HI hb
  clear hb
  refine tvq 0 (some 10) (bits 5 1) HT_ HW_ rfl hHeld (by intro w' hS;have s0:=hS;obtain ⟨q0,q1,q2,q3,q4,q5⟩:=cs6 (Aside0.mk s0);go_simp;with_reducible rfl) ?_
  refine pvq 1 (some 11) (bits 5 3) HT_ ?_
  refine nmq ?_
  refine one_ (i:=2) (N:=some 12) (bits 5 7) rfl rfl (one_of HT_.out (by kernel_rfl)) (by decide) (fun K hK=>?_)
  refine gsq Try.func63 #[.pointer (some ⟨g,0,none⟩),.int .i64 (14)] ?_
  (with_reducible refine cg6 (spec_l20Entry.D 14 (by omega) w _ g bs p4 HI.out B.out HC.out (by omega) (by omega)) fun ea8 eb8 ec8 ed8 ef8 eg8 p8 hx8 hp8 w8 hk B HI2=>?_)
  replace F2:=bkr F2 HI (by decide) hk
  replace F3:=bkr F3 HI (by decide) hk
  replace F5:=bkr F5 HI (by decide) hk
  replace RP4:=rkr RP4 HI (by decide) hk
  replace RS4:=rkr RS4 HI (by decide) hk
  replace HI:=HI2
  clear hk
  refine ⟨_,rfl,?_⟩
  refine hK.out _ _ F5.out (fun hHeld=>?_)
  clear hK K
  refine npq (some 12) ?_
  refine one_ (i:=3) (N:=none) (bits 5 15) rfl rfl (one_of HT_.out (by kernel_rfl)) (by decide) (fun K hK=>?_)
  obtain ⟨y0,y1,y2,y3,y4,y5,z0,z1,z2,z3,z4,z5⟩:=cz6 F2
  refine sxs (g:=g2) 0 [.string a4,.string b4,.slice AP4 zP4.length kP4,.slice AS4 zS4.length kS4,.bool t4,.string c4] [.string a4,.string b4,.slice AP4 zP4.length kP4,.slice AS4 zS4.length kS4,.bool t4,.string c4] (by rfl) rfl ?hr B F2 L2 rfl (Nat.le_of_ble_eq_true rfl) (fun w9 hk B G=>?_)
  (case hr=>go_simp;first | done | rfl)
  replace F3:=bk F3 hk N2_3.out.symm
  replace F5:=bk F5 hk N2_5.out.symm
  replace RP4:=rk RP4 F2 (by decide) hk
  replace RS4:=rk RS4 F2 (by decide) hk
  replace HI:=his HI F2 (by decide) hk
  replace F2:=G
  clear hk y0 z0 y1 z1 y2 z2 y3 z3 y4 z4 y5 z5
  refine hK.out _ _ F5.out (fun hHeld=>?_)
  clear hK K
  refine one_ (i:=4) (N:=none) (bits 5 31) rfl rfl (one_of HT_.out (by kernel_rfl)) (by decide) (fun K hK=>?_)
  obtain ⟨y0,y1,y2,y3,y4,y5,z0,z1,z2,z3,z4,z5⟩:=cz6 F3
  refine sxs (g:=g3) 0 [.int .i64 (ea8),.int .i64 (eb8),.int .i64 (ec8),.string ed8,.int .i64 (ef8),.int .i64 (eg8)] [.int .i64 (ea8),.int .i64 (eb8),.int .i64 (ec8),.string ed8,.int .i64 (ef8),.int .i64 (eg8)] (by rfl) rfl ?hr B F3 L3 rfl (Nat.le_of_ble_eq_true rfl) (fun w10 hk B G=>?_)
  (case hr=>go_simp;first | done | rfl)
  replace F2:=bk F2 hk N2_3.out
  replace F5:=bk F5 hk N3_5.out.symm
  replace RP4:=rk RP4 F3 (by decide) hk
  replace RS4:=rk RS4 F3 (by decide) hk
  replace HI:=his HI F3 (by decide) hk
  replace F3:=G
  clear hk y0 z0 y1 z1 y2 z2 y3 z3 y4 z4 y5 z5
  refine hK.out _ _ F5.out (fun hHeld=>?_)
  clear hK K
  refine done_ (done_of HT_.out (by kernel_rfl)) ?_)
 all_goals try go_wp2
 all_goals (refine bodyPost_ret (results_list (rs:=[.cell 2 38,.cell 3 44]) rfl (by simp) (.cell g2 38 _ (0,0) _ rfl F2.out hu rfl (by kernel_rfl) (.cell g3 44 _ (0,0) _ rfl F3.out hu2 rfl (by kernel_rfl) .nil))) rfl ?_)
 all_goals exact ⟨_,_,_,_,_,_,_,_,_,_,_,_,_,_,rfl,⟨hx4.1,hx4.2⟩,RP4.out,RS4.out,B.out⟩

/-! What the draws for entries and logs give. -/
section
variable {P : Program} {F : FuncId} {args : Array Value} {w W : World} {Q : Ending→World→Prop} {α β γ : Type} {d : Kd α} {d' : Kd β} {d2 : Kd γ} {e e' e2 : Nat}
theorem cdae {f : ByteArray→ByteArray→Value→Value→Bool→ByteArray→Int→Int→Int→ByteArray→Int→Int→Value} {q : List α→List β→Prop} (c : Calls P F args W fun r w'=>∃ a b v0 v1 t c xs ys i j k x v o,r=.returned (f a b v0 v1 t c i j k x v o)∧q xs ys∧Kd.R d e w' W.heap.size (fun _=>True) v0 xs∧Kd.R d' e' w' W.heap.size (fun _=>True) v1 ys∧Below W.heap.size W w') (B : Aside0 (Below w.heap.size w W))
    (h : ∀ a b t c xs ys i j k x v o A kk A' kk' W',q xs ys→Below W.heap.size W W'→Aside0 (Below w.heap.size w W')→Aside0 (Ow d e W' w.heap.size (.slice A xs.length kk) xs)→Aside0 (Ow d' e' W' w.heap.size (.slice A' ys.length kk') ys)→Q (.returned (f a b (.slice A xs.length kk) (.slice A' ys.length kk') t c i j k x v o)) W') : Calls P F args W Q :=
  c.mono (by
    rintro r W' ⟨a,b,v0,v1,t,c,xs,ys,i,j,k,x,v,o,rfl,hq,ho,ho',hb⟩
    obtain ⟨A,kk,rfl⟩:=Kd.R_slice ho
    obtain ⟨A',kk',rfl⟩:=Kd.R_slice ho'
    exact h a b t c xs ys i j k x v o A kk A' kk' W' hq hb ⟨below_step B.out hb⟩ ⟨Kd.R_lower ho (below_size B.out)⟩ ⟨Kd.R_lower ho' (below_size B.out)⟩)
end

theorem laws_noState.E (AP : Option Addr) (cP : Nat) (ps : List S105) (AS : Option Addr) (cS : Nat) (ss : List S76) (hp : ps=[]) (hs : ss=[]) (w : World) (hrp : Kd.C k105 w AP ps.length ps) (hrs : Kd.C k76 w AS ss.length ss) :
  Calls Try.prog 20 #[.agg #[.string (⟨#[]⟩ : ByteArray),.string (⟨#[]⟩ : ByteArray),.slice AP ps.length cP,.slice AS ss.length cS,.bool false,.string (⟨#[]⟩ : ByteArray)]] w fun e w'=>e=.returned (.bool true)∧Below w.heap.size w w':=by
 subst hp hs
 exact laws_noState.M AP cP AS cS w hrp hrs


theorem laws_FnApplyEntry.M (A0 : Option Addr) (c0 : Nat) (l : List Int) (w : World) (hr0 : Kd.C (Kd.int .u8) w A0 l.length l) (hc0 : l.length≤c0) (hs : ∀ x ∈ l,(Lit.int .u8 x).wf=true) : Calls Try.prog 4 #[.slice A0 l.length c0] w fun e w'=>e=.returned (.bool true)∧Below w.heap.size w w':=by
 have B:=Aside0.mk (Below.refl w.heap.size w)
 have HR0:=Aside0.mk hr0
 have HC0:=Aside0.mk hc0
 clear hr0 hc0
 have hu:=Try.underlying38
 have hu3:=Try.underlying44
 have HSL:=Aside0.mk hs
 clear hs
 go_enter Try.func4,Try.ntmps4
 go_wp2_with (first
  | (go_at_call 16;(with_reducible refine cdae (spec_DrawApplyEntry.D A0 c0 l w HR0.out HC0.out HSL.out) B fun a b t c ps ss ci sq k x v o AP kP AS kS w0 hq hb B RP RS=>?_);clear hb;refine Stop.out ?_))
 ·go_ret
  exact ⟨rfl,B.out⟩
 refine ⟨?_⟩
 obtain ⟨hl1,hl2⟩:=hq
 have hb1 : ps.length≤2097152:=by omega
 have hb2 : ss.length≤2097152:=by omega
 clear hl1 hl2
 cases hj : stB a b ps ss t c with
 | false =>
  obtain ⟨zp,hzp⟩ : ∃ z : List S105,z=[]:=⟨[],rfl⟩
  obtain ⟨zs,hzs⟩ : ∃ z : List S76,z=[]:=⟨[],rfl⟩
  have HM:=Aside0.mk (show aeM ⟨a,b,ps,ss,t,c⟩ ci sq k x v o=(⟨⟨#[]⟩,⟨#[]⟩,zp,zs,false,⟨#[]⟩⟩,-3) by rw [hzp,hzs];exact aeM_bad (by rw [show (SM.mk a b ps ss t c).ok=false from hj];simp))
  have hb5 : zp.length≤2097152:=by rw [hzp];exact Nat.zero_le _
  have hb6 : zs.length≤2097152:=by rw [hzs];exact Nat.zero_le _
  have HZP:=Aside0.mk hzp
  have HZS:=Aside0.mk hzs
  clear hzp hzs
  go_wp2_with (first
   | ((with_reducible refine gate_dst (N:=3) rfl ?_);refine bxq 3 #[.string (⟨#[]⟩ : ByteArray),.string (⟨#[]⟩ : ByteArray),.slice none 0 0,.slice none 0 0,.bool false,.string (⟨#[]⟩ : ByteArray)] 38 B fun g3 w1 hb B F3 L3 E3=>?_;replace RP:=rn RP hb;replace RS:=rn RS hb;obtain ⟨c3_0,c3_1,c3_2,c3_3,c3_4,c3_5⟩:=cs6 F3;clear hb E3)
   | ((with_reducible refine gate_dst (N:=4) rfl ?_);refine bxq 4 #[.int .i64 (0),.int .i64 (0),.int .i64 (0),.string (⟨#[]⟩ : ByteArray),.int .i64 (0),.int .i64 (0)] 44 B fun g4 w2 hb B F4 L4 E4=>?_;have N3_4:=ne1 E4 F3;replace F3:=bn F3 hb;replace RP:=rn RP hb;replace RS:=rn RS hb;clear c3_0 c3_1 c3_2 c3_3 c3_4 c3_5;obtain ⟨c3_0,c3_1,c3_2,c3_3,c3_4,c3_5⟩:=cs6 F3;obtain ⟨c4_0,c4_1,c4_2,c4_3,c4_4,c4_5⟩:=cs6 F4;clear hb E4)
   | ((with_reducible refine gate_store (t:=38) (p:=3) rfl ?_);obtain ⟨y0,y1,y2,y3,y4,y5,z0,z1,z2,z3,z4,z5⟩:=cz6 F3;refine sxq 38 38 3 0 [.string a,.string b,.slice AP ps.length kP,.slice AS ss.length kS,.bool t,.string c] [.string a,.string b,.slice AP ps.length kP,.slice AS ss.length kS,.bool t,.string c] B F3 L3 fun w3 hk B G=>?_;replace F4:=bk F4 hk N3_4.out.symm;replace RP:=rk RP F3 (by decide) hk;replace RS:=rk RS F3 (by decide) hk;replace F3:=G;clear c3_0 c3_1 c3_2 c3_3 c3_4 c3_5;obtain ⟨c3_0,c3_1,c3_2,c3_3,c3_4,c3_5⟩:=cs6 F3;clear c4_0 c4_1 c4_2 c4_3 c4_4 c4_5;obtain ⟨c4_0,c4_1,c4_2,c4_3,c4_4,c4_5⟩:=cs6 F4;clear hk y0 z0 y1 z1 y2 z2 y3 z3 y4 z4 y5 z5)
   | ((with_reducible refine gate_store (t:=44) (p:=4) rfl ?_);obtain ⟨y0,y1,y2,y3,y4,y5,z0,z1,z2,z3,z4,z5⟩:=cz6 F4;refine sxq 44 44 4 0 [.int .i64 (ci),.int .i64 (sq),.int .i64 (k),.string x,.int .i64 (v),.int .i64 (o)] [.int .i64 (ci),.int .i64 (sq),.int .i64 (k),.string x,.int .i64 (v),.int .i64 (o)] B F4 L4 fun w4 hk B G=>?_;replace F3:=bk F3 hk N3_4.out;replace RP:=rk RP F4 (by decide) hk;replace RS:=rk RS F4 (by decide) hk;replace F4:=G;clear c3_0 c3_1 c3_2 c3_3 c3_4 c3_5;obtain ⟨c3_0,c3_1,c3_2,c3_3,c3_4,c3_5⟩:=cs6 F3;clear c4_0 c4_1 c4_2 c4_3 c4_4 c4_5;obtain ⟨c4_0,c4_1,c4_2,c4_3,c4_4,c4_5⟩:=cs6 F4;clear hk y0 z0 y1 z1 y2 z2 y3 z3 y4 z4 y5 z5)
   | (go_at_call 12;with_reducible refine c2r (impl_ApplyEntry.Mr a b _ _ ps _ _ ss t c ci sq k x v o (⟨#[]⟩ : ByteArray) (⟨#[]⟩ : ByteArray) zp zs false (⟨#[]⟩ : ByteArray) (-3) HM.out _ (rc RP) (rc RS) (rl RP) (rl RS)) B fun AP5 kP5 AS5 kS5 w5 hb B RP5 QP5 RS5 QS5=>?_;have DP_P5:=fr QP5 RP;have DS_P5:=fr QP5 RS;have DP_S5:=fr QS5 RP;have DS_S5:=fr QS5 RS;replace F3:=bn F3 hb;replace F4:=bn F4 hb;replace RP:=rn RP hb;replace RS:=rn RS hb;clear QP5 QS5;clear c3_0 c3_1 c3_2 c3_3 c3_4 c3_5;obtain ⟨c3_0,c3_1,c3_2,c3_3,c3_4,c3_5⟩:=cs6 F3;clear c4_0 c4_1 c4_2 c4_3 c4_4 c4_5;obtain ⟨c4_0,c4_1,c4_2,c4_3,c4_4,c4_5⟩:=cs6 F4;clear hb)
   | ((with_reducible refine gate_dst (N:=5) rfl ?_);refine bxq 5 #[.string (⟨#[]⟩ : ByteArray),.string (⟨#[]⟩ : ByteArray),.slice none 0 0,.slice none 0 0,.bool false,.string (⟨#[]⟩ : ByteArray)] 38 B fun g5 w6 hb B F5 L5 E5=>?_;have N3_5:=ne1 E5 F3;have N4_5:=ne1 E5 F4;replace F3:=bn F3 hb;replace F4:=bn F4 hb;replace RP:=rn RP hb;replace RS:=rn RS hb;replace RP5:=rn RP5 hb;replace RS5:=rn RS5 hb;clear c3_0 c3_1 c3_2 c3_3 c3_4 c3_5;obtain ⟨c3_0,c3_1,c3_2,c3_3,c3_4,c3_5⟩:=cs6 F3;clear c4_0 c4_1 c4_2 c4_3 c4_4 c4_5;obtain ⟨c4_0,c4_1,c4_2,c4_3,c4_4,c4_5⟩:=cs6 F4;obtain ⟨c5_0,c5_1,c5_2,c5_3,c5_4,c5_5⟩:=cs6 F5;clear hb E5)
   | ((with_reducible refine gate_store (t:=38) (p:=5) rfl ?_);obtain ⟨y0,y1,y2,y3,y4,y5,z0,z1,z2,z3,z4,z5⟩:=cz6 F5;refine sxq 38 38 5 0 [.string (⟨#[]⟩ : ByteArray),.string (⟨#[]⟩ : ByteArray),.slice AP5 zp.length kP5,.slice AS5 zs.length kS5,.bool false,.string (⟨#[]⟩ : ByteArray)] [.string (⟨#[]⟩ : ByteArray),.string (⟨#[]⟩ : ByteArray),.slice AP5 zp.length kP5,.slice AS5 zs.length kS5,.bool false,.string (⟨#[]⟩ : ByteArray)] B F5 L5 fun w7 hk B G=>?_;replace F3:=bk F3 hk N3_5.out;replace F4:=bk F4 hk N4_5.out;replace RP:=rk RP F5 (by decide) hk;replace RS:=rk RS F5 (by decide) hk;replace RP5:=rk RP5 F5 (by decide) hk;replace RS5:=rk RS5 F5 (by decide) hk;replace F5:=G;clear c3_0 c3_1 c3_2 c3_3 c3_4 c3_5;obtain ⟨c3_0,c3_1,c3_2,c3_3,c3_4,c3_5⟩:=cs6 F3;clear c4_0 c4_1 c4_2 c4_3 c4_4 c4_5;obtain ⟨c4_0,c4_1,c4_2,c4_3,c4_4,c4_5⟩:=cs6 F4;clear c5_0 c5_1 c5_2 c5_3 c5_4 c5_5;obtain ⟨c5_0,c5_1,c5_2,c5_3,c5_4,c5_5⟩:=cs6 F5;clear hk y0 z0 y1 z1 y2 z2 y3 z3 y4 z4 y5 z5)
   | (go_at_call 9;with_reducible refine c2r (spec_ApplyEntry.Mr a b _ _ ps _ _ ss t c ci sq k x v o (⟨#[]⟩ : ByteArray) (⟨#[]⟩ : ByteArray) zp zs false (⟨#[]⟩ : ByteArray) (-3) HM.out _ (rc RP) (rc RS) (rl RP) (rl RS)) B fun AP8 kP8 AS8 kS8 w8 hb B RP8 QP8 RS8 QS8=>?_;have DP_P8:=fr QP8 RP;have DS_P8:=fr QP8 RS;have DP5_P8:=fr QP8 RP5;have DS5_P8:=fr QP8 RS5;have DP_S8:=fr QS8 RP;have DS_S8:=fr QS8 RS;have DP5_S8:=fr QS8 RP5;have DS5_S8:=fr QS8 RS5;replace F3:=bn F3 hb;replace F4:=bn F4 hb;replace F5:=bn F5 hb;replace RP:=rn RP hb;replace RS:=rn RS hb;replace RP5:=rn RP5 hb;replace RS5:=rn RS5 hb;clear QP8 QS8;clear c3_0 c3_1 c3_2 c3_3 c3_4 c3_5;obtain ⟨c3_0,c3_1,c3_2,c3_3,c3_4,c3_5⟩:=cs6 F3;clear c4_0 c4_1 c4_2 c4_3 c4_4 c4_5;obtain ⟨c4_0,c4_1,c4_2,c4_3,c4_4,c4_5⟩:=cs6 F4;clear c5_0 c5_1 c5_2 c5_3 c5_4 c5_5;obtain ⟨c5_0,c5_1,c5_2,c5_3,c5_4,c5_5⟩:=cs6 F5;clear hb)
   | ((with_reducible refine gate_dst (N:=7) rfl ?_);refine bxq 7 #[.string (⟨#[]⟩ : ByteArray),.string (⟨#[]⟩ : ByteArray),.slice none 0 0,.slice none 0 0,.bool false,.string (⟨#[]⟩ : ByteArray)] 38 B fun g7 w9 hb B F7 L7 E7=>?_;have N3_7:=ne1 E7 F3;have N4_7:=ne1 E7 F4;have N5_7:=ne1 E7 F5;replace F3:=bn F3 hb;replace F4:=bn F4 hb;replace F5:=bn F5 hb;replace RP:=rn RP hb;replace RS:=rn RS hb;replace RP5:=rn RP5 hb;replace RS5:=rn RS5 hb;replace RP8:=rn RP8 hb;replace RS8:=rn RS8 hb;clear c3_0 c3_1 c3_2 c3_3 c3_4 c3_5;obtain ⟨c3_0,c3_1,c3_2,c3_3,c3_4,c3_5⟩:=cs6 F3;clear c4_0 c4_1 c4_2 c4_3 c4_4 c4_5;obtain ⟨c4_0,c4_1,c4_2,c4_3,c4_4,c4_5⟩:=cs6 F4;clear c5_0 c5_1 c5_2 c5_3 c5_4 c5_5;obtain ⟨c5_0,c5_1,c5_2,c5_3,c5_4,c5_5⟩:=cs6 F5;obtain ⟨c7_0,c7_1,c7_2,c7_3,c7_4,c7_5⟩:=cs6 F7;clear hb E7)
   | ((with_reducible refine gate_store (t:=38) (p:=7) rfl ?_);obtain ⟨y0,y1,y2,y3,y4,y5,z0,z1,z2,z3,z4,z5⟩:=cz6 F7;refine sxq 38 38 7 0 [.string (⟨#[]⟩ : ByteArray),.string (⟨#[]⟩ : ByteArray),.slice AP8 zp.length kP8,.slice AS8 zs.length kS8,.bool false,.string (⟨#[]⟩ : ByteArray)] [.string (⟨#[]⟩ : ByteArray),.string (⟨#[]⟩ : ByteArray),.slice AP8 zp.length kP8,.slice AS8 zs.length kS8,.bool false,.string (⟨#[]⟩ : ByteArray)] B F7 L7 fun w10 hk B G=>?_;replace F3:=bk F3 hk N3_7.out;replace F4:=bk F4 hk N4_7.out;replace F5:=bk F5 hk N5_7.out;replace RP:=rk RP F7 (by decide) hk;replace RS:=rk RS F7 (by decide) hk;replace RP5:=rk RP5 F7 (by decide) hk;replace RS5:=rk RS5 F7 (by decide) hk;replace RP8:=rk RP8 F7 (by decide) hk;replace RS8:=rk RS8 F7 (by decide) hk;replace F7:=G;clear c3_0 c3_1 c3_2 c3_3 c3_4 c3_5;obtain ⟨c3_0,c3_1,c3_2,c3_3,c3_4,c3_5⟩:=cs6 F3;clear c4_0 c4_1 c4_2 c4_3 c4_4 c4_5;obtain ⟨c4_0,c4_1,c4_2,c4_3,c4_4,c4_5⟩:=cs6 F4;clear c5_0 c5_1 c5_2 c5_3 c5_4 c5_5;obtain ⟨c5_0,c5_1,c5_2,c5_3,c5_4,c5_5⟩:=cs6 F5;clear c7_0 c7_1 c7_2 c7_3 c7_4 c7_5;obtain ⟨c7_0,c7_1,c7_2,c7_3,c7_4,c7_5⟩:=cs6 F7;clear hk y0 z0 y1 z1 y2 z2 y3 z3 y4 z4 y5 z5)
   | (go_at_call 17;with_reducible refine cl (laws_sameState.M (⟨#[]⟩ : ByteArray) (⟨#[]⟩ : ByteArray) _ _ _ _ zp _ _ _ _ zs false (⟨#[]⟩ : ByteArray) _ (rc RP5) (rc RP8) (rc RS5) (rc RS8) (rl RP5) (rl RP8) (rl RS5) (rl RS8) (by assumption) (by assumption)) B fun w11 hb B=>?_;replace F3:=bn F3 hb;replace F4:=bn F4 hb;replace F5:=bn F5 hb;replace RP:=rn RP hb;replace RS:=rn RS hb;replace RP5:=rn RP5 hb;replace RS5:=rn RS5 hb;clear c3_0 c3_1 c3_2 c3_3 c3_4 c3_5;obtain ⟨c3_0,c3_1,c3_2,c3_3,c3_4,c3_5⟩:=cs6 F3;clear c4_0 c4_1 c4_2 c4_3 c4_4 c4_5;obtain ⟨c4_0,c4_1,c4_2,c4_3,c4_4,c4_5⟩:=cs6 F4;clear c5_0 c5_1 c5_2 c5_3 c5_4 c5_5;obtain ⟨c5_0,c5_1,c5_2,c5_3,c5_4,c5_5⟩:=cs6 F5;clear hb)
   | (go_at_call 18;with_reducible refine cl (impl_StateValid.M a b _ _ ps _ _ ss t c _ (rc RP) (rc RS)) B fun w12 hb B=>?_;replace F4:=bn F4 hb;replace F5:=bn F5 hb;replace RP5:=rn RP5 hb;replace RS5:=rn RS5 hb;clear c4_0 c4_1 c4_2 c4_3 c4_4 c4_5;obtain ⟨c4_0,c4_1,c4_2,c4_3,c4_4,c4_5⟩:=cs6 F4;clear c5_0 c5_1 c5_2 c5_3 c5_4 c5_5;obtain ⟨c5_0,c5_1,c5_2,c5_3,c5_4,c5_5⟩:=cs6 F5;clear hb)
   | (go_at_call 19;with_reducible refine cl (impl_EntryValid.M ci sq k x v o _) B fun w13 hb B=>?_;replace F5:=bn F5 hb;replace RP5:=rn RP5 hb;replace RS5:=rn RS5 hb;clear c5_0 c5_1 c5_2 c5_3 c5_4 c5_5;obtain ⟨c5_0,c5_1,c5_2,c5_3,c5_4,c5_5⟩:=cs6 F5;clear hb)
   | (go_at_call 20;with_reducible refine cl (laws_noState.E _ _ _ _ _ _ HZP.out HZS.out _ (rc RP5) (rc RS5)) B fun w14 hb B=>?_;clear hb)
   | (go_at_call 21;with_reducible refine cl (laws_alive.M _) B fun w15 hb B=>?_;clear hb))
  all_goals go_ret
  all_goals exact ⟨by first | rfl | (simp;done) | (simp_all;done),B.out⟩
 | true =>
  cases he : entB ci sq k x v o with
  | false =>
   obtain ⟨zp,hzp⟩ : ∃ z : List S105,z=[]:=⟨[],rfl⟩
   obtain ⟨zs,hzs⟩ : ∃ z : List S76,z=[]:=⟨[],rfl⟩
   have HM:=Aside0.mk (show aeM ⟨a,b,ps,ss,t,c⟩ ci sq k x v o=(⟨⟨#[]⟩,⟨#[]⟩,zp,zs,false,⟨#[]⟩⟩,-3) by rw [hzp,hzs];exact aeM_bad (by rw [he];simp))
   have hb5 : zp.length≤2097152:=by rw [hzp];exact Nat.zero_le _
   have hb6 : zs.length≤2097152:=by rw [hzs];exact Nat.zero_le _
   have HZP:=Aside0.mk hzp
   have HZS:=Aside0.mk hzs
   clear hzp hzs
   go_wp2_with (first
    | ((with_reducible refine gate_dst (N:=3) rfl ?_);refine bxq 3 #[.string (⟨#[]⟩ : ByteArray),.string (⟨#[]⟩ : ByteArray),.slice none 0 0,.slice none 0 0,.bool false,.string (⟨#[]⟩ : ByteArray)] 38 B fun g3 w1001 hb B F3 L3 E3=>?_;replace RP:=rn RP hb;replace RS:=rn RS hb;obtain ⟨c3_0,c3_1,c3_2,c3_3,c3_4,c3_5⟩:=cs6 F3;clear hb E3)
    | ((with_reducible refine gate_dst (N:=4) rfl ?_);refine bxq 4 #[.int .i64 (0),.int .i64 (0),.int .i64 (0),.string (⟨#[]⟩ : ByteArray),.int .i64 (0),.int .i64 (0)] 44 B fun g4 w1002 hb B F4 L4 E4=>?_;have N3_4:=ne1 E4 F3;replace F3:=bn F3 hb;replace RP:=rn RP hb;replace RS:=rn RS hb;clear c3_0 c3_1 c3_2 c3_3 c3_4 c3_5;obtain ⟨c3_0,c3_1,c3_2,c3_3,c3_4,c3_5⟩:=cs6 F3;obtain ⟨c4_0,c4_1,c4_2,c4_3,c4_4,c4_5⟩:=cs6 F4;clear hb E4)
    | ((with_reducible refine gate_store (t:=38) (p:=3) rfl ?_);obtain ⟨y0,y1,y2,y3,y4,y5,z0,z1,z2,z3,z4,z5⟩:=cz6 F3;refine sxq 38 38 3 0 [.string a,.string b,.slice AP ps.length kP,.slice AS ss.length kS,.bool t,.string c] [.string a,.string b,.slice AP ps.length kP,.slice AS ss.length kS,.bool t,.string c] B F3 L3 fun w1003 hk B G=>?_;replace F4:=bk F4 hk N3_4.out.symm;replace RP:=rk RP F3 (by decide) hk;replace RS:=rk RS F3 (by decide) hk;replace F3:=G;clear c3_0 c3_1 c3_2 c3_3 c3_4 c3_5;obtain ⟨c3_0,c3_1,c3_2,c3_3,c3_4,c3_5⟩:=cs6 F3;clear c4_0 c4_1 c4_2 c4_3 c4_4 c4_5;obtain ⟨c4_0,c4_1,c4_2,c4_3,c4_4,c4_5⟩:=cs6 F4;clear hk y0 z0 y1 z1 y2 z2 y3 z3 y4 z4 y5 z5)
    | ((with_reducible refine gate_store (t:=44) (p:=4) rfl ?_);obtain ⟨y0,y1,y2,y3,y4,y5,z0,z1,z2,z3,z4,z5⟩:=cz6 F4;refine sxq 44 44 4 0 [.int .i64 (ci),.int .i64 (sq),.int .i64 (k),.string x,.int .i64 (v),.int .i64 (o)] [.int .i64 (ci),.int .i64 (sq),.int .i64 (k),.string x,.int .i64 (v),.int .i64 (o)] B F4 L4 fun w1004 hk B G=>?_;replace F3:=bk F3 hk N3_4.out;replace RP:=rk RP F4 (by decide) hk;replace RS:=rk RS F4 (by decide) hk;replace F4:=G;clear c3_0 c3_1 c3_2 c3_3 c3_4 c3_5;obtain ⟨c3_0,c3_1,c3_2,c3_3,c3_4,c3_5⟩:=cs6 F3;clear c4_0 c4_1 c4_2 c4_3 c4_4 c4_5;obtain ⟨c4_0,c4_1,c4_2,c4_3,c4_4,c4_5⟩:=cs6 F4;clear hk y0 z0 y1 z1 y2 z2 y3 z3 y4 z4 y5 z5)
    | (go_at_call 12;with_reducible refine c2r (impl_ApplyEntry.Mr a b _ _ ps _ _ ss t c ci sq k x v o (⟨#[]⟩ : ByteArray) (⟨#[]⟩ : ByteArray) zp zs false (⟨#[]⟩ : ByteArray) (-3) HM.out _ (rc RP) (rc RS) (rl RP) (rl RS)) B fun AP1005 kP1005 AS1005 kS1005 w1005 hb B RP1005 QP1005 RS1005 QS1005=>?_;have DP_P1005:=fr QP1005 RP;have DS_P1005:=fr QP1005 RS;have DP_S1005:=fr QS1005 RP;have DS_S1005:=fr QS1005 RS;replace F3:=bn F3 hb;replace F4:=bn F4 hb;replace RP:=rn RP hb;replace RS:=rn RS hb;clear QP1005 QS1005;clear c3_0 c3_1 c3_2 c3_3 c3_4 c3_5;obtain ⟨c3_0,c3_1,c3_2,c3_3,c3_4,c3_5⟩:=cs6 F3;clear c4_0 c4_1 c4_2 c4_3 c4_4 c4_5;obtain ⟨c4_0,c4_1,c4_2,c4_3,c4_4,c4_5⟩:=cs6 F4;clear hb)
    | ((with_reducible refine gate_dst (N:=5) rfl ?_);refine bxq 5 #[.string (⟨#[]⟩ : ByteArray),.string (⟨#[]⟩ : ByteArray),.slice none 0 0,.slice none 0 0,.bool false,.string (⟨#[]⟩ : ByteArray)] 38 B fun g5 w1006 hb B F5 L5 E5=>?_;have N3_5:=ne1 E5 F3;have N4_5:=ne1 E5 F4;replace F3:=bn F3 hb;replace F4:=bn F4 hb;replace RP:=rn RP hb;replace RS:=rn RS hb;replace RP1005:=rn RP1005 hb;replace RS1005:=rn RS1005 hb;clear c3_0 c3_1 c3_2 c3_3 c3_4 c3_5;obtain ⟨c3_0,c3_1,c3_2,c3_3,c3_4,c3_5⟩:=cs6 F3;clear c4_0 c4_1 c4_2 c4_3 c4_4 c4_5;obtain ⟨c4_0,c4_1,c4_2,c4_3,c4_4,c4_5⟩:=cs6 F4;obtain ⟨c5_0,c5_1,c5_2,c5_3,c5_4,c5_5⟩:=cs6 F5;clear hb E5)
    | ((with_reducible refine gate_store (t:=38) (p:=5) rfl ?_);obtain ⟨y0,y1,y2,y3,y4,y5,z0,z1,z2,z3,z4,z5⟩:=cz6 F5;refine sxq 38 38 5 0 [.string (⟨#[]⟩ : ByteArray),.string (⟨#[]⟩ : ByteArray),.slice AP1005 zp.length kP1005,.slice AS1005 zs.length kS1005,.bool false,.string (⟨#[]⟩ : ByteArray)] [.string (⟨#[]⟩ : ByteArray),.string (⟨#[]⟩ : ByteArray),.slice AP1005 zp.length kP1005,.slice AS1005 zs.length kS1005,.bool false,.string (⟨#[]⟩ : ByteArray)] B F5 L5 fun w1007 hk B G=>?_;replace F3:=bk F3 hk N3_5.out;replace F4:=bk F4 hk N4_5.out;replace RP:=rk RP F5 (by decide) hk;replace RS:=rk RS F5 (by decide) hk;replace RP1005:=rk RP1005 F5 (by decide) hk;replace RS1005:=rk RS1005 F5 (by decide) hk;replace F5:=G;clear c3_0 c3_1 c3_2 c3_3 c3_4 c3_5;obtain ⟨c3_0,c3_1,c3_2,c3_3,c3_4,c3_5⟩:=cs6 F3;clear c4_0 c4_1 c4_2 c4_3 c4_4 c4_5;obtain ⟨c4_0,c4_1,c4_2,c4_3,c4_4,c4_5⟩:=cs6 F4;clear c5_0 c5_1 c5_2 c5_3 c5_4 c5_5;obtain ⟨c5_0,c5_1,c5_2,c5_3,c5_4,c5_5⟩:=cs6 F5;clear hk y0 z0 y1 z1 y2 z2 y3 z3 y4 z4 y5 z5)
    | (go_at_call 9;with_reducible refine c2r (spec_ApplyEntry.Mr a b _ _ ps _ _ ss t c ci sq k x v o (⟨#[]⟩ : ByteArray) (⟨#[]⟩ : ByteArray) zp zs false (⟨#[]⟩ : ByteArray) (-3) HM.out _ (rc RP) (rc RS) (rl RP) (rl RS)) B fun AP1008 kP1008 AS1008 kS1008 w1008 hb B RP1008 QP1008 RS1008 QS1008=>?_;have DP_P1008:=fr QP1008 RP;have DS_P1008:=fr QP1008 RS;have DP1005_P1008:=fr QP1008 RP1005;have DS1005_P1008:=fr QP1008 RS1005;have DP_S1008:=fr QS1008 RP;have DS_S1008:=fr QS1008 RS;have DP1005_S1008:=fr QS1008 RP1005;have DS1005_S1008:=fr QS1008 RS1005;replace F3:=bn F3 hb;replace F4:=bn F4 hb;replace F5:=bn F5 hb;replace RP:=rn RP hb;replace RS:=rn RS hb;replace RP1005:=rn RP1005 hb;replace RS1005:=rn RS1005 hb;clear QP1008 QS1008;clear c3_0 c3_1 c3_2 c3_3 c3_4 c3_5;obtain ⟨c3_0,c3_1,c3_2,c3_3,c3_4,c3_5⟩:=cs6 F3;clear c4_0 c4_1 c4_2 c4_3 c4_4 c4_5;obtain ⟨c4_0,c4_1,c4_2,c4_3,c4_4,c4_5⟩:=cs6 F4;clear c5_0 c5_1 c5_2 c5_3 c5_4 c5_5;obtain ⟨c5_0,c5_1,c5_2,c5_3,c5_4,c5_5⟩:=cs6 F5;clear hb)
    | ((with_reducible refine gate_dst (N:=7) rfl ?_);refine bxq 7 #[.string (⟨#[]⟩ : ByteArray),.string (⟨#[]⟩ : ByteArray),.slice none 0 0,.slice none 0 0,.bool false,.string (⟨#[]⟩ : ByteArray)] 38 B fun g7 w1009 hb B F7 L7 E7=>?_;have N3_7:=ne1 E7 F3;have N4_7:=ne1 E7 F4;have N5_7:=ne1 E7 F5;replace F3:=bn F3 hb;replace F4:=bn F4 hb;replace F5:=bn F5 hb;replace RP:=rn RP hb;replace RS:=rn RS hb;replace RP1005:=rn RP1005 hb;replace RS1005:=rn RS1005 hb;replace RP1008:=rn RP1008 hb;replace RS1008:=rn RS1008 hb;clear c3_0 c3_1 c3_2 c3_3 c3_4 c3_5;obtain ⟨c3_0,c3_1,c3_2,c3_3,c3_4,c3_5⟩:=cs6 F3;clear c4_0 c4_1 c4_2 c4_3 c4_4 c4_5;obtain ⟨c4_0,c4_1,c4_2,c4_3,c4_4,c4_5⟩:=cs6 F4;clear c5_0 c5_1 c5_2 c5_3 c5_4 c5_5;obtain ⟨c5_0,c5_1,c5_2,c5_3,c5_4,c5_5⟩:=cs6 F5;obtain ⟨c7_0,c7_1,c7_2,c7_3,c7_4,c7_5⟩:=cs6 F7;clear hb E7)
    | ((with_reducible refine gate_store (t:=38) (p:=7) rfl ?_);obtain ⟨y0,y1,y2,y3,y4,y5,z0,z1,z2,z3,z4,z5⟩:=cz6 F7;refine sxq 38 38 7 0 [.string (⟨#[]⟩ : ByteArray),.string (⟨#[]⟩ : ByteArray),.slice AP1008 zp.length kP1008,.slice AS1008 zs.length kS1008,.bool false,.string (⟨#[]⟩ : ByteArray)] [.string (⟨#[]⟩ : ByteArray),.string (⟨#[]⟩ : ByteArray),.slice AP1008 zp.length kP1008,.slice AS1008 zs.length kS1008,.bool false,.string (⟨#[]⟩ : ByteArray)] B F7 L7 fun w1010 hk B G=>?_;replace F3:=bk F3 hk N3_7.out;replace F4:=bk F4 hk N4_7.out;replace F5:=bk F5 hk N5_7.out;replace RP:=rk RP F7 (by decide) hk;replace RS:=rk RS F7 (by decide) hk;replace RP1005:=rk RP1005 F7 (by decide) hk;replace RS1005:=rk RS1005 F7 (by decide) hk;replace RP1008:=rk RP1008 F7 (by decide) hk;replace RS1008:=rk RS1008 F7 (by decide) hk;replace F7:=G;clear c3_0 c3_1 c3_2 c3_3 c3_4 c3_5;obtain ⟨c3_0,c3_1,c3_2,c3_3,c3_4,c3_5⟩:=cs6 F3;clear c4_0 c4_1 c4_2 c4_3 c4_4 c4_5;obtain ⟨c4_0,c4_1,c4_2,c4_3,c4_4,c4_5⟩:=cs6 F4;clear c5_0 c5_1 c5_2 c5_3 c5_4 c5_5;obtain ⟨c5_0,c5_1,c5_2,c5_3,c5_4,c5_5⟩:=cs6 F5;clear c7_0 c7_1 c7_2 c7_3 c7_4 c7_5;obtain ⟨c7_0,c7_1,c7_2,c7_3,c7_4,c7_5⟩:=cs6 F7;clear hk y0 z0 y1 z1 y2 z2 y3 z3 y4 z4 y5 z5)
    | (go_at_call 17;with_reducible refine cl (laws_sameState.M (⟨#[]⟩ : ByteArray) (⟨#[]⟩ : ByteArray) _ _ _ _ zp _ _ _ _ zs false (⟨#[]⟩ : ByteArray) _ (rc RP1005) (rc RP1008) (rc RS1005) (rc RS1008) (rl RP1005) (rl RP1008) (rl RS1005) (rl RS1008) (by assumption) (by assumption)) B fun w1011 hb B=>?_;replace F3:=bn F3 hb;replace F4:=bn F4 hb;replace F5:=bn F5 hb;replace RP:=rn RP hb;replace RS:=rn RS hb;replace RP1005:=rn RP1005 hb;replace RS1005:=rn RS1005 hb;clear c3_0 c3_1 c3_2 c3_3 c3_4 c3_5;obtain ⟨c3_0,c3_1,c3_2,c3_3,c3_4,c3_5⟩:=cs6 F3;clear c4_0 c4_1 c4_2 c4_3 c4_4 c4_5;obtain ⟨c4_0,c4_1,c4_2,c4_3,c4_4,c4_5⟩:=cs6 F4;clear c5_0 c5_1 c5_2 c5_3 c5_4 c5_5;obtain ⟨c5_0,c5_1,c5_2,c5_3,c5_4,c5_5⟩:=cs6 F5;clear hb)
    | (go_at_call 18;with_reducible refine cl (impl_StateValid.M a b _ _ ps _ _ ss t c _ (rc RP) (rc RS)) B fun w1012 hb B=>?_;replace F4:=bn F4 hb;replace F5:=bn F5 hb;replace RP1005:=rn RP1005 hb;replace RS1005:=rn RS1005 hb;clear c4_0 c4_1 c4_2 c4_3 c4_4 c4_5;obtain ⟨c4_0,c4_1,c4_2,c4_3,c4_4,c4_5⟩:=cs6 F4;clear c5_0 c5_1 c5_2 c5_3 c5_4 c5_5;obtain ⟨c5_0,c5_1,c5_2,c5_3,c5_4,c5_5⟩:=cs6 F5;clear hb)
    | (go_at_call 19;with_reducible refine cl (impl_EntryValid.M ci sq k x v o _) B fun w1013 hb B=>?_;replace F5:=bn F5 hb;replace RP1005:=rn RP1005 hb;replace RS1005:=rn RS1005 hb;clear c5_0 c5_1 c5_2 c5_3 c5_4 c5_5;obtain ⟨c5_0,c5_1,c5_2,c5_3,c5_4,c5_5⟩:=cs6 F5;clear hb)
    | (go_at_call 20;with_reducible refine cl (laws_noState.E _ _ _ _ _ _ HZP.out HZS.out _ (rc RP1005) (rc RS1005)) B fun w1014 hb B=>?_;clear hb)
    | (go_at_call 21;with_reducible refine cl (laws_alive.M _) B fun w1015 hb B=>?_;clear hb))
   all_goals go_ret
   all_goals exact ⟨by first | rfl | (simp;done) | (simp_all;done),B.out⟩
  | true =>
   have hok : (SM.mk a b ps ss t c).ok=true:=hj
   obtain ⟨⟨⟨xa,xb,xp,xs,xt,xc⟩,nn⟩,hm⟩ : ∃ r,aeM ⟨a,b,ps,ss,t,c⟩ ci sq k x v o=r:=⟨_,rfl⟩
   have ha:=aeM_again hok he
   have hv:=(aeM_after hok he).1
   have hs:=aeM_same hok he
   rw [hm] at ha hv hs
   have HM:=Aside0.mk hm
   have HA:=Aside0.mk ha
   by_cases hd : nn=-3 ∨ nn=-4 ∨ t=true
   ·have hx:=hs hd
    cases hx
    clear ha hv hs hm hd hok
    cases t with
    | false =>
     go_wp2_with (first
      | ((with_reducible refine gate_dst (N:=3) rfl ?_);refine bxq 3 #[.string (⟨#[]⟩ : ByteArray),.string (⟨#[]⟩ : ByteArray),.slice none 0 0,.slice none 0 0,.bool false,.string (⟨#[]⟩ : ByteArray)] 38 B fun g3 w2001 hb B F3 L3 E3=>?_;replace RP:=rn RP hb;replace RS:=rn RS hb;obtain ⟨c3_0,c3_1,c3_2,c3_3,c3_4,c3_5⟩:=cs6 F3;clear hb E3)
      | ((with_reducible refine gate_dst (N:=4) rfl ?_);refine bxq 4 #[.int .i64 (0),.int .i64 (0),.int .i64 (0),.string (⟨#[]⟩ : ByteArray),.int .i64 (0),.int .i64 (0)] 44 B fun g4 w2002 hb B F4 L4 E4=>?_;have N3_4:=ne1 E4 F3;replace F3:=bn F3 hb;replace RP:=rn RP hb;replace RS:=rn RS hb;clear c3_0 c3_1 c3_2 c3_3 c3_4 c3_5;obtain ⟨c3_0,c3_1,c3_2,c3_3,c3_4,c3_5⟩:=cs6 F3;obtain ⟨c4_0,c4_1,c4_2,c4_3,c4_4,c4_5⟩:=cs6 F4;clear hb E4)
      | ((with_reducible refine gate_store (t:=38) (p:=3) rfl ?_);obtain ⟨y0,y1,y2,y3,y4,y5,z0,z1,z2,z3,z4,z5⟩:=cz6 F3;refine sxq 38 38 3 0 [.string a,.string b,.slice AP ps.length kP,.slice AS ss.length kS,.bool false,.string c] [.string a,.string b,.slice AP ps.length kP,.slice AS ss.length kS,.bool false,.string c] B F3 L3 fun w2003 hk B G=>?_;replace F4:=bk F4 hk N3_4.out.symm;replace RP:=rk RP F3 (by decide) hk;replace RS:=rk RS F3 (by decide) hk;replace F3:=G;clear c3_0 c3_1 c3_2 c3_3 c3_4 c3_5;obtain ⟨c3_0,c3_1,c3_2,c3_3,c3_4,c3_5⟩:=cs6 F3;clear c4_0 c4_1 c4_2 c4_3 c4_4 c4_5;obtain ⟨c4_0,c4_1,c4_2,c4_3,c4_4,c4_5⟩:=cs6 F4;clear hk y0 z0 y1 z1 y2 z2 y3 z3 y4 z4 y5 z5)
      | ((with_reducible refine gate_store (t:=44) (p:=4) rfl ?_);obtain ⟨y0,y1,y2,y3,y4,y5,z0,z1,z2,z3,z4,z5⟩:=cz6 F4;refine sxq 44 44 4 0 [.int .i64 (ci),.int .i64 (sq),.int .i64 (k),.string x,.int .i64 (v),.int .i64 (o)] [.int .i64 (ci),.int .i64 (sq),.int .i64 (k),.string x,.int .i64 (v),.int .i64 (o)] B F4 L4 fun w2004 hk B G=>?_;replace F3:=bk F3 hk N3_4.out;replace RP:=rk RP F4 (by decide) hk;replace RS:=rk RS F4 (by decide) hk;replace F4:=G;clear c3_0 c3_1 c3_2 c3_3 c3_4 c3_5;obtain ⟨c3_0,c3_1,c3_2,c3_3,c3_4,c3_5⟩:=cs6 F3;clear c4_0 c4_1 c4_2 c4_3 c4_4 c4_5;obtain ⟨c4_0,c4_1,c4_2,c4_3,c4_4,c4_5⟩:=cs6 F4;clear hk y0 z0 y1 z1 y2 z2 y3 z3 y4 z4 y5 z5)
      | (go_at_call 12;with_reducible refine c2r (impl_ApplyEntry.Mr a b _ _ ps _ _ ss false c ci sq k x v o a b ps ss false c nn HM.out w2004 (rc RP) (rc RS) (rl RP) (rl RS)) B fun AP2005 kP2005 AS2005 kS2005 w2005 hb B RP2005 QP2005 RS2005 QS2005=>?_;have DP_P2005:=fr QP2005 RP;have DS_P2005:=fr QP2005 RS;have DP_S2005:=fr QS2005 RP;have DS_S2005:=fr QS2005 RS;replace F3:=bn F3 hb;replace F4:=bn F4 hb;replace RP:=rn RP hb;replace RS:=rn RS hb;clear QP2005 QS2005;clear c3_0 c3_1 c3_2 c3_3 c3_4 c3_5;obtain ⟨c3_0,c3_1,c3_2,c3_3,c3_4,c3_5⟩:=cs6 F3;clear c4_0 c4_1 c4_2 c4_3 c4_4 c4_5;obtain ⟨c4_0,c4_1,c4_2,c4_3,c4_4,c4_5⟩:=cs6 F4;clear hb)
      | ((with_reducible refine gate_dst (N:=5) rfl ?_);refine bxq 5 #[.string (⟨#[]⟩ : ByteArray),.string (⟨#[]⟩ : ByteArray),.slice none 0 0,.slice none 0 0,.bool false,.string (⟨#[]⟩ : ByteArray)] 38 B fun g5 w2006 hb B F5 L5 E5=>?_;have N3_5:=ne1 E5 F3;have N4_5:=ne1 E5 F4;replace F3:=bn F3 hb;replace F4:=bn F4 hb;replace RP:=rn RP hb;replace RS:=rn RS hb;replace RP2005:=rn RP2005 hb;replace RS2005:=rn RS2005 hb;clear c3_0 c3_1 c3_2 c3_3 c3_4 c3_5;obtain ⟨c3_0,c3_1,c3_2,c3_3,c3_4,c3_5⟩:=cs6 F3;clear c4_0 c4_1 c4_2 c4_3 c4_4 c4_5;obtain ⟨c4_0,c4_1,c4_2,c4_3,c4_4,c4_5⟩:=cs6 F4;obtain ⟨c5_0,c5_1,c5_2,c5_3,c5_4,c5_5⟩:=cs6 F5;clear hb E5)
      | ((with_reducible refine gate_store (t:=38) (p:=5) rfl ?_);obtain ⟨y0,y1,y2,y3,y4,y5,z0,z1,z2,z3,z4,z5⟩:=cz6 F5;refine sxq 38 38 5 0 [.string a,.string b,.slice AP2005 ps.length kP2005,.slice AS2005 ss.length kS2005,.bool false,.string c] [.string a,.string b,.slice AP2005 ps.length kP2005,.slice AS2005 ss.length kS2005,.bool false,.string c] B F5 L5 fun w2007 hk B G=>?_;replace F3:=bk F3 hk N3_5.out;replace F4:=bk F4 hk N4_5.out;replace RP:=rk RP F5 (by decide) hk;replace RS:=rk RS F5 (by decide) hk;replace RP2005:=rk RP2005 F5 (by decide) hk;replace RS2005:=rk RS2005 F5 (by decide) hk;replace F5:=G;clear c3_0 c3_1 c3_2 c3_3 c3_4 c3_5;obtain ⟨c3_0,c3_1,c3_2,c3_3,c3_4,c3_5⟩:=cs6 F3;clear c4_0 c4_1 c4_2 c4_3 c4_4 c4_5;obtain ⟨c4_0,c4_1,c4_2,c4_3,c4_4,c4_5⟩:=cs6 F4;clear c5_0 c5_1 c5_2 c5_3 c5_4 c5_5;obtain ⟨c5_0,c5_1,c5_2,c5_3,c5_4,c5_5⟩:=cs6 F5;clear hk y0 z0 y1 z1 y2 z2 y3 z3 y4 z4 y5 z5)
      | (go_at_call 9;with_reducible refine c2r (spec_ApplyEntry.Mr a b _ _ ps _ _ ss false c ci sq k x v o a b ps ss false c nn HM.out w2007 (rc RP) (rc RS) (rl RP) (rl RS)) B fun AP2008 kP2008 AS2008 kS2008 w2008 hb B RP2008 QP2008 RS2008 QS2008=>?_;have DP_P2008:=fr QP2008 RP;have DS_P2008:=fr QP2008 RS;have DP2005_P2008:=fr QP2008 RP2005;have DS2005_P2008:=fr QP2008 RS2005;have DP_S2008:=fr QS2008 RP;have DS_S2008:=fr QS2008 RS;have DP2005_S2008:=fr QS2008 RP2005;have DS2005_S2008:=fr QS2008 RS2005;replace F3:=bn F3 hb;replace F4:=bn F4 hb;replace F5:=bn F5 hb;replace RP:=rn RP hb;replace RS:=rn RS hb;replace RP2005:=rn RP2005 hb;replace RS2005:=rn RS2005 hb;clear QP2008 QS2008;clear c3_0 c3_1 c3_2 c3_3 c3_4 c3_5;obtain ⟨c3_0,c3_1,c3_2,c3_3,c3_4,c3_5⟩:=cs6 F3;clear c4_0 c4_1 c4_2 c4_3 c4_4 c4_5;obtain ⟨c4_0,c4_1,c4_2,c4_3,c4_4,c4_5⟩:=cs6 F4;clear c5_0 c5_1 c5_2 c5_3 c5_4 c5_5;obtain ⟨c5_0,c5_1,c5_2,c5_3,c5_4,c5_5⟩:=cs6 F5;clear hb)
      | ((with_reducible refine gate_dst (N:=7) rfl ?_);refine bxq 7 #[.string (⟨#[]⟩ : ByteArray),.string (⟨#[]⟩ : ByteArray),.slice none 0 0,.slice none 0 0,.bool false,.string (⟨#[]⟩ : ByteArray)] 38 B fun g7 w2009 hb B F7 L7 E7=>?_;have N3_7:=ne1 E7 F3;have N4_7:=ne1 E7 F4;have N5_7:=ne1 E7 F5;replace F3:=bn F3 hb;replace F4:=bn F4 hb;replace F5:=bn F5 hb;replace RP:=rn RP hb;replace RS:=rn RS hb;replace RP2005:=rn RP2005 hb;replace RS2005:=rn RS2005 hb;replace RP2008:=rn RP2008 hb;replace RS2008:=rn RS2008 hb;clear c3_0 c3_1 c3_2 c3_3 c3_4 c3_5;obtain ⟨c3_0,c3_1,c3_2,c3_3,c3_4,c3_5⟩:=cs6 F3;clear c4_0 c4_1 c4_2 c4_3 c4_4 c4_5;obtain ⟨c4_0,c4_1,c4_2,c4_3,c4_4,c4_5⟩:=cs6 F4;clear c5_0 c5_1 c5_2 c5_3 c5_4 c5_5;obtain ⟨c5_0,c5_1,c5_2,c5_3,c5_4,c5_5⟩:=cs6 F5;obtain ⟨c7_0,c7_1,c7_2,c7_3,c7_4,c7_5⟩:=cs6 F7;clear hb E7)
      | ((with_reducible refine gate_store (t:=38) (p:=7) rfl ?_);obtain ⟨y0,y1,y2,y3,y4,y5,z0,z1,z2,z3,z4,z5⟩:=cz6 F7;refine sxq 38 38 7 0 [.string a,.string b,.slice AP2008 ps.length kP2008,.slice AS2008 ss.length kS2008,.bool false,.string c] [.string a,.string b,.slice AP2008 ps.length kP2008,.slice AS2008 ss.length kS2008,.bool false,.string c] B F7 L7 fun w2010 hk B G=>?_;replace F3:=bk F3 hk N3_7.out;replace F4:=bk F4 hk N4_7.out;replace F5:=bk F5 hk N5_7.out;replace RP:=rk RP F7 (by decide) hk;replace RS:=rk RS F7 (by decide) hk;replace RP2005:=rk RP2005 F7 (by decide) hk;replace RS2005:=rk RS2005 F7 (by decide) hk;replace RP2008:=rk RP2008 F7 (by decide) hk;replace RS2008:=rk RS2008 F7 (by decide) hk;replace F7:=G;clear c3_0 c3_1 c3_2 c3_3 c3_4 c3_5;obtain ⟨c3_0,c3_1,c3_2,c3_3,c3_4,c3_5⟩:=cs6 F3;clear c4_0 c4_1 c4_2 c4_3 c4_4 c4_5;obtain ⟨c4_0,c4_1,c4_2,c4_3,c4_4,c4_5⟩:=cs6 F4;clear c5_0 c5_1 c5_2 c5_3 c5_4 c5_5;obtain ⟨c5_0,c5_1,c5_2,c5_3,c5_4,c5_5⟩:=cs6 F5;clear c7_0 c7_1 c7_2 c7_3 c7_4 c7_5;obtain ⟨c7_0,c7_1,c7_2,c7_3,c7_4,c7_5⟩:=cs6 F7;clear hk y0 z0 y1 z1 y2 z2 y3 z3 y4 z4 y5 z5)
      | (go_at_call 17;with_reducible refine cl (laws_sameState.M a b _ _ _ _ ps _ _ _ _ ss false c w2010 (rc RP2005) (rc RP2008) (rc RS2005) (rc RS2008) (rl RP2005) (rl RP2008) (rl RS2005) (rl RS2008) (by assumption) (by assumption)) B fun w2011 hb B=>?_;replace F3:=bn F3 hb;replace F4:=bn F4 hb;replace F5:=bn F5 hb;replace RP:=rn RP hb;replace RS:=rn RS hb;replace RP2005:=rn RP2005 hb;replace RS2005:=rn RS2005 hb;clear c3_0 c3_1 c3_2 c3_3 c3_4 c3_5;obtain ⟨c3_0,c3_1,c3_2,c3_3,c3_4,c3_5⟩:=cs6 F3;clear c4_0 c4_1 c4_2 c4_3 c4_4 c4_5;obtain ⟨c4_0,c4_1,c4_2,c4_3,c4_4,c4_5⟩:=cs6 F4;clear c5_0 c5_1 c5_2 c5_3 c5_4 c5_5;obtain ⟨c5_0,c5_1,c5_2,c5_3,c5_4,c5_5⟩:=cs6 F5;clear hb)
      | (go_at_call 18;with_reducible refine cl (impl_StateValid.M a b _ _ ps _ _ ss false c w2011 (rc RP) (rc RS)) B fun w2012 hb B=>?_;replace F3:=bn F3 hb;replace F4:=bn F4 hb;replace F5:=bn F5 hb;replace RP:=rn RP hb;replace RS:=rn RS hb;replace RP2005:=rn RP2005 hb;replace RS2005:=rn RS2005 hb;clear c3_0 c3_1 c3_2 c3_3 c3_4 c3_5;obtain ⟨c3_0,c3_1,c3_2,c3_3,c3_4,c3_5⟩:=cs6 F3;clear c4_0 c4_1 c4_2 c4_3 c4_4 c4_5;obtain ⟨c4_0,c4_1,c4_2,c4_3,c4_4,c4_5⟩:=cs6 F4;clear c5_0 c5_1 c5_2 c5_3 c5_4 c5_5;obtain ⟨c5_0,c5_1,c5_2,c5_3,c5_4,c5_5⟩:=cs6 F5;clear hb)
      | (go_at_call 19;with_reducible refine cl (impl_EntryValid.M ci sq k x v o w2012) B fun w2013 hb B=>?_;replace F3:=bn F3 hb;replace F4:=bn F4 hb;replace F5:=bn F5 hb;replace RP:=rn RP hb;replace RS:=rn RS hb;replace RP2005:=rn RP2005 hb;replace RS2005:=rn RS2005 hb;clear c3_0 c3_1 c3_2 c3_3 c3_4 c3_5;obtain ⟨c3_0,c3_1,c3_2,c3_3,c3_4,c3_5⟩:=cs6 F3;clear c4_0 c4_1 c4_2 c4_3 c4_4 c4_5;obtain ⟨c4_0,c4_1,c4_2,c4_3,c4_4,c4_5⟩:=cs6 F4;clear c5_0 c5_1 c5_2 c5_3 c5_4 c5_5;obtain ⟨c5_0,c5_1,c5_2,c5_3,c5_4,c5_5⟩:=cs6 F5;clear hb)
      | (go_at_call 12;with_reducible refine c2r (impl_ApplyEntry.Mr a b _ _ ps _ _ ss false c ci sq k x v o a b ps ss false c nn HM.out w2013 (rc RP2005) (rc RS2005) (rl RP2005) (rl RS2005)) B fun AP2014 kP2014 AS2014 kS2014 w2014 hb B RP2014 QP2014 RS2014 QS2014=>?_;have DP_P2014:=fr QP2014 RP;have DS_P2014:=fr QP2014 RS;have DP2005_P2014:=fr QP2014 RP2005;have DS2005_P2014:=fr QP2014 RS2005;have DP_S2014:=fr QS2014 RP;have DS_S2014:=fr QS2014 RS;have DP2005_S2014:=fr QS2014 RP2005;have DS2005_S2014:=fr QS2014 RS2005;replace F3:=bn F3 hb;replace F5:=bn F5 hb;replace RP:=rn RP hb;replace RS:=rn RS hb;replace RP2005:=rn RP2005 hb;replace RS2005:=rn RS2005 hb;clear QP2014 QS2014;clear c3_0 c3_1 c3_2 c3_3 c3_4 c3_5;obtain ⟨c3_0,c3_1,c3_2,c3_3,c3_4,c3_5⟩:=cs6 F3;clear c5_0 c5_1 c5_2 c5_3 c5_4 c5_5;obtain ⟨c5_0,c5_1,c5_2,c5_3,c5_4,c5_5⟩:=cs6 F5;clear hb)
      | ((with_reducible refine gate_dst (N:=9) rfl ?_);refine bxq 9 #[.string (⟨#[]⟩ : ByteArray),.string (⟨#[]⟩ : ByteArray),.slice none 0 0,.slice none 0 0,.bool false,.string (⟨#[]⟩ : ByteArray)] 38 B fun g9 w2015 hb B F9 L9 E9=>?_;have N3_9:=ne1 E9 F3;have N5_9:=ne1 E9 F5;replace F3:=bn F3 hb;replace F5:=bn F5 hb;replace RP:=rn RP hb;replace RS:=rn RS hb;replace RP2005:=rn RP2005 hb;replace RS2005:=rn RS2005 hb;replace RP2014:=rn RP2014 hb;replace RS2014:=rn RS2014 hb;clear c3_0 c3_1 c3_2 c3_3 c3_4 c3_5;obtain ⟨c3_0,c3_1,c3_2,c3_3,c3_4,c3_5⟩:=cs6 F3;clear c5_0 c5_1 c5_2 c5_3 c5_4 c5_5;obtain ⟨c5_0,c5_1,c5_2,c5_3,c5_4,c5_5⟩:=cs6 F5;obtain ⟨c9_0,c9_1,c9_2,c9_3,c9_4,c9_5⟩:=cs6 F9;clear hb E9)
      | ((with_reducible refine gate_store (t:=38) (p:=9) rfl ?_);obtain ⟨y0,y1,y2,y3,y4,y5,z0,z1,z2,z3,z4,z5⟩:=cz6 F9;refine sxq 38 38 9 0 [.string a,.string b,.slice AP2014 ps.length kP2014,.slice AS2014 ss.length kS2014,.bool false,.string c] [.string a,.string b,.slice AP2014 ps.length kP2014,.slice AS2014 ss.length kS2014,.bool false,.string c] B F9 L9 fun w2016 hk B G=>?_;replace F3:=bk F3 hk N3_9.out;replace F5:=bk F5 hk N5_9.out;replace RP:=rk RP F9 (by decide) hk;replace RS:=rk RS F9 (by decide) hk;replace RP2005:=rk RP2005 F9 (by decide) hk;replace RS2005:=rk RS2005 F9 (by decide) hk;replace RP2014:=rk RP2014 F9 (by decide) hk;replace RS2014:=rk RS2014 F9 (by decide) hk;replace F9:=G;clear c3_0 c3_1 c3_2 c3_3 c3_4 c3_5;obtain ⟨c3_0,c3_1,c3_2,c3_3,c3_4,c3_5⟩:=cs6 F3;clear c5_0 c5_1 c5_2 c5_3 c5_4 c5_5;obtain ⟨c5_0,c5_1,c5_2,c5_3,c5_4,c5_5⟩:=cs6 F5;clear c9_0 c9_1 c9_2 c9_3 c9_4 c9_5;obtain ⟨c9_0,c9_1,c9_2,c9_3,c9_4,c9_5⟩:=cs6 F9;clear hk y0 z0 y1 z1 y2 z2 y3 z3 y4 z4 y5 z5)
      | (go_at_call 17;with_reducible refine cl (laws_sameState.M a b _ _ _ _ ps _ _ _ _ ss false c w2016 (rc RP2014) (rc RP2005) (rc RS2014) (rc RS2005) (rl RP2014) (rl RP2005) (rl RS2014) (rl RS2005) (by assumption) (by assumption)) B fun w2017 hb B=>?_;replace F3:=bn F3 hb;replace F5:=bn F5 hb;replace RP:=rn RP hb;replace RS:=rn RS hb;replace RP2005:=rn RP2005 hb;replace RS2005:=rn RS2005 hb;clear c3_0 c3_1 c3_2 c3_3 c3_4 c3_5;obtain ⟨c3_0,c3_1,c3_2,c3_3,c3_4,c3_5⟩:=cs6 F3;clear c5_0 c5_1 c5_2 c5_3 c5_4 c5_5;obtain ⟨c5_0,c5_1,c5_2,c5_3,c5_4,c5_5⟩:=cs6 F5;clear hb)
      | (go_at_call 18;with_reducible refine cl (impl_StateValid.M a b _ _ ps _ _ ss false c w2017 (rc RP2005) (rc RS2005)) B fun w2018 hb B=>?_;replace F3:=bn F3 hb;replace F5:=bn F5 hb;replace RP:=rn RP hb;replace RS:=rn RS hb;replace RP2005:=rn RP2005 hb;replace RS2005:=rn RS2005 hb;clear c3_0 c3_1 c3_2 c3_3 c3_4 c3_5;obtain ⟨c3_0,c3_1,c3_2,c3_3,c3_4,c3_5⟩:=cs6 F3;clear c5_0 c5_1 c5_2 c5_3 c5_4 c5_5;obtain ⟨c5_0,c5_1,c5_2,c5_3,c5_4,c5_5⟩:=cs6 F5;clear hb)
      | (go_at_call 17;with_reducible refine cl (laws_sameState.M a b _ _ _ _ ps _ _ _ _ ss false c w2018 (rc RP2005) (rc RP) (rc RS2005) (rc RS) (rl RP2005) (rl RP) (rl RS2005) (rl RS) (by assumption) (by assumption)) B fun w2019 hb B=>?_;clear hb)
      | (go_at_call 21;with_reducible refine cl (laws_alive.M _) B fun w2020 hb B=>?_;clear hb))
     all_goals go_ret
     all_goals exact ⟨by first | rfl | (simp;done) | (simp_all;done),B.out⟩
    | true =>
     go_wp2_with (first
      | ((with_reducible refine gate_dst (N:=3) rfl ?_);refine bxq 3 #[.string (⟨#[]⟩ : ByteArray),.string (⟨#[]⟩ : ByteArray),.slice none 0 0,.slice none 0 0,.bool false,.string (⟨#[]⟩ : ByteArray)] 38 B fun g3 w2501 hb B F3 L3 E3=>?_;replace RP:=rn RP hb;replace RS:=rn RS hb;obtain ⟨c3_0,c3_1,c3_2,c3_3,c3_4,c3_5⟩:=cs6 F3;clear hb E3)
      | ((with_reducible refine gate_dst (N:=4) rfl ?_);refine bxq 4 #[.int .i64 (0),.int .i64 (0),.int .i64 (0),.string (⟨#[]⟩ : ByteArray),.int .i64 (0),.int .i64 (0)] 44 B fun g4 w2502 hb B F4 L4 E4=>?_;have N3_4:=ne1 E4 F3;replace F3:=bn F3 hb;replace RP:=rn RP hb;replace RS:=rn RS hb;clear c3_0 c3_1 c3_2 c3_3 c3_4 c3_5;obtain ⟨c3_0,c3_1,c3_2,c3_3,c3_4,c3_5⟩:=cs6 F3;obtain ⟨c4_0,c4_1,c4_2,c4_3,c4_4,c4_5⟩:=cs6 F4;clear hb E4)
      | ((with_reducible refine gate_store (t:=38) (p:=3) rfl ?_);obtain ⟨y0,y1,y2,y3,y4,y5,z0,z1,z2,z3,z4,z5⟩:=cz6 F3;refine sxq 38 38 3 0 [.string a,.string b,.slice AP ps.length kP,.slice AS ss.length kS,.bool true,.string c] [.string a,.string b,.slice AP ps.length kP,.slice AS ss.length kS,.bool true,.string c] B F3 L3 fun w2503 hk B G=>?_;replace F4:=bk F4 hk N3_4.out.symm;replace RP:=rk RP F3 (by decide) hk;replace RS:=rk RS F3 (by decide) hk;replace F3:=G;clear c3_0 c3_1 c3_2 c3_3 c3_4 c3_5;obtain ⟨c3_0,c3_1,c3_2,c3_3,c3_4,c3_5⟩:=cs6 F3;clear c4_0 c4_1 c4_2 c4_3 c4_4 c4_5;obtain ⟨c4_0,c4_1,c4_2,c4_3,c4_4,c4_5⟩:=cs6 F4;clear hk y0 z0 y1 z1 y2 z2 y3 z3 y4 z4 y5 z5)
      | ((with_reducible refine gate_store (t:=44) (p:=4) rfl ?_);obtain ⟨y0,y1,y2,y3,y4,y5,z0,z1,z2,z3,z4,z5⟩:=cz6 F4;refine sxq 44 44 4 0 [.int .i64 (ci),.int .i64 (sq),.int .i64 (k),.string x,.int .i64 (v),.int .i64 (o)] [.int .i64 (ci),.int .i64 (sq),.int .i64 (k),.string x,.int .i64 (v),.int .i64 (o)] B F4 L4 fun w2504 hk B G=>?_;replace F3:=bk F3 hk N3_4.out;replace RP:=rk RP F4 (by decide) hk;replace RS:=rk RS F4 (by decide) hk;replace F4:=G;clear c3_0 c3_1 c3_2 c3_3 c3_4 c3_5;obtain ⟨c3_0,c3_1,c3_2,c3_3,c3_4,c3_5⟩:=cs6 F3;clear c4_0 c4_1 c4_2 c4_3 c4_4 c4_5;obtain ⟨c4_0,c4_1,c4_2,c4_3,c4_4,c4_5⟩:=cs6 F4;clear hk y0 z0 y1 z1 y2 z2 y3 z3 y4 z4 y5 z5)
      | (go_at_call 12;with_reducible refine c2r (impl_ApplyEntry.Mr a b _ _ ps _ _ ss true c ci sq k x v o a b ps ss true c nn HM.out w2504 (rc RP) (rc RS) (rl RP) (rl RS)) B fun AP2505 kP2505 AS2505 kS2505 w2505 hb B RP2505 QP2505 RS2505 QS2505=>?_;have DP_P2505:=fr QP2505 RP;have DS_P2505:=fr QP2505 RS;have DP_S2505:=fr QS2505 RP;have DS_S2505:=fr QS2505 RS;replace F3:=bn F3 hb;replace F4:=bn F4 hb;replace RP:=rn RP hb;replace RS:=rn RS hb;clear QP2505 QS2505;clear c3_0 c3_1 c3_2 c3_3 c3_4 c3_5;obtain ⟨c3_0,c3_1,c3_2,c3_3,c3_4,c3_5⟩:=cs6 F3;clear c4_0 c4_1 c4_2 c4_3 c4_4 c4_5;obtain ⟨c4_0,c4_1,c4_2,c4_3,c4_4,c4_5⟩:=cs6 F4;clear hb)
      | ((with_reducible refine gate_dst (N:=5) rfl ?_);refine bxq 5 #[.string (⟨#[]⟩ : ByteArray),.string (⟨#[]⟩ : ByteArray),.slice none 0 0,.slice none 0 0,.bool false,.string (⟨#[]⟩ : ByteArray)] 38 B fun g5 w2506 hb B F5 L5 E5=>?_;have N3_5:=ne1 E5 F3;have N4_5:=ne1 E5 F4;replace F3:=bn F3 hb;replace F4:=bn F4 hb;replace RP:=rn RP hb;replace RS:=rn RS hb;replace RP2505:=rn RP2505 hb;replace RS2505:=rn RS2505 hb;clear c3_0 c3_1 c3_2 c3_3 c3_4 c3_5;obtain ⟨c3_0,c3_1,c3_2,c3_3,c3_4,c3_5⟩:=cs6 F3;clear c4_0 c4_1 c4_2 c4_3 c4_4 c4_5;obtain ⟨c4_0,c4_1,c4_2,c4_3,c4_4,c4_5⟩:=cs6 F4;obtain ⟨c5_0,c5_1,c5_2,c5_3,c5_4,c5_5⟩:=cs6 F5;clear hb E5)
      | ((with_reducible refine gate_store (t:=38) (p:=5) rfl ?_);obtain ⟨y0,y1,y2,y3,y4,y5,z0,z1,z2,z3,z4,z5⟩:=cz6 F5;refine sxq 38 38 5 0 [.string a,.string b,.slice AP2505 ps.length kP2505,.slice AS2505 ss.length kS2505,.bool true,.string c] [.string a,.string b,.slice AP2505 ps.length kP2505,.slice AS2505 ss.length kS2505,.bool true,.string c] B F5 L5 fun w2507 hk B G=>?_;replace F3:=bk F3 hk N3_5.out;replace F4:=bk F4 hk N4_5.out;replace RP:=rk RP F5 (by decide) hk;replace RS:=rk RS F5 (by decide) hk;replace RP2505:=rk RP2505 F5 (by decide) hk;replace RS2505:=rk RS2505 F5 (by decide) hk;replace F5:=G;clear c3_0 c3_1 c3_2 c3_3 c3_4 c3_5;obtain ⟨c3_0,c3_1,c3_2,c3_3,c3_4,c3_5⟩:=cs6 F3;clear c4_0 c4_1 c4_2 c4_3 c4_4 c4_5;obtain ⟨c4_0,c4_1,c4_2,c4_3,c4_4,c4_5⟩:=cs6 F4;clear c5_0 c5_1 c5_2 c5_3 c5_4 c5_5;obtain ⟨c5_0,c5_1,c5_2,c5_3,c5_4,c5_5⟩:=cs6 F5;clear hk y0 z0 y1 z1 y2 z2 y3 z3 y4 z4 y5 z5)
      | (go_at_call 9;with_reducible refine c2r (spec_ApplyEntry.Mr a b _ _ ps _ _ ss true c ci sq k x v o a b ps ss true c nn HM.out w2507 (rc RP) (rc RS) (rl RP) (rl RS)) B fun AP2508 kP2508 AS2508 kS2508 w2508 hb B RP2508 QP2508 RS2508 QS2508=>?_;have DP_P2508:=fr QP2508 RP;have DS_P2508:=fr QP2508 RS;have DP2505_P2508:=fr QP2508 RP2505;have DS2505_P2508:=fr QP2508 RS2505;have DP_S2508:=fr QS2508 RP;have DS_S2508:=fr QS2508 RS;have DP2505_S2508:=fr QS2508 RP2505;have DS2505_S2508:=fr QS2508 RS2505;replace F3:=bn F3 hb;replace F4:=bn F4 hb;replace F5:=bn F5 hb;replace RP:=rn RP hb;replace RS:=rn RS hb;replace RP2505:=rn RP2505 hb;replace RS2505:=rn RS2505 hb;clear QP2508 QS2508;clear c3_0 c3_1 c3_2 c3_3 c3_4 c3_5;obtain ⟨c3_0,c3_1,c3_2,c3_3,c3_4,c3_5⟩:=cs6 F3;clear c4_0 c4_1 c4_2 c4_3 c4_4 c4_5;obtain ⟨c4_0,c4_1,c4_2,c4_3,c4_4,c4_5⟩:=cs6 F4;clear c5_0 c5_1 c5_2 c5_3 c5_4 c5_5;obtain ⟨c5_0,c5_1,c5_2,c5_3,c5_4,c5_5⟩:=cs6 F5;clear hb)
      | ((with_reducible refine gate_dst (N:=7) rfl ?_);refine bxq 7 #[.string (⟨#[]⟩ : ByteArray),.string (⟨#[]⟩ : ByteArray),.slice none 0 0,.slice none 0 0,.bool false,.string (⟨#[]⟩ : ByteArray)] 38 B fun g7 w2509 hb B F7 L7 E7=>?_;have N3_7:=ne1 E7 F3;have N4_7:=ne1 E7 F4;have N5_7:=ne1 E7 F5;replace F3:=bn F3 hb;replace F4:=bn F4 hb;replace F5:=bn F5 hb;replace RP:=rn RP hb;replace RS:=rn RS hb;replace RP2505:=rn RP2505 hb;replace RS2505:=rn RS2505 hb;replace RP2508:=rn RP2508 hb;replace RS2508:=rn RS2508 hb;clear c3_0 c3_1 c3_2 c3_3 c3_4 c3_5;obtain ⟨c3_0,c3_1,c3_2,c3_3,c3_4,c3_5⟩:=cs6 F3;clear c4_0 c4_1 c4_2 c4_3 c4_4 c4_5;obtain ⟨c4_0,c4_1,c4_2,c4_3,c4_4,c4_5⟩:=cs6 F4;clear c5_0 c5_1 c5_2 c5_3 c5_4 c5_5;obtain ⟨c5_0,c5_1,c5_2,c5_3,c5_4,c5_5⟩:=cs6 F5;obtain ⟨c7_0,c7_1,c7_2,c7_3,c7_4,c7_5⟩:=cs6 F7;clear hb E7)
      | ((with_reducible refine gate_store (t:=38) (p:=7) rfl ?_);obtain ⟨y0,y1,y2,y3,y4,y5,z0,z1,z2,z3,z4,z5⟩:=cz6 F7;refine sxq 38 38 7 0 [.string a,.string b,.slice AP2508 ps.length kP2508,.slice AS2508 ss.length kS2508,.bool true,.string c] [.string a,.string b,.slice AP2508 ps.length kP2508,.slice AS2508 ss.length kS2508,.bool true,.string c] B F7 L7 fun w2510 hk B G=>?_;replace F3:=bk F3 hk N3_7.out;replace F4:=bk F4 hk N4_7.out;replace F5:=bk F5 hk N5_7.out;replace RP:=rk RP F7 (by decide) hk;replace RS:=rk RS F7 (by decide) hk;replace RP2505:=rk RP2505 F7 (by decide) hk;replace RS2505:=rk RS2505 F7 (by decide) hk;replace RP2508:=rk RP2508 F7 (by decide) hk;replace RS2508:=rk RS2508 F7 (by decide) hk;replace F7:=G;clear c3_0 c3_1 c3_2 c3_3 c3_4 c3_5;obtain ⟨c3_0,c3_1,c3_2,c3_3,c3_4,c3_5⟩:=cs6 F3;clear c4_0 c4_1 c4_2 c4_3 c4_4 c4_5;obtain ⟨c4_0,c4_1,c4_2,c4_3,c4_4,c4_5⟩:=cs6 F4;clear c5_0 c5_1 c5_2 c5_3 c5_4 c5_5;obtain ⟨c5_0,c5_1,c5_2,c5_3,c5_4,c5_5⟩:=cs6 F5;clear c7_0 c7_1 c7_2 c7_3 c7_4 c7_5;obtain ⟨c7_0,c7_1,c7_2,c7_3,c7_4,c7_5⟩:=cs6 F7;clear hk y0 z0 y1 z1 y2 z2 y3 z3 y4 z4 y5 z5)
      | (go_at_call 17;with_reducible refine cl (laws_sameState.M a b _ _ _ _ ps _ _ _ _ ss true c w2510 (rc RP2505) (rc RP2508) (rc RS2505) (rc RS2508) (rl RP2505) (rl RP2508) (rl RS2505) (rl RS2508) (by assumption) (by assumption)) B fun w2511 hb B=>?_;replace F3:=bn F3 hb;replace F4:=bn F4 hb;replace F5:=bn F5 hb;replace RP:=rn RP hb;replace RS:=rn RS hb;replace RP2505:=rn RP2505 hb;replace RS2505:=rn RS2505 hb;clear c3_0 c3_1 c3_2 c3_3 c3_4 c3_5;obtain ⟨c3_0,c3_1,c3_2,c3_3,c3_4,c3_5⟩:=cs6 F3;clear c4_0 c4_1 c4_2 c4_3 c4_4 c4_5;obtain ⟨c4_0,c4_1,c4_2,c4_3,c4_4,c4_5⟩:=cs6 F4;clear c5_0 c5_1 c5_2 c5_3 c5_4 c5_5;obtain ⟨c5_0,c5_1,c5_2,c5_3,c5_4,c5_5⟩:=cs6 F5;clear hb)
      | (go_at_call 18;with_reducible refine cl (impl_StateValid.M a b _ _ ps _ _ ss true c w2511 (rc RP) (rc RS)) B fun w2512 hb B=>?_;replace F3:=bn F3 hb;replace F4:=bn F4 hb;replace F5:=bn F5 hb;replace RP:=rn RP hb;replace RS:=rn RS hb;replace RP2505:=rn RP2505 hb;replace RS2505:=rn RS2505 hb;clear c3_0 c3_1 c3_2 c3_3 c3_4 c3_5;obtain ⟨c3_0,c3_1,c3_2,c3_3,c3_4,c3_5⟩:=cs6 F3;clear c4_0 c4_1 c4_2 c4_3 c4_4 c4_5;obtain ⟨c4_0,c4_1,c4_2,c4_3,c4_4,c4_5⟩:=cs6 F4;clear c5_0 c5_1 c5_2 c5_3 c5_4 c5_5;obtain ⟨c5_0,c5_1,c5_2,c5_3,c5_4,c5_5⟩:=cs6 F5;clear hb)
      | (go_at_call 19;with_reducible refine cl (impl_EntryValid.M ci sq k x v o w2512) B fun w2513 hb B=>?_;replace F3:=bn F3 hb;replace F4:=bn F4 hb;replace F5:=bn F5 hb;replace RP:=rn RP hb;replace RS:=rn RS hb;replace RP2505:=rn RP2505 hb;replace RS2505:=rn RS2505 hb;clear c3_0 c3_1 c3_2 c3_3 c3_4 c3_5;obtain ⟨c3_0,c3_1,c3_2,c3_3,c3_4,c3_5⟩:=cs6 F3;clear c4_0 c4_1 c4_2 c4_3 c4_4 c4_5;obtain ⟨c4_0,c4_1,c4_2,c4_3,c4_4,c4_5⟩:=cs6 F4;clear c5_0 c5_1 c5_2 c5_3 c5_4 c5_5;obtain ⟨c5_0,c5_1,c5_2,c5_3,c5_4,c5_5⟩:=cs6 F5;clear hb)
      | (go_at_call 12;with_reducible refine c2r (impl_ApplyEntry.Mr a b _ _ ps _ _ ss true c ci sq k x v o a b ps ss true c nn HM.out w2513 (rc RP2505) (rc RS2505) (rl RP2505) (rl RS2505)) B fun AP2514 kP2514 AS2514 kS2514 w2514 hb B RP2514 QP2514 RS2514 QS2514=>?_;have DP_P2514:=fr QP2514 RP;have DS_P2514:=fr QP2514 RS;have DP2505_P2514:=fr QP2514 RP2505;have DS2505_P2514:=fr QP2514 RS2505;have DP_S2514:=fr QS2514 RP;have DS_S2514:=fr QS2514 RS;have DP2505_S2514:=fr QS2514 RP2505;have DS2505_S2514:=fr QS2514 RS2505;replace F3:=bn F3 hb;replace F5:=bn F5 hb;replace RP:=rn RP hb;replace RS:=rn RS hb;replace RP2505:=rn RP2505 hb;replace RS2505:=rn RS2505 hb;clear QP2514 QS2514;clear c3_0 c3_1 c3_2 c3_3 c3_4 c3_5;obtain ⟨c3_0,c3_1,c3_2,c3_3,c3_4,c3_5⟩:=cs6 F3;clear c5_0 c5_1 c5_2 c5_3 c5_4 c5_5;obtain ⟨c5_0,c5_1,c5_2,c5_3,c5_4,c5_5⟩:=cs6 F5;clear hb)
      | ((with_reducible refine gate_dst (N:=9) rfl ?_);refine bxq 9 #[.string (⟨#[]⟩ : ByteArray),.string (⟨#[]⟩ : ByteArray),.slice none 0 0,.slice none 0 0,.bool false,.string (⟨#[]⟩ : ByteArray)] 38 B fun g9 w2515 hb B F9 L9 E9=>?_;have N3_9:=ne1 E9 F3;have N5_9:=ne1 E9 F5;replace F3:=bn F3 hb;replace F5:=bn F5 hb;replace RP:=rn RP hb;replace RS:=rn RS hb;replace RP2505:=rn RP2505 hb;replace RS2505:=rn RS2505 hb;replace RP2514:=rn RP2514 hb;replace RS2514:=rn RS2514 hb;clear c3_0 c3_1 c3_2 c3_3 c3_4 c3_5;obtain ⟨c3_0,c3_1,c3_2,c3_3,c3_4,c3_5⟩:=cs6 F3;clear c5_0 c5_1 c5_2 c5_3 c5_4 c5_5;obtain ⟨c5_0,c5_1,c5_2,c5_3,c5_4,c5_5⟩:=cs6 F5;obtain ⟨c9_0,c9_1,c9_2,c9_3,c9_4,c9_5⟩:=cs6 F9;clear hb E9)
      | ((with_reducible refine gate_store (t:=38) (p:=9) rfl ?_);obtain ⟨y0,y1,y2,y3,y4,y5,z0,z1,z2,z3,z4,z5⟩:=cz6 F9;refine sxq 38 38 9 0 [.string a,.string b,.slice AP2514 ps.length kP2514,.slice AS2514 ss.length kS2514,.bool true,.string c] [.string a,.string b,.slice AP2514 ps.length kP2514,.slice AS2514 ss.length kS2514,.bool true,.string c] B F9 L9 fun w2516 hk B G=>?_;replace F3:=bk F3 hk N3_9.out;replace F5:=bk F5 hk N5_9.out;replace RP:=rk RP F9 (by decide) hk;replace RS:=rk RS F9 (by decide) hk;replace RP2505:=rk RP2505 F9 (by decide) hk;replace RS2505:=rk RS2505 F9 (by decide) hk;replace RP2514:=rk RP2514 F9 (by decide) hk;replace RS2514:=rk RS2514 F9 (by decide) hk;replace F9:=G;clear c3_0 c3_1 c3_2 c3_3 c3_4 c3_5;obtain ⟨c3_0,c3_1,c3_2,c3_3,c3_4,c3_5⟩:=cs6 F3;clear c5_0 c5_1 c5_2 c5_3 c5_4 c5_5;obtain ⟨c5_0,c5_1,c5_2,c5_3,c5_4,c5_5⟩:=cs6 F5;clear c9_0 c9_1 c9_2 c9_3 c9_4 c9_5;obtain ⟨c9_0,c9_1,c9_2,c9_3,c9_4,c9_5⟩:=cs6 F9;clear hk y0 z0 y1 z1 y2 z2 y3 z3 y4 z4 y5 z5)
      | (go_at_call 17;with_reducible refine cl (laws_sameState.M a b _ _ _ _ ps _ _ _ _ ss true c w2516 (rc RP2514) (rc RP2505) (rc RS2514) (rc RS2505) (rl RP2514) (rl RP2505) (rl RS2514) (rl RS2505) (by assumption) (by assumption)) B fun w2517 hb B=>?_;replace F3:=bn F3 hb;replace F5:=bn F5 hb;replace RP:=rn RP hb;replace RS:=rn RS hb;replace RP2505:=rn RP2505 hb;replace RS2505:=rn RS2505 hb;clear c3_0 c3_1 c3_2 c3_3 c3_4 c3_5;obtain ⟨c3_0,c3_1,c3_2,c3_3,c3_4,c3_5⟩:=cs6 F3;clear c5_0 c5_1 c5_2 c5_3 c5_4 c5_5;obtain ⟨c5_0,c5_1,c5_2,c5_3,c5_4,c5_5⟩:=cs6 F5;clear hb)
      | (go_at_call 18;with_reducible refine cl (impl_StateValid.M a b _ _ ps _ _ ss true c w2517 (rc RP2505) (rc RS2505)) B fun w2518 hb B=>?_;replace F3:=bn F3 hb;replace F5:=bn F5 hb;replace RP:=rn RP hb;replace RS:=rn RS hb;replace RP2505:=rn RP2505 hb;replace RS2505:=rn RS2505 hb;clear c3_0 c3_1 c3_2 c3_3 c3_4 c3_5;obtain ⟨c3_0,c3_1,c3_2,c3_3,c3_4,c3_5⟩:=cs6 F3;clear c5_0 c5_1 c5_2 c5_3 c5_4 c5_5;obtain ⟨c5_0,c5_1,c5_2,c5_3,c5_4,c5_5⟩:=cs6 F5;clear hb)
      | (go_at_call 17;with_reducible refine cl (laws_sameState.M a b _ _ _ _ ps _ _ _ _ ss true c w2518 (rc RP2505) (rc RP) (rc RS2505) (rc RS) (rl RP2505) (rl RP) (rl RS2505) (rl RS) (by assumption) (by assumption)) B fun w2519 hb B=>?_;clear hb)
      | (go_at_call 21;with_reducible refine cl (laws_alive.M _) B fun w2520 hb B=>?_;clear hb))
     all_goals go_ret
     all_goals exact ⟨by first | rfl | (simp;done) | (simp_all;done),B.out⟩
   ·have d1 : (nn != -3)=true:=bne_iff_ne.mpr (fun h=>hd (.inl h))
    have d2 : (nn != -4)=true:=bne_iff_ne.mpr (fun h=>hd (.inr (.inl h)))
    obtain rfl : t=false:=by cases t;rfl;exact absurd (.inr (.inr rfl)) hd
    replace hv : stB xa xb xp xs xt xc=true:=hv
    obtain ⟨-,hp9,hs9,-,-⟩:=stB_parts.mp hv
    have hb7 : xp.length≤2097152:=by have:=prB_len hp9;omega
    have hb8 : xs.length≤2097152:=by have:=sesB_len hs9;omega
    clear hp9 hs9
    have hv2 : stB xa xb xp xs xt xc=true:=hv
    clear ha hv hs hm hd hok
    go_wp2_with (first
     | ((with_reducible refine gate_dst (N:=3) rfl ?_);refine bxq 3 #[.string (⟨#[]⟩ : ByteArray),.string (⟨#[]⟩ : ByteArray),.slice none 0 0,.slice none 0 0,.bool false,.string (⟨#[]⟩ : ByteArray)] 38 B fun g3 w3001 hb B F3 L3 E3=>?_;replace RP:=rn RP hb;replace RS:=rn RS hb;obtain ⟨c3_0,c3_1,c3_2,c3_3,c3_4,c3_5⟩:=cs6 F3;clear hb E3)
     | ((with_reducible refine gate_dst (N:=4) rfl ?_);refine bxq 4 #[.int .i64 (0),.int .i64 (0),.int .i64 (0),.string (⟨#[]⟩ : ByteArray),.int .i64 (0),.int .i64 (0)] 44 B fun g4 w3002 hb B F4 L4 E4=>?_;have N3_4:=ne1 E4 F3;replace F3:=bn F3 hb;replace RP:=rn RP hb;replace RS:=rn RS hb;clear c3_0 c3_1 c3_2 c3_3 c3_4 c3_5;obtain ⟨c3_0,c3_1,c3_2,c3_3,c3_4,c3_5⟩:=cs6 F3;obtain ⟨c4_0,c4_1,c4_2,c4_3,c4_4,c4_5⟩:=cs6 F4;clear hb E4)
     | ((with_reducible refine gate_store (t:=38) (p:=3) rfl ?_);obtain ⟨y0,y1,y2,y3,y4,y5,z0,z1,z2,z3,z4,z5⟩:=cz6 F3;refine sxq 38 38 3 0 [.string a,.string b,.slice AP ps.length kP,.slice AS ss.length kS,.bool false,.string c] [.string a,.string b,.slice AP ps.length kP,.slice AS ss.length kS,.bool false,.string c] B F3 L3 fun w3003 hk B G=>?_;replace F4:=bk F4 hk N3_4.out.symm;replace RP:=rk RP F3 (by decide) hk;replace RS:=rk RS F3 (by decide) hk;replace F3:=G;clear c3_0 c3_1 c3_2 c3_3 c3_4 c3_5;obtain ⟨c3_0,c3_1,c3_2,c3_3,c3_4,c3_5⟩:=cs6 F3;clear c4_0 c4_1 c4_2 c4_3 c4_4 c4_5;obtain ⟨c4_0,c4_1,c4_2,c4_3,c4_4,c4_5⟩:=cs6 F4;clear hk y0 z0 y1 z1 y2 z2 y3 z3 y4 z4 y5 z5)
     | ((with_reducible refine gate_store (t:=44) (p:=4) rfl ?_);obtain ⟨y0,y1,y2,y3,y4,y5,z0,z1,z2,z3,z4,z5⟩:=cz6 F4;refine sxq 44 44 4 0 [.int .i64 (ci),.int .i64 (sq),.int .i64 (k),.string x,.int .i64 (v),.int .i64 (o)] [.int .i64 (ci),.int .i64 (sq),.int .i64 (k),.string x,.int .i64 (v),.int .i64 (o)] B F4 L4 fun w3004 hk B G=>?_;replace F3:=bk F3 hk N3_4.out;replace RP:=rk RP F4 (by decide) hk;replace RS:=rk RS F4 (by decide) hk;replace F4:=G;clear c3_0 c3_1 c3_2 c3_3 c3_4 c3_5;obtain ⟨c3_0,c3_1,c3_2,c3_3,c3_4,c3_5⟩:=cs6 F3;clear c4_0 c4_1 c4_2 c4_3 c4_4 c4_5;obtain ⟨c4_0,c4_1,c4_2,c4_3,c4_4,c4_5⟩:=cs6 F4;clear hk y0 z0 y1 z1 y2 z2 y3 z3 y4 z4 y5 z5)
     | (go_at_call 12;with_reducible refine c2r (impl_ApplyEntry.Mr a b _ _ ps _ _ ss false c ci sq k x v o xa xb xp xs xt xc nn HM.out w3004 (rc RP) (rc RS) (rl RP) (rl RS)) B fun AP3005 kP3005 AS3005 kS3005 w3005 hb B RP3005 QP3005 RS3005 QS3005=>?_;have DP_P3005:=fr QP3005 RP;have DS_P3005:=fr QP3005 RS;have DP_S3005:=fr QS3005 RP;have DS_S3005:=fr QS3005 RS;replace F3:=bn F3 hb;replace F4:=bn F4 hb;replace RP:=rn RP hb;replace RS:=rn RS hb;clear QP3005 QS3005;clear c3_0 c3_1 c3_2 c3_3 c3_4 c3_5;obtain ⟨c3_0,c3_1,c3_2,c3_3,c3_4,c3_5⟩:=cs6 F3;clear c4_0 c4_1 c4_2 c4_3 c4_4 c4_5;obtain ⟨c4_0,c4_1,c4_2,c4_3,c4_4,c4_5⟩:=cs6 F4;clear hb)
     | ((with_reducible refine gate_dst (N:=5) rfl ?_);refine bxq 5 #[.string (⟨#[]⟩ : ByteArray),.string (⟨#[]⟩ : ByteArray),.slice none 0 0,.slice none 0 0,.bool false,.string (⟨#[]⟩ : ByteArray)] 38 B fun g5 w3006 hb B F5 L5 E5=>?_;have N3_5:=ne1 E5 F3;have N4_5:=ne1 E5 F4;replace F3:=bn F3 hb;replace F4:=bn F4 hb;replace RP:=rn RP hb;replace RS:=rn RS hb;replace RP3005:=rn RP3005 hb;replace RS3005:=rn RS3005 hb;clear c3_0 c3_1 c3_2 c3_3 c3_4 c3_5;obtain ⟨c3_0,c3_1,c3_2,c3_3,c3_4,c3_5⟩:=cs6 F3;clear c4_0 c4_1 c4_2 c4_3 c4_4 c4_5;obtain ⟨c4_0,c4_1,c4_2,c4_3,c4_4,c4_5⟩:=cs6 F4;obtain ⟨c5_0,c5_1,c5_2,c5_3,c5_4,c5_5⟩:=cs6 F5;clear hb E5)
     | ((with_reducible refine gate_store (t:=38) (p:=5) rfl ?_);obtain ⟨y0,y1,y2,y3,y4,y5,z0,z1,z2,z3,z4,z5⟩:=cz6 F5;refine sxq 38 38 5 0 [.string xa,.string xb,.slice AP3005 xp.length kP3005,.slice AS3005 xs.length kS3005,.bool xt,.string xc] [.string xa,.string xb,.slice AP3005 xp.length kP3005,.slice AS3005 xs.length kS3005,.bool xt,.string xc] B F5 L5 fun w3007 hk B G=>?_;replace F3:=bk F3 hk N3_5.out;replace F4:=bk F4 hk N4_5.out;replace RP:=rk RP F5 (by decide) hk;replace RS:=rk RS F5 (by decide) hk;replace RP3005:=rk RP3005 F5 (by decide) hk;replace RS3005:=rk RS3005 F5 (by decide) hk;replace F5:=G;clear c3_0 c3_1 c3_2 c3_3 c3_4 c3_5;obtain ⟨c3_0,c3_1,c3_2,c3_3,c3_4,c3_5⟩:=cs6 F3;clear c4_0 c4_1 c4_2 c4_3 c4_4 c4_5;obtain ⟨c4_0,c4_1,c4_2,c4_3,c4_4,c4_5⟩:=cs6 F4;clear c5_0 c5_1 c5_2 c5_3 c5_4 c5_5;obtain ⟨c5_0,c5_1,c5_2,c5_3,c5_4,c5_5⟩:=cs6 F5;clear hk y0 z0 y1 z1 y2 z2 y3 z3 y4 z4 y5 z5)
     | (go_at_call 9;with_reducible refine c2r (spec_ApplyEntry.Mr a b _ _ ps _ _ ss false c ci sq k x v o xa xb xp xs xt xc nn HM.out w3007 (rc RP) (rc RS) (rl RP) (rl RS)) B fun AP3008 kP3008 AS3008 kS3008 w3008 hb B RP3008 QP3008 RS3008 QS3008=>?_;have DP_P3008:=fr QP3008 RP;have DS_P3008:=fr QP3008 RS;have DP3005_P3008:=fr QP3008 RP3005;have DS3005_P3008:=fr QP3008 RS3005;have DP_S3008:=fr QS3008 RP;have DS_S3008:=fr QS3008 RS;have DP3005_S3008:=fr QS3008 RP3005;have DS3005_S3008:=fr QS3008 RS3005;replace F3:=bn F3 hb;replace F4:=bn F4 hb;replace F5:=bn F5 hb;replace RP:=rn RP hb;replace RS:=rn RS hb;replace RP3005:=rn RP3005 hb;replace RS3005:=rn RS3005 hb;clear QP3008 QS3008;clear c3_0 c3_1 c3_2 c3_3 c3_4 c3_5;obtain ⟨c3_0,c3_1,c3_2,c3_3,c3_4,c3_5⟩:=cs6 F3;clear c4_0 c4_1 c4_2 c4_3 c4_4 c4_5;obtain ⟨c4_0,c4_1,c4_2,c4_3,c4_4,c4_5⟩:=cs6 F4;clear c5_0 c5_1 c5_2 c5_3 c5_4 c5_5;obtain ⟨c5_0,c5_1,c5_2,c5_3,c5_4,c5_5⟩:=cs6 F5;clear hb)
     | ((with_reducible refine gate_dst (N:=7) rfl ?_);refine bxq 7 #[.string (⟨#[]⟩ : ByteArray),.string (⟨#[]⟩ : ByteArray),.slice none 0 0,.slice none 0 0,.bool false,.string (⟨#[]⟩ : ByteArray)] 38 B fun g7 w3009 hb B F7 L7 E7=>?_;have N3_7:=ne1 E7 F3;have N4_7:=ne1 E7 F4;have N5_7:=ne1 E7 F5;replace F3:=bn F3 hb;replace F4:=bn F4 hb;replace F5:=bn F5 hb;replace RP:=rn RP hb;replace RS:=rn RS hb;replace RP3005:=rn RP3005 hb;replace RS3005:=rn RS3005 hb;replace RP3008:=rn RP3008 hb;replace RS3008:=rn RS3008 hb;clear c3_0 c3_1 c3_2 c3_3 c3_4 c3_5;obtain ⟨c3_0,c3_1,c3_2,c3_3,c3_4,c3_5⟩:=cs6 F3;clear c4_0 c4_1 c4_2 c4_3 c4_4 c4_5;obtain ⟨c4_0,c4_1,c4_2,c4_3,c4_4,c4_5⟩:=cs6 F4;clear c5_0 c5_1 c5_2 c5_3 c5_4 c5_5;obtain ⟨c5_0,c5_1,c5_2,c5_3,c5_4,c5_5⟩:=cs6 F5;obtain ⟨c7_0,c7_1,c7_2,c7_3,c7_4,c7_5⟩:=cs6 F7;clear hb E7)
     | ((with_reducible refine gate_store (t:=38) (p:=7) rfl ?_);obtain ⟨y0,y1,y2,y3,y4,y5,z0,z1,z2,z3,z4,z5⟩:=cz6 F7;refine sxq 38 38 7 0 [.string xa,.string xb,.slice AP3008 xp.length kP3008,.slice AS3008 xs.length kS3008,.bool xt,.string xc] [.string xa,.string xb,.slice AP3008 xp.length kP3008,.slice AS3008 xs.length kS3008,.bool xt,.string xc] B F7 L7 fun w3010 hk B G=>?_;replace F3:=bk F3 hk N3_7.out;replace F4:=bk F4 hk N4_7.out;replace F5:=bk F5 hk N5_7.out;replace RP:=rk RP F7 (by decide) hk;replace RS:=rk RS F7 (by decide) hk;replace RP3005:=rk RP3005 F7 (by decide) hk;replace RS3005:=rk RS3005 F7 (by decide) hk;replace RP3008:=rk RP3008 F7 (by decide) hk;replace RS3008:=rk RS3008 F7 (by decide) hk;replace F7:=G;clear c3_0 c3_1 c3_2 c3_3 c3_4 c3_5;obtain ⟨c3_0,c3_1,c3_2,c3_3,c3_4,c3_5⟩:=cs6 F3;clear c4_0 c4_1 c4_2 c4_3 c4_4 c4_5;obtain ⟨c4_0,c4_1,c4_2,c4_3,c4_4,c4_5⟩:=cs6 F4;clear c5_0 c5_1 c5_2 c5_3 c5_4 c5_5;obtain ⟨c5_0,c5_1,c5_2,c5_3,c5_4,c5_5⟩:=cs6 F5;clear c7_0 c7_1 c7_2 c7_3 c7_4 c7_5;obtain ⟨c7_0,c7_1,c7_2,c7_3,c7_4,c7_5⟩:=cs6 F7;clear hk y0 z0 y1 z1 y2 z2 y3 z3 y4 z4 y5 z5)
     | (go_at_call 17;with_reducible refine cl (laws_sameState.M xa xb _ _ _ _ xp _ _ _ _ xs xt xc w3010 (rc RP3005) (rc RP3008) (rc RS3005) (rc RS3008) (rl RP3005) (rl RP3008) (rl RS3005) (rl RS3008) (by assumption) (by assumption)) B fun w3011 hb B=>?_;replace F3:=bn F3 hb;replace F4:=bn F4 hb;replace F5:=bn F5 hb;replace RP:=rn RP hb;replace RS:=rn RS hb;replace RP3005:=rn RP3005 hb;replace RS3005:=rn RS3005 hb;clear c3_0 c3_1 c3_2 c3_3 c3_4 c3_5;obtain ⟨c3_0,c3_1,c3_2,c3_3,c3_4,c3_5⟩:=cs6 F3;clear c4_0 c4_1 c4_2 c4_3 c4_4 c4_5;obtain ⟨c4_0,c4_1,c4_2,c4_3,c4_4,c4_5⟩:=cs6 F4;clear c5_0 c5_1 c5_2 c5_3 c5_4 c5_5;obtain ⟨c5_0,c5_1,c5_2,c5_3,c5_4,c5_5⟩:=cs6 F5;clear hb)
     | (go_at_call 18;with_reducible refine cl (impl_StateValid.M a b _ _ ps _ _ ss false c w3011 (rc RP) (rc RS)) B fun w3012 hb B=>?_;replace F3:=bn F3 hb;replace F4:=bn F4 hb;replace F5:=bn F5 hb;replace RP:=rn RP hb;replace RS:=rn RS hb;replace RP3005:=rn RP3005 hb;replace RS3005:=rn RS3005 hb;clear c3_0 c3_1 c3_2 c3_3 c3_4 c3_5;obtain ⟨c3_0,c3_1,c3_2,c3_3,c3_4,c3_5⟩:=cs6 F3;clear c4_0 c4_1 c4_2 c4_3 c4_4 c4_5;obtain ⟨c4_0,c4_1,c4_2,c4_3,c4_4,c4_5⟩:=cs6 F4;clear c5_0 c5_1 c5_2 c5_3 c5_4 c5_5;obtain ⟨c5_0,c5_1,c5_2,c5_3,c5_4,c5_5⟩:=cs6 F5;clear hb)
     | (go_at_call 19;with_reducible refine cl (impl_EntryValid.M ci sq k x v o w3012) B fun w3013 hb B=>?_;replace F3:=bn F3 hb;replace F4:=bn F4 hb;replace F5:=bn F5 hb;replace RP:=rn RP hb;replace RS:=rn RS hb;replace RP3005:=rn RP3005 hb;replace RS3005:=rn RS3005 hb;clear c3_0 c3_1 c3_2 c3_3 c3_4 c3_5;obtain ⟨c3_0,c3_1,c3_2,c3_3,c3_4,c3_5⟩:=cs6 F3;clear c4_0 c4_1 c4_2 c4_3 c4_4 c4_5;obtain ⟨c4_0,c4_1,c4_2,c4_3,c4_4,c4_5⟩:=cs6 F4;clear c5_0 c5_1 c5_2 c5_3 c5_4 c5_5;obtain ⟨c5_0,c5_1,c5_2,c5_3,c5_4,c5_5⟩:=cs6 F5;clear hb)
     | (go_at_call 12;with_reducible refine c2r (impl_ApplyEntry.Mr xa xb _ _ xp _ _ xs xt xc ci sq k x v o xa xb xp xs xt xc nn HA.out w3013 (rc RP3005) (rc RS3005) (rl RP3005) (rl RS3005)) B fun AP3014 kP3014 AS3014 kS3014 w3014 hb B RP3014 QP3014 RS3014 QS3014=>?_;have DP_P3014:=fr QP3014 RP;have DS_P3014:=fr QP3014 RS;have DP3005_P3014:=fr QP3014 RP3005;have DS3005_P3014:=fr QP3014 RS3005;have DP_S3014:=fr QS3014 RP;have DS_S3014:=fr QS3014 RS;have DP3005_S3014:=fr QS3014 RP3005;have DS3005_S3014:=fr QS3014 RS3005;replace F3:=bn F3 hb;replace F5:=bn F5 hb;replace RP:=rn RP hb;replace RS:=rn RS hb;replace RP3005:=rn RP3005 hb;replace RS3005:=rn RS3005 hb;clear QP3014 QS3014;clear c3_0 c3_1 c3_2 c3_3 c3_4 c3_5;obtain ⟨c3_0,c3_1,c3_2,c3_3,c3_4,c3_5⟩:=cs6 F3;clear c5_0 c5_1 c5_2 c5_3 c5_4 c5_5;obtain ⟨c5_0,c5_1,c5_2,c5_3,c5_4,c5_5⟩:=cs6 F5;clear hb)
     | ((with_reducible refine gate_dst (N:=9) rfl ?_);refine bxq 9 #[.string (⟨#[]⟩ : ByteArray),.string (⟨#[]⟩ : ByteArray),.slice none 0 0,.slice none 0 0,.bool false,.string (⟨#[]⟩ : ByteArray)] 38 B fun g9 w3015 hb B F9 L9 E9=>?_;have N3_9:=ne1 E9 F3;have N5_9:=ne1 E9 F5;replace F3:=bn F3 hb;replace F5:=bn F5 hb;replace RP:=rn RP hb;replace RS:=rn RS hb;replace RP3005:=rn RP3005 hb;replace RS3005:=rn RS3005 hb;replace RP3014:=rn RP3014 hb;replace RS3014:=rn RS3014 hb;clear c3_0 c3_1 c3_2 c3_3 c3_4 c3_5;obtain ⟨c3_0,c3_1,c3_2,c3_3,c3_4,c3_5⟩:=cs6 F3;clear c5_0 c5_1 c5_2 c5_3 c5_4 c5_5;obtain ⟨c5_0,c5_1,c5_2,c5_3,c5_4,c5_5⟩:=cs6 F5;obtain ⟨c9_0,c9_1,c9_2,c9_3,c9_4,c9_5⟩:=cs6 F9;clear hb E9)
     | ((with_reducible refine gate_store (t:=38) (p:=9) rfl ?_);obtain ⟨y0,y1,y2,y3,y4,y5,z0,z1,z2,z3,z4,z5⟩:=cz6 F9;refine sxq 38 38 9 0 [.string xa,.string xb,.slice AP3014 xp.length kP3014,.slice AS3014 xs.length kS3014,.bool xt,.string xc] [.string xa,.string xb,.slice AP3014 xp.length kP3014,.slice AS3014 xs.length kS3014,.bool xt,.string xc] B F9 L9 fun w3016 hk B G=>?_;replace F3:=bk F3 hk N3_9.out;replace F5:=bk F5 hk N5_9.out;replace RP:=rk RP F9 (by decide) hk;replace RS:=rk RS F9 (by decide) hk;replace RP3005:=rk RP3005 F9 (by decide) hk;replace RS3005:=rk RS3005 F9 (by decide) hk;replace RP3014:=rk RP3014 F9 (by decide) hk;replace RS3014:=rk RS3014 F9 (by decide) hk;replace F9:=G;clear c3_0 c3_1 c3_2 c3_3 c3_4 c3_5;obtain ⟨c3_0,c3_1,c3_2,c3_3,c3_4,c3_5⟩:=cs6 F3;clear c5_0 c5_1 c5_2 c5_3 c5_4 c5_5;obtain ⟨c5_0,c5_1,c5_2,c5_3,c5_4,c5_5⟩:=cs6 F5;clear c9_0 c9_1 c9_2 c9_3 c9_4 c9_5;obtain ⟨c9_0,c9_1,c9_2,c9_3,c9_4,c9_5⟩:=cs6 F9;clear hk y0 z0 y1 z1 y2 z2 y3 z3 y4 z4 y5 z5)
     | (go_at_call 17;with_reducible refine cl (laws_sameState.M xa xb _ _ _ _ xp _ _ _ _ xs xt xc w3016 (rc RP3014) (rc RP3005) (rc RS3014) (rc RS3005) (rl RP3014) (rl RP3005) (rl RS3014) (rl RS3005) (by assumption) (by assumption)) B fun w3017 hb B=>?_;replace F3:=bn F3 hb;replace F5:=bn F5 hb;replace RP:=rn RP hb;replace RS:=rn RS hb;replace RP3005:=rn RP3005 hb;replace RS3005:=rn RS3005 hb;clear c3_0 c3_1 c3_2 c3_3 c3_4 c3_5;obtain ⟨c3_0,c3_1,c3_2,c3_3,c3_4,c3_5⟩:=cs6 F3;clear c5_0 c5_1 c5_2 c5_3 c5_4 c5_5;obtain ⟨c5_0,c5_1,c5_2,c5_3,c5_4,c5_5⟩:=cs6 F5;clear hb)
     | (go_at_call 18;with_reducible refine cl (impl_StateValid.M xa xb _ _ xp _ _ xs xt xc w3017 (rc RP3005) (rc RS3005)) B fun w3018 hb B=>?_;replace F3:=bn F3 hb;replace F5:=bn F5 hb;replace RP:=rn RP hb;replace RS:=rn RS hb;replace RP3005:=rn RP3005 hb;replace RS3005:=rn RS3005 hb;clear c3_0 c3_1 c3_2 c3_3 c3_4 c3_5;obtain ⟨c3_0,c3_1,c3_2,c3_3,c3_4,c3_5⟩:=cs6 F3;clear c5_0 c5_1 c5_2 c5_3 c5_4 c5_5;obtain ⟨c5_0,c5_1,c5_2,c5_3,c5_4,c5_5⟩:=cs6 F5;clear hb)
     | (go_at_call 17;with_reducible refine cl (laws_sameState.M xa xb _ _ _ _ xp _ _ _ _ xs xt xc w3018 (rc RP3005) (rc RP) (rc RS3005) (rc RS) (rl RP3005) (rl RP) (rl RS3005) (rl RS) (by assumption) (by assumption)) B fun w3019 hb B=>?_;clear hb)
     | (go_at_call 21;with_reducible refine cl (laws_alive.M _) B fun w3020 hb B=>?_;clear hb))
    all_goals go_ret
    all_goals exact ⟨by first | rfl | (simp;done) | (simp_all;done),B.out⟩
def laws_FnApplyEntry.f (k : Nat) (l : List Int) : Option Bool:=if ∀ x ∈ l,(Lit.int .u8 x).wf=true then some true else none
theorem laws_FnApplyEntry.calls (k : Nat) (A0 : Option Addr) (c0 : Nat) (l : List Int) (r : Bool) (w : World) (hr0 : Kd.C (Kd.int .u8) w A0 l.length l) (hc0 : l.length≤c0) (h : laws_FnApplyEntry.f k l=some r) : Calls Try.prog 4 #[.slice A0 l.length c0] w fun e w'=>e=.returned (.bool r)∧Below w.heap.size w w':=by
 unfold laws_FnApplyEntry.f at h
 split at h
 ·rename_i hc
  obtain rfl:=Option.some.inj h
  exact laws_FnApplyEntry.M A0 c0 l w hr0 hc0 hc
 ·cases h

end Go.Proofs.Ythofkheehldioaa.PFnApplyEntry
