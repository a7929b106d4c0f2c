/- Walks over models, part 1: lawFnExactUniteStates. -/
import Derived.Test.YtenfiihcdhnamaaPFnExactUniteStatesx0
import Derived.Deep.RegionHeld3
import Derived.Test.YtenfiihcdhnamaaPFnExactUniteStatesx47
import Derived.Test.YtenfiihcdhnamaaPFnExactUniteStatesx48
import Derived.Test.YtenfiihcdhnamaaPFnExactUniteStatesx50
import Derived.Lib.Strings
import Derived.Laws.BytesArg
import Derived.Test.YtenfiihcdhnamaaMFnExactUniteStates0
namespace Go.Proofs.Ytenfiihcdhnamaa.PFnExactUniteStates
open Go.RowKit Go.Proofs.YtenfiihcdhnamaaW.PrintWords Go.Proofs.YtenfiihcdhnamaaW.PrintLast Go.Proofs.YtenfiihcdhnamaaW.PrintMore
set_option linter.unusedVariables false
set_option linter.unusedSimpArgs false
set_option maxHeartbeats 4000000
set_option maxRecDepth 100000
attribute [local go_sem] leq_str geq_str gtr_str

section
variable {P : Program} {F : FuncId} {args : Array Value} {w W W' : World} {Q : Ending→World→Prop} {α : Type} {d : Kd α} {e0 b : Nat} {xs : List α} {ok : Nat→Prop}
theorem csr (c : Calls P F args W fun e w'=>∃ v,e=.returned v∧Kd.S d e0 w' W.heap.size (fun _=>True) v xs∧Below W.heap.size W w') (B : Aside0 (Below w.heap.size w W))
  (h : ∀ A kk W',Below W.heap.size W W'→Aside0 (Below w.heap.size w W')→Aside0 (Kd.S d e0 W' w.heap.size (fun k=>W.heap.size≤k∧k < W'.heap.size) (.slice A xs.length kk) xs)→Q (.returned (.slice A xs.length kk)) W') : Calls P F args W Q :=
 c.mono (by
  rintro e W' ⟨v,rfl,hs,hb⟩
  obtain ⟨A,kk,rfl⟩:=Kd.S_slice hs
  exact h A kk W' hb ⟨below_step B.out hb⟩ ⟨Kd.S_lower (Kd.S_mono (Kd.S_bound hs) (fun k hk=>⟨hk.2.1,hk.2.2.1⟩)) (below_size B.out)⟩)
theorem snn {v : Value} (S : Aside0 (Kd.S d e0 W b ok v xs)) (hb : Below W.heap.size W W') : Aside0 (Kd.S d e0 W' b ok v xs):=⟨Kd.S_below S.out hb⟩
theorem sC {A : Option Addr} {n c : Nat} (S : Aside0 (Kd.S d e0 W b ok (.slice A n c) xs)) : Kd.C d W A xs.length xs:=by
 have h:=Kd.S_reads' S.out
 exact h.2.2
theorem csm (c : Calls P F args W fun e w'=>∃ q',e=.returned (.int .i64 q')∧0≤q'∧Below w.heap.size w w'∧Kept W w' ok) (h : ∀ q' W',0≤q'→Kept W W' ok→Aside0 (Below w.heap.size w W')→Q (.returned (.int .i64 q')) W') : Calls P F args W Q :=
 c.mono (by rintro e W' ⟨q',rfl,h0,hb,hk⟩;exact h q' W' h0 hk ⟨hb⟩)
theorem frk {v : Value} {k : Nat} (h : Aside0 (Fr W v)) (hk : v.ownBlock=some k) : W.heap.size≤k:=h.out k hk
theorem rks {v : Value} (R : Aside0 (Ow d e0 W b v xs)) (hE : d.E=[]) (hk : Kept W W' ok) (ne : ∀ k,v.ownBlock=some k→¬ ok k) : Aside0 (Ow d e0 W' b v xs) :=
 ⟨Kd.R_mono (Kd.R_kept (Kd.R_tight hE R.out) hk (fun k h=>ne k h.symm)) (fun _ _=>trivial)⟩
end
theorem szf {v : Int} {l : List S27} {xs : List S34} (hv : v < 0 ∨ 0≤v∧v≤1048576∧(l.length : Int)≤1048576∧LimU l l.length) (h0 : 0≤v) (hx : l.map stOf=xs) : l.length≤1048576∧(∀ y ∈ l,y.f1.length≤1048576∧y.f2.length≤1048576)∧xs.length≤1048576∧Lim xs:=by
 rcases hv with hv | ⟨_,_,h1,h2⟩
 ·omega
 ·refine ⟨by omega,h2.all,by rw [← hx,List.length_map];omega,fun y hy=>?_⟩
  rw [← hx,List.mem_map] at hy
  obtain ⟨z,hz,rfl⟩:=hy
  have h3:=h2.all z hz
  exact ⟨by rw [show (stOf z).f1=z.f1.map prOf from rfl,List.length_map];exact h3.1,by rw [show (stOf z).f2=z.f2.map sesOf from rfl,List.length_map];exact h3.2⟩
theorem unM48 {xs : List S34} {ys : List S61} {ok : Bool} (h : unM xs=(ys,ok)) : ys.length≤48:=by
 unfold unM uniB at h
 split at h
 ·rename_i hc
  simp only [Bool.and_eq_true] at hc
  injection h with h1 _
  rw [← h1]
  exact prB_len hc.2.2.2
 ·injection h with h1 _
  rw [← h1]
  simp
theorem laws_toStateS.Mx (A0 : Option Addr) (c0 : Nat) (l : List S27) (xs : List S34) (w : World) (hr0 : Kd.C k27 w A0 l.length l) (hn : l.length≤1048576) (hl : ∀ y ∈ l,y.f1.length≤1048576∧y.f2.length≤1048576) (hx : l.map stOf=xs) :
  Calls Try.prog 20 #[.slice A0 l.length c0] w fun e w'=>∃ v,e=.returned v∧Kd.S k34 34 w' w.heap.size (fun _=>True) v xs∧Below w.heap.size w w':=hx ▸ laws_toStateS.M A0 c0 l w hr0 hn hl
theorem spec_UniteStates.Mr (A0 : Option Addr) (c0 : Nat) (l : List S34) (ys : List S61) (ok : Bool) (hm : unM l=(ys,ok)) (w : World) (hr0 : Kd.C k34 w A0 l.length l) (hn : l.length≤1048576) :
  Calls Try.prog 19 #[.slice A0 l.length c0] w fun e w'=>∃ v0,e=.returned (.tuple #[v0,.bool ok])∧Kd.R k61 61 w' w.heap.size (fun _=>True) v0 ys∧Below w.heap.size w w':=by
 have h:=spec_UniteStates.M A0 c0 l w hr0 hn
 rw [hm] at h
 exact h
theorem impl_UniteStates.Mr (A0 : Option Addr) (c0 : Nat) (l : List S34) (ys : List S61) (ok : Bool) (hm : unM l=(ys,ok)) (w : World) (hr0 : Kd.C k34 w A0 l.length l) (hn : l.length≤1048576) :
  Calls Try.prog 21 #[.slice A0 l.length c0] w fun e w'=>∃ v0,e=.returned (.tuple #[v0,.bool ok])∧Kd.R k61 61 w' w.heap.size (fun _=>True) v0 ys∧Below w.heap.size w w':=by
 have h:=impl_UniteStates.M A0 c0 l w hr0 hn
 rw [hm] at h
 exact h
theorem laws_FnExactUniteStates.M (A0 : Option Addr) (c0 : Nat) (l : List S27) (w : World) (hr0 : Kd.C k27 w A0 l.length l) (hs : SzO l) : Calls Try.prog 5 #[.slice A0 l.length c0] w fun e w'=>e=.returned (.bool true)∧Below w.heap.size w w':=by
 have B:=Aside0.mk (Below.refl w.heap.size w)
 have HSZ:=Aside0.mk hs
 have HR0:=Aside0.mk hr0
 clear hr0 hs
 obtain ⟨xs,hxs⟩ : ∃ xs,l.map stOf=xs:=⟨_,rfl⟩
 have HXS:=Aside0.mk hxs
 clear hxs
 obtain ⟨ys,ok,hu⟩ : ∃ ys ok,unM xs=(ys,ok):=⟨_,_,rfl⟩
 have HU:=Aside0.mk hu
 have h48:=unM48 hu
 have HY48:=Aside0.mk (show ys.length≤2097152 by omega)
 have dq : decide ((1 + 2 * (ys.length : Int)) < 0)=false:=decide_eq_false (by omega)
 clear hu h48
 go_enter Try.func5,Try.ntmps5
 go_wp2_with (first
  | (go_at_call 18;with_reducible refine cx (laws_szStateS.M _ _ l 1048576 w (cb HR0 B) (by decide) HSZ.out) B fun v hv w1 hb B=>?_;clear hb)
  | (go_at_call 20;obtain ⟨t1,t2,t3,t4⟩:=szf hv (by omega) HXS.out;have HL1:=Aside0.mk t1;have HL2:=Aside0.mk t2;have HX1:=Aside0.mk t3;have HX2:=Aside0.mk t4;clear t1 t2 t3 t4 hv;with_reducible refine csr (laws_toStateS.Mx _ _ l xs w1 (cb HR0 B) HL1.out HL2.out HXS.out) B fun AT1 kT1 w2 hb B ST1=>?_;clear hb)
  | (go_at_call 19;with_reducible refine cr (spec_UniteStates.Mr _ _ xs ys ok HU.out w2 (sC ST1) HX1.out) B fun AP3 kP3 w3 hb B RP3 QP3=>?_;clear QP3;clear hb)
  | (go_at_call 20;have DSa:=Aside0.mk (Kd.R_lt RP3.out);with_reducible refine csr (laws_toStateS.Mx _ _ l xs w3 (cb HR0 B) HL1.out HL2.out HXS.out) B fun AT2 kT2 w4 hb B ST2=>?_;replace RP3:=rn RP3 hb;clear hb)
  | (go_at_call 21;with_reducible refine cr (impl_UniteStates.Mr _ _ xs ys ok HU.out w4 (sC ST2) HX1.out) B fun AP5 kP5 w5 hb B RP5 QP5=>?_;have DP3_P5:=fr QP5 RP3;have DSb:=QP5;replace ST2:=snn ST2 hb;replace RP3:=rn RP3 hb;clear QP5;clear hb)
  | (go_at_call 22;with_reducible refine cl (laws_eqPairS.M _ _ _ _ ys w5 (rc RP5) (rc RP3)) B fun w6 hb B=>?_;replace ST2:=snn ST2 hb;replace RP3:=rn RP3 hb;replace RP5:=rn RP5 hb;clear hb)
  | (go_at_call 20;with_reducible refine csr (laws_toStateS.Mx _ _ l xs w6 (cb HR0 B) HL1.out HL2.out HXS.out) B fun AT3 kT3 w7 hb B ST3=>?_;replace ST2:=snn ST2 hb;replace RP3:=rn RP3 hb;replace RP5:=rn RP5 hb;clear hb)
  | (go_at_call 23;with_reducible refine cl (laws_eqStateS.M _ _ _ _ xs w7 (sC ST2) (sC ST3) HX1.out) B fun w8 hb B=>?_;replace ST2:=snn ST2 hb;replace RP3:=rn RP3 hb;replace RP5:=rn RP5 hb;clear hb)
  | (go_at_call 24;with_reducible refine csm (laws_markStateS.M _ _ xs 1 w w8 B ST2 HX1.out HX2.out (by decide) (by decide)) fun q9 w9 h9 hk B=>?_;have d9 : decide (q9 < 0)=false:=decide_eq_false (Int.not_lt.mpr h9);replace RP3:=rks RP3 rfl hk (fun k h hk_=>absurd (DSa.out k h) (Nat.not_lt.mpr hk_.1));replace RP5:=rks RP5 rfl hk (fun k h hk_=>absurd (frk DSb h) (Nat.not_le.mpr hk_.2));clear hk)
  | (go_at_call 22;with_reducible refine cl (laws_eqPairS.M _ _ _ _ ys w9 (rc RP5) (rc RP3)) B fun w10 hb B=>?_;replace RP3:=rn RP3 hb;replace RP5:=rn RP5 hb;clear hb)
  | (go_at_call 25;with_reducible refine cm (laws_markPairS.M _ ys 1 w w10 B RP5 HY48.out (by decide) (by decide)) fun w11 hk B RX=>?_;replace RP3:=rkp RP3 rfl hk (fun k p q=>DP3_P5.out k q p);replace RP5:=RX;clear hk;skip)
  | (go_at_call 26;with_reducible refine cl (laws_heldPairS.M2 _ _ ys 1 w11 (rc RP5) (rl2 RP5) HY48.out (by decide) (by decide)) B fun w12 hb B=>?_;replace RP3:=rn RP3 hb;replace RP5:=rn RP5 hb;clear hb)
  | (go_at_call 20;with_reducible refine csr (laws_toStateS.Mx _ _ l xs w12 (cb HR0 B) HL1.out HL2.out HXS.out) B fun AT4 kT4 w13 hb B ST4=>?_;replace RP3:=rn RP3 hb;replace RP5:=rn RP5 hb;clear hb)
  | (go_at_call 21;with_reducible refine cr (impl_UniteStates.Mr _ _ xs ys ok HU.out w13 (sC ST4) HX1.out) B fun AP14 kP14 w14 hb B RP14 QP14=>?_;have DP3_P14:=fr QP14 RP3;have DP5_P14:=fr QP14 RP5;replace RP3:=rn RP3 hb;replace RP5:=rn RP5 hb;clear QP14;clear hb)
  | (go_at_call 22;with_reducible refine cl (laws_eqPairS.M _ _ _ _ ys w14 (rc RP14) (rc RP3)) B fun w15 hb B=>?_;replace RP5:=rn RP5 hb;clear hb)
  | (go_at_call 26;with_reducible refine cl (laws_heldPairS.M2 _ _ ys 1 w15 (rc RP5) (rl2 RP5) HY48.out (by decide) (by decide)) B fun w16 hb B=>?_;clear hb))
 all_goals try (go_ret;exact ⟨rfl,B.out⟩)
instance (l : List S27) : Decidable (SzO l):=by unfold SzO;infer_instance
def laws_FnExactUniteStates.f (k : Nat) (l : List S27) : Option Bool:=if SzO l then some true else none
theorem laws_FnExactUniteStates.calls (k : Nat) (A0 : Option Addr) (c0 : Nat) (l : List S27) (r : Bool) (w : World) (hr0 : Kd.C k27 w A0 l.length l) (hc0 : l.length≤c0) (h : laws_FnExactUniteStates.f k l=some r) : Calls Try.prog 5 #[.slice A0 l.length c0] w fun e w'=>e=.returned (.bool r)∧Below w.heap.size w w':=by
 unfold laws_FnExactUniteStates.f at h
 split at h
 ·rename_i hc
  obtain rfl:=Option.some.inj h
  exact laws_FnExactUniteStates.M A0 c0 l w hr0 hc
 ·cases h

end Go.Proofs.Ytenfiihcdhnamaa.PFnExactUniteStates
