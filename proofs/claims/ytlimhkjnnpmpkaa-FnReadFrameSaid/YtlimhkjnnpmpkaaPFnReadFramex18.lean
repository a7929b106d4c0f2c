/- impl_DecodeText by hand (the printed text of this function does not build): the bytes behind a number that is a length,as a string. -/
import Derived.Test.YtlimhkjnnpmpkaaPFnReadFramex0
import Derived.Test.YtlimhkjnnpmpkaaPFnReadFramex17
namespace Go.Proofs.Ytlimhkjnnpmpkaa.PFnReadFrame
open Go.RowKit Go.Proofs.YtlimhkjnnpmpkaaW.PrintWords Go.Proofs.YtlimhkjnnpmpkaaW.PrintLast Go.Proofs.YtlimhkjnnpmpkaaW.PrintMore
set_option linter.unusedVariables false
set_option linter.unusedSimpArgs false

/-- No text is there: the length is no length,or the bytes end before it. -/
def impl_DecodeText.bad (b : List Int) (size start : Int) : Prop:=size < 0 ∨ 8 < size ∨ wrap64 ((b.length : Int) - start) < size
def impl_DecodeText.good (b : List Int) (size start : Int) : Prop:=0≤size∧size≤8∧0≤start∧start + size≤(b.length : Int)∧(b.length : Int)≤4611686018427387904
instance (b : List Int) (size start : Int) : Decidable (impl_DecodeText.bad b size start):=by unfold impl_DecodeText.bad;infer_instance
instance (b : List Int) (size start : Int) : Decidable (impl_DecodeText.good b size start):=by unfold impl_DecodeText.good;infer_instance
def impl_DecodeText.cut (b : List Int) (size start : Int) : List Int:=((b.drop start.toNat).take size.toNat).map (· % 256)
def impl_DecodeText.f (k : Nat) (b : List Int) (at_ : Int) : Option (ByteArray × Int) :=
  (impl_DecodeNumber.f k b at_).bind fun p =>
    if impl_DecodeText.bad b p.1 p.2 then some (⟨#[]⟩,-1)
    else if impl_DecodeText.good b p.1 p.2 then some (strOfNums (impl_DecodeText.cut b p.1 p.2),p.2 + p.1) else none

theorem impl_DecodeText.mono : ∀ a0 a1 k,LeO (impl_DecodeText.f k a0 a1) (impl_DecodeText.f (k + 1) a0 a1):=by
  intro a0 a1 k
  unfold impl_DecodeText.f
  exact LeO.bind (impl_DecodeNumber.mono _ _ _) fun _=>LeO.refl _

/-- what the list holds after i rounds -/
def impl_DecodeText.upto (b : List Int) (size start : Int) (i : Nat) : List Int:=(impl_DecodeText.cut b size start).take i ++ List.replicate (size.toNat - i) 0

theorem impl_DecodeText.cut_length (b : List Int) (m q : Nat) (h : q + m≤b.length) : (impl_DecodeText.cut b (m : Int) (q : Int)).length=m:=by
  unfold impl_DecodeText.cut
  rw [List.length_map,List.length_take,List.length_drop,Int.toNat_natCast,Int.toNat_natCast]
  omega

theorem impl_DecodeText.upto_set (b : List Int) (m q i : Nat) (hi : i < m) (h : q + m≤b.length) :
    (impl_DecodeText.upto b (m : Int) (q : Int) i).set i (rd b ((q + i : Nat) : Int) % 256)=impl_DecodeText.upto b (m : Int) (q : Int) (i + 1):=by
  have hl:=impl_DecodeText.cut_length b m q h
  have hx : (impl_DecodeText.cut b (m : Int) (q : Int))[i]'(by omega)=rd b ((q + i : Nat) : Int) % 256:=by
    have hr : rd b ((q + i : Nat) : Int)=b[q + i]'(by omega):=by
      unfold rd
      rw [Int.toNat_natCast,List.getD_eq_getElem?_getD,List.getElem?_eq_getElem (show q + i < b.length by omega)]
      rfl
    rw [hr]
    simp only [impl_DecodeText.cut,Int.toNat_natCast,List.getElem_map,List.getElem_take,List.getElem_drop]
  unfold impl_DecodeText.upto
  rw [Int.toNat_natCast,show m - i=(m - (i + 1)) + 1 by omega,List.replicate_succ,List.set_append_right _ _ (by rw [List.length_take];omega),List.length_take,show i - min i (impl_DecodeText.cut b (m : Int) (q : Int)).length=0 by omega,List.set_cons_zero,List.take_succ_eq_append_getElem (by omega),hx,List.append_assoc]
  rfl

theorem impl_DecodeText.upto_all (b : List Int) (m q : Nat) (h : q + m≤b.length) : impl_DecodeText.upto b (m : Int) (q : Int) m=impl_DecodeText.cut b (m : Int) (q : Int):=by
  have hl:=impl_DecodeText.cut_length b m q h
  unfold impl_DecodeText.upto
  rw [Int.toNat_natCast,Nat.sub_self,List.replicate_zero,List.append_nil,List.take_of_length_le (by omega)]

set_option maxHeartbeats 2000000 in
set_option maxRecDepth 100000 in
theorem impl_DecodeText.calls (k : Nat) (A0 : Option Addr) (c0 : Nat) (l0 : List Int) (a1 : Int) (r1 : ByteArray) (r2 : Int) (w : World) (hr0 : Kd.C (Kd.int .i64) w A0 l0.length l0) (hc0 : l0.length≤c0) (h : impl_DecodeText.f k l0 a1=some (r1,r2)) :
    Calls Try.prog 44 #[.slice A0 l0.length c0,.int .i64 a1] w fun e w'=>e=.returned (.tuple #[.string r1,.int .i64 r2])∧Below w.heap.size w w':=by
  have HR0:=Aside0.mk hr0
  have HC0:=Aside0.mk hc0
  clear hr0 hc0
  have HB:=Aside0.mk (Below.refl w.heap.size w)
  unfold impl_DecodeText.f at h
  obtain ⟨⟨n,s⟩,hA,h1⟩:=Option.bind_eq_some_iff.mp h
  clear h
  have A3:=Aside0.mk hA
  clear hA
  dsimp only at h1
  by_cases hbad : impl_DecodeText.bad l0 n s
  · rw [if_pos hbad] at h1
    have h2:=Option.some.inj h1
    clear h1
    obtain ⟨rfl,rfl⟩:=Prod.mk.inj h2
    clear h2
    have hcase : decide (n < 0)=true ∨ (decide (n < 0)=false∧decide (8 < n)=true) ∨ (decide (n < 0)=false∧decide (8 < n)=false∧decide (wrap64 ((l0.length : Int) - s) < n)=true):=by
      unfold impl_DecodeText.bad at hbad
      simp only [decide_eq_true_eq,decide_eq_false_iff_not]
      omega
    clear hbad
    rcases hcase with c1 | ⟨c1,c2⟩ | ⟨c1,c2,c3⟩
    all_goals
      go_enter Try.func44,Try.ntmps44
      go_wp2_with (first | (go_at_call 43;refine (impl_DecodeNumber.calls k _ _ l0 a1 n s _ HR0.out HC0.out A3.out).mono ?_;rintro e w' ⟨rfl,⟨nd,rfl⟩⟩))
      go_ret2
      exact ⟨rfl,pw_below_drewN (Below.refl _ _) _⟩
  · rw [if_neg hbad] at h1
    by_cases hgood : impl_DecodeText.good l0 n s
    · rw [if_pos hgood] at h1
      have h2:=Option.some.inj h1
      clear h1
      obtain ⟨rfl,rfl⟩:=Prod.mk.inj h2
      clear h2
      obtain ⟨m,rfl⟩ : ∃ m : Nat,n=(m : Int):=⟨n.toNat,by have:=hgood.1;omega⟩
      obtain ⟨q,rfl⟩ : ∃ q : Nat,s=(q : Int):=⟨s.toNat,by have:=hgood.2.2.1;omega⟩
      have c1 : decide ((m : Int) < 0)=false:=decide_eq_false (by omega)
      have c2 : decide (8 < (m : Int))=false:=decide_eq_false (by unfold impl_DecodeText.bad at hbad;omega)
      have c2n : decide (8 < m)=false:=decide_eq_false (by unfold impl_DecodeText.bad at hbad;omega)
      have c3 : decide (wrap64 ((l0.length : Int) - (q : Int)) < (m : Int))=false:=decide_eq_false (by unfold impl_DecodeText.bad at hbad;omega)
      have c4 : decide (0≤(m : Int))=true:=decide_eq_true (by omega)
      clear hbad
      have HG:=Aside0.mk (show m≤8∧q + m≤l0.length∧l0.length≤4611686018427387904 by unfold impl_DecodeText.good at hgood;omega)
      clear hgood
      go_enter Try.func44,Try.ntmps44
      go_wp2_with (first
        | (go_at_call 43;refine (impl_DecodeNumber.calls k _ _ l0 a1 (m : Int) (q : Int) _ HR0.out HC0.out A3.out).mono ?_;rintro e w' ⟨rfl,⟨nd,rfl⟩⟩)
        | ((with_reducible refine gate_dst (N:=31) rfl ?_);refine Kd.R_make (Kd.int .u8) _ 5 rfl (N:=31) rfl 41 _ _ rfl (m : Int) rfl rfl Try.underlying41 (.int .u8 0) 1 info5 rfl (by decide) (by omega) 0 (ok:=fun _=>True) (okp:=fun _=>True) rfl (fun _ hk=>hk) trivial (of_decide_eq_true c4) (by have:=HG.out;omega) (Below.refl _ _) (Nat.le_refl _) ?_;intro v w10 ho hb hg_ hnew_;clear hg_ hnew_;have HO:=Aside0.mk (Kd.R_lower ho (below_size (pw_below_drewN (Below.refl w.heap.size w) nd)));have HW:=Aside0.mk (below_step (pw_below_drewN (Below.refl w.heap.size w) nd) hb);clear ho hb;obtain ⟨Ao,co,eo⟩:=Kd.R_slice HO.out;subst eo))
      have h8 : m≤8:=HG.out.1
      have h9 : q + m≤l0.length:=HG.out.2.1
      have h10 : l0.length≤4611686018427387904:=HG.out.2.2
      clear c1 c2 c2n c3 c4
      go_loopw [34] (fun v34 wr=>∃ i : Nat,i≤m∧v34=.int .i64 (i : Int)∧Aside0 (Kd.R (Kd.int .u8) 5 wr w.heap.size (fun _=>True) (.slice Ao m co) (impl_DecodeText.upto l0 (m : Int) (q : Int) i))∧Aside0 (Below w.heap.size w wr)) (fun v34 _=>m - (intOf v34).toNat)
      case atStart=>exact ⟨0,Nat.zero_le _,rfl,⟨by
        have:=HO.out
        unfold impl_DecodeText.upto
        simpa using this⟩,HW⟩
      case round =>
        clear HO HW
        obtain ⟨i,hi,rfl,HO,HB2⟩:=hrel
        by_cases hlt : i < m
        · obtain ⟨ad,ea,hx⟩:=Kd.at_int HR0.out (((q + i : Nat) : Nat) : Int) (by omega) (by omega)
          cases ea
          replace hx:=(HB2.out.cell (World.block_lt_of_cell? w _ hx)).trans hx
          rw [Int.toNat_natCast] at hx
          have hul:=(Kd.R_reads' HO.out).1
          obtain ⟨go,cg,eo,gb,gl,cl,HGr⟩:=Kd.R_form HO.out (by omega)
          injection eo with e1 e2 e3
          subst e1
          subst e3
          clear e2
          obtain ⟨hc,hf⟩:=Kd.R_celln 0 HO.out (i : Int) (by omega) (by omega)
          have hput:=Aside0.mk (Kd.R_putg HO.out (i : Int) (rd l0 ((q + i : Nat) : Int) % 256))
          rw [Int.toNat_natCast] at hc hf hput
          generalize rdOf 0 (impl_DecodeText.upto l0 (m : Int) (q : Int) i) (i : Int)=old at hc
          have GB:=Aside0.mk gb
          clear gb gl HGr hul
          go_wp2
          go_roundw
          case rel=>exact ⟨i + 1,by omega,by go_num,⟨by
            have h:=hput.out.1
            rw [impl_DecodeText.upto_set l0 m q i hlt h9] at h
            exact h⟩,⟨below_set HB2.out GB.out⟩⟩
          case measure=>simp [intOf];omega
        · obtain rfl : i=m:=by omega
          have hcv:=own_string (P:=Try.prog) Try.underlying41 Try.underlying5 Try.underlying9 (Kd.own_of_R HO.out)
          go_wp2
          go_ret2
          exact ⟨by rw [impl_DecodeText.upto_all l0 i q h9];rfl,HB2.out⟩
    · rw [if_neg hgood] at h1
      cases h1
end Go.Proofs.Ytlimhkjnnpmpkaa.PFnReadFrame
