/- Walks over models, part 1: lawFnReadCommand. -/
import Derived.Test.YtnogoanlfmflcaaDoorPFnReadCommandx0
import Derived.Deep.RegionHeld3
import Derived.Test.YtnogoanlfmflcaaDoorPFnReadCommandx71
import Derived.Lib.SplitLaws
import Derived.Test.YtnogoanlfmflcaaDoorShelfB
import Derived.Lib.AtoiTie
import Derived.Test.YtnogoanlfmflcaaDoorPFnReadCommandx25
import Derived.Test.YtnogoanlfmflcaaDoorShelfC
import Derived.Test.YtnogoanlfmflcaaDoorPFnReadCommandx65
import Derived.Test.YtnogoanlfmflcaaDoorPFnReadCommandx66
import Derived.Test.YtnogoanlfmflcaaDoorPFnReadCommandx64
import Derived.Test.YtnogoanlfmflcaaDoorPFnReadCommandx67
import Derived.Test.YtnogoanlfmflcaaDoorPFnReadCommandx68
import Derived.Test.YtnogoanlfmflcaaDoorPFnReadCommandx69
import Derived.Test.YtnogoanlfmflcaaDoorPFnReadCommandx70
import Derived.Test.YtnogoanlfmflcaaDoorPFnReadCommandx63
import Derived.Test.YtnogoanlfmflcaaDoorAFnReadCommand0
import Derived.Test.YtnogoanlfmflcaaDoorMFnReadCommand0
namespace Go.Proofs.YtnogoanlfmflcaaDoor.PFnReadCommand
open Go.RowKit Go.Proofs.YtnogoanlfmflcaaDoorW.PrintWords Go.Proofs.YtnogoanlfmflcaaDoorW.PrintLast Go.Proofs.YtnogoanlfmflcaaDoorW.PrintMore
set_option linter.unusedVariables false
set_option linter.unusedSimpArgs false
set_option maxHeartbeats 4000000
set_option maxRecDepth 100000
attribute [local go_sem] leq_str geq_str gtr_str
theorem impl_ReadCommand.M2 (s : ByteArray) (w : World) (ht : TS w) : Calls Tryd.prog 20 #[.string s] w fun e w' => e = .returned (.tuple #[.agg #[.int .i64 (rcM s).1.1, .string (rcM s).1.2.1, .int .i64 (rcM s).1.2.2.1, .int .i64 (rcM s).1.2.2.2], .bool (rcM s).2]) ∧ Below w.heap.size w w' := by
  rw [← rc_eq]
  exact impl_ReadCommand.M s w ht
theorem cmt_size' (k : Int) (x : ByteArray) (v o : Int) : (cmtM k x v o).size ≤ 64 := by
  by_cases h : cmdB k x v o = true
  · exact (cmt_size h).1
  · unfold cmtM; rw [if_neg h]; decide
theorem draw_readcmd {l : List Int} (hs : ∀ x ∈ l, (Lit.int .u8 x).wf = true) : ∃ j s, spec_DrawReadCommand.f j l = some s ∧ s.size ≤ 100 := by
  obtain ⟨b, hb, e⟩ := Dw.spec_open l hs
  obtain ⟨r, hp0, hp1, _, ev⟩ := Dw.dr_any hb (p := 0) 0 (by omega) (by omega) (by omega)
  have hpl : Dw.cmdPl r = r.2.2.2.2 := rfl
  have h : Dw.Drw (fun k => spec_DrawReadCommand.f k l) (fun s => s.size ≤ 100) := by
    unfold spec_DrawReadCommand.f
    simp only [e, Option.bind_some]
    refine Dw.Drw.run (r := r) ev (Dw.Drw.run (r := cmtM r.1 r.2.1 r.2.2.1 r.2.2.2.1) (Dw.Evn.all fun _ => rfl) ?_)
    have hz := cmt_size' r.1 r.2.1 r.2.2.1 r.2.2.2.1
    generalize cmtM r.1 r.2.1 r.2.2.1 r.2.2.2.1 = t at hz ⊢
    refine Dw.Drw.ite (fun _ => ?_) fun h => absurd (show t.size + 1 ≤ 9223372036854775807 by omega) h
    refine Dw.Drw.bind (Dw.dr_pick hb 16 (by omega) (by omega)) fun bt3 h3 _ _ => ?_
    refine Dw.Drw.ite (fun _ => Dw.Drw.ite (fun hlt => ?_) fun h => absurd (h3.2.1 (by omega)) h) fun h => absurd h3.1 h
    have hm : rd ([0, 0, 0, 0, 0, 0, 1, 2, 3, 4, 5, 6, 7, 8, 9, 10] : List Int) bt3.1 ∈ ([0, 0, 0, 0, 0, 0, 1, 2, 3, 4, 5, 6, 7, 8, 9, 10] : List Int) := by
      obtain ⟨j, hj⟩ : ∃ j : Nat, bt3.1 = (j : Int) := ⟨bt3.1.toNat, by have := h3.1; omega⟩
      have hj9 : j < 16 := by have := h3.2.1 (by omega); omega
      rw [hj, Dw.rd_nat (by simpa using hj9)]
      exact List.getElem_mem _
    generalize rd ([0, 0, 0, 0, 0, 0, 1, 2, 3, 4, 5, 6, 7, 8, 9, 10] : List Int) bt3.1 = q at hm ⊢
    have hq : 0 ≤ q ∧ q ≤ 10 := by simp only [List.mem_cons, List.not_mem_nil, or_false] at hm; omega
    refine Dw.Drw.ite (fun h0 => Dw.Drw.ite (fun h1 => Dw.Drw.pure ?_) fun h => absurd (show q < ((11 : Nat) : Int) by omega) h) fun h => absurd hq.1 h
    have hmem := Dw.rdOf_mem ByteArray.empty h0 h1
    generalize rdOf ByteArray.empty _ q = y at hmem ⊢
    simp only [List.mem_cons, List.not_mem_nil, or_false] at hmem
    have h32 : (t ++ (⟨#[32]⟩ : ByteArray)).size = t.size + 1 := by rw [ByteArray.size_append]; rfl
    rcases hmem with rfl | rfl | rfl | rfl | rfl | rfl | rfl | rfl | rfl | rfl | rfl
    all_goals first | omega | decide
  obtain ⟨s, hsz, ev2⟩ := h
  obtain ⟨j, hj⟩ := ev2.some
  exact ⟨j, s, hj, hsz⟩
theorem sp_snoc : ∀ l : List UInt8, sp (l ++ [32]) = sp l ++ [[]]
  | [] => by simp [sp]
  | b :: r => by
    have ih := sp_snoc r
    have hn := sp_ne r
    by_cases hb : b = 32
    · subst hb
      rw [List.cons_append, sp, if_pos rfl, sp, if_pos rfl, ih]
      rfl
    · cases e : sp r with
      | nil => exact absurd e hn
      | cons a t =>
        rw [e] at ih
        rw [sp_cons hb e, List.cons_append, sp_cons hb (h := a) (t := t ++ [[]]) (by rw [ih]; rfl)]
        rfl
theorem words_snoc (s : ByteArray) : wordsM (s ++ (⟨#[32]⟩ : ByteArray)) = wordsM s ++ [mkB []] := by
  unfold wordsM
  rw [show (s ++ (⟨#[32]⟩ : ByteArray)).data.toList = s.data.toList ++ [32] by simp, sp_snoc, List.map_append]
  rfl
theorem txt_ne2 (n : Int) : txtM n ≠ mkB [] := by
  intro e
  have h : (txtM n).data.toList = [] := by rw [e]; rfl
  unfold txtM dec3 at h
  split at h
  · cases h
  · have h' : (if n.toNat < 10 then [UInt8.ofNat (48 + n.toNat)] else if n.toNat < 100 then [UInt8.ofNat (48 + n.toNat / 10), UInt8.ofNat (48 + n.toNat % 10)] else [UInt8.ofNat (48 + n.toNat / 10 / 10), UInt8.ofNat (48 + n.toNat / 10 % 10), UInt8.ofNat (48 + n.toNat % 10)]) = [] := h
    split at h'
    · cases h'
    · split at h' <;> cases h'
theorem rc_space (s : ByteArray) : (rcM (s ++ (⟨#[32]⟩ : ByteArray))).2 = false := by
  rw [← rc_eq]
  obtain ⟨h1, -⟩ := rcI_back (s ++ (⟨#[32]⟩ : ByteArray))
  cases hr : (rcI (s ++ (⟨#[32]⟩ : ByteArray))).2 with
  | false => rfl
  | true =>
    obtain ⟨hv, he⟩ := h1 hr
    have hw := words_snoc s
    have m5 := cmd_more hv
    have hkx : ∀ x : ByteArray, x = mkB [] → keyB x = true → False := fun x e k => by subst e; revert k; decide
    rcases words_cmt hv with ⟨hk, e⟩ | ⟨hk, e⟩ | ⟨hk, e⟩ | ⟨hk, e⟩ | ⟨hk, hz, e⟩ | ⟨hk, hz, e⟩
    all_goals (rw [he, hw] at e; have e2 := congrArg List.getLast? e; simp only [List.getLast?_append, List.getLast?_singleton, List.getLast?_cons_cons, Option.some_or] at e2; have e3 := Option.some.inj e2)
    · exact (hkx _ e3.symm (m5.1 (by omega))).elim
    · exact (txt_ne2 _ e3.symm).elim
    · exact (hkx _ e3.symm (m5.1 (by omega))).elim
    · exact (txt_ne2 _ e3.symm).elim
    · exact absurd (by rw [← e3, ba_toList]; rfl) hz
    · exact absurd e3 (by decide)
theorem laws_FnReadCommand.M (A0 : Option Addr) (c0 : Nat) (l : List Int) (w : World) (hr0 : Kd.C (Kd.int .u8) w A0 l.length l) (hc0 : l.length ≤ c0) (ht : TS w) (hs : ∀ x ∈ l, (Lit.int .u8 x).wf = true) : Calls Tryd.prog 10 #[.slice A0 l.length c0] w fun e w' => e = .returned (.bool true) ∧ Below w.heap.size w w' := by
  have B := Aside0.mk (Below.refl w.heap.size w)
  have HR0 := Aside0.mk hr0
  have HC0 := Aside0.mk hc0
  have HT := Aside0.mk ht
  clear ht
  clear hr0 hc0
  have hu := Tryd.underlying28
  obtain ⟨kD, s, hd, hsz⟩ := draw_readcmd hs
  have HD := Aside0.mk hd
  clear hd hs
  have hsp := rc_space s
  obtain ⟨hy, hn⟩ := rcI_back s
  rw [rc_eq] at hy hn
  cases h5 : (rcM s).2 with
  | true =>
    obtain ⟨hv, he⟩ := hy h5
    have hb : ((cmtM (rcM s).1.1 (rcM s).1.2.1 (rcM s).1.2.2.1 (rcM s).1.2.2.2).toList == s.toList) = true := by rw [he]; simp
    have hz1 : (s ++ (⟨#[32]⟩ : ByteArray)).size = s.size + 1 := by rw [ByteArray.size_append]; rfl
    clear hy hn he
    go_enter Tryd.func10, Tryd.ntmps10
    go_wp2_with (first
      | (go_at_call 27; with_reducible refine cl (spec_DrawReadCommand.calls kD _ _ l s w HR0.out HC0.out HD.out) B fun w101 hb B => ?_; clear hb)
      | (go_at_call 20; with_reducible refine cl (impl_ReadCommand.M2 s _ (ts_on HT B)) B fun w102 hb B => ?_; clear hb)
      | ((with_reducible refine gate_dst (N := 4) rfl ?_); refine bx ?hg (N := 4) ?hd (cs := #[.int .i64 (0), .string (⟨#[]⟩ : ByteArray), .int .i64 (0), .int .i64 (0)]) (t := 28) ?hr B ?_; (case hd => rfl); (case hg => rfl); (case hr => first | (go_simp; done) | (go_simp; rfl)); intro g4 w103 hb B F4 L4 E4; obtain ⟨c4_0, c4_1, c4_2, c4_3⟩ := cs4 F4; clear hb E4)
      | ((with_reducible refine gate_store (t := 28) (p := 4) rfl ?_); obtain ⟨y0, y1, y2, y3⟩ := cs4 F4; have z0 := fz F4 0; have z1 := fz F4 1; have z2 := fz F4 2; have z3 := fz F4 3; refine sx (t := 28) (t' := 28) (p := 4) (v := ?vo104) ?hg ?ho ?hn 0 [.int .i64 ((rcM s).1.1), .string (rcM s).1.2.1, .int .i64 ((rcM s).1.2.2.1), .int .i64 ((rcM s).1.2.2.2)] [.int .i64 ((rcM s).1.1), .string (rcM s).1.2.1, .int .i64 ((rcM s).1.2.2.1), .int .i64 ((rcM s).1.2.2.2)] ?hr B F4 L4 rfl (Nat.le_of_ble_eq_true rfl) ?_; (case ho => rfl); (case hg => rfl); (case hn => rfl); (case hr => first | (go_simp; done) | (go_simp; rfl)); intro w104 hk B G; replace F4 := G; clear c4_0 c4_1 c4_2 c4_3; obtain ⟨c4_0, c4_1, c4_2, c4_3⟩ := cs4 F4; clear hk y0 z0 y1 z1 y2 z2 y3 z3)
      | (go_at_call 19; with_reducible refine cl (spec_ReadCommand.M s _ (by omega)) B fun w105 hb B => ?_; replace F4 := bn F4 hb; clear c4_0 c4_1 c4_2 c4_3; obtain ⟨c4_0, c4_1, c4_2, c4_3⟩ := cs4 F4; clear hb)
      | ((with_reducible refine gate_dst (N := 6) rfl ?_); refine bx ?hg (N := 6) ?hd (cs := #[.int .i64 (0), .string (⟨#[]⟩ : ByteArray), .int .i64 (0), .int .i64 (0)]) (t := 28) ?hr B ?_; (case hd => rfl); (case hg => rfl); (case hr => first | (go_simp; done) | (go_simp; rfl)); intro g6 w106 hb B F6 L6 E6; have N4_6 := ne1 E6 F4; replace F4 := bn F4 hb; clear c4_0 c4_1 c4_2 c4_3; obtain ⟨c4_0, c4_1, c4_2, c4_3⟩ := cs4 F4; obtain ⟨c6_0, c6_1, c6_2, c6_3⟩ := cs4 F6; clear hb E6)
      | ((with_reducible refine gate_store (t := 28) (p := 6) rfl ?_); obtain ⟨y0, y1, y2, y3⟩ := cs4 F6; have z0 := fz F6 0; have z1 := fz F6 1; have z2 := fz F6 2; have z3 := fz F6 3; refine sx (t := 28) (t' := 28) (p := 6) (v := ?vo107) ?hg ?ho ?hn 0 [.int .i64 ((rcM s).1.1), .string (rcM s).1.2.1, .int .i64 ((rcM s).1.2.2.1), .int .i64 ((rcM s).1.2.2.2)] [.int .i64 ((rcM s).1.1), .string (rcM s).1.2.1, .int .i64 ((rcM s).1.2.2.1), .int .i64 ((rcM s).1.2.2.2)] ?hr B F6 L6 rfl (Nat.le_of_ble_eq_true rfl) ?_; (case ho => rfl); (case hg => rfl); (case hn => rfl); (case hr => first | (go_simp; done) | (go_simp; rfl)); intro w107 hk B G; replace F4 := bk F4 hk N4_6.out; replace F6 := G; clear c4_0 c4_1 c4_2 c4_3; obtain ⟨c4_0, c4_1, c4_2, c4_3⟩ := cs4 F4; clear c6_0 c6_1 c6_2 c6_3; obtain ⟨c6_0, c6_1, c6_2, c6_3⟩ := cs4 F6; clear hk y0 z0 y1 z1 y2 z2 y3 z3)
      | (go_at_call 20; with_reducible refine cl (impl_ReadCommand.M2 (s ++ (⟨#[32]⟩ : ByteArray)) _ (ts_on HT B)) B fun w108 hb B => ?_; replace F4 := bn F4 hb; clear c4_0 c4_1 c4_2 c4_3; obtain ⟨c4_0, c4_1, c4_2, c4_3⟩ := cs4 F4; clear hb)
      | ((with_reducible refine gate_dst (N := 8) rfl ?_); refine bx ?hg (N := 8) ?hd (cs := #[.int .i64 (0), .string (⟨#[]⟩ : ByteArray), .int .i64 (0), .int .i64 (0)]) (t := 28) ?hr B ?_; (case hd => rfl); (case hg => rfl); (case hr => first | (go_simp; done) | (go_simp; rfl)); intro g8 w109 hb B F8 L8 E8; have N4_8 := ne1 E8 F4; replace F4 := bn F4 hb; clear c4_0 c4_1 c4_2 c4_3; obtain ⟨c4_0, c4_1, c4_2, c4_3⟩ := cs4 F4; clear hb E8)
      | ((with_reducible refine gate_store (t := 28) (p := 8) rfl ?_); obtain ⟨y0, y1, y2, y3⟩ := cs4 F8; have z0 := fz F8 0; have z1 := fz F8 1; have z2 := fz F8 2; have z3 := fz F8 3; refine sx (t := 28) (t' := 28) (p := 8) (v := ?vo110) ?hg ?ho ?hn 0 [.int .i64 ((rcM (s ++ (⟨#[32]⟩ : ByteArray))).1.1), .string (rcM (s ++ (⟨#[32]⟩ : ByteArray))).1.2.1, .int .i64 ((rcM (s ++ (⟨#[32]⟩ : ByteArray))).1.2.2.1), .int .i64 ((rcM (s ++ (⟨#[32]⟩ : ByteArray))).1.2.2.2)] [.int .i64 ((rcM (s ++ (⟨#[32]⟩ : ByteArray))).1.1), .string (rcM (s ++ (⟨#[32]⟩ : ByteArray))).1.2.1, .int .i64 ((rcM (s ++ (⟨#[32]⟩ : ByteArray))).1.2.2.1), .int .i64 ((rcM (s ++ (⟨#[32]⟩ : ByteArray))).1.2.2.2)] ?hr B F8 L8 rfl (Nat.le_of_ble_eq_true rfl) ?_; (case ho => rfl); (case hg => rfl); (case hn => rfl); (case hr => first | (go_simp; done) | (go_simp; rfl)); intro w110 hk B G; replace F4 := bk F4 hk N4_8.out; replace F8 := G; clear c4_0 c4_1 c4_2 c4_3; obtain ⟨c4_0, c4_1, c4_2, c4_3⟩ := cs4 F4; clear hk y0 z0 y1 z1 y2 z2 y3 z3)
      | (go_at_call 26; with_reducible refine cl (impl_CommandValid.M (rcM s).1.1 (rcM s).1.2.1 (rcM s).1.2.2.1 (rcM s).1.2.2.2 _) B fun w111 hb B => ?_; replace F4 := bn F4 hb; clear c4_0 c4_1 c4_2 c4_3; obtain ⟨c4_0, c4_1, c4_2, c4_3⟩ := cs4 F4; clear hb)
      | (go_at_call 16; with_reducible refine cl (impl_CommandText.M (rcM s).1.1 (rcM s).1.2.1 (rcM s).1.2.2.1 (rcM s).1.2.2.2 _ (ts_tt HT B)) B fun w112 hb B => ?_; clear hb))
    all_goals go_ret
    all_goals exact ⟨by simp_all, B.out⟩
  | false =>
    have hz := hn h5
    have h1 : (rcM s).1.1 = 0 := by rw [hz]; rfl
    have h2 : (rcM s).1.2.1 = (⟨#[]⟩ : ByteArray) := by rw [hz]; rfl
    have h3 : (rcM s).1.2.2.1 = 0 := by rw [hz]; rfl
    have h4 : (rcM s).1.2.2.2 = 0 := by rw [hz]; rfl
    clear hy hn hz
    go_enter Tryd.func10, Tryd.ntmps10
    go_wp2_with (first
      | (go_at_call 27; with_reducible refine cl (spec_DrawReadCommand.calls kD _ _ l s w HR0.out HC0.out HD.out) B fun w201 hb B => ?_; clear hb)
      | (go_at_call 20; with_reducible refine cl (impl_ReadCommand.M2 s _ (ts_on HT B)) B fun w202 hb B => ?_; clear hb)
      | ((with_reducible refine gate_dst (N := 4) rfl ?_); refine bx ?hg (N := 4) ?hd (cs := #[.int .i64 (0), .string (⟨#[]⟩ : ByteArray), .int .i64 (0), .int .i64 (0)]) (t := 28) ?hr B ?_; (case hd => rfl); (case hg => rfl); (case hr => first | (go_simp; done) | (go_simp; rfl)); intro g4 w203 hb B F4 L4 E4; obtain ⟨c4_0, c4_1, c4_2, c4_3⟩ := cs4 F4; clear hb E4)
      | ((with_reducible refine gate_store (t := 28) (p := 4) rfl ?_); obtain ⟨y0, y1, y2, y3⟩ := cs4 F4; have z0 := fz F4 0; have z1 := fz F4 1; have z2 := fz F4 2; have z3 := fz F4 3; refine sx (t := 28) (t' := 28) (p := 4) (v := ?vo204) ?hg ?ho ?hn 0 [.int .i64 ((rcM s).1.1), .string (rcM s).1.2.1, .int .i64 ((rcM s).1.2.2.1), .int .i64 ((rcM s).1.2.2.2)] [.int .i64 ((rcM s).1.1), .string (rcM s).1.2.1, .int .i64 ((rcM s).1.2.2.1), .int .i64 ((rcM s).1.2.2.2)] ?hr B F4 L4 rfl (Nat.le_of_ble_eq_true rfl) ?_; (case ho => rfl); (case hg => rfl); (case hn => rfl); (case hr => first | (go_simp; done) | (go_simp; rfl)); intro w204 hk B G; replace F4 := G; clear c4_0 c4_1 c4_2 c4_3; obtain ⟨c4_0, c4_1, c4_2, c4_3⟩ := cs4 F4; clear hk y0 z0 y1 z1 y2 z2 y3 z3)
      | (go_at_call 19; with_reducible refine cl (spec_ReadCommand.M s _ (by omega)) B fun w205 hb B => ?_; replace F4 := bn F4 hb; clear c4_0 c4_1 c4_2 c4_3; obtain ⟨c4_0, c4_1, c4_2, c4_3⟩ := cs4 F4; clear hb)
      | ((with_reducible refine gate_dst (N := 6) rfl ?_); refine bx ?hg (N := 6) ?hd (cs := #[.int .i64 (0), .string (⟨#[]⟩ : ByteArray), .int .i64 (0), .int .i64 (0)]) (t := 28) ?hr B ?_; (case hd => rfl); (case hg => rfl); (case hr => first | (go_simp; done) | (go_simp; rfl)); intro g6 w206 hb B F6 L6 E6; have N4_6 := ne1 E6 F4; replace F4 := bn F4 hb; clear c4_0 c4_1 c4_2 c4_3; obtain ⟨c4_0, c4_1, c4_2, c4_3⟩ := cs4 F4; obtain ⟨c6_0, c6_1, c6_2, c6_3⟩ := cs4 F6; clear hb E6)
      | ((with_reducible refine gate_store (t := 28) (p := 6) rfl ?_); obtain ⟨y0, y1, y2, y3⟩ := cs4 F6; have z0 := fz F6 0; have z1 := fz F6 1; have z2 := fz F6 2; have z3 := fz F6 3; refine sx (t := 28) (t' := 28) (p := 6) (v := ?vo207) ?hg ?ho ?hn 0 [.int .i64 ((rcM s).1.1), .string (rcM s).1.2.1, .int .i64 ((rcM s).1.2.2.1), .int .i64 ((rcM s).1.2.2.2)] [.int .i64 ((rcM s).1.1), .string (rcM s).1.2.1, .int .i64 ((rcM s).1.2.2.1), .int .i64 ((rcM s).1.2.2.2)] ?hr B F6 L6 rfl (Nat.le_of_ble_eq_true rfl) ?_; (case ho => rfl); (case hg => rfl); (case hn => rfl); (case hr => first | (go_simp; done) | (go_simp; rfl)); intro w207 hk B G; replace F4 := bk F4 hk N4_6.out; replace F6 := G; clear c4_0 c4_1 c4_2 c4_3; obtain ⟨c4_0, c4_1, c4_2, c4_3⟩ := cs4 F4; clear c6_0 c6_1 c6_2 c6_3; obtain ⟨c6_0, c6_1, c6_2, c6_3⟩ := cs4 F6; clear hk y0 z0 y1 z1 y2 z2 y3 z3)
      | (go_at_call 23; with_reducible refine cl (laws_alive.M _) B fun w208 hb B => ?_; clear hb))
    all_goals go_ret
    all_goals exact ⟨by simp_all, B.out⟩
def laws_FnReadCommand.f (k : Nat) (l : List Int) : Option Bool := if ∀ x ∈ l, (Lit.int .u8 x).wf = true then some true else none
theorem laws_FnReadCommand.calls (k : Nat) (A0 : Option Addr) (c0 : Nat) (l : List Int) (r : Bool) (w : World) (hr0 : Kd.C (Kd.int .u8) w A0 l.length l) (hc0 : l.length ≤ c0) (ht : TS w) (h : laws_FnReadCommand.f k l = some r) : Calls Tryd.prog 10 #[.slice A0 l.length c0] w fun e w' => e = .returned (.bool r) ∧ Below w.heap.size w w' := by
  unfold laws_FnReadCommand.f at h
  split at h
  · rename_i hc
    obtain rfl := Option.some.inj h
    exact laws_FnReadCommand.M A0 c0 l w hr0 hc0 ht hc
  · cases h

end Go.Proofs.YtnogoanlfmflcaaDoor.PFnReadCommand
