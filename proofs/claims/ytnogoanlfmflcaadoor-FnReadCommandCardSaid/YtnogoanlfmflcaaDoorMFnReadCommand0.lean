/- Walks over models, part 0: have repm numm rri wordm rci num7 rcm splitm rows l7w l7ww cof sreadc ireadc drany. -/
import Derived.Test.YtnogoanlfmflcaaDoorPFnReadCommandx0
import Derived.Deep.RegionHeld3
import Derived.Test.YtnogoanlfmflcaaDoorPFnReadCommandx71
import Derived.Lib.SplitLaws
import Derived.Test.YtnogoanlfmflcaaDoorShelfB
import Derived.Lib.AtoiTie
import Derived.Test.YtnogoanlfmflcaaDoorPFnReadCommandx25
import Derived.Test.YtnogoanlfmflcaaDoorShelfC
import Derived.Test.YtnogoanlfmflcaaDoorPFnReadCommandx65
import Derived.Test.YtnogoanlfmflcaaDoorPFnReadCommandx66
import Derived.Test.YtnogoanlfmflcaaDoorPFnReadCommandx64
import Derived.Test.YtnogoanlfmflcaaDoorPFnReadCommandx67
import Derived.Test.YtnogoanlfmflcaaDoorPFnReadCommandx68
import Derived.Test.YtnogoanlfmflcaaDoorPFnReadCommandx69
import Derived.Test.YtnogoanlfmflcaaDoorPFnReadCommandx70
import Derived.Test.YtnogoanlfmflcaaDoorPFnReadCommandx63
import Derived.Test.YtnogoanlfmflcaaDoorAFnReadCommand0
namespace Go.Proofs.YtnogoanlfmflcaaDoor.PFnReadCommand
open Go.RowKit Go.Proofs.YtnogoanlfmflcaaDoorW.PrintWords Go.Proofs.YtnogoanlfmflcaaDoorW.PrintLast Go.Proofs.YtnogoanlfmflcaaDoorW.PrintMore
set_option linter.unusedVariables false
set_option linter.unusedSimpArgs false
set_option maxHeartbeats 4000000
set_option maxRecDepth 100000
attribute [local go_sem] leq_str geq_str gtr_str

/-! The texts of replies. -/
def repM (n : Int) : ByteArray := if n = -1 then (⟨#[110, 111, 110, 101]⟩ : ByteArray) else if n = -2 then (⟨#[102, 117, 108, 108]⟩ : ByteArray) else if n = -3 then (⟨#[109, 111, 118, 101, 100]⟩ : ByteArray) else if n = -4 then (⟨#[115, 116, 97, 108, 101]⟩ : ByteArray) else if 0 ≤ n ∧ n ≤ 999 then txtM n else (⟨#[]⟩ : ByteArray)

/-! The numbers that texts spell. -/
def numM (s : ByteArray) : Int := match Lib.atoiAll s.data.toList with
  | .ok v => v
  | _ => -2
theorem dig_val : ∀ d : Fin 10, Lib.digitVal (UInt8.ofNat (48 + d.val)) = some d.val := by decide
theorem dig_nat (d : Nat) (h : d < 10) : Lib.digitVal (UInt8.ofNat (48 + d)) = some d := dig_val ⟨d, h⟩
theorem dig_sign : ∀ d : Fin 10, (UInt8.ofNat (48 + d.val) == 45) = false ∧ (UInt8.ofNat (48 + d.val) == 43) = false := by decide
theorem atoi_dec3 {u : Nat} (h : u < 1000) : Lib.atoi (dec3 u) = some (u : Int) := by
  unfold dec3
  by_cases h1 : u < 10
  · rw [if_pos h1]
    have hs := dig_sign ⟨u, h1⟩
    simp only at hs
    simp only [Lib.atoi, hs.1, hs.2, Lib.decNat, Lib.decFrom, List.isEmpty_cons, dig_nat u h1]
    simp
  · rw [if_neg h1]
    by_cases h2 : u < 100
    · rw [if_pos h2]
      have hs := dig_sign ⟨u / 10, by omega⟩
      simp only at hs
      simp only [Lib.atoi, hs.1, hs.2, Lib.decNat, Lib.decFrom, List.isEmpty_cons, dig_nat (u / 10) (by omega), dig_nat (u % 10) (by omega)]
      simp
      omega
    · rw [if_neg h2]
      have hs := dig_sign ⟨u / 10 / 10, by omega⟩
      simp only at hs
      simp only [Lib.atoi, hs.1, hs.2, Lib.decNat, Lib.decFrom, List.isEmpty_cons, dig_nat (u / 10 / 10) (by omega), dig_nat (u / 10 % 10) (by omega), dig_nat (u % 10) (by omega)]
      simp
      omega
theorem dec3_len (u : Nat) : (dec3 u).length ≤ 3 := by
  unfold dec3
  split
  · simp
  · split <;> simp
theorem numM_txt {n : Int} (h0 : -1 ≤ n) (h1 : n ≤ 999) : numM (txtM n) = n := by
  unfold txtM numM
  by_cases h : n < 0
  · obtain rfl : n = -1 := by omega
    decide +kernel
  · rw [if_neg h]
    show (match Lib.atoiAll (dec3 n.toNat) with | .ok v => v | _ => -2) = n
    rw [Lib.atoiAll_short _ (by have := dec3_len n.toNat; omega), atoi_dec3 (by omega)]
    show ((n.toNat : Nat) : Int) = n
    omega
/-- the variables of the errors hold errors -/
def TE (w : World) : Prop := TT w ∧ (∃ te pe, w.cell? ⟨1, 0, none⟩ = some (.iface te pe)) ∧ ∃ te pe, w.cell? ⟨2, 0, none⟩ = some (.iface te pe)
theorem cell_lt {w : World} {g o : Nat} {v : Value} (h : w.cell? ⟨g, o, none⟩ = some v) : g < w.heap.size := World.block_lt_of_cell? w _ h
theorem te_on {w W : World} (T : Aside0 (TE w)) (B : Aside0 (Below w.heap.size w W)) : TE W := by
  obtain ⟨h1, ⟨te, pe, h2⟩, te', pe', h3⟩ := T.out
  exact ⟨tt_on ⟨h1⟩ B, ⟨te, pe, (B.out.cell (cell_lt h2)).trans h2⟩, te', pe', (B.out.cell (cell_lt h3)).trans h3⟩
theorem te_tt {w W : World} (T : Aside0 (TE w)) (B : Aside0 (Below w.heap.size w W)) : TT W := (te_on T B).1
theorem impl_numberOf.M (s : ByteArray) (w W : World) (T : Aside0 (TE w)) (B : Aside0 (Below w.heap.size w W)) (hs : s.size ≤ 64) : Calls Tryd.prog 34 #[.string s] W fun e w' => e = .returned (.int .i64 (numM s)) ∧ Below W.heap.size W w' := by
  obtain ⟨_, ⟨te, pe, c1⟩, te', pe', c2⟩ := te_on T B
  obtain ⟨r, hr⟩ : ∃ r, numM s = r := ⟨_, rfl⟩
  rw [hr]
  unfold numM at hr
  rcases h : Lib.atoiAll s.data.toList with v | _ | _
  · rw [h] at hr
    replace hr : v = r := hr
    subst hr
    go_enter Tryd.func34, Tryd.ntmps34
    go_wp2_with (first | (go_at_call 46; refine (Tryd.strconv_Atoi_ok s (by omega) v h W).mono ?_; rintro e w1 ⟨rfl, hw⟩))
    go_ret
    refine ⟨rfl, ?_⟩
    rcases hw with rfl | ⟨t, rfl⟩
    · exact Below.refl _ _
    · exact Lib.bytesWorld_below _ _ _
  · rw [h] at hr
    replace hr : -2 = r := hr
    subst hr
    have hns : ∀ e, Lib.atoiAll s.data.toList = e → (∀ v, e ≠ .ok v) ∧ e ≠ .range := by
      intro e he
      rw [h] at he
      subst he
      exact ⟨fun v q => (by cases q), fun q => (by cases q)⟩
    go_enter Tryd.func34, Tryd.ntmps34
    go_wp2_with (first | (go_at_call 46; refine (Tryd.strconv_Atoi_syntax s (by omega) hns _ W c1 (Or.inr ⟨te, pe, rfl⟩)).mono ?_; rintro e w1 ⟨N, rfl, _, _, hw⟩))
    go_ret
    exact ⟨rfl, hw⟩
  · rw [h] at hr
    replace hr : -2 = r := hr
    subst hr
    go_enter Tryd.func34, Tryd.ntmps34
    go_wp2_with (first | (go_at_call 46; refine (Tryd.strconv_Atoi_range s (by omega) h _ W c2 (Or.inr ⟨te', pe', rfl⟩)).mono ?_; rintro e w1 ⟨N, rfl, _, _, hw⟩))
    go_ret
    exact ⟨rfl, hw⟩

/-! What a text of a reply is read as. -/
theorem repM_size (n : Int) : (repM n).size ≤ 5 := by
  unfold repM
  split
  · decide
  · split
    · decide
    · split
      · decide
      · split
        · decide
        · split
          · have := txtM_size n; omega
          · decide
theorem repM_num {n : Int} {s : ByteArray} (hs : s.toList ≠ ([] : List UInt8)) (h : repM n = s) : n = -1 ∨ n = -2 ∨ n = -3 ∨ n = -4 ∨ (0 ≤ n ∧ n ≤ 999 ∧ txtM n = s) := by
  unfold repM at h
  split at h
  · omega
  · split at h
    · omega
    · split at h
      · omega
      · split at h
        · omega
        · split at h
          · rename_i hn; exact .inr (.inr (.inr (.inr ⟨hn.1, hn.2, h⟩)))
          · subst h; exact absurd (by rw [ba_toList]) hs
def rrI (s : ByteArray) : Int × Bool :=
  if repM (-4) = s then (-4, true) else if repM (-3) = s then (-3, true) else if repM (-2) = s then (-2, true) else if repM (-1) = s then (-1, true)
  else if s.toList ≠ ([] : List UInt8) ∧ repM (numM s) = s then (numM s, true) else (0, false)
theorem rrI_long {s : ByteArray} (h : 64 < s.size) : rrI s = (0, false) := by
  have hn : ∀ n, ¬ repM n = s := fun n e => by have := repM_size n; rw [e] at this; omega
  unfold rrI
  rw [if_neg (hn _), if_neg (hn _), if_neg (hn _), if_neg (hn _), if_neg (fun k => hn _ k.2)]
theorem rep_words : (repM (-4)).toList = [115, 116, 97, 108, 101] ∧ (repM (-3)).toList = [109, 111, 118, 101, 100] ∧ (repM (-2)).toList = [102, 117, 108, 108] ∧ (repM (-1)).toList = [110, 111, 110, 101] := by
  refine ⟨?_, ?_, ?_, ?_⟩ <;> (rw [ba_toList]; rfl)

/-! The words of a line. -/
def sp : List UInt8 → List (List UInt8)
  | [] => [[]]
  | b :: r => if b = 32 then [] :: sp r else match sp r with
    | [] => [[b]]
    | h :: t => (b :: h) :: t
theorem sp_ne : ∀ l, sp l ≠ []
  | [] => by simp [sp]
  | b :: r => by
    unfold sp
    split
    · simp
    · split <;> simp
theorem sp_cons {b : UInt8} (hb : b ≠ 32) {r h : List UInt8} {t : List (List UInt8)} (e : sp r = h :: t) : sp (b :: r) = (b :: h) :: t := by
  rw [sp, if_neg hb, e]
theorem sp_one : ∀ a : List UInt8, (∀ b ∈ a, b ≠ 32) → sp a = [a]
  | [], _ => rfl
  | b :: r, h => sp_cons (h b (List.mem_cons_self ..)) (sp_one r fun x hx => h x (List.mem_cons_of_mem _ hx))
theorem sp_app : ∀ (a r : List UInt8), (∀ b ∈ a, b ≠ 32) → sp (a ++ 32 :: r) = a :: sp r
  | [], r, _ => by show sp (32 :: r) = _; rw [sp, if_pos rfl]
  | b :: a, r, h => sp_cons (h b (List.mem_cons_self ..)) (sp_app a r fun x hx => h x (List.mem_cons_of_mem _ hx))
theorem split_sp : ∀ s : List UInt8, Lib.splitK [32] 0 (Lib.count s [32]) s = sp s
  | [] => rfl
  | b :: r => by
    have ih := split_sp r
    by_cases hb : b = 32
    · subst hb
      rw [Lib.count_cons_eq, Nat.add_comm 1]
      have hi : Lib.index (32 :: r) [32] = 0 := by simp [Lib.index]
      rw [Lib.splitK, hi, sp, if_pos rfl]
      simp only [Int.reduceBEq, Bool.false_eq_true, if_false, Int.toNat_zero, Nat.zero_add, List.take_zero, List.length_cons, List.length_nil, List.drop_succ_cons, List.drop_zero]
      rw [ih]
    · rw [Lib.count_cons_ne b 32 r hb]
      cases hk : Lib.count r [32] with
      | zero =>
        rw [hk] at ih
        have e : sp r = [r] := ih.symm
        rw [sp_cons hb e]
        rfl
      | succ k =>
        rw [hk] at ih
        have hpos : Lib.index r [32] ≠ -1 := fun e => by rw [Lib.count_miss e] at hk; cases hk
        have hge := Lib.index_ge r [32]
        obtain ⟨i, hi⟩ : ∃ i : Nat, Lib.index r [32] = (i : Int) := ⟨(Lib.index r [32]).toNat, by omega⟩
        have hb1 : Lib.index (b :: r) [32] = ((i + 1 : Nat) : Int) := by
          simp [Lib.index, Ne.symm hb, hi]
        rw [Lib.splitK, hi] at ih
        rw [if_neg (by rw [beq_iff_eq]; omega)] at ih
        rw [Lib.splitK, hb1, if_neg (by rw [beq_iff_eq]; omega)]
        rw [sp_cons hb ih.symm]
        simp
def mkB (l : List UInt8) : ByteArray := ⟨l.toArray⟩
theorem mkB_data (s : ByteArray) : mkB s.data.toList = s := by cases s; rfl
def wordsM (s : ByteArray) : List ByteArray := (sp s.data.toList).map mkB
theorem splitB_words (s : ByteArray) : Lib.splitB (⟨#[32]⟩ : ByteArray) 0 (Lib.countB s (⟨#[32]⟩ : ByteArray)) s = wordsM s := by
  have h := Lib.splitB_data (⟨#[32]⟩ : ByteArray) 0 (Lib.countB s (⟨#[32]⟩ : ByteArray)) s
  have e : Lib.splitK (⟨#[32]⟩ : ByteArray).data.toList 0 (Lib.countB s (⟨#[32]⟩ : ByteArray)) s.data.toList = sp s.data.toList := split_sp s.data.toList
  rw [e] at h
  unfold wordsM
  rw [← h, List.map_map]
  exact (List.map_id'' (f := mkB ∘ fun x => x.data.toList) mkB_data _).symm
theorem words_len (s : ByteArray) : Lib.countB s (⟨#[32]⟩ : ByteArray) + 1 = (wordsM s).length := by
  rw [← splitB_words]
  exact (Lib.splitB_all _ (by decide) 0 _ s rfl).symm
theorem words_pos (s : ByteArray) : 0 < (wordsM s).length := by rw [← words_len]; omega

/-! What a line is read as. -/
def w_get : ByteArray := ⟨#[103, 101, 116]⟩
def w_put : ByteArray := ⟨#[112, 117, 116]⟩
def w_drop : ByteArray := ⟨#[100, 114, 111, 112]⟩
def w_swap : ByteArray := ⟨#[115, 119, 97, 112]⟩
def w_seal : ByteArray := ⟨#[115, 101, 97, 108]⟩
def elB (W : List ByteArray) (i : Int) : ByteArray := rdOf ByteArray.empty W i
def keyOf (W : List ByteArray) : ByteArray := if 1 < W.length then elB W 1 else (⟨#[]⟩ : ByteArray)
def cOf (W : List ByteArray) : Int × ByteArray × Int × Int :=
  if elB W 0 = w_get then (if W.length = 2 then (1, keyOf W, 0, 0) else (0, keyOf W, 0, 0))
  else if elB W 0 = w_put then (if W.length = 3 then (2, keyOf W, numM (elB W 2), 0) else (0, keyOf W, 0, 0))
  else if elB W 0 = w_drop then (if W.length = 2 then (3, keyOf W, 0, 0) else (0, keyOf W, 0, 0))
  else if elB W 0 = w_swap then (if W.length = 4 then (4, keyOf W, numM (elB W 3), numM (elB W 2)) else (0, keyOf W, 0, 0))
  else if elB W 0 = w_seal then (if W.length ≤ 2 then (5, keyOf W, 0, 0) else (0, keyOf W, 0, 0))
  else (0, keyOf W, 0, 0)
def rcZ : Int × ByteArray × Int × Int := (0, (⟨#[]⟩ : ByteArray), 0, 0)
def rcI (s : ByteArray) : (Int × ByteArray × Int × Int) × Bool :=
  if 64 < s.size then (rcZ, false)
  else if cmdB (cOf (wordsM s)).1 (cOf (wordsM s)).2.1 (cOf (wordsM s)).2.2.1 (cOf (wordsM s)).2.2.2 = true ∧ cmtM (cOf (wordsM s)).1 (cOf (wordsM s)).2.1 (cOf (wordsM s)).2.2.1 (cOf (wordsM s)).2.2.2 = s then (cOf (wordsM s), true) else (rcZ, false)
theorem key_no {x : ByteArray} (h : keyB x = true) : ∀ b ∈ x.data.toList, b ≠ 32 := by
  intro b hb e
  unfold keyB at h
  simp only [Bool.and_eq_true] at h
  have h2 := List.all_eq_true.mp h.2 (b.toNat : Int) (by unfold bytesOf; exact List.mem_map.mpr ⟨b, hb, rfl⟩)
  unfold lowB at h2
  simp only [Bool.and_eq_true, decide_eq_true_eq] at h2
  subst e
  have : (32 : UInt8).toNat = 32 := rfl
  omega
theorem dig_ne : ∀ d : Fin 10, UInt8.ofNat (48 + d.val) ≠ 32 := by decide
theorem txt_no (n : Int) (h0 : -1 ≤ n) (h1 : n ≤ 999) : ∀ b ∈ (txtM n).data.toList, b ≠ 32 := by
  intro b hb
  unfold txtM at hb
  split at hb
  · have hb' : b ∈ ([45, 49] : List UInt8) := hb
    simp only [List.mem_cons, List.not_mem_nil, or_false] at hb'
    rcases hb' with rfl | rfl <;> decide
  · have hb' : b ∈ dec3 n.toNat := hb
    unfold dec3 at hb'
    split at hb'
    · rename_i h
      simp only [List.mem_cons, List.not_mem_nil, or_false] at hb'
      subst hb'
      exact dig_ne ⟨n.toNat, h⟩
    · split at hb'
      · simp only [List.mem_cons, List.not_mem_nil, or_false] at hb'
        rcases hb' with rfl | rfl
        · exact dig_ne ⟨n.toNat / 10, by omega⟩
        · exact dig_ne ⟨n.toNat % 10, by omega⟩
      · simp only [List.mem_cons, List.not_mem_nil, or_false] at hb'
        rcases hb' with rfl | rfl | rfl
        · exact dig_ne ⟨n.toNat / 10 / 10, by omega⟩
        · exact dig_ne ⟨n.toNat / 10 % 10, by omega⟩
        · exact dig_ne ⟨n.toNat % 10, by omega⟩
theorem cmd_more {k v o : Int} {x : ByteArray} (h : cmdB k x v o = true) : (k ≠ 5 → keyB x = true) ∧ (k ≠ 2 ∧ k ≠ 4 → v = 0) ∧ (k ≠ 4 → o = 0) ∧ (k = 2 ∨ k = 4 → 0 ≤ v) ∧ (k = 5 → keyB x = true ∨ x.toList = ([] : List UInt8)) := by
  unfold cmdB at h
  rw [Bool.and_eq_true] at h
  obtain ⟨h1, h2⟩ := h
  simp only [Bool.or_eq_true, Bool.and_eq_true, decide_eq_true_eq] at h1
  refine ⟨fun k5 => ?_, ?_, ?_, ?_, fun k5 => ?_⟩
  · rcases h1 with h1 | h1
    · exact h1
    · exact absurd h1.1 k5
  · intro hk; rw [if_neg hk.1, if_neg hk.2] at h2; simp only [Bool.and_eq_true, decide_eq_true_eq] at h2; exact h2.2.1
  · intro hk
    by_cases k2 : k = 2
    · rw [if_pos k2] at h2; simp only [Bool.and_eq_true, decide_eq_true_eq] at h2; exact h2.2
    · rw [if_neg k2, if_neg hk] at h2; simp only [Bool.and_eq_true, decide_eq_true_eq] at h2; exact h2.2.2
  · intro hk
    by_cases k2 : k = 2
    · rw [if_pos k2] at h2; simp only [l1B, Bool.and_eq_true, decide_eq_true_eq] at h2; omega
    · rw [if_neg k2, if_pos (by omega)] at h2; simp only [l1B, Bool.and_eq_true, decide_eq_true_eq] at h2; omega
  · rcases h1 with h1 | h1
    · exact .inl h1
    · exact .inr h1.2
theorem w_one (a : List UInt8) (h : ∀ b ∈ a, b ≠ 32) : (sp a).map mkB = [mkB a] := by rw [sp_one a h]; rfl
/-- the words of a command's text -/
theorem words_cmt {k v o : Int} {x : ByteArray} (h : cmdB k x v o = true) :
    (k = 1 ∧ wordsM (cmtM k x v o) = [w_get, x]) ∨ (k = 2 ∧ wordsM (cmtM k x v o) = [w_put, x, txtM v]) ∨ (k = 3 ∧ wordsM (cmtM k x v o) = [w_drop, x]) ∨ (k = 4 ∧ wordsM (cmtM k x v o) = [w_swap, x, txtM o, txtM v]) ∨ (k = 5 ∧ x.toList ≠ ([] : List UInt8) ∧ wordsM (cmtM k x v o) = [w_seal, x]) ∨ (k = 5 ∧ x.toList = ([] : List UInt8) ∧ wordsM (cmtM k x v o) = [w_seal]) := by
  obtain ⟨hx, hk, hvv, hoo⟩ := cmd_cases h
  obtain ⟨m1, m2, m3, m4, m5⟩ := cmd_more h
  unfold wordsM cmtM
  rw [if_pos h]
  have hv := txt_no v hvv.1 hvv.2
  have ho := txt_no o hoo.1 hoo.2
  rcases hk with rfl | rfl | rfl | rfl | rfl
  · refine .inl ⟨rfl, ?_⟩
    have hkx := key_no (m1 (by decide))
    rw [if_pos rfl, show (((⟨#[103, 101, 116, 32]⟩ : ByteArray) ++ x).data.toList) = [103, 101, 116] ++ 32 :: x.data.toList by simp, sp_app _ _ (by decide), List.map_cons, w_one _ hkx, mkB_data]
    rfl
  · refine .inr (.inl ⟨rfl, ?_⟩)
    have hkx := key_no (m1 (by decide))
    rw [if_neg (by decide), if_pos rfl, show (((((⟨#[112, 117, 116, 32]⟩ : ByteArray) ++ x) ++ (⟨#[32]⟩ : ByteArray)) ++ txtM v).data.toList) = [112, 117, 116] ++ 32 :: (x.data.toList ++ 32 :: (txtM v).data.toList) by simp, sp_app _ _ (by decide), sp_app _ _ hkx, List.map_cons, List.map_cons, w_one _ hv, mkB_data, mkB_data]
    rfl
  · refine .inr (.inr (.inl ⟨rfl, ?_⟩))
    have hkx := key_no (m1 (by decide))
    rw [if_neg (by decide), if_neg (by decide), if_pos rfl, show (((⟨#[100, 114, 111, 112, 32]⟩ : ByteArray) ++ x).data.toList) = [100, 114, 111, 112] ++ 32 :: x.data.toList by simp, sp_app _ _ (by decide), List.map_cons, w_one _ hkx, mkB_data]
    rfl
  · refine .inr (.inr (.inr (.inl ⟨rfl, ?_⟩)))
    have hkx := key_no (m1 (by decide))
    rw [if_neg (by decide), if_neg (by decide), if_neg (by decide), if_pos rfl, show (((((((⟨#[115, 119, 97, 112, 32]⟩ : ByteArray) ++ x) ++ (⟨#[32]⟩ : ByteArray)) ++ txtM o) ++ (⟨#[32]⟩ : ByteArray)) ++ txtM v).data.toList) = [115, 119, 97, 112] ++ 32 :: (x.data.toList ++ 32 :: ((txtM o).data.toList ++ 32 :: (txtM v).data.toList)) by simp, sp_app _ _ (by decide), sp_app _ _ hkx, sp_app _ _ ho, List.map_cons, List.map_cons, List.map_cons, w_one _ hv, mkB_data, mkB_data, mkB_data]
    rfl
  · refine .inr (.inr (.inr (.inr ?_)))
    rw [if_neg (by decide), if_neg (by decide), if_neg (by decide), if_neg (by decide)]
    by_cases hz : x.toList = ([] : List UInt8)
    · exact .inr ⟨rfl, hz, by rw [if_pos hz]; rfl⟩
    · refine .inl ⟨rfl, hz, ?_⟩
      have hkx := key_no ((m5 rfl).resolve_right hz)
      rw [if_neg hz, show (((⟨#[115, 101, 97, 108, 32]⟩ : ByteArray) ++ x).data.toList) = [115, 101, 97, 108] ++ 32 :: x.data.toList by simp, sp_app _ _ (by decide), List.map_cons, w_one _ hkx, mkB_data]
      rfl
theorem empty_of {x : ByteArray} (h : x.toList = ([] : List UInt8)) : x = (⟨#[]⟩ : ByteArray) := ba_inj (by rw [h, ba_toList])
theorem cOf_ok {k v o : Int} {x : ByteArray} (h : cmdB k x v o = true) : cOf (wordsM (cmtM k x v o)) = (k, x, v, o) := by
  obtain ⟨hx, hk, hvv, hoo⟩ := cmd_cases h
  obtain ⟨m1, m2, m3, m4, m5⟩ := cmd_more h
  have nv := numM_txt hvv.1 hvv.2
  have no := numM_txt hoo.1 hoo.2
  rcases words_cmt h with ⟨rfl, e⟩ | ⟨rfl, e⟩ | ⟨rfl, e⟩ | ⟨rfl, e⟩ | ⟨rfl, hz, e⟩ | ⟨rfl, hz, e⟩
  all_goals rw [e]
  · rw [m2 (by decide), m3 (by decide)]; rfl
  · rw [m3 (by decide)]
    show (2, x, numM (txtM v), (0 : Int)) = _
    rw [nv]
  · rw [m2 (by decide), m3 (by decide)]; rfl
  · show (4, x, numM (txtM v), numM (txtM o)) = _
    rw [nv, no]
  · rw [m2 (by decide), m3 (by decide)]; rfl
  · rw [m2 (by decide), m3 (by decide), empty_of hz]; rfl
theorem cmt_size {k v o : Int} {x : ByteArray} (h : cmdB k x v o = true) : (cmtM k x v o).size ≤ 64 ∧ (cmtM k x v o).toList ≠ ([] : List UInt8) := by
  obtain ⟨hx, hk, -, -⟩ := cmd_cases h
  have h3v := txtM_size v
  have h3o := txtM_size o
  have key : ∀ a : ByteArray, 1 ≤ a.size → a.size ≤ 64 → a.size ≤ 64 ∧ a.toList ≠ ([] : List UInt8) := fun a h1 h2 => ⟨h2, fun e => by rw [nil_iff] at e; omega⟩
  have s0 : (⟨#[103, 101, 116, 32]⟩ : ByteArray).size = 4 ∧ (⟨#[112, 117, 116, 32]⟩ : ByteArray).size = 4 ∧ (⟨#[100, 114, 111, 112, 32]⟩ : ByteArray).size = 5 ∧ (⟨#[115, 119, 97, 112, 32]⟩ : ByteArray).size = 5 ∧ (⟨#[115, 101, 97, 108, 32]⟩ : ByteArray).size = 5 ∧ (⟨#[32]⟩ : ByteArray).size = 1 ∧ (⟨#[115, 101, 97, 108]⟩ : ByteArray).size = 4 := ⟨rfl, rfl, rfl, rfl, rfl, rfl, rfl⟩
  unfold cmtM
  rw [if_pos h]
  rcases hk with rfl | rfl | rfl | rfl | rfl
  · rw [if_pos rfl]; apply key <;> (simp only [ByteArray.size_append]; omega)
  · rw [if_neg (by decide), if_pos rfl]; apply key <;> (simp only [ByteArray.size_append]; omega)
  · rw [if_neg (by decide), if_neg (by decide), if_pos rfl]; apply key <;> (simp only [ByteArray.size_append]; omega)
  · rw [if_neg (by decide), if_neg (by decide), if_neg (by decide), if_pos rfl]; apply key <;> (simp only [ByteArray.size_append]; omega)
  · rw [if_neg (by decide), if_neg (by decide), if_neg (by decide), if_neg (by decide)]
    split
    · apply key <;> omega
    · apply key <;> (simp only [ByteArray.size_append]; omega)
theorem rcI_ok {k v o : Int} {x : ByteArray} (h : cmdB k x v o = true) : rcI (cmtM k x v o) = ((k, x, v, o), true) := by
  unfold rcI
  rw [if_neg (by have := (cmt_size h).1; omega), cOf_ok h, if_pos ⟨h, rfl⟩]
theorem rcI_back (s : ByteArray) : ((rcI s).2 = true → cmdB (rcI s).1.1 (rcI s).1.2.1 (rcI s).1.2.2.1 (rcI s).1.2.2.2 = true ∧ cmtM (rcI s).1.1 (rcI s).1.2.1 (rcI s).1.2.2.1 (rcI s).1.2.2.2 = s) ∧ ((rcI s).2 = false → (rcI s).1 = rcZ) := by
  unfold rcI
  split
  · exact ⟨fun k => (by cases k), fun _ => rfl⟩
  · split
    · rename_i h; exact ⟨fun _ => h, fun k => (by cases k)⟩
    · exact ⟨fun k => (by cases k), fun _ => rfl⟩

def num7 (s : ByteArray) : Int := (spec_l7Number.f 6 s).getD 0
theorem l7n_some (s : ByteArray) (hs : s.size ≤ 4) (d : Nat) : ∀ (j k : Nat) (a : Int), j + d = s.size → d + 1 ≤ k → ∃ m, spec_l7Number.l0 k s a (j : Int) = some m := by
  induction d with
  | zero =>
    intro j k a hj hk
    obtain ⟨k, rfl⟩ : ∃ i, k = i + 1 := ⟨k - 1, by omega⟩
    rw [spec_l7Number.l0, if_neg (by omega)]
    exact ⟨_, rfl⟩
  | succ d ih =>
    intro j k a hj hk
    obtain ⟨k, rfl⟩ : ∃ i, k = i + 1 := ⟨k - 1, by omega⟩
    rw [spec_l7Number.l0, if_pos (by omega), if_pos (by omega)]
    split
    · exact ⟨_, rfl⟩
    · split
      · exact ⟨_, rfl⟩
      · rw [w64 (x := (j : Int) + 1) (by omega) (by omega), show (j : Int) + 1 = ((j + 1 : Nat) : Int) by omega]
        exact ih (j + 1) k _ (by omega) (by omega)
theorem l7n (s : ByteArray) : spec_l7Number.f 6 s = some (num7 s) := by
  have h : ∃ m, spec_l7Number.f 6 s = some m := by
    unfold spec_l7Number.f
    have e : spec_l1In.f (s.size : Int) 1 4 = some (l1B (s.size : Int) 1 4) := by unfold spec_l1In.f l1B; first | rfl | (simp; grind)
    rw [e, Option.bind_some]
    split
    · rename_i hl
      simp only [l1B, Bool.and_eq_true, decide_eq_true_eq] at hl
      exact l7n_some s (by omega) s.size 0 6 0 (by omega) (by omega)
    · exact ⟨_, rfl⟩
  obtain ⟨m, h⟩ := h
  unfold num7
  rw [h]
  rfl
theorem num7_fin : ∀ n : Fin 1000, spec_l7Number.f 6 (txtM (n.val : Int)) = some (n.val : Int) := by decide +kernel
theorem num7_txt {n : Int} (h0 : 0 ≤ n) (h1 : n ≤ 999) : num7 (txtM n) = n := by
  have h := num7_fin ⟨n.toNat, by omega⟩
  have e : ((n.toNat : Nat) : Int) = n := by omega
  simp only [e] at h
  unfold num7
  rw [h]
  rfl
theorem spec_l7Number.M (s : ByteArray) (w : World) : Calls Tryd.prog 33 #[.string s] w fun e w' => e = .returned (.int .i64 (num7 s)) ∧ Below w.heap.size w w' :=
  (spec_l7Number.calls 6 s _ w (l7n s)).mono (fun _ _ h => ⟨h.1, h.2.below⟩)

def wsP (s : ByteArray) : List ByteArray := wordsM s ++ [(⟨#[]⟩ : ByteArray), (⟨#[]⟩ : ByteArray), (⟨#[]⟩ : ByteArray)]
def c7 (W : List ByteArray) : Int × ByteArray × Int × Int :=
  if elB W 0 = w_get then (1, elB W 1, 0, 0)
  else if elB W 0 = w_put then (2, elB W 1, num7 (elB W 2), 0)
  else if elB W 0 = w_drop then (3, elB W 1, 0, 0)
  else if elB W 0 = w_swap then (4, elB W 1, num7 (elB W 3), num7 (elB W 2))
  else if elB W 0 = w_seal then (5, elB W 1, 0, 0)
  else (0, elB W 1, 0, 0)
def rcM (s : ByteArray) : (Int × ByteArray × Int × Int) × Bool :=
  if s.toList ≠ ([] : List UInt8) ∧ cmtM (c7 (wsP s)).1 (c7 (wsP s)).2.1 (c7 (wsP s)).2.2.1 (c7 (wsP s)).2.2.2 = s then (c7 (wsP s), true) else (rcZ, false)
theorem num7_all {n : Int} (h0 : -1 ≤ n) (h1 : n ≤ 999) : num7 (txtM n) = n := by
  by_cases h : n < 0
  · obtain rfl : n = -1 := by omega
    decide +kernel
  · exact num7_txt (by omega) h1
theorem c7_ok {k v o : Int} {x : ByteArray} (h : cmdB k x v o = true) : c7 (wsP (cmtM k x v o)) = (k, x, v, o) := by
  obtain ⟨hx, hk, hvv, hoo⟩ := cmd_cases h
  obtain ⟨m1, m2, m3, m4, m5⟩ := cmd_more h
  have nv := num7_all hvv.1 hvv.2
  have no := num7_all hoo.1 hoo.2
  unfold wsP
  rcases words_cmt h with ⟨rfl, e⟩ | ⟨rfl, e⟩ | ⟨rfl, e⟩ | ⟨rfl, e⟩ | ⟨rfl, hz, e⟩ | ⟨rfl, hz, e⟩
  all_goals rw [e]
  · rw [m2 (by decide), m3 (by decide)]; rfl
  · rw [m3 (by decide)]
    show (2, x, num7 (txtM v), (0 : Int)) = _
    rw [nv]
  · rw [m2 (by decide), m3 (by decide)]; rfl
  · show (4, x, num7 (txtM v), num7 (txtM o)) = _
    rw [nv, no]
  · rw [m2 (by decide), m3 (by decide)]; rfl
  · rw [m2 (by decide), m3 (by decide), empty_of hz]; rfl
theorem cmt_none {k v o : Int} {x s : ByteArray} (h : ¬ cmdB k x v o = true) (hs : s.toList ≠ ([] : List UInt8)) : ¬ cmtM k x v o = s := by
  unfold cmtM
  rw [if_neg h]
  intro e
  exact hs (by rw [← e, ba_toList])
theorem rc_eq (s : ByteArray) : rcI s = rcM s := by
  unfold rcM
  split
  · rename_i h
    by_cases hv : cmdB (c7 (wsP s)).1 (c7 (wsP s)).2.1 (c7 (wsP s)).2.2.1 (c7 (wsP s)).2.2.2 = true
    · have := rcI_ok hv
      rw [h.2] at this
      rw [this]
    · exact absurd h.2 (cmt_none hv h.1)
  · rename_i h
    obtain ⟨h1, h2⟩ := rcI_back s
    cases hr : (rcI s).2 with
    | false => rw [← h2 hr, ← hr]
    | true =>
      obtain ⟨hv, he⟩ := h1 hr
      refine absurd ⟨?_, ?_⟩ h
      · rw [← he]; exact (cmt_size hv).2
      · have := c7_ok hv
        rw [he] at this
        rw [this]
        exact he

/-! A line cut into its words. -/
def TS (w : World) : Prop := TE w ∧ ∃ m, w.cell? ⟨3, 0, none⟩ = some (.int .i64 m)
theorem ts_on {w W : World} (T : Aside0 (TS w)) (B : Aside0 (Below w.heap.size w W)) : TS W := by
  obtain ⟨h1, m, h2⟩ := T.out
  exact ⟨te_on ⟨h1⟩ B, m, (B.out.cell (cell_lt h2)).trans h2⟩
theorem ts_te {w W : World} (T : Aside0 (TS w)) (B : Aside0 (Below w.heap.size w W)) : TE W := (ts_on T B).1
theorem ts_tt {w W : World} (T : Aside0 (TS w)) (B : Aside0 (Below w.heap.size w W)) : TT W := (ts_on T B).1.1
theorem lit_row (l : List ByteArray) (w : World) (hl : l.length ≤ 9223372036854775807) : Kd.C Kd.string (w.alloc (.cells (l.map Value.string).toArray 9)) (some ⟨w.heap.size, 0, none⟩) l.length l := by
  have hb : (w.alloc (.cells (l.map Value.string).toArray 9)).heap[w.heap.size]? = some (.cells (l.map Value.string).toArray 9 (0, 0)) := by
    show (w.heap.push _)[w.heap.size]? = _
    exact Array.getElem?_push_size
  refine ⟨rfl, hl, fun _ => ⟨_, rfl, fun j p hp => ⟨[.string p], rfl, rfl, fun i u hu => ?_⟩⟩⟩
  have hi : i = 0 := by cases i with
    | zero => rfl
    | succ i => simp at hu
  subst hi
  have hu' : u = .string p := by simpa using hu.symm
  subst hu'
  have e : (Addr.add ⟨w.heap.size, 0, none⟩ (j * 1 + 0)) = ⟨w.heap.size, j, none⟩ := by
    unfold Addr.add
    by_cases hj : j = 0
    · subst hj; rfl
    · rw [if_neg (by omega)]; simp
  show World.cell? _ (Addr.add ⟨w.heap.size, 0, none⟩ (j * 1 + 0)) = _
  rw [e, blk_cell hb]
  simp [hp]
theorem sp_small : ∀ (l h : List UInt8), h ∈ sp l → h.length ≤ l.length
  | [], h, hm => by simp [sp] at hm; subst hm; simp
  | b :: r, h, hm => by
    have ih := sp_small r
    have hn := sp_ne r
    by_cases hb : b = 32
    · subst hb
      rw [sp, if_pos rfl] at hm
      rcases List.mem_cons.mp hm with rfl | hm
      · simp
      · have := ih h hm; simp only [List.length_cons]; omega
    · cases e : sp r with
      | nil => exact absurd e hn
      | cons a t =>
        rw [sp_cons hb e] at hm
        rcases List.mem_cons.mp hm with rfl | hm
        · have := ih a (by rw [e]; exact List.mem_cons_self ..); simp only [List.length_cons]; omega
        · have := ih h (by rw [e]; exact List.mem_cons_of_mem _ hm); simp only [List.length_cons]; omega
theorem words_small {s : ByteArray} (hs : s.size ≤ 64) : ∀ x ∈ wordsM s, x.size ≤ 64 := by
  intro x hx
  unfold wordsM at hx
  obtain ⟨h, hm, rfl⟩ := List.mem_map.mp hx
  have := sp_small _ h hm
  rw [data_length] at this
  show h.toArray.size ≤ 64
  simp
  omega
theorem sp_len : ∀ l : List UInt8, (sp l).length ≤ l.length + 1
  | [] => by simp [sp]
  | b :: r => by
    have ih := sp_len r
    unfold sp
    split
    · simp only [List.length_cons]; omega
    · split <;> (rename_i e; rw [e] at ih; simp only [List.length_cons, List.length_nil] at ih ⊢; omega)
theorem words_le (s : ByteArray) : (wordsM s).length ≤ s.size + 1 := by
  unfold wordsM
  rw [List.length_map]
  have := sp_len s.data.toList
  rw [data_length] at this
  exact this
theorem strings_Split.M (s : ByteArray) (w W : World) (T : Aside0 (TS w)) (B : Aside0 (Below w.heap.size w W)) (hs : s.size ≤ 64) : Calls Tryd.prog 37 #[.string s, .string (⟨#[32]⟩ : ByteArray)] W fun e w' => ∃ ad cc, e = .returned (.slice (some ad) (wordsM s).length cc) ∧ Kd.C Kd.string w' (some ad) (wordsM s).length (wordsM s) ∧ Below W.heap.size W w' := by
  obtain ⟨_, m, hm⟩ := ts_on T B
  refine (Tryd.strings_Split s (⟨#[32]⟩ : ByteArray) m W (by omega) hm (by decide)).mono ?_
  rintro e w' ⟨rfl, rfl⟩
  rw [splitB_words, words_len]
  have hl := words_le s
  exact ⟨_, _, rfl, lit_row _ _ (by omega), below_alloc (Below.refl _ _) _⟩
theorem csp {P : Program} {F : FuncId} {args : Array Value} {w W : World} {Q : Ending → World → Prop} {l : List ByteArray} (c : Calls P F args W fun e w' => ∃ ad cc, e = .returned (.slice (some ad) l.length cc) ∧ Kd.C Kd.string w' (some ad) l.length l ∧ Below W.heap.size W w') (B : Aside0 (Below w.heap.size w W))
    (h : ∀ ad cc W', Below W.heap.size W W' → Aside0 (Below w.heap.size w W') → Aside0 (Kd.C Kd.string W' (some ad) l.length l) → Q (.returned (.slice (some ad) l.length cc)) W') : Calls P F args W Q :=
  c.mono (by rintro e W' ⟨ad, cc, rfl, hc, hb⟩; exact h ad cc W' hb ⟨below_step B.out hb⟩ ⟨hc⟩)

/-! Rows that are made and written. -/
section
variable {P : Program} {w W W' : World} {α β : Type} {d : Kd α} {e b : Nat} {xs : List α}
variable {ops ops' : Array Oper} {o : Oper} {rest : List Oper} {a : Act} {QE : Exit → Act → World → Prop}
theorem mkr (d : Kd α) (e : Nat) (hgd : o.guard = none) {N : Tmp} (hd : o.dst = some N) (t : TypeId) (x y : Operand) (ho : o.op = .makeSlice t x y) (n : Nat) (hx : a.eval x = .int .i64 (n : Int)) (hy : a.eval y = .int .i64 (n : Int))
    (ht : P.underlying t = some (.slice e)) (z : Value) (bytes : Nat) (hinfo : (P.info? e).map (fun i => (i.zero, i.size, i.bytes)) = some (some z, d.sz, bytes)) (hz : z.cells.size = d.sz) (hs0 : 0 < d.sz) (hb0 : 0 < bytes)
    (z0 : α) (hzero : d.M W W.heap.size (fun _ => True) z0 z.cells.toList) (hl : n * bytes ≤ 281474976710656) (B : Aside0 (Below w.heap.size w W))
    (h : ∀ A kk w1, Below W.heap.size W w1 → Aside0 (Below w.heap.size w w1) → Aside0 (Ow d e w1 w.heap.size (.slice A n kk) (List.replicate n z0)) → Aside0 (Fr W (.slice A n kk)) → wpList P ops QE rest (a.put o.dst (.slice A n kk)) w1) : wpList P ops QE (o :: rest) a W :=
  Kd.R_make d W.heap.size e hgd hd t x y ho n hx hy ht z bytes hinfo hz hs0 hb0 z0 hzero (fun _ h => h) trivial (Int.natCast_nonneg n) (by rwa [Int.toNat_natCast]) (Below.refl _ _) (Nat.le_refl _) fun v1 w1 hR hb hg hnew => by
    rw [Int.toNat_natCast] at hR
    obtain ⟨A, kk, hv⟩ := Kd.R_slice hR
    rw [List.length_replicate] at hv
    subst hv
    exact h A kk w1 hb ⟨below_step B.out hb⟩ ⟨Kd.R_lower hR (below_size B.out)⟩ ⟨fun k hk => Kd.R_base hR k hk⟩
theorem fr {v v' : Value} {β : Type} {d' : Kd β} {e' : Nat} {ys : List β} (q : Aside0 (Fr W v)) (R : Aside0 (Ow d' e' W b v' ys)) : Aside0 (∀ k, v.ownBlock = some k → v'.ownBlock = some k → False) := ⟨fun k h1 h2 => by
  have := q.out k h1
  have := Kd.R_lt R.out k h2
  omega⟩
/-- the form of a row that is not empty -/
theorem rform {A : Option Addr} {n c : Nat} (R : Aside0 (Ow d e W b (.slice A n c) xs)) (hp : 0 < xs.length) : ∃ g, A = some ⟨g, 0, none⟩ ∧ b ≤ g := by
  obtain ⟨g, cap, hv, hb, _⟩ := Kd.R_form R.out hp
  cases hv
  exact ⟨g, rfl, hb⟩
/-- the cells of an element -/
theorem rcells {g n c : Nat} (z : α) (R : Aside0 (Ow d e W b (.slice (some ⟨g, 0, none⟩) n c) xs)) (i : Nat) (hi : i < n) : ∃ cs, cs.length = d.sz ∧ d.M W b (fun k => True ∧ k ≠ g) (xs.getD i z) cs ∧ (∀ j u, cs[j]? = some u → W.cell? ⟨g, i * d.sz + j, none⟩ = some u) ∧ ∀ j, W.frozen? ⟨g, i * d.sz + j, none⟩ = false := by
  have := Kd.R_elem R.out z (i : Int) (Int.natCast_nonneg i) (by omega)
  rwa [Int.toNat_natCast] at this
theorem es {g n c : Nat} {t : TypeId} {p : Tmp} {v : Operand} (hgd : o.guard = none) (ho : o.op = .store t (.tmp p) v) (hN : o.dst = none) (i off : Nat) (seg : List Value) (x' : α) (hrun : (execOp a.eval o).run P W = .ok .skip (W.setCells g (i * d.sz + off) seg))
    (R : Aside0 (Ow d e W b (.slice (some ⟨g, 0, none⟩) n c) xs)) (hi : i < n) {cs : List Value} (hcl : cs.length = d.sz) (hcc : ∀ j u, cs[j]? = some u → W.cell? ⟨g, i * d.sz + j, none⟩ = some u) (hj : off + seg.length ≤ d.sz)
    (hM : d.M W b (fun _ => False) x' (cs.take off ++ seg ++ cs.drop (off + seg.length))) (B : Aside0 (Below w.heap.size w W)) (hb : w.heap.size ≤ g)
    (h : ∀ w', W.grownBy w' (some g) → Aside0 (Below w.heap.size w w') → Aside0 (Ow d e w' b (.slice (some ⟨g, 0, none⟩) n c) (xs.set i x')) → wpList P ops QE rest a w') : wpList P ops QE (o :: rest) a W :=
  store_event hgd ho hN hrun fun w' hw => by
    have hP := Kd.R_seg R.out (i : Int) (Int.natCast_nonneg i) (by omega) (c := cs) (seg := seg) (j := off) (x' := x') (okp := fun _ => False) hcl (by rw [Int.toNat_natCast]; exact hcc) hj hM (fun _ hk => hk.elim)
    rw [Int.toNat_natCast] at hP
    subst hw
    refine h _ hP.2 ⟨pw_below_grown B.out (some g) (below_size B.out) hP.2 (fun k hk => ?_)⟩ ⟨hP.1⟩
    cases hk
    exact hb
theorem bg {g : Nat} {ob : Obj} {row : Option Nat} (F : Aside0 (W.heap[g]? = some ob)) (hg : W.grownBy W' row) (hne : some g ≠ row) : Aside0 (W'.heap[g]? = some ob) := ⟨blk_grown F.out hg hne⟩
theorem fill_set {f : α → β} {z : β} {l : List α} {j : Nat} (h : j < l.length) : ((l.take j).map f ++ List.replicate (l.length - j) z).set j (f l[j]) = (l.take (j + 1)).map f ++ List.replicate (l.length - (j + 1)) z := by
  have h1 : ((l.take j).map f).length = j := by rw [List.length_map, List.length_take]; omega
  rw [List.set_append_right _ _ (by omega), h1, Nat.sub_self, show l.length - j = (l.length - (j + 1)) + 1 by omega, List.replicate_succ, List.set_cons_zero, List.take_succ_eq_append_getElem h, List.map_append, List.append_assoc]
  rfl
theorem fill_end {f : α → β} {z : β} {l : List α} {j : Nat} (h : ¬ j < l.length) : (l.take j).map f ++ List.replicate (l.length - j) z = l.map f := by
  rw [List.take_of_length_le (by omega), show l.length - j = 0 by omega]
  simp
end
section
variable {P : Program} {w W W' : World} {α β : Type} {d : Kd α} {e b : Nat} {xs : List α}
variable {ops ops' : Array Oper} {o : Oper} {rest : List Oper} {a : Act} {QE : Exit → Act → World → Prop}
/-- a literal of records -/
theorem lt (d : Kd α) (e : Nat) (hgd : o.guard = none) {N : Tmp} (hd : o.dst = some N) (xs : List α) (inner : List Value) (hrun : (execOp a.eval o).run P W = .ok (.value (.slice (some ⟨W.heap.size, 0, none⟩) xs.length xs.length)) (W.alloc (.cells inner.toArray e)))
    (hp : Reps (d.M W W.heap.size (fun _ => True)) d.sz xs inner) (hm : xs.length ≤ 9223372036854775807) (B : Aside0 (Below w.heap.size w W))
    (h : ∀ zs, xs = zs → ∀ A kk w1, Below W.heap.size W w1 → Aside0 (Below w.heap.size w w1) → Aside0 (Ow d e w1 w.heap.size (.slice A zs.length kk) zs) → Aside0 (Fr W (.slice A zs.length kk)) → wpList P ops QE rest (a.put o.dst (.slice A zs.length kk)) w1) : wpList P ops QE (o :: rest) a W :=
  Kd.R_lit d (w0 := W) W.heap.size e hgd hd hrun hp (fun _ h => h) trivial (Below.refl _ _) (Nat.le_refl _) hm fun v1 w1 hR hb hg hnew => by
    obtain ⟨A, kk, rfl⟩ := Kd.R_slice hR
    exact h xs rfl A kk w1 hb ⟨below_step B.out hb⟩ ⟨Kd.R_lower hR (below_size B.out)⟩ ⟨fun k hk => Kd.R_base hR k hk⟩
/-- a row is put behind a row of the walk's own -/
theorem apx (d : Kd α) (e : Nat) (hgd : o.guard = none) (s x : Operand) (t : TypeId) (z : Value) (bytes : Nat) (ho : o.op = .call { callee := .builtin .append, args := #[s, x], argTypes := #[t, t] })
    (ht : P.underlying t = some (.slice e)) (hinfo : (P.info? e).map (fun i => (i.zero, i.size, i.bytes)) = some (some z, d.sz, bytes)) (hz : z.cells.size = d.sz) (hs0 : 0 < d.sz) (hb0 : 0 < bytes)
    {v : Value} {ys : List α} {A : Option Addr} {m c : Nat} (hs : a.eval s = v) (hx : a.eval x = .slice A m c) (R : Aside0 (Ow d e W w.heap.size v xs)) (C : d.C W A m ys) (hKM : ∀ x cs, d.K W x cs → d.M W w.heap.size (fun _ => False) x cs)
    (hl : (xs.length + m) * bytes ≤ 140737488355328) (B : Aside0 (Below w.heap.size w W))
    (h : ∀ zs, xs ++ ys = zs → ∀ A' kk w1, W.grownBy w1 v.ownBlock → Aside0 (Below w.heap.size w w1) → Aside0 (Ow d e w1 w.heap.size (.slice A' zs.length kk) zs) → Aside0 ((Value.slice A' zs.length kk).ownBlock = v.ownBlock ∨ ∃ b, (Value.slice A' zs.length kk).ownBlock = some b ∧ W.heap.size ≤ b) → wpList P ops QE rest (a.put o.dst (.slice A' zs.length kk)) w1) : wpList P ops QE (o :: rest) a W :=
  Kd.R_append_rows d (w0 := w) w.heap.size hgd s x t e z bytes ho ht hinfo hz hs0 hb0 v xs ys A m c (fun _ => True) (fun _ => False) hs hx R.out C hKM (fun _ h => h.elim) (fun _ _ => trivial) B.out (below_size B.out) hl fun v1 w1 hR hb hg hat => by
    obtain ⟨A', kk, rfl⟩ := Kd.R_slice hR
    exact h _ rfl A' kk w1 hg ⟨hb⟩ ⟨hR⟩ ⟨hat⟩
/-- what lies elsewhere stays when a row grows -/
theorem bga {g t : Nat} {cs : Array Value} {v : Value} (F : Aside0 (W.heap[g]? = some (.cells cs t (0, 0)))) (hg : W.grownBy W' v.ownBlock) (R : Aside0 (Ow d e W b v xs)) (ht : e ≠ t) : Aside0 (W'.heap[g]? = some (.cells cs t (0, 0))) := ⟨blk_grown F.out hg (Kd.R_ne R.out F.out ht)⟩
theorem rga {d' : Kd β} {e' b' : Nat} {v v' : Value} {ys : List β} (R' : Aside0 (Ow d' e' W b' v' ys)) (hE : d'.E = []) (hg : W.grownBy W' v.ownBlock) (ne : ∀ k, v'.ownBlock = some k → v.ownBlock = some k → False) : Aside0 (Ow d' e' W' b' v' ys) :=
  ⟨Kd.R_mono (Kd.R_grown (Kd.R_tight hE R'.out) hg (fun k h1 h2 => ne k h1.symm h2.symm)) (fun _ _ => trivial)⟩
theorem dty {d' : Kd β} {e' b' : Nat} {v v' : Value} {ys : List β} (R : Aside0 (Ow d e W b v xs)) (R' : Aside0 (Ow d' e' W b' v' ys)) (h : e ≠ e') : ∀ k, v'.ownBlock = some k → v.ownBlock = some k → False := fun k h1 h2 => by
  obtain ⟨_, o1⟩ := Kd.R_own R.out
  obtain ⟨_, o2⟩ := Kd.R_own R'.out
  obtain ⟨c1, t1⟩ := own_typed o1 k h2
  obtain ⟨c2, t2⟩ := own_typed o2 k h1
  rw [t1] at t2
  cases t2
  exact h rfl
theorem nilC (d : Kd α) (W : World) : Kd.C d W none ([] : List α).length [] := ⟨rfl, by simp, fun h => absurd h (Nat.lt_irrefl 0)⟩
end

/-! The reference's words. -/
def glue (u : ByteArray) : List (List UInt8) → List ByteArray
  | [] => [u]
  | h :: t => (u ++ mkB h) :: t.map mkB
theorem glue_zero (l : List UInt8) : glue (⟨#[]⟩ : ByteArray) (sp l) = (sp l).map mkB := by
  have hn := sp_ne l
  cases h : sp l with
  | nil => exact absurd h hn
  | cons a t =>
    have e : (⟨#[]⟩ : ByteArray) ++ mkB a = mkB a := ByteArray.ext (by simp [mkB])
    simp [glue, e]
theorem mkB_cons (b : UInt8) (h : List UInt8) (u : ByteArray) : u ++ mkB (b :: h) = (u ++ mkB [b]) ++ mkB h := ByteArray.ext (by simp [mkB])
theorem glue_cons {b : UInt8} (hb : b ≠ 32) (u : ByteArray) (r : List UInt8) : glue u (sp (b :: r)) = glue (u ++ mkB [b]) (sp r) := by
  have hn := sp_ne r
  cases h : sp r with
  | nil => exact absurd h hn
  | cons a t => rw [sp_cons hb h]; simp only [glue]; rw [mkB_cons]
theorem mkB_nil : mkB [] = (⟨#[]⟩ : ByteArray) := rfl
theorem glue_sp (u : ByteArray) (r : List UInt8) : glue u (sp (32 :: r)) = u :: glue (⟨#[]⟩ : ByteArray) (sp r) := by
  rw [glue_zero, sp, if_pos rfl]
  have e : u ++ mkB [] = u := ByteArray.ext (by simp [mkB])
  simp [glue, e]
theorem bt_at' {s : ByteArray} {j : Nat} (h : j < s.size) : ∃ b, s.data.toList.drop j = b :: s.data.toList.drop (j + 1) ∧ bt s (j : Int) = (b.toNat : Int) ∧ s.extract j (j + 1) = mkB [b] ∧ (s[j]'h) = b := by
  have hl : j < s.data.toList.length := by rw [data_length]; exact h
  refine ⟨s.data.toList[j], List.drop_eq_getElem_cons hl, ?_, ?_, rfl⟩
  · have h2 : j < (bytesOf s).length := by rw [bytesOf_length]; exact h
    rw [← rd_bytesOf]
    have e : rd (bytesOf s) (j : Int) = (bytesOf s)[j] := by simp [rd, List.getD_eq_getElem?_getD, List.getElem?_eq_getElem h2]
    rw [e]
    simp [bytesOf]
  · apply ByteArray.ext
    apply Array.toList_inj.mp
    rw [ByteArray.data_extract, Array.toList_extract, List.extract_eq_take_drop, List.drop_eq_getElem_cons hl, show j + 1 - j = 1 by omega]
    rfl
theorem ess {P : Program} {w W : World} {α : Type} {d : Kd α} {e b : Nat} {xs : List α} {ops' : Array Oper} {o : Oper} {a : Act} {QE : Exit → Act → World → Prop} {Kc : Act → World → Prop} {g n c : Nat} (i off : Nat) (seg : List Value) (x' : α) (hw : Region.wanted o (yielded ops' a.tmps) = true) (hN : o.dst = none) (hrun : (execOp a.eval o).run P W = .ok .skip (W.setCells g (i * d.sz + off) seg))
    (R : Aside0 (Ow d e W b (.slice (some ⟨g, 0, none⟩) n c) xs)) (hi : i < n) {cs : List Value} (hcl : cs.length = d.sz) (hcc : ∀ j u, cs[j]? = some u → W.cell? ⟨g, i * d.sz + j, none⟩ = some u) (hj : off + seg.length ≤ d.sz)
    (hM : d.M W b (fun _ => False) x' (cs.take off ++ seg ++ cs.drop (off + seg.length))) (B : Aside0 (Below w.heap.size w W)) (hb : w.heap.size ≤ g)
    (h : ∀ w', Aside0 (Below w.heap.size w w') → Aside0 (Ow d e w' b (.slice (some ⟨g, 0, none⟩) n c) (xs.set i x')) → Kc (a.put none undef) w') : if Region.wanted o (yielded ops' a.tmps) = true then Oper.wp P o a W Kc QE else Kc (a.put none undef) W := by
  rw [if_pos hw]
  unfold Oper.wp
  rw [hrun]
  show Kc (a.put o.dst undef) _
  rw [hN]
  have hP := Kd.R_seg R.out (i : Int) (Int.natCast_nonneg i) (by omega) (c := cs) (seg := seg) (j := off) (x' := x') (okp := fun _ => False) hcl (by rw [Int.toNat_natCast]; exact hcc) hj hM (fun _ hk => hk.elim)
  rw [Int.toNat_natCast] at hP
  refine h _ ⟨pw_below_grown B.out (some g) (below_size B.out) hP.2 (fun k hk => ?_)⟩ ⟨hP.1⟩
  cases hk
  exact hb

def spec_l7Words.T7 : Bool × List (List Nat × List Nat) := (true, [([], []), ([], []), ([1], [1]), ([2], [2]), ([], []), ([], []), ([5], [5]), ([6], [6]), ([4, 7], [4, 7]), ([8], [8]), ([], []), ([], []), ([], []), ([12], [12]), ([10, 11, 13], [10, 11, 13]), ([9, 14], [9, 14]), ([0, 3, 0, 1, 2, 3, 4, 5, 6, 7, 8, 9, 10, 11, 12, 13, 14, 15], [0, 3]), ([16, 15, 0, 1, 2, 3, 4, 5, 6, 7, 8, 9, 10, 11, 12, 13, 14, 15], [15, 16])])
def spec_l7Words.B7 : List Nat := [0, 0, 2, 6, 0, 0, 32, 96, 240, 496, 0, 0, 0, 4096, 15360, 32752, 65535, 131071]
theorem spec_l7Words.tab7 : rtab .any (opsOf Tryd.f35 7) = spec_l7Words.T7 := by kernel_rfl
theorem spec_l7Words.bits7 : waitsOk spec_l7Words.T7.2 spec_l7Words.B7 = true := by kernel_rfl
theorem spec_l7Words.M (s : ByteArray) (w : World) (hs : s.size ≤ 1048576) : Calls Tryd.prog 35 #[.string s] w fun e w' => ∃ v0, e = .returned v0 ∧ Kd.R Kd.string 9 w' w.heap.size (fun _ => True) v0 (wordsM s) ∧ Below w.heap.size w w' := by
  have B := Aside0.mk (Below.refl w.heap.size w)
  go_enter Tryd.func35, Tryd.ntmps35
  go_wp2_with (first
    | ((with_reducible refine gate_dst (N := 5) rfl ?_); refine lt Kd.string 9 ?hg (N := 5) ?hd ([((⟨#[]⟩ : ByteArray))] : List ByteArray) [.string (⟨#[]⟩ : ByteArray)] ?hr (Reps.one (show Kd.M Kd.string _ _ _ (⟨#[]⟩ : ByteArray) [.string (⟨#[]⟩ : ByteArray)] from rfl) (Reps.none _ _)) (by simp) B ?_; (case hd => rfl); (case hg => rfl); (case hr => first | (go_simp; done) | (go_simp; rfl)); intro z5 hz5 AL5 kL5 w1 hb B RL5 QL5; clear hb QL5))
  have H := Aside0.mk (show ([] : List ByteArray) ++ glue (⟨#[]⟩ : ByteArray) (sp (s.data.toList.drop 0)) = wordsM s by rw [List.nil_append, List.drop_zero, glue_zero]; rfl)
  have Z5 := Aside0.mk hz5
  clear hz5
  go_loopg [3, 4] (s.size + 1) (fun kx v3 v4 wr => ∃ (j : Nat) (xs ys : List ByteArray) (u : ByteArray), v4 = .int .i64 (j : Int) ∧ j ≤ s.size ∧ s.size < j + kx ∧ xs.length ≤ j ∧ u.size ≤ j ∧ Aside0 (ys = xs ++ [u]) ∧ Aside0 (Below w.heap.size w wr) ∧ Aside0 (Ow Kd.string 9 wr w.heap.size v3 ys) ∧ Aside0 (xs ++ glue u (sp (s.data.toList.drop j)) = wordsM s))
  case atStart => exact ⟨0, [], z5, (⟨#[]⟩ : ByteArray), rfl, by omega, by omega, by simp, by show 0 ≤ 0; omega, ⟨Z5.out.symm⟩, B, RL5, H⟩
  case round =>
    clear H B RL5 Z5
    obtain ⟨j, xs, ys, u, rfl, hj, hk, hx, hu, YS, B, Rp3, H⟩ := hrel
    have hyl : ys.length = xs.length + 1 := by rw [YS.out]; simp
    by_cases hlt : j < s.size
    · obtain ⟨d, rfl⟩ : ∃ d, gk = d + 1 := ⟨gk - 1, by omega⟩
      obtain ⟨b, hd, hb, he, hsj⟩ := bt_at' (s := s) (j := j) hlt
      have HS := H.out
      rw [hd] at HS
      clear H hd
      have cj : decide ((j : Int) < (s.size : Int)) = true := decide_eq_true (by omega)
      have p6 := eq_true (show 0 ≤ (j : Int) by omega)
      have q6 := eq_true (show (j : Int) < (s.size : Int) by omega)
      have hx6 := bt_at s (j : Int)
      by_cases h32 : b = 32
      · have e32 : (((s[j]'hlt).toNat : Int) == 32) = true := by rw [hsj, h32]; rfl
        subst h32
        rw [glue_sp] at HS
        have HT := Aside0.mk HS
        clear HS hb he hsj
        obtain ⟨A3, k3, rfl⟩ := Kd.R_slice Rp3.out
        go_wp2_with (first
          | ((with_reducible refine gate_dst (N := 17) rfl ?_); refine lt Kd.string 9 ?hg (N := 17) ?hd ([((⟨#[]⟩ : ByteArray))] : List ByteArray) [.string (⟨#[]⟩ : ByteArray)] ?hr (Reps.one (show Kd.M Kd.string _ _ _ (⟨#[]⟩ : ByteArray) [.string (⟨#[]⟩ : ByteArray)] from rfl) (Reps.none _ _)) (by simp) B ?_; (case hd => rfl); (case hg => rfl); (case hr => first | (go_simp; done) | (go_simp; rfl)); intro z17 hz17 AL17 kL17 w101 hb B RL17 QL17; replace Rp3 := rn Rp3 hb; clear hb QL17)
          | ((with_reducible refine gate_builtin (b := .append) (xs := #[.tmp 16, .tmp 17]) rfl ?_); at_builtin; refine apx Kd.string 9 rfl (.tmp 16) (.tmp 17) 46 (.string (⟨#[]⟩ : ByteArray)) 16 rfl Tryd.underlying46 info9 rfl (by decide) (by omega) rfl rfl Rp3 (rc RL17) (fun _ _ h => h) (by rw [← hz17]; simp only [List.length_cons, List.length_nil]; omega) B ?_; intro z18 hz18 AL18 kL18 w102 hg B RL18 hat; clear hg hat))
        go_roundg d
        case measure => omega
        case rel => exact ⟨j + 1, ys, z18, (⟨#[]⟩ : ByteArray), congrArg (Value.int .i64) (Int.natCast_succ _).symm, by omega, by omega, by omega, by show 0 ≤ _; omega, ⟨by rw [← hz18, ← hz17]⟩, B, RL18, ⟨by rw [YS.out, List.append_assoc]; exact HT.out⟩⟩
      · have e32 : (((s[j]'hlt).toNat : Int) == 32) = false := by
          rw [hsj]
          exact beq_eq_false_iff_ne.mpr (fun e => h32 (UInt8.toNat_inj.mp (by show b.toNat = 32; omega)))
        rw [glue_cons h32] at HS
        have HT := Aside0.mk HS
        obtain ⟨j1, hj1⟩ : ∃ j1, j + 1 = j1 := ⟨_, rfl⟩
        obtain ⟨m, hm⟩ : ∃ m, xs.length = m := ⟨_, rfl⟩
        have WM := Aside0.mk (show (ys.length : Int) - 1 = (m : Int) by omega)
        have IM := Aside0.mk (w64 (x := (m : Int)) (by omega) (by omega))
        have WJ := Aside0.mk (show (j : Int) + 1 = (j1 : Int) by omega)
        have IJ := Aside0.mk (w64 (x := (j1 : Int)) (by omega) (by omega))
        have HLT : m < ys.length := by omega
        have j3 := eq_true (show (m : Int) < (ys.length : Int) by omega)
        have j4 := eq_true HLT
        have b1 := eq_true (show (j : Int) ≤ (j1 : Int) by omega)
        have b2 := eq_true (show (j1 : Int) ≤ (s.size : Int) by omega)
        have b3 := eq_true (show j ≤ j1 by omega)
        have b4 := eq_true (show j1 ≤ s.size by omega)
        have hze : (s.extract j j1).size = 1 := by rw [← hj1, he]; rfl
        have HE := Aside0.mk (show s.extract j j1 = mkB [b] by rw [← hj1, he])
        have HJ1 := Aside0.mk hj1
        have HM := Aside0.mk hm
        clear HS hb he hj1 hm h32 hsj
        obtain ⟨A3, k3, rfl⟩ := Kd.R_slice Rp3.out
        obtain ⟨g, hA, hg⟩ := rform Rp3 (by omega)
        subst hA
        have R := Rp3
        clear Rp3
        obtain ⟨cs, hcl, hMM, hcc, hfz⟩ := rcells (⟨#[]⟩ : ByteArray) R m HLT
        have hget : ys.getD m (⟨#[]⟩ : ByteArray) = u := by rw [YS.out, ← HM.out]; simp
        have HCELL := Aside0.mk (show wr.cell? ⟨g, m, none⟩ = some (.string u) by
          have hq : cs = [.string u] := by rw [hget] at hMM; exact hMM
          have := hcc 0 (.string u) (by rw [hq]; rfl)
          rwa [show m * Kd.sz Kd.string + 0 = m by show m * 1 + 0 = m; omega] at this)
        clear hcl hMM hcc hfz hget cs hyl
        go_wp2
        refine rg (n := 18) (S := fun W => W.cell? ⟨g, m, none⟩ = some (.string u)) (ds := [17]) #[false, false, false, false, false, false, false, false, false, false, false, false, false, false, false, false, false, false] (by kernel_rfl) rfl rfl HCELL.out id B (fun w300 hb B hHeld => ?_)
        refine with_tabW spec_l7Words.tab7 spec_l7Words.bits7 (fun HT_ HW_ => ?_)
        replace R := rn R hb
        clear hb
        refine pu (i := 0) (N := some 19) (v := ?_) #[true, false, false, false, false, false, false, false, false, false, false, false, false, false, false, false, false, false] rfl rfl (any_of HT_.out (by kernel_rfl)) (fun _ _ _ h => h) (by kernel_rfl) ?_ ?_; rotate_left; (intro w'; go_simp; with_reducible rfl)
        refine pu (i := 1) (N := some 20) (v := ?_) #[true, true, false, false, false, false, false, false, false, false, false, false, false, false, false, false, false, false] rfl rfl (any_of HT_.out (by kernel_rfl)) (fun _ _ _ h => h) (by kernel_rfl) ?_ ?_; rotate_left; (intro w'; go_simp; with_reducible rfl)
        refine pu (i := 2) (N := some 21) (v := ?_) #[true, true, true, false, false, false, false, false, false, false, false, false, false, false, false, false, false, false] rfl rfl (any_of HT_.out (by kernel_rfl)) (fun _ _ _ h => h) (by kernel_rfl) ?_ ?_; rotate_left; (intro w'; go_simp; with_reducible rfl)
        refine pu (i := 3) (N := some 22) (v := .int .i64 (m : Int)) #[true, true, true, true, false, false, false, false, false, false, false, false, false, false, false, false, false, false] rfl rfl (any_of HT_.out (by kernel_rfl)) (fun _ _ _ h => h) (by kernel_rfl) ?_ ?_; (intro w'; go_simp; rw [WM.out]; exact (i64_w _).trans IM.out)
        refine pu (i := 4) (N := some 23) (v := ?_) #[true, true, true, true, true, false, false, false, false, false, false, false, false, false, false, false, false, false] rfl rfl (any_of HT_.out (by kernel_rfl)) (fun _ _ _ h => h) (by kernel_rfl) ?_ ?_; rotate_left; (intro w'; go_simp; with_reducible rfl)
        refine pu (i := 5) (N := some 24) (v := ?_) #[true, true, true, true, true, true, false, false, false, false, false, false, false, false, false, false, false, false] rfl rfl (any_of HT_.out (by kernel_rfl)) (fun _ _ _ h => h) (by kernel_rfl) ?_ ?_; rotate_left; (intro w'; go_simp; with_reducible rfl)
        refine pu (i := 6) (N := some 25) (v := ?_) #[true, true, true, true, true, true, true, false, false, false, false, false, false, false, false, false, false, false] rfl rfl (any_of HT_.out (by kernel_rfl)) (fun _ _ _ h => h) (by kernel_rfl) ?_ ?_; rotate_left; (intro w'; go_simp; with_reducible rfl)
        refine pu (i := 7) (N := some 26) (v := .int .i64 (m : Int)) #[true, true, true, true, true, true, true, true, false, false, false, false, false, false, false, false, false, false] rfl rfl (any_of HT_.out (by kernel_rfl)) (fun _ _ _ h => h) (by kernel_rfl) ?_ ?_; (intro w'; go_simp; rw [WM.out]; exact (i64_w _).trans IM.out)
        refine pu (i := 8) (N := some 27) (v := ?_) #[true, true, true, true, true, true, true, true, true, false, false, false, false, false, false, false, false, false] rfl rfl (any_of HT_.out (by kernel_rfl)) (fun _ _ _ h => h) (by kernel_rfl) ?_ ?_; rotate_left; (intro w'; go_simp; with_reducible rfl)
        refine ta (i := 9) (N := some 28) (v := .string u) #[true, true, true, true, true, true, true, true, true, true, false, false, false, false, false, false, false, false] rfl rfl (take_ofW HT_.out HW_.out (by kernel_rfl)) (fun _ _ _ h => h) (by kernel_rfl) hHeld ?_ ?_; (intro w' hS; go_simp; try rfl)
        refine pu (i := 10) (N := some 29) (v := ?_) #[true, true, true, true, true, true, true, true, true, true, true, false, false, false, false, false, false, false] rfl rfl (any_of HT_.out (by kernel_rfl)) (fun _ _ _ h => h) (by kernel_rfl) ?_ ?_; rotate_left; (intro w'; go_simp; with_reducible rfl)
        refine pu (i := 11) (N := some 30) (v := ?_) #[true, true, true, true, true, true, true, true, true, true, true, true, false, false, false, false, false, false] rfl rfl (any_of HT_.out (by kernel_rfl)) (fun _ _ _ h => h) (by kernel_rfl) ?_ ?_; rotate_left; (intro w'; go_simp; with_reducible rfl)
        refine pu (i := 12) (N := some 31) (v := ?_) #[true, true, true, true, true, true, true, true, true, true, true, true, true, false, false, false, false, false] rfl rfl (any_of HT_.out (by kernel_rfl)) (fun _ _ _ h => h) (by kernel_rfl) ?_ ?_; rotate_left; (intro w'; go_simp; with_reducible rfl)
        refine pu (i := 13) (N := some 32) (v := .int .i64 (j1 : Int)) #[true, true, true, true, true, true, true, true, true, true, true, true, true, true, false, false, false, false] rfl rfl (any_of HT_.out (by kernel_rfl)) (fun _ _ _ h => h) (by kernel_rfl) ?_ ?_; (intro w'; go_simp; rw [WJ.out]; exact (i64_w _).trans IJ.out)
        refine pu (i := 14) (N := some 33) (v := .string (s.extract j j1)) #[true, true, true, true, true, true, true, true, true, true, true, true, true, true, true, false, false, false] rfl rfl (any_of HT_.out (by kernel_rfl)) (fun _ _ _ h => h) (by kernel_rfl) ?_ ?_; (intro w'; go_simp; try rfl)
        refine pu (i := 15) (N := some 34) (v := .string (u ++ s.extract j j1)) #[true, true, true, true, true, true, true, true, true, true, true, true, true, true, true, true, false, false] rfl rfl (any_of HT_.out (by kernel_rfl)) (fun _ _ _ h => h) (by kernel_rfl) ?_ ?_; (intro w'; go_simp; first | omega | rfl | (simp only [ByteArray.size_append, ByteArray.size_extract] at *; omega))
        refine pu (i := 16) (N := some 35) (v := ?_) #[true, true, true, true, true, true, true, true, true, true, true, true, true, true, true, true, true, false] rfl rfl (any_of HT_.out (by kernel_rfl)) (fun _ _ _ h => h) (by kernel_rfl) ?_ ?_; rotate_left; (intro w'; go_simp; with_reducible rfl)
        refine norm_ (a' := ?_) ?_ ?_
        rotate_left
        · simp only [Act.put, List.setIfInBounds_toArray, List.set_cons_zero, List.set_cons_succ, i64_w, i32_w]
          rfl
        refine last_ (i := 17) (N := none) #[true, true, true, true, true, true, true, true, true, true, true, true, true, true, true, true, true, true] rfl rfl (one_of HT_.out (by kernel_rfl)) (by decide) (fun K hK => ?_)
        obtain ⟨cs, hcl, hMM, hcc, hfz⟩ := rcells (⟨#[]⟩ : ByteArray) R m HLT
        have hfz0 := hfz 0
        have hc0 : w300.cell? ⟨g, m, none⟩ = some (.string u) := hHeld
        simp only [show Kd.sz Kd.string = 1 from rfl, Nat.mul_one, Nat.add_zero] at hfz0
        have hcl1 : cs.length = 1 := hcl
        refine ess m 0 [.string (u ++ s.extract j j1)] (u ++ s.extract j j1) (by rfl) rfl ?hr R HLT hcl hcc (Nat.le_refl 1) ?hM B hg (fun w301 B R => ?_)
        (case hM => rw [List.take_zero, List.drop_of_length_le (by rw [hcl1]; exact Nat.le_refl 1)]; rfl)
        (case hr => (try simp only [show Kd.sz Kd.string = 1 from rfl, Nat.mul_one, Nat.add_zero]); first | (go_simp; done) | (go_simp; rfl))
        refine hK.out _ _ ?_
        clear hK K hHeld hc0 hfz0
        refine done_ (done_of HT_.out (by kernel_rfl)) ?_
        go_wp2
        go_roundg d
        case measure => omega
        case rel => exact ⟨j + 1, xs, ys.set m (u ++ s.extract j j1), u ++ s.extract j j1, congrArg (Value.int .i64) (Int.natCast_succ _).symm, by omega, by omega, by omega, by rw [ByteArray.size_append, hze]; omega, ⟨by rw [YS.out, ← HM.out]; simp⟩, B, R, ⟨by rw [HE.out]; exact HT.out⟩⟩
    · have cj : decide ((j : Int) < (s.size : Int)) = false := decide_eq_false (by omega)
      have hr := H.out
      rw [List.drop_of_length_le (by rw [data_length]; omega)] at hr
      have e : xs ++ glue u (sp []) = ys := by rw [YS.out]; have e1 : u ++ mkB [] = u := ByteArray.ext (by simp [mkB]); simp [sp, glue, e1]
      rw [e] at hr
      have HR_ := Aside0.mk hr
      clear hr e H
      go_wp2
      go_ret
      exact ⟨_, rfl, HR_.out ▸ Rp3.out, B.out⟩

theorem strat0 {w W : World} {ad : Addr} {n : Nat} {l : List ByteArray} (HR : Aside0 (Kd.C Kd.string w (some ad) n l)) (B : Aside0 (Below w.heap.size w W)) (hi : 0 < n) : W.cell? ad = some (.string (elB l 0)) := by
  have := Kd.foot_string (cb HR B) 0 (by omega) (by omega)
  rw [show (0 : Int).toNat = 0 from rfl, Addr.add, if_pos rfl] at this
  exact this
theorem strat {w W : World} {ad : Addr} {n : Nat} {l : List ByteArray} (HR : Aside0 (Kd.C Kd.string w (some ad) n l)) (B : Aside0 (Below w.heap.size w W)) (i : Nat) (h0 : 0 < i) (hi : i < n) : W.cell? { block := ad.block, off := ad.off + i } = some (.string (elB l (i : Int))) := by
  have := Kd.foot_string (cb HR B) (i : Int) (Int.natCast_nonneg _) (by omega)
  rw [Int.toNat_natCast, Addr.add, if_neg (by omega)] at this
  exact this
theorem impl_commandOf.M (A0 : Option Addr) (c0 : Nat) (W : List ByteArray) (w : World) (ht : TE w) (hr0 : Kd.C Kd.string w A0 W.length W) (hp : 0 < W.length) (hz : ∀ s ∈ W, s.size ≤ 64) : Calls Tryd.prog 36 #[.slice A0 W.length c0] w fun e w' => e = .returned (.agg #[.int .i64 (cOf W).1, .string (cOf W).2.1, .int .i64 (cOf W).2.2.1, .int .i64 (cOf W).2.2.2]) ∧ Below w.heap.size w w' := by
  have B := Aside0.mk (Below.refl w.heap.size w)
  have hu := Tryd.underlying28
  have HT := Aside0.mk ht
  have HR0 := Aside0.mk hr0
  clear ht hr0
  obtain ⟨r, hr⟩ : ∃ r, cOf W = r := ⟨_, rfl⟩
  rw [hr]
  obtain ⟨ad, hA, -⟩ := Kd.at_string HR0.out 0 (by omega) (by omega)
  subst hA
  have hn62 := HR0.out.2.1
  have zs : ∀ i : Nat, i < W.length → (elB W (i : Int)).size ≤ 64 := fun i hi => hz _ (by unfold elB rdOf; rw [Int.toNat_natCast, List.getD_eq_getElem?_getD, List.getElem?_eq_getElem hi]; exact List.getElem_mem hi)
  by_cases h0 : elB W 0 = w_get
  · have hw : (elB W 0).toList = [103, 101, 116] := by rw [h0, ba_toList]; rfl
    by_cases hn : W.length = 2
    · skip
      have d1 : decide (1 < (W.length : Int)) = true := decide_eq_true (by omega)
      have e2 : ((W.length : Int) == 2) = true := by rw [hn]; rfl
      have hM : r = (1, elB W 1, 0, 0) := by rw [← hr]; unfold cOf keyOf; rw [if_pos h0, if_pos hn, if_pos (by omega)]
      clear hr h0
      have q0 := strat0 HR0 B (by omega)
      have q1 := strat HR0 B 1 (by decide) (by omega)
      go_enter Tryd.func36, Tryd.ntmps36
      go_wp2_with (first
        | ((with_reducible refine gate_dst (N := 2) rfl ?_); refine bx ?hg (N := 2) ?hd (cs := #[.int .i64 (0), .string (⟨#[]⟩ : ByteArray), .int .i64 (0), .int .i64 (0)]) (t := 28) ?hr B ?_; (case hd => rfl); (case hg => rfl); (case hr => first | (go_simp; done) | (go_simp; rfl)); intro g2 w101 hb B F2 L2 E2; ((try clear q0); (try clear q1); (try clear q2); (try clear q3); have q0 := strat0 HR0 B (by omega); have q1 := strat HR0 B 1 (by decide) (by omega)); clear hb E2)
        | ((with_reducible refine gate_dst (N := 3) rfl ?_); refine bx ?hg (N := 3) ?hd (cs := #[.int .i64 (0), .string (⟨#[]⟩ : ByteArray), .int .i64 (0), .int .i64 (0)]) (t := 28) ?hr B ?_; (case hd => rfl); (case hg => rfl); (case hr => first | (go_simp; done) | (go_simp; rfl)); intro g3 w102 hb B F3 L3 E3; have N2_3 := ne1 E3 F2; replace F2 := bn F2 hb; obtain ⟨c3_0, c3_1, c3_2, c3_3⟩ := cs4 F3; ((try clear q0); (try clear q1); (try clear q2); (try clear q3); have q0 := strat0 HR0 B (by omega); have q1 := strat HR0 B 1 (by decide) (by omega)); clear hb E3)
        | ((with_reducible refine gate_store (t := 9) (p := 10) rfl ?_); obtain ⟨y0, y1, y2, y3⟩ := cs4 F3; have z0 := fz F3 0; have z1 := fz F3 1; have z2 := fz F3 2; have z3 := fz F3 3; refine sx (t := 28) (t' := 9) (p := 10) (v := ?vo103) ?hg ?ho ?hn 1 [.string (elB W 1)] [.int .i64 (0), .string (elB W 1), .int .i64 (0), .int .i64 (0)] ?hr B F3 L3 rfl (Nat.le_of_ble_eq_true rfl) ?_; (case ho => rfl); (case hg => rfl); (case hn => rfl); (case hr => first | (go_simp; done) | (go_simp; rfl)); intro w103 hk B G; replace F2 := bk F2 hk N2_3.out; replace F3 := G; clear c3_0 c3_1 c3_2 c3_3; obtain ⟨c3_0, c3_1, c3_2, c3_3⟩ := cs4 F3; ((try clear q0); (try clear q1); (try clear q2); (try clear q3); have q0 := strat0 HR0 B (by omega); have q1 := strat HR0 B 1 (by decide) (by omega)); clear hk y0 z0 y1 z1 y2 z2 y3 z3)
        | ((with_reducible refine gate_store (t := 3) (p := 21) rfl ?_); obtain ⟨y0, y1, y2, y3⟩ := cs4 F3; have z0 := fz F3 0; have z1 := fz F3 1; have z2 := fz F3 2; have z3 := fz F3 3; refine sx (t := 28) (t' := 3) (p := 21) (v := ?vo104) ?hg ?ho ?hn 0 [.int .i64 (1)] [.int .i64 (1), .string (elB W 1), .int .i64 (0), .int .i64 (0)] ?hr B F3 L3 rfl (Nat.le_of_ble_eq_true rfl) ?_; (case ho => rfl); (case hg => rfl); (case hn => rfl); (case hr => first | (go_simp; done) | (go_simp; rfl)); intro w104 hk B G; replace F2 := bk F2 hk N2_3.out; replace F3 := G; clear c3_0 c3_1 c3_2 c3_3; obtain ⟨c3_0, c3_1, c3_2, c3_3⟩ := cs4 F3; ((try clear q0); (try clear q1); (try clear q2); (try clear q3); have q0 := strat0 HR0 B (by omega); have q1 := strat HR0 B 1 (by decide) (by omega)); clear hk y0 z0 y1 z1 y2 z2 y3 z3)
        | ((with_reducible refine gate_store (t := 28) (p := 2) rfl ?_); obtain ⟨y0, y1, y2, y3⟩ := cs4 F2; have z0 := fz F2 0; have z1 := fz F2 1; have z2 := fz F2 2; have z3 := fz F2 3; refine sx (t := 28) (t' := 28) (p := 2) (v := ?vo105) ?hg ?ho ?hn 0 [.int .i64 (1), .string (elB W 1), .int .i64 (0), .int .i64 (0)] [.int .i64 (1), .string (elB W 1), .int .i64 (0), .int .i64 (0)] ?hr B F2 L2 rfl (Nat.le_of_ble_eq_true rfl) ?_; (case ho => rfl); (case hg => rfl); (case hn => rfl); (case hr => first | (go_simp; done) | (go_simp; rfl)); intro w105 hk B G; replace F3 := bk F3 hk N2_3.out.symm; replace F2 := G; clear hk y0 z0 y1 z1 y2 z2 y3 z3))
      refine bodyPost_ret (results_single rfl (.cell g2 28 _ (0, 0) _ rfl F2.out hu rfl (by kernel_rfl) .nil)) rfl ?_
      subst hM
      exact ⟨rfl, B.out⟩
    · by_cases hn1 : W.length = 1
      · skip
        have d1 : decide (1 < (W.length : Int)) = false := decide_eq_false (by omega)
        have e2 : ((W.length : Int) == 2) = false := by exact beq_eq_false_iff_ne.mpr (by omega)
        have hM : r = (0, (⟨#[]⟩ : ByteArray), 0, 0) := by rw [← hr]; unfold cOf keyOf; rw [if_pos h0, if_neg hn, if_neg (by omega)]
        clear hr h0
        have q0 := strat0 HR0 B (by omega)
        go_enter Tryd.func36, Tryd.ntmps36
        go_wp2_with (first
          | ((with_reducible refine gate_dst (N := 2) rfl ?_); refine bx ?hg (N := 2) ?hd (cs := #[.int .i64 (0), .string (⟨#[]⟩ : ByteArray), .int .i64 (0), .int .i64 (0)]) (t := 28) ?hr B ?_; (case hd => rfl); (case hg => rfl); (case hr => first | (go_simp; done) | (go_simp; rfl)); intro g2 w201 hb B F2 L2 E2; ((try clear q0); (try clear q1); (try clear q2); (try clear q3); have q0 := strat0 HR0 B (by omega)); clear hb E2)
          | ((with_reducible refine gate_dst (N := 3) rfl ?_); refine bx ?hg (N := 3) ?hd (cs := #[.int .i64 (0), .string (⟨#[]⟩ : ByteArray), .int .i64 (0), .int .i64 (0)]) (t := 28) ?hr B ?_; (case hd => rfl); (case hg => rfl); (case hr => first | (go_simp; done) | (go_simp; rfl)); intro g3 w202 hb B F3 L3 E3; have N2_3 := ne1 E3 F2; replace F2 := bn F2 hb; obtain ⟨c3_0, c3_1, c3_2, c3_3⟩ := cs4 F3; ((try clear q0); (try clear q1); (try clear q2); (try clear q3); have q0 := strat0 HR0 B (by omega)); clear hb E3)
          | ((with_reducible refine gate_store (t := 28) (p := 2) rfl ?_); obtain ⟨y0, y1, y2, y3⟩ := cs4 F2; have z0 := fz F2 0; have z1 := fz F2 1; have z2 := fz F2 2; have z3 := fz F2 3; refine sx (t := 28) (t' := 28) (p := 2) (v := ?vo203) ?hg ?ho ?hn 0 [.int .i64 (0), .string (⟨#[]⟩ : ByteArray), .int .i64 (0), .int .i64 (0)] [.int .i64 (0), .string (⟨#[]⟩ : ByteArray), .int .i64 (0), .int .i64 (0)] ?hr B F2 L2 rfl (Nat.le_of_ble_eq_true rfl) ?_; (case ho => rfl); (case hg => rfl); (case hn => rfl); (case hr => first | (go_simp; done) | (go_simp; rfl)); intro w203 hk B G; replace F3 := bk F3 hk N2_3.out.symm; replace F2 := G; clear hk y0 z0 y1 z1 y2 z2 y3 z3))
        refine bodyPost_ret (results_single rfl (.cell g2 28 _ (0, 0) _ rfl F2.out hu rfl (by kernel_rfl) .nil)) rfl ?_
        subst hM
        exact ⟨rfl, B.out⟩
      · skip
        have d1 : decide (1 < (W.length : Int)) = true := decide_eq_true (by omega)
        have e2 : ((W.length : Int) == 2) = false := by exact beq_eq_false_iff_ne.mpr (by omega)
        have hM : r = (0, elB W 1, 0, 0) := by rw [← hr]; unfold cOf keyOf; rw [if_pos h0, if_neg hn, if_pos (by omega)]
        clear hr h0
        have q0 := strat0 HR0 B (by omega)
        have q1 := strat HR0 B 1 (by decide) (by omega)
        go_enter Tryd.func36, Tryd.ntmps36
        go_wp2_with (first
          | ((with_reducible refine gate_dst (N := 2) rfl ?_); refine bx ?hg (N := 2) ?hd (cs := #[.int .i64 (0), .string (⟨#[]⟩ : ByteArray), .int .i64 (0), .int .i64 (0)]) (t := 28) ?hr B ?_; (case hd => rfl); (case hg => rfl); (case hr => first | (go_simp; done) | (go_simp; rfl)); intro g2 w301 hb B F2 L2 E2; ((try clear q0); (try clear q1); (try clear q2); (try clear q3); have q0 := strat0 HR0 B (by omega); have q1 := strat HR0 B 1 (by decide) (by omega)); clear hb E2)
          | ((with_reducible refine gate_dst (N := 3) rfl ?_); refine bx ?hg (N := 3) ?hd (cs := #[.int .i64 (0), .string (⟨#[]⟩ : ByteArray), .int .i64 (0), .int .i64 (0)]) (t := 28) ?hr B ?_; (case hd => rfl); (case hg => rfl); (case hr => first | (go_simp; done) | (go_simp; rfl)); intro g3 w302 hb B F3 L3 E3; have N2_3 := ne1 E3 F2; replace F2 := bn F2 hb; obtain ⟨c3_0, c3_1, c3_2, c3_3⟩ := cs4 F3; ((try clear q0); (try clear q1); (try clear q2); (try clear q3); have q0 := strat0 HR0 B (by omega); have q1 := strat HR0 B 1 (by decide) (by omega)); clear hb E3)
          | ((with_reducible refine gate_store (t := 9) (p := 10) rfl ?_); obtain ⟨y0, y1, y2, y3⟩ := cs4 F3; have z0 := fz F3 0; have z1 := fz F3 1; have z2 := fz F3 2; have z3 := fz F3 3; refine sx (t := 28) (t' := 9) (p := 10) (v := ?vo303) ?hg ?ho ?hn 1 [.string (elB W 1)] [.int .i64 (0), .string (elB W 1), .int .i64 (0), .int .i64 (0)] ?hr B F3 L3 rfl (Nat.le_of_ble_eq_true rfl) ?_; (case ho => rfl); (case hg => rfl); (case hn => rfl); (case hr => first | (go_simp; done) | (go_simp; rfl)); intro w303 hk B G; replace F2 := bk F2 hk N2_3.out; replace F3 := G; clear c3_0 c3_1 c3_2 c3_3; obtain ⟨c3_0, c3_1, c3_2, c3_3⟩ := cs4 F3; ((try clear q0); (try clear q1); (try clear q2); (try clear q3); have q0 := strat0 HR0 B (by omega); have q1 := strat HR0 B 1 (by decide) (by omega)); clear hk y0 z0 y1 z1 y2 z2 y3 z3)
          | ((with_reducible refine gate_store (t := 28) (p := 2) rfl ?_); obtain ⟨y0, y1, y2, y3⟩ := cs4 F2; have z0 := fz F2 0; have z1 := fz F2 1; have z2 := fz F2 2; have z3 := fz F2 3; refine sx (t := 28) (t' := 28) (p := 2) (v := ?vo304) ?hg ?ho ?hn 0 [.int .i64 (0), .string (elB W 1), .int .i64 (0), .int .i64 (0)] [.int .i64 (0), .string (elB W 1), .int .i64 (0), .int .i64 (0)] ?hr B F2 L2 rfl (Nat.le_of_ble_eq_true rfl) ?_; (case ho => rfl); (case hg => rfl); (case hn => rfl); (case hr => first | (go_simp; done) | (go_simp; rfl)); intro w304 hk B G; replace F3 := bk F3 hk N2_3.out.symm; replace F2 := G; clear hk y0 z0 y1 z1 y2 z2 y3 z3))
        refine bodyPost_ret (results_single rfl (.cell g2 28 _ (0, 0) _ rfl F2.out hu rfl (by kernel_rfl) .nil)) rfl ?_
        subst hM
        exact ⟨rfl, B.out⟩
  · skip
    by_cases h1 : elB W 0 = w_put
    · have hw : (elB W 0).toList = [112, 117, 116] := by rw [h1, ba_toList]; rfl
      by_cases hn : W.length = 3
      · skip
        have d1 : decide (1 < (W.length : Int)) = true := decide_eq_true (by omega)
        have e3 : ((W.length : Int) == 3) = true := by rw [hn]; rfl
        have z2 : (elB W 2).size ≤ 64 := zs 2 (by omega)
        have hM : r = (2, elB W 1, numM (elB W 2), 0) := by rw [← hr]; unfold cOf keyOf; rw [if_neg h0, if_pos h1, if_pos hn, if_pos (by omega)]
        clear hr h0 h1
        have q0 := strat0 HR0 B (by omega)
        have q1 := strat HR0 B 1 (by decide) (by omega)
        have q2 := strat HR0 B 2 (by decide) (by omega)
        go_enter Tryd.func36, Tryd.ntmps36
        go_wp2_with (first
          | ((with_reducible refine gate_dst (N := 2) rfl ?_); refine bx ?hg (N := 2) ?hd (cs := #[.int .i64 (0), .string (⟨#[]⟩ : ByteArray), .int .i64 (0), .int .i64 (0)]) (t := 28) ?hr B ?_; (case hd => rfl); (case hg => rfl); (case hr => first | (go_simp; done) | (go_simp; rfl)); intro g2 w401 hb B F2 L2 E2; ((try clear q0); (try clear q1); (try clear q2); (try clear q3); have q0 := strat0 HR0 B (by omega); have q1 := strat HR0 B 1 (by decide) (by omega); have q2 := strat HR0 B 2 (by decide) (by omega)); clear hb E2)
          | ((with_reducible refine gate_dst (N := 3) rfl ?_); refine bx ?hg (N := 3) ?hd (cs := #[.int .i64 (0), .string (⟨#[]⟩ : ByteArray), .int .i64 (0), .int .i64 (0)]) (t := 28) ?hr B ?_; (case hd => rfl); (case hg => rfl); (case hr => first | (go_simp; done) | (go_simp; rfl)); intro g3 w402 hb B F3 L3 E3; have N2_3 := ne1 E3 F2; replace F2 := bn F2 hb; obtain ⟨c3_0, c3_1, c3_2, c3_3⟩ := cs4 F3; ((try clear q0); (try clear q1); (try clear q2); (try clear q3); have q0 := strat0 HR0 B (by omega); have q1 := strat HR0 B 1 (by decide) (by omega); have q2 := strat HR0 B 2 (by decide) (by omega)); clear hb E3)
          | ((with_reducible refine gate_store (t := 9) (p := 10) rfl ?_); obtain ⟨y0, y1, y2, y3⟩ := cs4 F3; have z0 := fz F3 0; have z1 := fz F3 1; have z2 := fz F3 2; have z3 := fz F3 3; refine sx (t := 28) (t' := 9) (p := 10) (v := ?vo403) ?hg ?ho ?hn 1 [.string (elB W 1)] [.int .i64 (0), .string (elB W 1), .int .i64 (0), .int .i64 (0)] ?hr B F3 L3 rfl (Nat.le_of_ble_eq_true rfl) ?_; (case ho => rfl); (case hg => rfl); (case hn => rfl); (case hr => first | (go_simp; done) | (go_simp; rfl)); intro w403 hk B G; replace F2 := bk F2 hk N2_3.out; replace F3 := G; clear c3_0 c3_1 c3_2 c3_3; obtain ⟨c3_0, c3_1, c3_2, c3_3⟩ := cs4 F3; ((try clear q0); (try clear q1); (try clear q2); (try clear q3); have q0 := strat0 HR0 B (by omega); have q1 := strat HR0 B 1 (by decide) (by omega); have q2 := strat HR0 B 2 (by decide) (by omega)); clear hk y0 z0 y1 z1 y2 z2 y3 z3)
          | ((with_reducible refine gate_store (t := 3) (p := 32) rfl ?_); obtain ⟨y0, y1, y2, y3⟩ := cs4 F3; have z0 := fz F3 0; have z1 := fz F3 1; have z2 := fz F3 2; have z3 := fz F3 3; refine sx (t := 28) (t' := 3) (p := 32) (v := ?vo404) ?hg ?ho ?hn 0 [.int .i64 (2)] [.int .i64 (2), .string (elB W 1), .int .i64 (0), .int .i64 (0)] ?hr B F3 L3 rfl (Nat.le_of_ble_eq_true rfl) ?_; (case ho => rfl); (case hg => rfl); (case hn => rfl); (case hr => first | (go_simp; done) | (go_simp; rfl)); intro w404 hk B G; replace F2 := bk F2 hk N2_3.out; replace F3 := G; clear c3_0 c3_1 c3_2 c3_3; obtain ⟨c3_0, c3_1, c3_2, c3_3⟩ := cs4 F3; ((try clear q0); (try clear q1); (try clear q2); (try clear q3); have q0 := strat0 HR0 B (by omega); have q1 := strat HR0 B 1 (by decide) (by omega); have q2 := strat HR0 B 2 (by decide) (by omega)); clear hk y0 z0 y1 z1 y2 z2 y3 z3)
          | (go_at_call 34; with_reducible refine cl (impl_numberOf.M (elB W 2) w _ HT B (by omega)) B fun w405 hb B => ?_; replace F2 := bn F2 hb; replace F3 := bn F3 hb; clear c3_0 c3_1 c3_2 c3_3; obtain ⟨c3_0, c3_1, c3_2, c3_3⟩ := cs4 F3; ((try clear q0); (try clear q1); (try clear q2); (try clear q3); have q0 := strat0 HR0 B (by omega); have q1 := strat HR0 B 1 (by decide) (by omega); have q2 := strat HR0 B 2 (by decide) (by omega)); clear hb)
          | ((with_reducible refine gate_store (t := 3) (p := 37) rfl ?_); obtain ⟨y0, y1, y2, y3⟩ := cs4 F3; have z0 := fz F3 0; have z1 := fz F3 1; have z2 := fz F3 2; have z3 := fz F3 3; refine sx (t := 28) (t' := 3) (p := 37) (v := ?vo406) ?hg ?ho ?hn 2 [.int .i64 ((numM (elB W 2)))] [.int .i64 (2), .string (elB W 1), .int .i64 ((numM (elB W 2))), .int .i64 (0)] ?hr B F3 L3 rfl (Nat.le_of_ble_eq_true rfl) ?_; (case ho => rfl); (case hg => rfl); (case hn => rfl); (case hr => first | (go_simp; done) | (go_simp; rfl)); intro w406 hk B G; replace F2 := bk F2 hk N2_3.out; replace F3 := G; clear c3_0 c3_1 c3_2 c3_3; obtain ⟨c3_0, c3_1, c3_2, c3_3⟩ := cs4 F3; ((try clear q0); (try clear q1); (try clear q2); (try clear q3); have q0 := strat0 HR0 B (by omega); have q1 := strat HR0 B 1 (by decide) (by omega); have q2 := strat HR0 B 2 (by decide) (by omega)); clear hk y0 z0 y1 z1 y2 z2 y3 z3)
          | ((with_reducible refine gate_store (t := 28) (p := 2) rfl ?_); obtain ⟨y0, y1, y2, y3⟩ := cs4 F2; have z0 := fz F2 0; have z1 := fz F2 1; have z2 := fz F2 2; have z3 := fz F2 3; refine sx (t := 28) (t' := 28) (p := 2) (v := ?vo407) ?hg ?ho ?hn 0 [.int .i64 (2), .string (elB W 1), .int .i64 ((numM (elB W 2))), .int .i64 (0)] [.int .i64 (2), .string (elB W 1), .int .i64 ((numM (elB W 2))), .int .i64 (0)] ?hr B F2 L2 rfl (Nat.le_of_ble_eq_true rfl) ?_; (case ho => rfl); (case hg => rfl); (case hn => rfl); (case hr => first | (go_simp; done) | (go_simp; rfl)); intro w407 hk B G; replace F3 := bk F3 hk N2_3.out.symm; replace F2 := G; clear hk y0 z0 y1 z1 y2 z2 y3 z3))
        refine bodyPost_ret (results_single rfl (.cell g2 28 _ (0, 0) _ rfl F2.out hu rfl (by kernel_rfl) .nil)) rfl ?_
        subst hM
        exact ⟨rfl, B.out⟩
      · by_cases hn1 : W.length = 1
        · skip
          have d1 : decide (1 < (W.length : Int)) = false := decide_eq_false (by omega)
          have e3 : ((W.length : Int) == 3) = false := by exact beq_eq_false_iff_ne.mpr (by omega)
          have hM : r = (0, (⟨#[]⟩ : ByteArray), 0, 0) := by rw [← hr]; unfold cOf keyOf; rw [if_neg h0, if_pos h1, if_neg hn, if_neg (by omega)]
          clear hr h0 h1
          have q0 := strat0 HR0 B (by omega)
          go_enter Tryd.func36, Tryd.ntmps36
          go_wp2_with (first
            | ((with_reducible refine gate_dst (N := 2) rfl ?_); refine bx ?hg (N := 2) ?hd (cs := #[.int .i64 (0), .string (⟨#[]⟩ : ByteArray), .int .i64 (0), .int .i64 (0)]) (t := 28) ?hr B ?_; (case hd => rfl); (case hg => rfl); (case hr => first | (go_simp; done) | (go_simp; rfl)); intro g2 w501 hb B F2 L2 E2; ((try clear q0); (try clear q1); (try clear q2); (try clear q3); have q0 := strat0 HR0 B (by omega)); clear hb E2)
            | ((with_reducible refine gate_dst (N := 3) rfl ?_); refine bx ?hg (N := 3) ?hd (cs := #[.int .i64 (0), .string (⟨#[]⟩ : ByteArray), .int .i64 (0), .int .i64 (0)]) (t := 28) ?hr B ?_; (case hd => rfl); (case hg => rfl); (case hr => first | (go_simp; done) | (go_simp; rfl)); intro g3 w502 hb B F3 L3 E3; have N2_3 := ne1 E3 F2; replace F2 := bn F2 hb; obtain ⟨c3_0, c3_1, c3_2, c3_3⟩ := cs4 F3; ((try clear q0); (try clear q1); (try clear q2); (try clear q3); have q0 := strat0 HR0 B (by omega)); clear hb E3)
            | ((with_reducible refine gate_store (t := 28) (p := 2) rfl ?_); obtain ⟨y0, y1, y2, y3⟩ := cs4 F2; have z0 := fz F2 0; have z1 := fz F2 1; have z2 := fz F2 2; have z3 := fz F2 3; refine sx (t := 28) (t' := 28) (p := 2) (v := ?vo503) ?hg ?ho ?hn 0 [.int .i64 (0), .string (⟨#[]⟩ : ByteArray), .int .i64 (0), .int .i64 (0)] [.int .i64 (0), .string (⟨#[]⟩ : ByteArray), .int .i64 (0), .int .i64 (0)] ?hr B F2 L2 rfl (Nat.le_of_ble_eq_true rfl) ?_; (case ho => rfl); (case hg => rfl); (case hn => rfl); (case hr => first | (go_simp; done) | (go_simp; rfl)); intro w503 hk B G; replace F3 := bk F3 hk N2_3.out.symm; replace F2 := G; clear hk y0 z0 y1 z1 y2 z2 y3 z3))
          refine bodyPost_ret (results_single rfl (.cell g2 28 _ (0, 0) _ rfl F2.out hu rfl (by kernel_rfl) .nil)) rfl ?_
          subst hM
          exact ⟨rfl, B.out⟩
        · skip
          have d1 : decide (1 < (W.length : Int)) = true := decide_eq_true (by omega)
          have e3 : ((W.length : Int) == 3) = false := by exact beq_eq_false_iff_ne.mpr (by omega)
          have hM : r = (0, elB W 1, 0, 0) := by rw [← hr]; unfold cOf keyOf; rw [if_neg h0, if_pos h1, if_neg hn, if_pos (by omega)]
          clear hr h0 h1
          have q0 := strat0 HR0 B (by omega)
          have q1 := strat HR0 B 1 (by decide) (by omega)
          go_enter Tryd.func36, Tryd.ntmps36
          go_wp2_with (first
            | ((with_reducible refine gate_dst (N := 2) rfl ?_); refine bx ?hg (N := 2) ?hd (cs := #[.int .i64 (0), .string (⟨#[]⟩ : ByteArray), .int .i64 (0), .int .i64 (0)]) (t := 28) ?hr B ?_; (case hd => rfl); (case hg => rfl); (case hr => first | (go_simp; done) | (go_simp; rfl)); intro g2 w601 hb B F2 L2 E2; ((try clear q0); (try clear q1); (try clear q2); (try clear q3); have q0 := strat0 HR0 B (by omega); have q1 := strat HR0 B 1 (by decide) (by omega)); clear hb E2)
            | ((with_reducible refine gate_dst (N := 3) rfl ?_); refine bx ?hg (N := 3) ?hd (cs := #[.int .i64 (0), .string (⟨#[]⟩ : ByteArray), .int .i64 (0), .int .i64 (0)]) (t := 28) ?hr B ?_; (case hd => rfl); (case hg => rfl); (case hr => first | (go_simp; done) | (go_simp; rfl)); intro g3 w602 hb B F3 L3 E3; have N2_3 := ne1 E3 F2; replace F2 := bn F2 hb; obtain ⟨c3_0, c3_1, c3_2, c3_3⟩ := cs4 F3; ((try clear q0); (try clear q1); (try clear q2); (try clear q3); have q0 := strat0 HR0 B (by omega); have q1 := strat HR0 B 1 (by decide) (by omega)); clear hb E3)
            | ((with_reducible refine gate_store (t := 9) (p := 10) rfl ?_); obtain ⟨y0, y1, y2, y3⟩ := cs4 F3; have z0 := fz F3 0; have z1 := fz F3 1; have z2 := fz F3 2; have z3 := fz F3 3; refine sx (t := 28) (t' := 9) (p := 10) (v := ?vo603) ?hg ?ho ?hn 1 [.string (elB W 1)] [.int .i64 (0), .string (elB W 1), .int .i64 (0), .int .i64 (0)] ?hr B F3 L3 rfl (Nat.le_of_ble_eq_true rfl) ?_; (case ho => rfl); (case hg => rfl); (case hn => rfl); (case hr => first | (go_simp; done) | (go_simp; rfl)); intro w603 hk B G; replace F2 := bk F2 hk N2_3.out; replace F3 := G; clear c3_0 c3_1 c3_2 c3_3; obtain ⟨c3_0, c3_1, c3_2, c3_3⟩ := cs4 F3; ((try clear q0); (try clear q1); (try clear q2); (try clear q3); have q0 := strat0 HR0 B (by omega); have q1 := strat HR0 B 1 (by decide) (by omega)); clear hk y0 z0 y1 z1 y2 z2 y3 z3)
            | ((with_reducible refine gate_store (t := 28) (p := 2) rfl ?_); obtain ⟨y0, y1, y2, y3⟩ := cs4 F2; have z0 := fz F2 0; have z1 := fz F2 1; have z2 := fz F2 2; have z3 := fz F2 3; refine sx (t := 28) (t' := 28) (p := 2) (v := ?vo604) ?hg ?ho ?hn 0 [.int .i64 (0), .string (elB W 1), .int .i64 (0), .int .i64 (0)] [.int .i64 (0), .string (elB W 1), .int .i64 (0), .int .i64 (0)] ?hr B F2 L2 rfl (Nat.le_of_ble_eq_true rfl) ?_; (case ho => rfl); (case hg => rfl); (case hn => rfl); (case hr => first | (go_simp; done) | (go_simp; rfl)); intro w604 hk B G; replace F3 := bk F3 hk N2_3.out.symm; replace F2 := G; clear hk y0 z0 y1 z1 y2 z2 y3 z3))
          refine bodyPost_ret (results_single rfl (.cell g2 28 _ (0, 0) _ rfl F2.out hu rfl (by kernel_rfl) .nil)) rfl ?_
          subst hM
          exact ⟨rfl, B.out⟩
    · skip
      by_cases h2 : elB W 0 = w_drop
      · have hw : (elB W 0).toList = [100, 114, 111, 112] := by rw [h2, ba_toList]; rfl
        by_cases hn : W.length = 2
        · skip
          have d1 : decide (1 < (W.length : Int)) = true := decide_eq_true (by omega)
          have e2 : ((W.length : Int) == 2) = true := by rw [hn]; rfl
          have hM : r = (3, elB W 1, 0, 0) := by rw [← hr]; unfold cOf keyOf; rw [if_neg h0, if_neg h1, if_pos h2, if_pos hn, if_pos (by omega)]
          clear hr h0 h1 h2
          have q0 := strat0 HR0 B (by omega)
          have q1 := strat HR0 B 1 (by decide) (by omega)
          go_enter Tryd.func36, Tryd.ntmps36
          go_wp2_with (first
            | ((with_reducible refine gate_dst (N := 2) rfl ?_); refine bx ?hg (N := 2) ?hd (cs := #[.int .i64 (0), .string (⟨#[]⟩ : ByteArray), .int .i64 (0), .int .i64 (0)]) (t := 28) ?hr B ?_; (case hd => rfl); (case hg => rfl); (case hr => first | (go_simp; done) | (go_simp; rfl)); intro g2 w701 hb B F2 L2 E2; ((try clear q0); (try clear q1); (try clear q2); (try clear q3); have q0 := strat0 HR0 B (by omega); have q1 := strat HR0 B 1 (by decide) (by omega)); clear hb E2)
            | ((with_reducible refine gate_dst (N := 3) rfl ?_); refine bx ?hg (N := 3) ?hd (cs := #[.int .i64 (0), .string (⟨#[]⟩ : ByteArray), .int .i64 (0), .int .i64 (0)]) (t := 28) ?hr B ?_; (case hd => rfl); (case hg => rfl); (case hr => first | (go_simp; done) | (go_simp; rfl)); intro g3 w702 hb B F3 L3 E3; have N2_3 := ne1 E3 F2; replace F2 := bn F2 hb; obtain ⟨c3_0, c3_1, c3_2, c3_3⟩ := cs4 F3; ((try clear q0); (try clear q1); (try clear q2); (try clear q3); have q0 := strat0 HR0 B (by omega); have q1 := strat HR0 B 1 (by decide) (by omega)); clear hb E3)
            | ((with_reducible refine gate_store (t := 9) (p := 10) rfl ?_); obtain ⟨y0, y1, y2, y3⟩ := cs4 F3; have z0 := fz F3 0; have z1 := fz F3 1; have z2 := fz F3 2; have z3 := fz F3 3; refine sx (t := 28) (t' := 9) (p := 10) (v := ?vo703) ?hg ?ho ?hn 1 [.string (elB W 1)] [.int .i64 (0), .string (elB W 1), .int .i64 (0), .int .i64 (0)] ?hr B F3 L3 rfl (Nat.le_of_ble_eq_true rfl) ?_; (case ho => rfl); (case hg => rfl); (case hn => rfl); (case hr => first | (go_simp; done) | (go_simp; rfl)); intro w703 hk B G; replace F2 := bk F2 hk N2_3.out; replace F3 := G; clear c3_0 c3_1 c3_2 c3_3; obtain ⟨c3_0, c3_1, c3_2, c3_3⟩ := cs4 F3; ((try clear q0); (try clear q1); (try clear q2); (try clear q3); have q0 := strat0 HR0 B (by omega); have q1 := strat HR0 B 1 (by decide) (by omega)); clear hk y0 z0 y1 z1 y2 z2 y3 z3)
            | ((with_reducible refine gate_store (t := 3) (p := 48) rfl ?_); obtain ⟨y0, y1, y2, y3⟩ := cs4 F3; have z0 := fz F3 0; have z1 := fz F3 1; have z2 := fz F3 2; have z3 := fz F3 3; refine sx (t := 28) (t' := 3) (p := 48) (v := ?vo704) ?hg ?ho ?hn 0 [.int .i64 (3)] [.int .i64 (3), .string (elB W 1), .int .i64 (0), .int .i64 (0)] ?hr B F3 L3 rfl (Nat.le_of_ble_eq_true rfl) ?_; (case ho => rfl); (case hg => rfl); (case hn => rfl); (case hr => first | (go_simp; done) | (go_simp; rfl)); intro w704 hk B G; replace F2 := bk F2 hk N2_3.out; replace F3 := G; clear c3_0 c3_1 c3_2 c3_3; obtain ⟨c3_0, c3_1, c3_2, c3_3⟩ := cs4 F3; ((try clear q0); (try clear q1); (try clear q2); (try clear q3); have q0 := strat0 HR0 B (by omega); have q1 := strat HR0 B 1 (by decide) (by omega)); clear hk y0 z0 y1 z1 y2 z2 y3 z3)
            | ((with_reducible refine gate_store (t := 28) (p := 2) rfl ?_); obtain ⟨y0, y1, y2, y3⟩ := cs4 F2; have z0 := fz F2 0; have z1 := fz F2 1; have z2 := fz F2 2; have z3 := fz F2 3; refine sx (t := 28) (t' := 28) (p := 2) (v := ?vo705) ?hg ?ho ?hn 0 [.int .i64 (3), .string (elB W 1), .int .i64 (0), .int .i64 (0)] [.int .i64 (3), .string (elB W 1), .int .i64 (0), .int .i64 (0)] ?hr B F2 L2 rfl (Nat.le_of_ble_eq_true rfl) ?_; (case ho => rfl); (case hg => rfl); (case hn => rfl); (case hr => first | (go_simp; done) | (go_simp; rfl)); intro w705 hk B G; replace F3 := bk F3 hk N2_3.out.symm; replace F2 := G; clear hk y0 z0 y1 z1 y2 z2 y3 z3))
          refine bodyPost_ret (results_single rfl (.cell g2 28 _ (0, 0) _ rfl F2.out hu rfl (by kernel_rfl) .nil)) rfl ?_
          subst hM
          exact ⟨rfl, B.out⟩
        · by_cases hn1 : W.length = 1
          · skip
            have d1 : decide (1 < (W.length : Int)) = false := decide_eq_false (by omega)
            have e2 : ((W.length : Int) == 2) = false := by exact beq_eq_false_iff_ne.mpr (by omega)
            have hM : r = (0, (⟨#[]⟩ : ByteArray), 0, 0) := by rw [← hr]; unfold cOf keyOf; rw [if_neg h0, if_neg h1, if_pos h2, if_neg hn, if_neg (by omega)]
            clear hr h0 h1 h2
            have q0 := strat0 HR0 B (by omega)
            go_enter Tryd.func36, Tryd.ntmps36
            go_wp2_with (first
              | ((with_reducible refine gate_dst (N := 2) rfl ?_); refine bx ?hg (N := 2) ?hd (cs := #[.int .i64 (0), .string (⟨#[]⟩ : ByteArray), .int .i64 (0), .int .i64 (0)]) (t := 28) ?hr B ?_; (case hd => rfl); (case hg => rfl); (case hr => first | (go_simp; done) | (go_simp; rfl)); intro g2 w801 hb B F2 L2 E2; ((try clear q0); (try clear q1); (try clear q2); (try clear q3); have q0 := strat0 HR0 B (by omega)); clear hb E2)
              | ((with_reducible refine gate_dst (N := 3) rfl ?_); refine bx ?hg (N := 3) ?hd (cs := #[.int .i64 (0), .string (⟨#[]⟩ : ByteArray), .int .i64 (0), .int .i64 (0)]) (t := 28) ?hr B ?_; (case hd => rfl); (case hg => rfl); (case hr => first | (go_simp; done) | (go_simp; rfl)); intro g3 w802 hb B F3 L3 E3; have N2_3 := ne1 E3 F2; replace F2 := bn F2 hb; obtain ⟨c3_0, c3_1, c3_2, c3_3⟩ := cs4 F3; ((try clear q0); (try clear q1); (try clear q2); (try clear q3); have q0 := strat0 HR0 B (by omega)); clear hb E3)
              | ((with_reducible refine gate_store (t := 28) (p := 2) rfl ?_); obtain ⟨y0, y1, y2, y3⟩ := cs4 F2; have z0 := fz F2 0; have z1 := fz F2 1; have z2 := fz F2 2; have z3 := fz F2 3; refine sx (t := 28) (t' := 28) (p := 2) (v := ?vo803) ?hg ?ho ?hn 0 [.int .i64 (0), .string (⟨#[]⟩ : ByteArray), .int .i64 (0), .int .i64 (0)] [.int .i64 (0), .string (⟨#[]⟩ : ByteArray), .int .i64 (0), .int .i64 (0)] ?hr B F2 L2 rfl (Nat.le_of_ble_eq_true rfl) ?_; (case ho => rfl); (case hg => rfl); (case hn => rfl); (case hr => first | (go_simp; done) | (go_simp; rfl)); intro w803 hk B G; replace F3 := bk F3 hk N2_3.out.symm; replace F2 := G; clear hk y0 z0 y1 z1 y2 z2 y3 z3))
            refine bodyPost_ret (results_single rfl (.cell g2 28 _ (0, 0) _ rfl F2.out hu rfl (by kernel_rfl) .nil)) rfl ?_
            subst hM
            exact ⟨rfl, B.out⟩
          · skip
            have d1 : decide (1 < (W.length : Int)) = true := decide_eq_true (by omega)
            have e2 : ((W.length : Int) == 2) = false := by exact beq_eq_false_iff_ne.mpr (by omega)
            have hM : r = (0, elB W 1, 0, 0) := by rw [← hr]; unfold cOf keyOf; rw [if_neg h0, if_neg h1, if_pos h2, if_neg hn, if_pos (by omega)]
            clear hr h0 h1 h2
            have q0 := strat0 HR0 B (by omega)
            have q1 := strat HR0 B 1 (by decide) (by omega)
            go_enter Tryd.func36, Tryd.ntmps36
            go_wp2_with (first
              | ((with_reducible refine gate_dst (N := 2) rfl ?_); refine bx ?hg (N := 2) ?hd (cs := #[.int .i64 (0), .string (⟨#[]⟩ : ByteArray), .int .i64 (0), .int .i64 (0)]) (t := 28) ?hr B ?_; (case hd => rfl); (case hg => rfl); (case hr => first | (go_simp; done) | (go_simp; rfl)); intro g2 w901 hb B F2 L2 E2; ((try clear q0); (try clear q1); (try clear q2); (try clear q3); have q0 := strat0 HR0 B (by omega); have q1 := strat HR0 B 1 (by decide) (by omega)); clear hb E2)
              | ((with_reducible refine gate_dst (N := 3) rfl ?_); refine bx ?hg (N := 3) ?hd (cs := #[.int .i64 (0), .string (⟨#[]⟩ : ByteArray), .int .i64 (0), .int .i64 (0)]) (t := 28) ?hr B ?_; (case hd => rfl); (case hg => rfl); (case hr => first | (go_simp; done) | (go_simp; rfl)); intro g3 w902 hb B F3 L3 E3; have N2_3 := ne1 E3 F2; replace F2 := bn F2 hb; obtain ⟨c3_0, c3_1, c3_2, c3_3⟩ := cs4 F3; ((try clear q0); (try clear q1); (try clear q2); (try clear q3); have q0 := strat0 HR0 B (by omega); have q1 := strat HR0 B 1 (by decide) (by omega)); clear hb E3)
              | ((with_reducible refine gate_store (t := 9) (p := 10) rfl ?_); obtain ⟨y0, y1, y2, y3⟩ := cs4 F3; have z0 := fz F3 0; have z1 := fz F3 1; have z2 := fz F3 2; have z3 := fz F3 3; refine sx (t := 28) (t' := 9) (p := 10) (v := ?vo903) ?hg ?ho ?hn 1 [.string (elB W 1)] [.int .i64 (0), .string (elB W 1), .int .i64 (0), .int .i64 (0)] ?hr B F3 L3 rfl (Nat.le_of_ble_eq_true rfl) ?_; (case ho => rfl); (case hg => rfl); (case hn => rfl); (case hr => first | (go_simp; done) | (go_simp; rfl)); intro w903 hk B G; replace F2 := bk F2 hk N2_3.out; replace F3 := G; clear c3_0 c3_1 c3_2 c3_3; obtain ⟨c3_0, c3_1, c3_2, c3_3⟩ := cs4 F3; ((try clear q0); (try clear q1); (try clear q2); (try clear q3); have q0 := strat0 HR0 B (by omega); have q1 := strat HR0 B 1 (by decide) (by omega)); clear hk y0 z0 y1 z1 y2 z2 y3 z3)
              | ((with_reducible refine gate_store (t := 28) (p := 2) rfl ?_); obtain ⟨y0, y1, y2, y3⟩ := cs4 F2; have z0 := fz F2 0; have z1 := fz F2 1; have z2 := fz F2 2; have z3 := fz F2 3; refine sx (t := 28) (t' := 28) (p := 2) (v := ?vo904) ?hg ?ho ?hn 0 [.int .i64 (0), .string (elB W 1), .int .i64 (0), .int .i64 (0)] [.int .i64 (0), .string (elB W 1), .int .i64 (0), .int .i64 (0)] ?hr B F2 L2 rfl (Nat.le_of_ble_eq_true rfl) ?_; (case ho => rfl); (case hg => rfl); (case hn => rfl); (case hr => first | (go_simp; done) | (go_simp; rfl)); intro w904 hk B G; replace F3 := bk F3 hk N2_3.out.symm; replace F2 := G; clear hk y0 z0 y1 z1 y2 z2 y3 z3))
            refine bodyPost_ret (results_single rfl (.cell g2 28 _ (0, 0) _ rfl F2.out hu rfl (by kernel_rfl) .nil)) rfl ?_
            subst hM
            exact ⟨rfl, B.out⟩
      · skip
        by_cases h3 : elB W 0 = w_swap
        · have hw : (elB W 0).toList = [115, 119, 97, 112] := by rw [h3, ba_toList]; rfl
          by_cases hn : W.length = 4
          · skip
            have d1 : decide (1 < (W.length : Int)) = true := decide_eq_true (by omega)
            have e4 : ((W.length : Int) == 4) = true := by rw [hn]; rfl
            have z2 : (elB W 2).size ≤ 64 := zs 2 (by omega)
            have z3 : (elB W 3).size ≤ 64 := zs 3 (by omega)
            have hM : r = (4, elB W 1, numM (elB W 3), numM (elB W 2)) := by rw [← hr]; unfold cOf keyOf; rw [if_neg h0, if_neg h1, if_neg h2, if_pos h3, if_pos hn, if_pos (by omega)]
            clear hr h0 h1 h2 h3
            have q0 := strat0 HR0 B (by omega)
            have q1 := strat HR0 B 1 (by decide) (by omega)
            have q2 := strat HR0 B 2 (by decide) (by omega)
            have q3 := strat HR0 B 3 (by decide) (by omega)
            go_enter Tryd.func36, Tryd.ntmps36
            go_wp2_with (first
              | ((with_reducible refine gate_dst (N := 2) rfl ?_); refine bx ?hg (N := 2) ?hd (cs := #[.int .i64 (0), .string (⟨#[]⟩ : ByteArray), .int .i64 (0), .int .i64 (0)]) (t := 28) ?hr B ?_; (case hd => rfl); (case hg => rfl); (case hr => first | (go_simp; done) | (go_simp; rfl)); intro g2 w1001 hb B F2 L2 E2; ((try clear q0); (try clear q1); (try clear q2); (try clear q3); have q0 := strat0 HR0 B (by omega); have q1 := strat HR0 B 1 (by decide) (by omega); have q2 := strat HR0 B 2 (by decide) (by omega); have q3 := strat HR0 B 3 (by decide) (by omega)); clear hb E2)
              | ((with_reducible refine gate_dst (N := 3) rfl ?_); refine bx ?hg (N := 3) ?hd (cs := #[.int .i64 (0), .string (⟨#[]⟩ : ByteArray), .int .i64 (0), .int .i64 (0)]) (t := 28) ?hr B ?_; (case hd => rfl); (case hg => rfl); (case hr => first | (go_simp; done) | (go_simp; rfl)); intro g3 w1002 hb B F3 L3 E3; have N2_3 := ne1 E3 F2; replace F2 := bn F2 hb; obtain ⟨c3_0, c3_1, c3_2, c3_3⟩ := cs4 F3; ((try clear q0); (try clear q1); (try clear q2); (try clear q3); have q0 := strat0 HR0 B (by omega); have q1 := strat HR0 B 1 (by decide) (by omega); have q2 := strat HR0 B 2 (by decide) (by omega); have q3 := strat HR0 B 3 (by decide) (by omega)); clear hb E3)
              | ((with_reducible refine gate_store (t := 9) (p := 10) rfl ?_); obtain ⟨y0, y1, y2, y3⟩ := cs4 F3; have z0 := fz F3 0; have z1 := fz F3 1; have z2 := fz F3 2; have z3 := fz F3 3; refine sx (t := 28) (t' := 9) (p := 10) (v := ?vo1003) ?hg ?ho ?hn 1 [.string (elB W 1)] [.int .i64 (0), .string (elB W 1), .int .i64 (0), .int .i64 (0)] ?hr B F3 L3 rfl (Nat.le_of_ble_eq_true rfl) ?_; (case ho => rfl); (case hg => rfl); (case hn => rfl); (case hr => first | (go_simp; done) | (go_simp; rfl)); intro w1003 hk B G; replace F2 := bk F2 hk N2_3.out; replace F3 := G; clear c3_0 c3_1 c3_2 c3_3; obtain ⟨c3_0, c3_1, c3_2, c3_3⟩ := cs4 F3; ((try clear q0); (try clear q1); (try clear q2); (try clear q3); have q0 := strat0 HR0 B (by omega); have q1 := strat HR0 B 1 (by decide) (by omega); have q2 := strat HR0 B 2 (by decide) (by omega); have q3 := strat HR0 B 3 (by decide) (by omega)); clear hk y0 z0 y1 z1 y2 z2 y3 z3)
              | ((with_reducible refine gate_store (t := 3) (p := 59) rfl ?_); obtain ⟨y0, y1, y2, y3⟩ := cs4 F3; have z0 := fz F3 0; have z1 := fz F3 1; have z2 := fz F3 2; have z3 := fz F3 3; refine sx (t := 28) (t' := 3) (p := 59) (v := ?vo1004) ?hg ?ho ?hn 0 [.int .i64 (4)] [.int .i64 (4), .string (elB W 1), .int .i64 (0), .int .i64 (0)] ?hr B F3 L3 rfl (Nat.le_of_ble_eq_true rfl) ?_; (case ho => rfl); (case hg => rfl); (case hn => rfl); (case hr => first | (go_simp; done) | (go_simp; rfl)); intro w1004 hk B G; replace F2 := bk F2 hk N2_3.out; replace F3 := G; clear c3_0 c3_1 c3_2 c3_3; obtain ⟨c3_0, c3_1, c3_2, c3_3⟩ := cs4 F3; ((try clear q0); (try clear q1); (try clear q2); (try clear q3); have q0 := strat0 HR0 B (by omega); have q1 := strat HR0 B 1 (by decide) (by omega); have q2 := strat HR0 B 2 (by decide) (by omega); have q3 := strat HR0 B 3 (by decide) (by omega)); clear hk y0 z0 y1 z1 y2 z2 y3 z3)
              | (go_at_call 34; with_reducible refine cl (impl_numberOf.M (elB W 2) w _ HT B (by omega)) B fun w1005 hb B => ?_; replace F2 := bn F2 hb; replace F3 := bn F3 hb; clear c3_0 c3_1 c3_2 c3_3; obtain ⟨c3_0, c3_1, c3_2, c3_3⟩ := cs4 F3; ((try clear q0); (try clear q1); (try clear q2); (try clear q3); have q0 := strat0 HR0 B (by omega); have q1 := strat HR0 B 1 (by decide) (by omega); have q2 := strat HR0 B 2 (by decide) (by omega); have q3 := strat HR0 B 3 (by decide) (by omega)); clear hb)
              | ((with_reducible refine gate_store (t := 3) (p := 64) rfl ?_); obtain ⟨y0, y1, y2, y3⟩ := cs4 F3; have z0 := fz F3 0; have z1 := fz F3 1; have z2 := fz F3 2; have z3 := fz F3 3; refine sx (t := 28) (t' := 3) (p := 64) (v := ?vo1006) ?hg ?ho ?hn 3 [.int .i64 ((numM (elB W 2)))] [.int .i64 (4), .string (elB W 1), .int .i64 (0), .int .i64 ((numM (elB W 2)))] ?hr B F3 L3 rfl (Nat.le_of_ble_eq_true rfl) ?_; (case ho => rfl); (case hg => rfl); (case hn => rfl); (case hr => first | (go_simp; done) | (go_simp; rfl)); intro w1006 hk B G; replace F2 := bk F2 hk N2_3.out; replace F3 := G; clear c3_0 c3_1 c3_2 c3_3; obtain ⟨c3_0, c3_1, c3_2, c3_3⟩ := cs4 F3; ((try clear q0); (try clear q1); (try clear q2); (try clear q3); have q0 := strat0 HR0 B (by omega); have q1 := strat HR0 B 1 (by decide) (by omega); have q2 := strat HR0 B 2 (by decide) (by omega); have q3 := strat HR0 B 3 (by decide) (by omega)); clear hk y0 z0 y1 z1 y2 z2 y3 z3)
              | (go_at_call 34; with_reducible refine cl (impl_numberOf.M (elB W 3) w _ HT B (by omega)) B fun w1007 hb B => ?_; replace F2 := bn F2 hb; replace F3 := bn F3 hb; clear c3_0 c3_1 c3_2 c3_3; obtain ⟨c3_0, c3_1, c3_2, c3_3⟩ := cs4 F3; ((try clear q0); (try clear q1); (try clear q2); (try clear q3); have q0 := strat0 HR0 B (by omega); have q1 := strat HR0 B 1 (by decide) (by omega); have q2 := strat HR0 B 2 (by decide) (by omega); have q3 := strat HR0 B 3 (by decide) (by omega)); clear hb)
              | ((with_reducible refine gate_store (t := 3) (p := 69) rfl ?_); obtain ⟨y0, y1, y2, y3⟩ := cs4 F3; have z0 := fz F3 0; have z1 := fz F3 1; have z2 := fz F3 2; have z3 := fz F3 3; refine sx (t := 28) (t' := 3) (p := 69) (v := ?vo1008) ?hg ?ho ?hn 2 [.int .i64 ((numM (elB W 3)))] [.int .i64 (4), .string (elB W 1), .int .i64 ((numM (elB W 3))), .int .i64 ((numM (elB W 2)))] ?hr B F3 L3 rfl (Nat.le_of_ble_eq_true rfl) ?_; (case ho => rfl); (case hg => rfl); (case hn => rfl); (case hr => first | (go_simp; done) | (go_simp; rfl)); intro w1008 hk B G; replace F2 := bk F2 hk N2_3.out; replace F3 := G; clear c3_0 c3_1 c3_2 c3_3; obtain ⟨c3_0, c3_1, c3_2, c3_3⟩ := cs4 F3; ((try clear q0); (try clear q1); (try clear q2); (try clear q3); have q0 := strat0 HR0 B (by omega); have q1 := strat HR0 B 1 (by decide) (by omega); have q2 := strat HR0 B 2 (by decide) (by omega); have q3 := strat HR0 B 3 (by decide) (by omega)); clear hk y0 z0 y1 z1 y2 z2 y3 z3)
              | ((with_reducible refine gate_store (t := 28) (p := 2) rfl ?_); obtain ⟨y0, y1, y2, y3⟩ := cs4 F2; have z0 := fz F2 0; have z1 := fz F2 1; have z2 := fz F2 2; have z3 := fz F2 3; refine sx (t := 28) (t' := 28) (p := 2) (v := ?vo1009) ?hg ?ho ?hn 0 [.int .i64 (4), .string (elB W 1), .int .i64 ((numM (elB W 3))), .int .i64 ((numM (elB W 2)))] [.int .i64 (4), .string (elB W 1), .int .i64 ((numM (elB W 3))), .int .i64 ((numM (elB W 2)))] ?hr B F2 L2 rfl (Nat.le_of_ble_eq_true rfl) ?_; (case ho => rfl); (case hg => rfl); (case hn => rfl); (case hr => first | (go_simp; done) | (go_simp; rfl)); intro w1009 hk B G; replace F3 := bk F3 hk N2_3.out.symm; replace F2 := G; clear hk y0 z0 y1 z1 y2 z2 y3 z3))
            refine bodyPost_ret (results_single rfl (.cell g2 28 _ (0, 0) _ rfl F2.out hu rfl (by kernel_rfl) .nil)) rfl ?_
            subst hM
            exact ⟨rfl, B.out⟩
          · by_cases hn1 : W.length = 1
            · skip
              have d1 : decide (1 < (W.length : Int)) = false := decide_eq_false (by omega)
              have e4 : ((W.length : Int) == 4) = false := by exact beq_eq_false_iff_ne.mpr (by omega)
              have hM : r = (0, (⟨#[]⟩ : ByteArray), 0, 0) := by rw [← hr]; unfold cOf keyOf; rw [if_neg h0, if_neg h1, if_neg h2, if_pos h3, if_neg hn, if_neg (by omega)]
              clear hr h0 h1 h2 h3
              have q0 := strat0 HR0 B (by omega)
              go_enter Tryd.func36, Tryd.ntmps36
              go_wp2_with (first
                | ((with_reducible refine gate_dst (N := 2) rfl ?_); refine bx ?hg (N := 2) ?hd (cs := #[.int .i64 (0), .string (⟨#[]⟩ : ByteArray), .int .i64 (0), .int .i64 (0)]) (t := 28) ?hr B ?_; (case hd => rfl); (case hg => rfl); (case hr => first | (go_simp; done) | (go_simp; rfl)); intro g2 w1101 hb B F2 L2 E2; ((try clear q0); (try clear q1); (try clear q2); (try clear q3); have q0 := strat0 HR0 B (by omega)); clear hb E2)
                | ((with_reducible refine gate_dst (N := 3) rfl ?_); refine bx ?hg (N := 3) ?hd (cs := #[.int .i64 (0), .string (⟨#[]⟩ : ByteArray), .int .i64 (0), .int .i64 (0)]) (t := 28) ?hr B ?_; (case hd => rfl); (case hg => rfl); (case hr => first | (go_simp; done) | (go_simp; rfl)); intro g3 w1102 hb B F3 L3 E3; have N2_3 := ne1 E3 F2; replace F2 := bn F2 hb; obtain ⟨c3_0, c3_1, c3_2, c3_3⟩ := cs4 F3; ((try clear q0); (try clear q1); (try clear q2); (try clear q3); have q0 := strat0 HR0 B (by omega)); clear hb E3)
                | ((with_reducible refine gate_store (t := 28) (p := 2) rfl ?_); obtain ⟨y0, y1, y2, y3⟩ := cs4 F2; have z0 := fz F2 0; have z1 := fz F2 1; have z2 := fz F2 2; have z3 := fz F2 3; refine sx (t := 28) (t' := 28) (p := 2) (v := ?vo1103) ?hg ?ho ?hn 0 [.int .i64 (0), .string (⟨#[]⟩ : ByteArray), .int .i64 (0), .int .i64 (0)] [.int .i64 (0), .string (⟨#[]⟩ : ByteArray), .int .i64 (0), .int .i64 (0)] ?hr B F2 L2 rfl (Nat.le_of_ble_eq_true rfl) ?_; (case ho => rfl); (case hg => rfl); (case hn => rfl); (case hr => first | (go_simp; done) | (go_simp; rfl)); intro w1103 hk B G; replace F3 := bk F3 hk N2_3.out.symm; replace F2 := G; clear hk y0 z0 y1 z1 y2 z2 y3 z3))
              refine bodyPost_ret (results_single rfl (.cell g2 28 _ (0, 0) _ rfl F2.out hu rfl (by kernel_rfl) .nil)) rfl ?_
              subst hM
              exact ⟨rfl, B.out⟩
            · skip
              have d1 : decide (1 < (W.length : Int)) = true := decide_eq_true (by omega)
              have e4 : ((W.length : Int) == 4) = false := by exact beq_eq_false_iff_ne.mpr (by omega)
              have hM : r = (0, elB W 1, 0, 0) := by rw [← hr]; unfold cOf keyOf; rw [if_neg h0, if_neg h1, if_neg h2, if_pos h3, if_neg hn, if_pos (by omega)]
              clear hr h0 h1 h2 h3
              have q0 := strat0 HR0 B (by omega)
              have q1 := strat HR0 B 1 (by decide) (by omega)
              go_enter Tryd.func36, Tryd.ntmps36
              go_wp2_with (first
                | ((with_reducible refine gate_dst (N := 2) rfl ?_); refine bx ?hg (N := 2) ?hd (cs := #[.int .i64 (0), .string (⟨#[]⟩ : ByteArray), .int .i64 (0), .int .i64 (0)]) (t := 28) ?hr B ?_; (case hd => rfl); (case hg => rfl); (case hr => first | (go_simp; done) | (go_simp; rfl)); intro g2 w1201 hb B F2 L2 E2; ((try clear q0); (try clear q1); (try clear q2); (try clear q3); have q0 := strat0 HR0 B (by omega); have q1 := strat HR0 B 1 (by decide) (by omega)); clear hb E2)
                | ((with_reducible refine gate_dst (N := 3) rfl ?_); refine bx ?hg (N := 3) ?hd (cs := #[.int .i64 (0), .string (⟨#[]⟩ : ByteArray), .int .i64 (0), .int .i64 (0)]) (t := 28) ?hr B ?_; (case hd => rfl); (case hg => rfl); (case hr => first | (go_simp; done) | (go_simp; rfl)); intro g3 w1202 hb B F3 L3 E3; have N2_3 := ne1 E3 F2; replace F2 := bn F2 hb; obtain ⟨c3_0, c3_1, c3_2, c3_3⟩ := cs4 F3; ((try clear q0); (try clear q1); (try clear q2); (try clear q3); have q0 := strat0 HR0 B (by omega); have q1 := strat HR0 B 1 (by decide) (by omega)); clear hb E3)
                | ((with_reducible refine gate_store (t := 9) (p := 10) rfl ?_); obtain ⟨y0, y1, y2, y3⟩ := cs4 F3; have z0 := fz F3 0; have z1 := fz F3 1; have z2 := fz F3 2; have z3 := fz F3 3; refine sx (t := 28) (t' := 9) (p := 10) (v := ?vo1203) ?hg ?ho ?hn 1 [.string (elB W 1)] [.int .i64 (0), .string (elB W 1), .int .i64 (0), .int .i64 (0)] ?hr B F3 L3 rfl (Nat.le_of_ble_eq_true rfl) ?_; (case ho => rfl); (case hg => rfl); (case hn => rfl); (case hr => first | (go_simp; done) | (go_simp; rfl)); intro w1203 hk B G; replace F2 := bk F2 hk N2_3.out; replace F3 := G; clear c3_0 c3_1 c3_2 c3_3; obtain ⟨c3_0, c3_1, c3_2, c3_3⟩ := cs4 F3; ((try clear q0); (try clear q1); (try clear q2); (try clear q3); have q0 := strat0 HR0 B (by omega); have q1 := strat HR0 B 1 (by decide) (by omega)); clear hk y0 z0 y1 z1 y2 z2 y3 z3)
                | ((with_reducible refine gate_store (t := 28) (p := 2) rfl ?_); obtain ⟨y0, y1, y2, y3⟩ := cs4 F2; have z0 := fz F2 0; have z1 := fz F2 1; have z2 := fz F2 2; have z3 := fz F2 3; refine sx (t := 28) (t' := 28) (p := 2) (v := ?vo1204) ?hg ?ho ?hn 0 [.int .i64 (0), .string (elB W 1), .int .i64 (0), .int .i64 (0)] [.int .i64 (0), .string (elB W 1), .int .i64 (0), .int .i64 (0)] ?hr B F2 L2 rfl (Nat.le_of_ble_eq_true rfl) ?_; (case ho => rfl); (case hg => rfl); (case hn => rfl); (case hr => first | (go_simp; done) | (go_simp; rfl)); intro w1204 hk B G; replace F3 := bk F3 hk N2_3.out.symm; replace F2 := G; clear hk y0 z0 y1 z1 y2 z2 y3 z3))
              refine bodyPost_ret (results_single rfl (.cell g2 28 _ (0, 0) _ rfl F2.out hu rfl (by kernel_rfl) .nil)) rfl ?_
              subst hM
              exact ⟨rfl, B.out⟩
        · skip
          by_cases h4 : elB W 0 = w_seal
          · have hw : (elB W 0).toList = [115, 101, 97, 108] := by rw [h4, ba_toList]; rfl
            by_cases hn1 : W.length = 1
            · skip
              have d1 : decide (1 < (W.length : Int)) = false := decide_eq_false (by omega)
              have l2 : decide ((W.length : Int) ≤ 2) = true := decide_eq_true (by omega)
              have hM : r = (5, (⟨#[]⟩ : ByteArray), 0, 0) := by rw [← hr]; unfold cOf keyOf; rw [if_neg h0, if_neg h1, if_neg h2, if_neg h3, if_pos h4, if_pos (by omega), if_neg (by omega)]
              clear hr h0 h1 h2 h3 h4
              have q0 := strat0 HR0 B (by omega)
              go_enter Tryd.func36, Tryd.ntmps36
              go_wp2_with (first
                | ((with_reducible refine gate_dst (N := 2) rfl ?_); refine bx ?hg (N := 2) ?hd (cs := #[.int .i64 (0), .string (⟨#[]⟩ : ByteArray), .int .i64 (0), .int .i64 (0)]) (t := 28) ?hr B ?_; (case hd => rfl); (case hg => rfl); (case hr => first | (go_simp; done) | (go_simp; rfl)); intro g2 w1301 hb B F2 L2 E2; ((try clear q0); (try clear q1); (try clear q2); (try clear q3); have q0 := strat0 HR0 B (by omega)); clear hb E2)
                | ((with_reducible refine gate_dst (N := 3) rfl ?_); refine bx ?hg (N := 3) ?hd (cs := #[.int .i64 (0), .string (⟨#[]⟩ : ByteArray), .int .i64 (0), .int .i64 (0)]) (t := 28) ?hr B ?_; (case hd => rfl); (case hg => rfl); (case hr => first | (go_simp; done) | (go_simp; rfl)); intro g3 w1302 hb B F3 L3 E3; have N2_3 := ne1 E3 F2; replace F2 := bn F2 hb; obtain ⟨c3_0, c3_1, c3_2, c3_3⟩ := cs4 F3; ((try clear q0); (try clear q1); (try clear q2); (try clear q3); have q0 := strat0 HR0 B (by omega)); clear hb E3)
                | ((with_reducible refine gate_store (t := 3) (p := 80) rfl ?_); obtain ⟨y0, y1, y2, y3⟩ := cs4 F3; have z0 := fz F3 0; have z1 := fz F3 1; have z2 := fz F3 2; have z3 := fz F3 3; refine sx (t := 28) (t' := 3) (p := 80) (v := ?vo1303) ?hg ?ho ?hn 0 [.int .i64 (5)] [.int .i64 (5), .string (⟨#[]⟩ : ByteArray), .int .i64 (0), .int .i64 (0)] ?hr B F3 L3 rfl (Nat.le_of_ble_eq_true rfl) ?_; (case ho => rfl); (case hg => rfl); (case hn => rfl); (case hr => first | (go_simp; done) | (go_simp; rfl)); intro w1303 hk B G; replace F2 := bk F2 hk N2_3.out; replace F3 := G; clear c3_0 c3_1 c3_2 c3_3; obtain ⟨c3_0, c3_1, c3_2, c3_3⟩ := cs4 F3; ((try clear q0); (try clear q1); (try clear q2); (try clear q3); have q0 := strat0 HR0 B (by omega)); clear hk y0 z0 y1 z1 y2 z2 y3 z3)
                | ((with_reducible refine gate_store (t := 28) (p := 2) rfl ?_); obtain ⟨y0, y1, y2, y3⟩ := cs4 F2; have z0 := fz F2 0; have z1 := fz F2 1; have z2 := fz F2 2; have z3 := fz F2 3; refine sx (t := 28) (t' := 28) (p := 2) (v := ?vo1304) ?hg ?ho ?hn 0 [.int .i64 (5), .string (⟨#[]⟩ : ByteArray), .int .i64 (0), .int .i64 (0)] [.int .i64 (5), .string (⟨#[]⟩ : ByteArray), .int .i64 (0), .int .i64 (0)] ?hr B F2 L2 rfl (Nat.le_of_ble_eq_true rfl) ?_; (case ho => rfl); (case hg => rfl); (case hn => rfl); (case hr => first | (go_simp; done) | (go_simp; rfl)); intro w1304 hk B G; replace F3 := bk F3 hk N2_3.out.symm; replace F2 := G; clear hk y0 z0 y1 z1 y2 z2 y3 z3))
              refine bodyPost_ret (results_single rfl (.cell g2 28 _ (0, 0) _ rfl F2.out hu rfl (by kernel_rfl) .nil)) rfl ?_
              subst hM
              exact ⟨rfl, B.out⟩
            · by_cases hn : W.length = 2
              · skip
                have d1 : decide (1 < (W.length : Int)) = true := decide_eq_true (by omega)
                have l2 : decide ((W.length : Int) ≤ 2) = true := decide_eq_true (by omega)
                have hM : r = (5, elB W 1, 0, 0) := by rw [← hr]; unfold cOf keyOf; rw [if_neg h0, if_neg h1, if_neg h2, if_neg h3, if_pos h4, if_pos (by omega), if_pos (by omega)]
                clear hr h0 h1 h2 h3 h4
                have q0 := strat0 HR0 B (by omega)
                have q1 := strat HR0 B 1 (by decide) (by omega)
                go_enter Tryd.func36, Tryd.ntmps36
                go_wp2_with (first
                  | ((with_reducible refine gate_dst (N := 2) rfl ?_); refine bx ?hg (N := 2) ?hd (cs := #[.int .i64 (0), .string (⟨#[]⟩ : ByteArray), .int .i64 (0), .int .i64 (0)]) (t := 28) ?hr B ?_; (case hd => rfl); (case hg => rfl); (case hr => first | (go_simp; done) | (go_simp; rfl)); intro g2 w1401 hb B F2 L2 E2; ((try clear q0); (try clear q1); (try clear q2); (try clear q3); have q0 := strat0 HR0 B (by omega); have q1 := strat HR0 B 1 (by decide) (by omega)); clear hb E2)
                  | ((with_reducible refine gate_dst (N := 3) rfl ?_); refine bx ?hg (N := 3) ?hd (cs := #[.int .i64 (0), .string (⟨#[]⟩ : ByteArray), .int .i64 (0), .int .i64 (0)]) (t := 28) ?hr B ?_; (case hd => rfl); (case hg => rfl); (case hr => first | (go_simp; done) | (go_simp; rfl)); intro g3 w1402 hb B F3 L3 E3; have N2_3 := ne1 E3 F2; replace F2 := bn F2 hb; obtain ⟨c3_0, c3_1, c3_2, c3_3⟩ := cs4 F3; ((try clear q0); (try clear q1); (try clear q2); (try clear q3); have q0 := strat0 HR0 B (by omega); have q1 := strat HR0 B 1 (by decide) (by omega)); clear hb E3)
                  | ((with_reducible refine gate_store (t := 9) (p := 10) rfl ?_); obtain ⟨y0, y1, y2, y3⟩ := cs4 F3; have z0 := fz F3 0; have z1 := fz F3 1; have z2 := fz F3 2; have z3 := fz F3 3; refine sx (t := 28) (t' := 9) (p := 10) (v := ?vo1403) ?hg ?ho ?hn 1 [.string (elB W 1)] [.int .i64 (0), .string (elB W 1), .int .i64 (0), .int .i64 (0)] ?hr B F3 L3 rfl (Nat.le_of_ble_eq_true rfl) ?_; (case ho => rfl); (case hg => rfl); (case hn => rfl); (case hr => first | (go_simp; done) | (go_simp; rfl)); intro w1403 hk B G; replace F2 := bk F2 hk N2_3.out; replace F3 := G; clear c3_0 c3_1 c3_2 c3_3; obtain ⟨c3_0, c3_1, c3_2, c3_3⟩ := cs4 F3; ((try clear q0); (try clear q1); (try clear q2); (try clear q3); have q0 := strat0 HR0 B (by omega); have q1 := strat HR0 B 1 (by decide) (by omega)); clear hk y0 z0 y1 z1 y2 z2 y3 z3)
                  | ((with_reducible refine gate_store (t := 3) (p := 80) rfl ?_); obtain ⟨y0, y1, y2, y3⟩ := cs4 F3; have z0 := fz F3 0; have z1 := fz F3 1; have z2 := fz F3 2; have z3 := fz F3 3; refine sx (t := 28) (t' := 3) (p := 80) (v := ?vo1404) ?hg ?ho ?hn 0 [.int .i64 (5)] [.int .i64 (5), .string (elB W 1), .int .i64 (0), .int .i64 (0)] ?hr B F3 L3 rfl (Nat.le_of_ble_eq_true rfl) ?_; (case ho => rfl); (case hg => rfl); (case hn => rfl); (case hr => first | (go_simp; done) | (go_simp; rfl)); intro w1404 hk B G; replace F2 := bk F2 hk N2_3.out; replace F3 := G; clear c3_0 c3_1 c3_2 c3_3; obtain ⟨c3_0, c3_1, c3_2, c3_3⟩ := cs4 F3; ((try clear q0); (try clear q1); (try clear q2); (try clear q3); have q0 := strat0 HR0 B (by omega); have q1 := strat HR0 B 1 (by decide) (by omega)); clear hk y0 z0 y1 z1 y2 z2 y3 z3)
                  | ((with_reducible refine gate_store (t := 28) (p := 2) rfl ?_); obtain ⟨y0, y1, y2, y3⟩ := cs4 F2; have z0 := fz F2 0; have z1 := fz F2 1; have z2 := fz F2 2; have z3 := fz F2 3; refine sx (t := 28) (t' := 28) (p := 2) (v := ?vo1405) ?hg ?ho ?hn 0 [.int .i64 (5), .string (elB W 1), .int .i64 (0), .int .i64 (0)] [.int .i64 (5), .string (elB W 1), .int .i64 (0), .int .i64 (0)] ?hr B F2 L2 rfl (Nat.le_of_ble_eq_true rfl) ?_; (case ho => rfl); (case hg => rfl); (case hn => rfl); (case hr => first | (go_simp; done) | (go_simp; rfl)); intro w1405 hk B G; replace F3 := bk F3 hk N2_3.out.symm; replace F2 := G; clear hk y0 z0 y1 z1 y2 z2 y3 z3))
                refine bodyPost_ret (results_single rfl (.cell g2 28 _ (0, 0) _ rfl F2.out hu rfl (by kernel_rfl) .nil)) rfl ?_
                subst hM
                exact ⟨rfl, B.out⟩
              · skip
                have d1 : decide (1 < (W.length : Int)) = true := decide_eq_true (by omega)
                have l2 : decide ((W.length : Int) ≤ 2) = false := decide_eq_false (by omega)
                have hM : r = (0, elB W 1, 0, 0) := by rw [← hr]; unfold cOf keyOf; rw [if_neg h0, if_neg h1, if_neg h2, if_neg h3, if_pos h4, if_neg (by omega), if_pos (by omega)]
                clear hr h0 h1 h2 h3 h4
                have q0 := strat0 HR0 B (by omega)
                have q1 := strat HR0 B 1 (by decide) (by omega)
                go_enter Tryd.func36, Tryd.ntmps36
                go_wp2_with (first
                  | ((with_reducible refine gate_dst (N := 2) rfl ?_); refine bx ?hg (N := 2) ?hd (cs := #[.int .i64 (0), .string (⟨#[]⟩ : ByteArray), .int .i64 (0), .int .i64 (0)]) (t := 28) ?hr B ?_; (case hd => rfl); (case hg => rfl); (case hr => first | (go_simp; done) | (go_simp; rfl)); intro g2 w1501 hb B F2 L2 E2; ((try clear q0); (try clear q1); (try clear q2); (try clear q3); have q0 := strat0 HR0 B (by omega); have q1 := strat HR0 B 1 (by decide) (by omega)); clear hb E2)
                  | ((with_reducible refine gate_dst (N := 3) rfl ?_); refine bx ?hg (N := 3) ?hd (cs := #[.int .i64 (0), .string (⟨#[]⟩ : ByteArray), .int .i64 (0), .int .i64 (0)]) (t := 28) ?hr B ?_; (case hd => rfl); (case hg => rfl); (case hr => first | (go_simp; done) | (go_simp; rfl)); intro g3 w1502 hb B F3 L3 E3; have N2_3 := ne1 E3 F2; replace F2 := bn F2 hb; obtain ⟨c3_0, c3_1, c3_2, c3_3⟩ := cs4 F3; ((try clear q0); (try clear q1); (try clear q2); (try clear q3); have q0 := strat0 HR0 B (by omega); have q1 := strat HR0 B 1 (by decide) (by omega)); clear hb E3)
                  | ((with_reducible refine gate_store (t := 9) (p := 10) rfl ?_); obtain ⟨y0, y1, y2, y3⟩ := cs4 F3; have z0 := fz F3 0; have z1 := fz F3 1; have z2 := fz F3 2; have z3 := fz F3 3; refine sx (t := 28) (t' := 9) (p := 10) (v := ?vo1503) ?hg ?ho ?hn 1 [.string (elB W 1)] [.int .i64 (0), .string (elB W 1), .int .i64 (0), .int .i64 (0)] ?hr B F3 L3 rfl (Nat.le_of_ble_eq_true rfl) ?_; (case ho => rfl); (case hg => rfl); (case hn => rfl); (case hr => first | (go_simp; done) | (go_simp; rfl)); intro w1503 hk B G; replace F2 := bk F2 hk N2_3.out; replace F3 := G; clear c3_0 c3_1 c3_2 c3_3; obtain ⟨c3_0, c3_1, c3_2, c3_3⟩ := cs4 F3; ((try clear q0); (try clear q1); (try clear q2); (try clear q3); have q0 := strat0 HR0 B (by omega); have q1 := strat HR0 B 1 (by decide) (by omega)); clear hk y0 z0 y1 z1 y2 z2 y3 z3)
                  | ((with_reducible refine gate_store (t := 28) (p := 2) rfl ?_); obtain ⟨y0, y1, y2, y3⟩ := cs4 F2; have z0 := fz F2 0; have z1 := fz F2 1; have z2 := fz F2 2; have z3 := fz F2 3; refine sx (t := 28) (t' := 28) (p := 2) (v := ?vo1504) ?hg ?ho ?hn 0 [.int .i64 (0), .string (elB W 1), .int .i64 (0), .int .i64 (0)] [.int .i64 (0), .string (elB W 1), .int .i64 (0), .int .i64 (0)] ?hr B F2 L2 rfl (Nat.le_of_ble_eq_true rfl) ?_; (case ho => rfl); (case hg => rfl); (case hn => rfl); (case hr => first | (go_simp; done) | (go_simp; rfl)); intro w1504 hk B G; replace F3 := bk F3 hk N2_3.out.symm; replace F2 := G; clear hk y0 z0 y1 z1 y2 z2 y3 z3))
                refine bodyPost_ret (results_single rfl (.cell g2 28 _ (0, 0) _ rfl F2.out hu rfl (by kernel_rfl) .nil)) rfl ?_
                subst hM
                exact ⟨rfl, B.out⟩
          · skip
            have b0 : ((elB W 0).toList == [103, 101, 116]) = false := by rw [show ([103, 101, 116] : List UInt8) = w_get.toList by rw [ba_toList]; rfl, str_beq, decide_eq_false h0]
            have b1 : ((elB W 0).toList == [112, 117, 116]) = false := by rw [show ([112, 117, 116] : List UInt8) = w_put.toList by rw [ba_toList]; rfl, str_beq, decide_eq_false h1]
            have b2 : ((elB W 0).toList == [100, 114, 111, 112]) = false := by rw [show ([100, 114, 111, 112] : List UInt8) = w_drop.toList by rw [ba_toList]; rfl, str_beq, decide_eq_false h2]
            have b3 : ((elB W 0).toList == [115, 119, 97, 112]) = false := by rw [show ([115, 119, 97, 112] : List UInt8) = w_swap.toList by rw [ba_toList]; rfl, str_beq, decide_eq_false h3]
            have b4 : ((elB W 0).toList == [115, 101, 97, 108]) = false := by rw [show ([115, 101, 97, 108] : List UInt8) = w_seal.toList by rw [ba_toList]; rfl, str_beq, decide_eq_false h4]
            by_cases hn1 : W.length = 1
            · skip
              have d1 : decide (1 < (W.length : Int)) = false := decide_eq_false (by omega)
              have hM : r = (0, (⟨#[]⟩ : ByteArray), 0, 0) := by rw [← hr]; unfold cOf keyOf; rw [if_neg h0, if_neg h1, if_neg h2, if_neg h3, if_neg h4, if_neg (by omega)]
              clear hr h0 h1 h2 h3 h4
              have q0 := strat0 HR0 B (by omega)
              go_enter Tryd.func36, Tryd.ntmps36
              go_wp2_with (first
                | ((with_reducible refine gate_dst (N := 2) rfl ?_); refine bx ?hg (N := 2) ?hd (cs := #[.int .i64 (0), .string (⟨#[]⟩ : ByteArray), .int .i64 (0), .int .i64 (0)]) (t := 28) ?hr B ?_; (case hd => rfl); (case hg => rfl); (case hr => first | (go_simp; done) | (go_simp; rfl)); intro g2 w1601 hb B F2 L2 E2; ((try clear q0); (try clear q1); (try clear q2); (try clear q3); have q0 := strat0 HR0 B (by omega)); clear hb E2)
                | ((with_reducible refine gate_dst (N := 3) rfl ?_); refine bx ?hg (N := 3) ?hd (cs := #[.int .i64 (0), .string (⟨#[]⟩ : ByteArray), .int .i64 (0), .int .i64 (0)]) (t := 28) ?hr B ?_; (case hd => rfl); (case hg => rfl); (case hr => first | (go_simp; done) | (go_simp; rfl)); intro g3 w1602 hb B F3 L3 E3; have N2_3 := ne1 E3 F2; replace F2 := bn F2 hb; obtain ⟨c3_0, c3_1, c3_2, c3_3⟩ := cs4 F3; ((try clear q0); (try clear q1); (try clear q2); (try clear q3); have q0 := strat0 HR0 B (by omega)); clear hb E3)
                | ((with_reducible refine gate_store (t := 28) (p := 2) rfl ?_); obtain ⟨y0, y1, y2, y3⟩ := cs4 F2; have z0 := fz F2 0; have z1 := fz F2 1; have z2 := fz F2 2; have z3 := fz F2 3; refine sx (t := 28) (t' := 28) (p := 2) (v := ?vo1603) ?hg ?ho ?hn 0 [.int .i64 (0), .string (⟨#[]⟩ : ByteArray), .int .i64 (0), .int .i64 (0)] [.int .i64 (0), .string (⟨#[]⟩ : ByteArray), .int .i64 (0), .int .i64 (0)] ?hr B F2 L2 rfl (Nat.le_of_ble_eq_true rfl) ?_; (case ho => rfl); (case hg => rfl); (case hn => rfl); (case hr => first | (go_simp; done) | (go_simp; rfl)); intro w1603 hk B G; replace F3 := bk F3 hk N2_3.out.symm; replace F2 := G; clear hk y0 z0 y1 z1 y2 z2 y3 z3))
              refine bodyPost_ret (results_single rfl (.cell g2 28 _ (0, 0) _ rfl F2.out hu rfl (by kernel_rfl) .nil)) rfl ?_
              subst hM
              exact ⟨rfl, B.out⟩
            · skip
              have d1 : decide (1 < (W.length : Int)) = true := decide_eq_true (by omega)
              have hM : r = (0, elB W 1, 0, 0) := by rw [← hr]; unfold cOf keyOf; rw [if_neg h0, if_neg h1, if_neg h2, if_neg h3, if_neg h4, if_pos (by omega)]
              clear hr h0 h1 h2 h3 h4
              have q0 := strat0 HR0 B (by omega)
              have q1 := strat HR0 B 1 (by decide) (by omega)
              go_enter Tryd.func36, Tryd.ntmps36
              go_wp2_with (first
                | ((with_reducible refine gate_dst (N := 2) rfl ?_); refine bx ?hg (N := 2) ?hd (cs := #[.int .i64 (0), .string (⟨#[]⟩ : ByteArray), .int .i64 (0), .int .i64 (0)]) (t := 28) ?hr B ?_; (case hd => rfl); (case hg => rfl); (case hr => first | (go_simp; done) | (go_simp; rfl)); intro g2 w1701 hb B F2 L2 E2; ((try clear q0); (try clear q1); (try clear q2); (try clear q3); have q0 := strat0 HR0 B (by omega); have q1 := strat HR0 B 1 (by decide) (by omega)); clear hb E2)
                | ((with_reducible refine gate_dst (N := 3) rfl ?_); refine bx ?hg (N := 3) ?hd (cs := #[.int .i64 (0), .string (⟨#[]⟩ : ByteArray), .int .i64 (0), .int .i64 (0)]) (t := 28) ?hr B ?_; (case hd => rfl); (case hg => rfl); (case hr => first | (go_simp; done) | (go_simp; rfl)); intro g3 w1702 hb B F3 L3 E3; have N2_3 := ne1 E3 F2; replace F2 := bn F2 hb; obtain ⟨c3_0, c3_1, c3_2, c3_3⟩ := cs4 F3; ((try clear q0); (try clear q1); (try clear q2); (try clear q3); have q0 := strat0 HR0 B (by omega); have q1 := strat HR0 B 1 (by decide) (by omega)); clear hb E3)
                | ((with_reducible refine gate_store (t := 9) (p := 10) rfl ?_); obtain ⟨y0, y1, y2, y3⟩ := cs4 F3; have z0 := fz F3 0; have z1 := fz F3 1; have z2 := fz F3 2; have z3 := fz F3 3; refine sx (t := 28) (t' := 9) (p := 10) (v := ?vo1703) ?hg ?ho ?hn 1 [.string (elB W 1)] [.int .i64 (0), .string (elB W 1), .int .i64 (0), .int .i64 (0)] ?hr B F3 L3 rfl (Nat.le_of_ble_eq_true rfl) ?_; (case ho => rfl); (case hg => rfl); (case hn => rfl); (case hr => first | (go_simp; done) | (go_simp; rfl)); intro w1703 hk B G; replace F2 := bk F2 hk N2_3.out; replace F3 := G; clear c3_0 c3_1 c3_2 c3_3; obtain ⟨c3_0, c3_1, c3_2, c3_3⟩ := cs4 F3; ((try clear q0); (try clear q1); (try clear q2); (try clear q3); have q0 := strat0 HR0 B (by omega); have q1 := strat HR0 B 1 (by decide) (by omega)); clear hk y0 z0 y1 z1 y2 z2 y3 z3)
                | ((with_reducible refine gate_store (t := 28) (p := 2) rfl ?_); obtain ⟨y0, y1, y2, y3⟩ := cs4 F2; have z0 := fz F2 0; have z1 := fz F2 1; have z2 := fz F2 2; have z3 := fz F2 3; refine sx (t := 28) (t' := 28) (p := 2) (v := ?vo1704) ?hg ?ho ?hn 0 [.int .i64 (0), .string (elB W 1), .int .i64 (0), .int .i64 (0)] [.int .i64 (0), .string (elB W 1), .int .i64 (0), .int .i64 (0)] ?hr B F2 L2 rfl (Nat.le_of_ble_eq_true rfl) ?_; (case ho => rfl); (case hg => rfl); (case hn => rfl); (case hr => first | (go_simp; done) | (go_simp; rfl)); intro w1704 hk B G; replace F3 := bk F3 hk N2_3.out.symm; replace F2 := G; clear hk y0 z0 y1 z1 y2 z2 y3 z3))
              refine bodyPost_ret (results_single rfl (.cell g2 28 _ (0, 0) _ rfl F2.out hu rfl (by kernel_rfl) .nil)) rfl ?_
              subst hM
              exact ⟨rfl, B.out⟩

theorem spec_ReadCommand.M (s : ByteArray) (w : World) (hz : s.size ≤ 1048576) : Calls Tryd.prog 19 #[.string s] w fun e w' => e = .returned (.tuple #[.agg #[.int .i64 (rcM s).1.1, .string (rcM s).1.2.1, .int .i64 (rcM s).1.2.2.1, .int .i64 (rcM s).1.2.2.2], .bool (rcM s).2]) ∧ Below w.heap.size w w' := by
  have B := Aside0.mk (Below.refl w.heap.size w)
  have hu := Tryd.underlying28
  obtain ⟨r, hr⟩ : ∃ r, rcM s = r := ⟨_, rfl⟩
  rw [hr]
  have hwl := words_le s
  obtain ⟨W, hW⟩ : ∃ W, wsP s = W := ⟨_, rfl⟩
  have hwp := words_pos s
  have h4 : 4 ≤ W.length := by rw [← hW]; unfold wsP; simp only [List.length_append, List.length_cons, List.length_nil]; omega
  unfold rcM at hr
  rw [hW] at hr
  have HW := Aside0.mk hW
  by_cases hs : s.toList = ([] : List UInt8)
  · rw [if_neg (fun k => k.1 hs)] at hr
    have hw0 : elB W 0 = (⟨#[]⟩ : ByteArray) := by rw [← hW, empty_of hs]; rfl
    have hw : (elB W 0).toList = ([] : List UInt8) := by rw [hw0, ba_toList]
    have HM := Aside0.mk hr
    clear hr hw0 hW
    go_enter Tryd.func19, Tryd.ntmps19
    go_wp2_with (first
      | ((with_reducible refine gate_dst (N := 2) rfl ?_); refine bx ?hg (N := 2) ?hd (cs := #[.int .i64 (0), .string (⟨#[]⟩ : ByteArray), .int .i64 (0), .int .i64 (0)]) (t := 28) ?hr B ?_; (case hd => rfl); (case hg => rfl); (case hr => first | (go_simp; done) | (go_simp; rfl)); intro g2 w101 hb B F2 L2 E2; clear hb E2)
      | (go_at_call 35; with_reducible refine cr (spec_l7Words.M s _ (by omega)) B fun AV102 kV102 w102 hb B RV102 QV102 => ?_; replace F2 := bn F2 hb; clear QV102; clear hb)
      | ((with_reducible refine gate_dst (N := 8) rfl ?_); refine lt Kd.string 9 ?hg (N := 8) ?hd ([((⟨#[]⟩ : ByteArray)), ((⟨#[]⟩ : ByteArray)), ((⟨#[]⟩ : ByteArray))] : List ByteArray) [.string (⟨#[]⟩ : ByteArray), .string (⟨#[]⟩ : ByteArray), .string (⟨#[]⟩ : ByteArray)] ?hr (Reps.one (show Kd.M Kd.string _ _ _ (⟨#[]⟩ : ByteArray) [.string (⟨#[]⟩ : ByteArray)] from rfl) (Reps.one (show Kd.M Kd.string _ _ _ (⟨#[]⟩ : ByteArray) [.string (⟨#[]⟩ : ByteArray)] from rfl) (Reps.one (show Kd.M Kd.string _ _ _ (⟨#[]⟩ : ByteArray) [.string (⟨#[]⟩ : ByteArray)] from rfl) (Reps.none _ _)))) (by simp) B ?_; (case hd => rfl); (case hg => rfl); (case hr => first | (go_simp; done) | (go_simp; rfl)); intro z8 hz8 AL8 kL8 w103 hb B RL8 QL8; replace F2 := bn F2 hb; replace RV102 := rn RV102 hb; clear hb QL8)
      | ((with_reducible refine gate_builtin (b := .append) (xs := #[.tmp 7, .tmp 8]) rfl ?_); at_builtin; refine apx Kd.string 9 rfl (.tmp 7) (.tmp 8) 46 (.string (⟨#[]⟩ : ByteArray)) 16 rfl Tryd.underlying46 info9 rfl (by decide) (by omega) rfl rfl RV102 (rc RL8) (fun _ _ h => h) (by rw [← hz8]; simp only [List.length_cons, List.length_nil]; omega) B ?_; intro z9 hz9 AL9 kL9 w104 hg B RL9 hat; replace F2 := bga F2 hg RV102 (by decide); clear hg hat; (have h9 : z9 = W := by rw [← hz9, ← hz8, ← HW.out]; rfl); subst h9; obtain ⟨ad, hA, -⟩ := Kd.at_string (rc RL9) 0 (by omega) (by omega); subst hA; have Z8 := Aside0.mk hz8; have Z9 := Aside0.mk hz9; clear hz8 hz9; have q0 := strat0 (Aside0.mk (rc RL9)) (Aside0.mk (Below.refl _ _)) (by omega); have q1 := strat (Aside0.mk (rc RL9)) (Aside0.mk (Below.refl _ _)) 1 (by decide) (by omega))
      | ((with_reducible refine gate_dst (N := 5) rfl ?_); refine bx ?hg (N := 5) ?hd (cs := #[.int .i64 (0), .string (⟨#[]⟩ : ByteArray), .int .i64 (0), .int .i64 (0)]) (t := 28) ?hr B ?_; (case hd => rfl); (case hg => rfl); (case hr => first | (go_simp; done) | (go_simp; rfl)); intro g5 w105 hb B F5 L5 E5; have N2_5 := ne1 E5 F2; replace F2 := bn F2 hb; replace RL9 := rn RL9 hb; obtain ⟨c5_0, c5_1, c5_2, c5_3⟩ := cs4 F5; ((try clear q0); (try clear q1); (try clear q2); (try clear q3); have q0 := strat0 (Aside0.mk (rc RL9)) (Aside0.mk (Below.refl _ _)) (by omega); have q1 := strat (Aside0.mk (rc RL9)) (Aside0.mk (Below.refl _ _)) 1 (by decide) (by omega)); clear hb E5)
      | ((with_reducible refine gate_store (t := 28) (p := 5) rfl ?_); obtain ⟨y0, y1, y2, y3⟩ := cs4 F5; have z0 := fz F5 0; have z1 := fz F5 1; have z2 := fz F5 2; have z3 := fz F5 3; refine sx (t := 28) (t' := 28) (p := 5) (v := ?vo106) ?hg ?ho ?hn 0 [.int .i64 (0), .string (elB z9 1), .int .i64 (0), .int .i64 (0)] [.int .i64 (0), .string (elB z9 1), .int .i64 (0), .int .i64 (0)] ?hr B F5 L5 rfl (Nat.le_of_ble_eq_true rfl) ?_; (case ho => rfl); (case hg => rfl); (case hn => rfl); (case hr => first | (go_simp; done) | (go_simp; rfl)); intro w106 hk B G; replace F2 := bk F2 hk N2_5.out; replace RL9 := rk RL9 F5 (by decide) hk; replace F5 := G; clear c5_0 c5_1 c5_2 c5_3; obtain ⟨c5_0, c5_1, c5_2, c5_3⟩ := cs4 F5; ((try clear q0); (try clear q1); (try clear q2); (try clear q3); have q0 := strat0 (Aside0.mk (rc RL9)) (Aside0.mk (Below.refl _ _)) (by omega); have q1 := strat (Aside0.mk (rc RL9)) (Aside0.mk (Below.refl _ _)) 1 (by decide) (by omega)); clear hk y0 z0 y1 z1 y2 z2 y3 z3)
      | (go_at_call 14; with_reducible refine cl (spec_CommandText.M 0 (elB z9 1) 0 0 _) B fun w107 hb B => ?_; replace F2 := bn F2 hb; replace RL9 := rn RL9 hb; ((try clear q0); (try clear q1); (try clear q2); (try clear q3); have q0 := strat0 (Aside0.mk (rc RL9)) (Aside0.mk (Below.refl _ _)) (by omega); have q1 := strat (Aside0.mk (rc RL9)) (Aside0.mk (Below.refl _ _)) 1 (by decide) (by omega)); clear hb)
      | ((with_reducible refine gate_store (t := 28) (p := 2) rfl ?_); obtain ⟨y0, y1, y2, y3⟩ := cs4 F2; have z0 := fz F2 0; have z1 := fz F2 1; have z2 := fz F2 2; have z3 := fz F2 3; refine sx (t := 28) (t' := 28) (p := 2) (v := ?vo108) ?hg ?ho ?hn 0 [.int .i64 (0), .string (⟨#[]⟩ : ByteArray), .int .i64 (0), .int .i64 (0)] [.int .i64 (0), .string (⟨#[]⟩ : ByteArray), .int .i64 (0), .int .i64 (0)] ?hr B F2 L2 rfl (Nat.le_of_ble_eq_true rfl) ?_; (case ho => rfl); (case hg => rfl); (case hn => rfl); (case hr => first | (go_simp; done) | (go_simp; rfl)); intro w108 hk B G; replace RL9 := rk RL9 F2 (by decide) hk; replace F2 := G; ((try clear q0); (try clear q1); (try clear q2); (try clear q3); have q0 := strat0 (Aside0.mk (rc RL9)) (Aside0.mk (Below.refl _ _)) (by omega); have q1 := strat (Aside0.mk (rc RL9)) (Aside0.mk (Below.refl _ _)) 1 (by decide) (by omega)); clear hk y0 z0 y1 z1 y2 z2 y3 z3))
    refine bodyPost_ret (results_list (rs := [.cell 2 28, .tmp 3]) rfl (by simp) (.cell g2 28 _ (0, 0) _ rfl F2.out hu rfl (by kernel_rfl) (.tmp .nil))) rfl ?_
    have hr2 := HM.out
    subst hr2
    exact ⟨rfl, B.out⟩
  · have hn : (s.toList == ([] : List UInt8)) = false := by simpa using hs
    clear hW
    by_cases h_0 : elB W 0 = w_get
    · have hw : (elB W 0).toList = [103, 101, 116] := by rw [h_0, ba_toList]; rfl
      have hc : c7 W = (1, elB W 1, 0, 0) := by unfold c7; rw [if_pos h_0]
      rw [hc] at hr
      replace hr : (if s.toList ≠ ([] : List UInt8) ∧ (cmtM 1 (elB W 1) 0 0) = s then ((1, elB W 1, 0, 0), true) else (rcZ, false)) = r := hr
      clear hc h_0
      by_cases hq : (cmtM 1 (elB W 1) 0 0) = s
      · rw [if_pos ⟨hs, hq⟩] at hr
        have hb : ((cmtM 1 (elB W 1) 0 0).toList == s.toList) = true := by rw [hq]; simp
        have HM := Aside0.mk hr
        clear hr hq hs
        go_enter Tryd.func19, Tryd.ntmps19
        go_wp2_with (first
          | ((with_reducible refine gate_dst (N := 2) rfl ?_); refine bx ?hg (N := 2) ?hd (cs := #[.int .i64 (0), .string (⟨#[]⟩ : ByteArray), .int .i64 (0), .int .i64 (0)]) (t := 28) ?hr B ?_; (case hd => rfl); (case hg => rfl); (case hr => first | (go_simp; done) | (go_simp; rfl)); intro g2 w201 hb B F2 L2 E2; clear hb E2)
          | (go_at_call 35; with_reducible refine cr (spec_l7Words.M s _ (by omega)) B fun AV202 kV202 w202 hb B RV202 QV202 => ?_; replace F2 := bn F2 hb; clear QV202; clear hb)
          | ((with_reducible refine gate_dst (N := 8) rfl ?_); refine lt Kd.string 9 ?hg (N := 8) ?hd ([((⟨#[]⟩ : ByteArray)), ((⟨#[]⟩ : ByteArray)), ((⟨#[]⟩ : ByteArray))] : List ByteArray) [.string (⟨#[]⟩ : ByteArray), .string (⟨#[]⟩ : ByteArray), .string (⟨#[]⟩ : ByteArray)] ?hr (Reps.one (show Kd.M Kd.string _ _ _ (⟨#[]⟩ : ByteArray) [.string (⟨#[]⟩ : ByteArray)] from rfl) (Reps.one (show Kd.M Kd.string _ _ _ (⟨#[]⟩ : ByteArray) [.string (⟨#[]⟩ : ByteArray)] from rfl) (Reps.one (show Kd.M Kd.string _ _ _ (⟨#[]⟩ : ByteArray) [.string (⟨#[]⟩ : ByteArray)] from rfl) (Reps.none _ _)))) (by simp) B ?_; (case hd => rfl); (case hg => rfl); (case hr => first | (go_simp; done) | (go_simp; rfl)); intro z8 hz8 AL8 kL8 w203 hb B RL8 QL8; replace F2 := bn F2 hb; replace RV202 := rn RV202 hb; clear hb QL8)
          | ((with_reducible refine gate_builtin (b := .append) (xs := #[.tmp 7, .tmp 8]) rfl ?_); at_builtin; refine apx Kd.string 9 rfl (.tmp 7) (.tmp 8) 46 (.string (⟨#[]⟩ : ByteArray)) 16 rfl Tryd.underlying46 info9 rfl (by decide) (by omega) rfl rfl RV202 (rc RL8) (fun _ _ h => h) (by rw [← hz8]; simp only [List.length_cons, List.length_nil]; omega) B ?_; intro z9 hz9 AL9 kL9 w204 hg B RL9 hat; replace F2 := bga F2 hg RV202 (by decide); clear hg hat; (have h9 : z9 = W := by rw [← hz9, ← hz8, ← HW.out]; rfl); subst h9; obtain ⟨ad, hA, -⟩ := Kd.at_string (rc RL9) 0 (by omega) (by omega); subst hA; have Z8 := Aside0.mk hz8; have Z9 := Aside0.mk hz9; clear hz8 hz9; have q0 := strat0 (Aside0.mk (rc RL9)) (Aside0.mk (Below.refl _ _)) (by omega); have q1 := strat (Aside0.mk (rc RL9)) (Aside0.mk (Below.refl _ _)) 1 (by decide) (by omega))
          | ((with_reducible refine gate_dst (N := 5) rfl ?_); refine bx ?hg (N := 5) ?hd (cs := #[.int .i64 (0), .string (⟨#[]⟩ : ByteArray), .int .i64 (0), .int .i64 (0)]) (t := 28) ?hr B ?_; (case hd => rfl); (case hg => rfl); (case hr => first | (go_simp; done) | (go_simp; rfl)); intro g5 w205 hb B F5 L5 E5; have N2_5 := ne1 E5 F2; replace F2 := bn F2 hb; replace RL9 := rn RL9 hb; obtain ⟨c5_0, c5_1, c5_2, c5_3⟩ := cs4 F5; ((try clear q0); (try clear q1); (try clear q2); (try clear q3); have q0 := strat0 (Aside0.mk (rc RL9)) (Aside0.mk (Below.refl _ _)) (by omega); have q1 := strat (Aside0.mk (rc RL9)) (Aside0.mk (Below.refl _ _)) 1 (by decide) (by omega)); clear hb E5)
          | ((with_reducible refine gate_store (t := 28) (p := 5) rfl ?_); obtain ⟨y0, y1, y2, y3⟩ := cs4 F5; have z0 := fz F5 0; have z1 := fz F5 1; have z2 := fz F5 2; have z3 := fz F5 3; refine sx (t := 28) (t' := 28) (p := 5) (v := ?vo206) ?hg ?ho ?hn 0 [.int .i64 (0), .string (elB z9 1), .int .i64 (0), .int .i64 (0)] [.int .i64 (0), .string (elB z9 1), .int .i64 (0), .int .i64 (0)] ?hr B F5 L5 rfl (Nat.le_of_ble_eq_true rfl) ?_; (case ho => rfl); (case hg => rfl); (case hn => rfl); (case hr => first | (go_simp; done) | (go_simp; rfl)); intro w206 hk B G; replace F2 := bk F2 hk N2_5.out; replace RL9 := rk RL9 F5 (by decide) hk; replace F5 := G; clear c5_0 c5_1 c5_2 c5_3; obtain ⟨c5_0, c5_1, c5_2, c5_3⟩ := cs4 F5; ((try clear q0); (try clear q1); (try clear q2); (try clear q3); have q0 := strat0 (Aside0.mk (rc RL9)) (Aside0.mk (Below.refl _ _)) (by omega); have q1 := strat (Aside0.mk (rc RL9)) (Aside0.mk (Below.refl _ _)) 1 (by decide) (by omega)); clear hk y0 z0 y1 z1 y2 z2 y3 z3)
          | ((with_reducible refine gate_store (t := 3) (p := 19) rfl ?_); obtain ⟨y0, y1, y2, y3⟩ := cs4 F5; have z0 := fz F5 0; have z1 := fz F5 1; have z2 := fz F5 2; have z3 := fz F5 3; refine sx (t := 28) (t' := 3) (p := 19) (v := ?vo207) ?hg ?ho ?hn 0 [.int .i64 (1)] [.int .i64 (1), .string (elB z9 1), .int .i64 (0), .int .i64 (0)] ?hr B F5 L5 rfl (Nat.le_of_ble_eq_true rfl) ?_; (case ho => rfl); (case hg => rfl); (case hn => rfl); (case hr => first | (go_simp; done) | (go_simp; rfl)); intro w207 hk B G; replace F2 := bk F2 hk N2_5.out; replace RL9 := rk RL9 F5 (by decide) hk; replace F5 := G; clear c5_0 c5_1 c5_2 c5_3; obtain ⟨c5_0, c5_1, c5_2, c5_3⟩ := cs4 F5; ((try clear q0); (try clear q1); (try clear q2); (try clear q3); have q0 := strat0 (Aside0.mk (rc RL9)) (Aside0.mk (Below.refl _ _)) (by omega); have q1 := strat (Aside0.mk (rc RL9)) (Aside0.mk (Below.refl _ _)) 1 (by decide) (by omega)); clear hk y0 z0 y1 z1 y2 z2 y3 z3)
          | (go_at_call 14; with_reducible refine cl (spec_CommandText.M 1 (elB z9 1) 0 0 _) B fun w208 hb B => ?_; replace F2 := bn F2 hb; replace F5 := bn F5 hb; replace RL9 := rn RL9 hb; clear c5_0 c5_1 c5_2 c5_3; obtain ⟨c5_0, c5_1, c5_2, c5_3⟩ := cs4 F5; ((try clear q0); (try clear q1); (try clear q2); (try clear q3); have q0 := strat0 (Aside0.mk (rc RL9)) (Aside0.mk (Below.refl _ _)) (by omega); have q1 := strat (Aside0.mk (rc RL9)) (Aside0.mk (Below.refl _ _)) 1 (by decide) (by omega)); clear hb)
          | ((with_reducible refine gate_store (t := 28) (p := 2) rfl ?_); obtain ⟨y0, y1, y2, y3⟩ := cs4 F2; have z0 := fz F2 0; have z1 := fz F2 1; have z2 := fz F2 2; have z3 := fz F2 3; refine sx (t := 28) (t' := 28) (p := 2) (v := ?vo209) ?hg ?ho ?hn 0 [.int .i64 (1), .string (elB z9 1), .int .i64 (0), .int .i64 (0)] [.int .i64 (1), .string (elB z9 1), .int .i64 (0), .int .i64 (0)] ?hr B F2 L2 rfl (Nat.le_of_ble_eq_true rfl) ?_; (case ho => rfl); (case hg => rfl); (case hn => rfl); (case hr => first | (go_simp; done) | (go_simp; rfl)); intro w209 hk B G; replace RL9 := rk RL9 F2 (by decide) hk; replace F2 := G; ((try clear q0); (try clear q1); (try clear q2); (try clear q3); have q0 := strat0 (Aside0.mk (rc RL9)) (Aside0.mk (Below.refl _ _)) (by omega); have q1 := strat (Aside0.mk (rc RL9)) (Aside0.mk (Below.refl _ _)) 1 (by decide) (by omega)); clear hk y0 z0 y1 z1 y2 z2 y3 z3))
        refine bodyPost_ret (results_list (rs := [.cell 2 28, .tmp 3]) rfl (by simp) (.cell g2 28 _ (0, 0) _ rfl F2.out hu rfl (by kernel_rfl) (.tmp .nil))) rfl ?_
        have hr2 := HM.out
        subst hr2
        exact ⟨rfl, B.out⟩
      · rw [if_neg (fun k => hq k.2)] at hr
        have hb : ((cmtM 1 (elB W 1) 0 0).toList == s.toList) = false := by rw [str_beq, decide_eq_false hq]
        have HM := Aside0.mk hr
        clear hr hq hs
        go_enter Tryd.func19, Tryd.ntmps19
        go_wp2_with (first
          | ((with_reducible refine gate_dst (N := 2) rfl ?_); refine bx ?hg (N := 2) ?hd (cs := #[.int .i64 (0), .string (⟨#[]⟩ : ByteArray), .int .i64 (0), .int .i64 (0)]) (t := 28) ?hr B ?_; (case hd => rfl); (case hg => rfl); (case hr => first | (go_simp; done) | (go_simp; rfl)); intro g2 w301 hb B F2 L2 E2; clear hb E2)
          | (go_at_call 35; with_reducible refine cr (spec_l7Words.M s _ (by omega)) B fun AV302 kV302 w302 hb B RV302 QV302 => ?_; replace F2 := bn F2 hb; clear QV302; clear hb)
          | ((with_reducible refine gate_dst (N := 8) rfl ?_); refine lt Kd.string 9 ?hg (N := 8) ?hd ([((⟨#[]⟩ : ByteArray)), ((⟨#[]⟩ : ByteArray)), ((⟨#[]⟩ : ByteArray))] : List ByteArray) [.string (⟨#[]⟩ : ByteArray), .string (⟨#[]⟩ : ByteArray), .string (⟨#[]⟩ : ByteArray)] ?hr (Reps.one (show Kd.M Kd.string _ _ _ (⟨#[]⟩ : ByteArray) [.string (⟨#[]⟩ : ByteArray)] from rfl) (Reps.one (show Kd.M Kd.string _ _ _ (⟨#[]⟩ : ByteArray) [.string (⟨#[]⟩ : ByteArray)] from rfl) (Reps.one (show Kd.M Kd.string _ _ _ (⟨#[]⟩ : ByteArray) [.string (⟨#[]⟩ : ByteArray)] from rfl) (Reps.none _ _)))) (by simp) B ?_; (case hd => rfl); (case hg => rfl); (case hr => first | (go_simp; done) | (go_simp; rfl)); intro z8 hz8 AL8 kL8 w303 hb B RL8 QL8; replace F2 := bn F2 hb; replace RV302 := rn RV302 hb; clear hb QL8)
          | ((with_reducible refine gate_builtin (b := .append) (xs := #[.tmp 7, .tmp 8]) rfl ?_); at_builtin; refine apx Kd.string 9 rfl (.tmp 7) (.tmp 8) 46 (.string (⟨#[]⟩ : ByteArray)) 16 rfl Tryd.underlying46 info9 rfl (by decide) (by omega) rfl rfl RV302 (rc RL8) (fun _ _ h => h) (by rw [← hz8]; simp only [List.length_cons, List.length_nil]; omega) B ?_; intro z9 hz9 AL9 kL9 w304 hg B RL9 hat; replace F2 := bga F2 hg RV302 (by decide); clear hg hat; (have h9 : z9 = W := by rw [← hz9, ← hz8, ← HW.out]; rfl); subst h9; obtain ⟨ad, hA, -⟩ := Kd.at_string (rc RL9) 0 (by omega) (by omega); subst hA; have Z8 := Aside0.mk hz8; have Z9 := Aside0.mk hz9; clear hz8 hz9; have q0 := strat0 (Aside0.mk (rc RL9)) (Aside0.mk (Below.refl _ _)) (by omega); have q1 := strat (Aside0.mk (rc RL9)) (Aside0.mk (Below.refl _ _)) 1 (by decide) (by omega))
          | ((with_reducible refine gate_dst (N := 5) rfl ?_); refine bx ?hg (N := 5) ?hd (cs := #[.int .i64 (0), .string (⟨#[]⟩ : ByteArray), .int .i64 (0), .int .i64 (0)]) (t := 28) ?hr B ?_; (case hd => rfl); (case hg => rfl); (case hr => first | (go_simp; done) | (go_simp; rfl)); intro g5 w305 hb B F5 L5 E5; have N2_5 := ne1 E5 F2; replace F2 := bn F2 hb; replace RL9 := rn RL9 hb; obtain ⟨c5_0, c5_1, c5_2, c5_3⟩ := cs4 F5; ((try clear q0); (try clear q1); (try clear q2); (try clear q3); have q0 := strat0 (Aside0.mk (rc RL9)) (Aside0.mk (Below.refl _ _)) (by omega); have q1 := strat (Aside0.mk (rc RL9)) (Aside0.mk (Below.refl _ _)) 1 (by decide) (by omega)); clear hb E5)
          | ((with_reducible refine gate_store (t := 28) (p := 5) rfl ?_); obtain ⟨y0, y1, y2, y3⟩ := cs4 F5; have z0 := fz F5 0; have z1 := fz F5 1; have z2 := fz F5 2; have z3 := fz F5 3; refine sx (t := 28) (t' := 28) (p := 5) (v := ?vo306) ?hg ?ho ?hn 0 [.int .i64 (0), .string (elB z9 1), .int .i64 (0), .int .i64 (0)] [.int .i64 (0), .string (elB z9 1), .int .i64 (0), .int .i64 (0)] ?hr B F5 L5 rfl (Nat.le_of_ble_eq_true rfl) ?_; (case ho => rfl); (case hg => rfl); (case hn => rfl); (case hr => first | (go_simp; done) | (go_simp; rfl)); intro w306 hk B G; replace F2 := bk F2 hk N2_5.out; replace RL9 := rk RL9 F5 (by decide) hk; replace F5 := G; clear c5_0 c5_1 c5_2 c5_3; obtain ⟨c5_0, c5_1, c5_2, c5_3⟩ := cs4 F5; ((try clear q0); (try clear q1); (try clear q2); (try clear q3); have q0 := strat0 (Aside0.mk (rc RL9)) (Aside0.mk (Below.refl _ _)) (by omega); have q1 := strat (Aside0.mk (rc RL9)) (Aside0.mk (Below.refl _ _)) 1 (by decide) (by omega)); clear hk y0 z0 y1 z1 y2 z2 y3 z3)
          | ((with_reducible refine gate_store (t := 3) (p := 19) rfl ?_); obtain ⟨y0, y1, y2, y3⟩ := cs4 F5; have z0 := fz F5 0; have z1 := fz F5 1; have z2 := fz F5 2; have z3 := fz F5 3; refine sx (t := 28) (t' := 3) (p := 19) (v := ?vo307) ?hg ?ho ?hn 0 [.int .i64 (1)] [.int .i64 (1), .string (elB z9 1), .int .i64 (0), .int .i64 (0)] ?hr B F5 L5 rfl (Nat.le_of_ble_eq_true rfl) ?_; (case ho => rfl); (case hg => rfl); (case hn => rfl); (case hr => first | (go_simp; done) | (go_simp; rfl)); intro w307 hk B G; replace F2 := bk F2 hk N2_5.out; replace RL9 := rk RL9 F5 (by decide) hk; replace F5 := G; clear c5_0 c5_1 c5_2 c5_3; obtain ⟨c5_0, c5_1, c5_2, c5_3⟩ := cs4 F5; ((try clear q0); (try clear q1); (try clear q2); (try clear q3); have q0 := strat0 (Aside0.mk (rc RL9)) (Aside0.mk (Below.refl _ _)) (by omega); have q1 := strat (Aside0.mk (rc RL9)) (Aside0.mk (Below.refl _ _)) 1 (by decide) (by omega)); clear hk y0 z0 y1 z1 y2 z2 y3 z3)
          | (go_at_call 14; with_reducible refine cl (spec_CommandText.M 1 (elB z9 1) 0 0 _) B fun w308 hb B => ?_; replace F2 := bn F2 hb; replace RL9 := rn RL9 hb; ((try clear q0); (try clear q1); (try clear q2); (try clear q3); have q0 := strat0 (Aside0.mk (rc RL9)) (Aside0.mk (Below.refl _ _)) (by omega); have q1 := strat (Aside0.mk (rc RL9)) (Aside0.mk (Below.refl _ _)) 1 (by decide) (by omega)); clear hb)
          | ((with_reducible refine gate_store (t := 28) (p := 2) rfl ?_); obtain ⟨y0, y1, y2, y3⟩ := cs4 F2; have z0 := fz F2 0; have z1 := fz F2 1; have z2 := fz F2 2; have z3 := fz F2 3; refine sx (t := 28) (t' := 28) (p := 2) (v := ?vo309) ?hg ?ho ?hn 0 [.int .i64 (0), .string (⟨#[]⟩ : ByteArray), .int .i64 (0), .int .i64 (0)] [.int .i64 (0), .string (⟨#[]⟩ : ByteArray), .int .i64 (0), .int .i64 (0)] ?hr B F2 L2 rfl (Nat.le_of_ble_eq_true rfl) ?_; (case ho => rfl); (case hg => rfl); (case hn => rfl); (case hr => first | (go_simp; done) | (go_simp; rfl)); intro w309 hk B G; replace RL9 := rk RL9 F2 (by decide) hk; replace F2 := G; ((try clear q0); (try clear q1); (try clear q2); (try clear q3); have q0 := strat0 (Aside0.mk (rc RL9)) (Aside0.mk (Below.refl _ _)) (by omega); have q1 := strat (Aside0.mk (rc RL9)) (Aside0.mk (Below.refl _ _)) 1 (by decide) (by omega)); clear hk y0 z0 y1 z1 y2 z2 y3 z3))
        refine bodyPost_ret (results_list (rs := [.cell 2 28, .tmp 3]) rfl (by simp) (.cell g2 28 _ (0, 0) _ rfl F2.out hu rfl (by kernel_rfl) (.tmp .nil))) rfl ?_
        have hr2 := HM.out
        subst hr2
        exact ⟨rfl, B.out⟩
    · skip
      by_cases h_1 : elB W 0 = w_put
      · have hw : (elB W 0).toList = [112, 117, 116] := by rw [h_1, ba_toList]; rfl
        have hc : c7 W = (2, elB W 1, num7 (elB W 2), 0) := by unfold c7; rw [if_neg h_0, if_pos h_1]
        rw [hc] at hr
        replace hr : (if s.toList ≠ ([] : List UInt8) ∧ (cmtM 2 (elB W 1) (num7 (elB W 2)) 0) = s then ((2, elB W 1, num7 (elB W 2), 0), true) else (rcZ, false)) = r := hr
        clear hc h_0 h_1
        by_cases hq : (cmtM 2 (elB W 1) (num7 (elB W 2)) 0) = s
        · rw [if_pos ⟨hs, hq⟩] at hr
          have hb : ((cmtM 2 (elB W 1) (num7 (elB W 2)) 0).toList == s.toList) = true := by rw [hq]; simp
          have HM := Aside0.mk hr
          clear hr hq hs
          go_enter Tryd.func19, Tryd.ntmps19
          go_wp2_with (first
            | ((with_reducible refine gate_dst (N := 2) rfl ?_); refine bx ?hg (N := 2) ?hd (cs := #[.int .i64 (0), .string (⟨#[]⟩ : ByteArray), .int .i64 (0), .int .i64 (0)]) (t := 28) ?hr B ?_; (case hd => rfl); (case hg => rfl); (case hr => first | (go_simp; done) | (go_simp; rfl)); intro g2 w401 hb B F2 L2 E2; clear hb E2)
            | (go_at_call 35; with_reducible refine cr (spec_l7Words.M s _ (by omega)) B fun AV402 kV402 w402 hb B RV402 QV402 => ?_; replace F2 := bn F2 hb; clear QV402; clear hb)
            | ((with_reducible refine gate_dst (N := 8) rfl ?_); refine lt Kd.string 9 ?hg (N := 8) ?hd ([((⟨#[]⟩ : ByteArray)), ((⟨#[]⟩ : ByteArray)), ((⟨#[]⟩ : ByteArray))] : List ByteArray) [.string (⟨#[]⟩ : ByteArray), .string (⟨#[]⟩ : ByteArray), .string (⟨#[]⟩ : ByteArray)] ?hr (Reps.one (show Kd.M Kd.string _ _ _ (⟨#[]⟩ : ByteArray) [.string (⟨#[]⟩ : ByteArray)] from rfl) (Reps.one (show Kd.M Kd.string _ _ _ (⟨#[]⟩ : ByteArray) [.string (⟨#[]⟩ : ByteArray)] from rfl) (Reps.one (show Kd.M Kd.string _ _ _ (⟨#[]⟩ : ByteArray) [.string (⟨#[]⟩ : ByteArray)] from rfl) (Reps.none _ _)))) (by simp) B ?_; (case hd => rfl); (case hg => rfl); (case hr => first | (go_simp; done) | (go_simp; rfl)); intro z8 hz8 AL8 kL8 w403 hb B RL8 QL8; replace F2 := bn F2 hb; replace RV402 := rn RV402 hb; clear hb QL8)
            | ((with_reducible refine gate_builtin (b := .append) (xs := #[.tmp 7, .tmp 8]) rfl ?_); at_builtin; refine apx Kd.string 9 rfl (.tmp 7) (.tmp 8) 46 (.string (⟨#[]⟩ : ByteArray)) 16 rfl Tryd.underlying46 info9 rfl (by decide) (by omega) rfl rfl RV402 (rc RL8) (fun _ _ h => h) (by rw [← hz8]; simp only [List.length_cons, List.length_nil]; omega) B ?_; intro z9 hz9 AL9 kL9 w404 hg B RL9 hat; replace F2 := bga F2 hg RV402 (by decide); clear hg hat; (have h9 : z9 = W := by rw [← hz9, ← hz8, ← HW.out]; rfl); subst h9; obtain ⟨ad, hA, -⟩ := Kd.at_string (rc RL9) 0 (by omega) (by omega); subst hA; have Z8 := Aside0.mk hz8; have Z9 := Aside0.mk hz9; clear hz8 hz9; have q0 := strat0 (Aside0.mk (rc RL9)) (Aside0.mk (Below.refl _ _)) (by omega); have q1 := strat (Aside0.mk (rc RL9)) (Aside0.mk (Below.refl _ _)) 1 (by decide) (by omega); have q2 := strat (Aside0.mk (rc RL9)) (Aside0.mk (Below.refl _ _)) 2 (by decide) (by omega))
            | ((with_reducible refine gate_dst (N := 5) rfl ?_); refine bx ?hg (N := 5) ?hd (cs := #[.int .i64 (0), .string (⟨#[]⟩ : ByteArray), .int .i64 (0), .int .i64 (0)]) (t := 28) ?hr B ?_; (case hd => rfl); (case hg => rfl); (case hr => first | (go_simp; done) | (go_simp; rfl)); intro g5 w405 hb B F5 L5 E5; have N2_5 := ne1 E5 F2; replace F2 := bn F2 hb; replace RL9 := rn RL9 hb; obtain ⟨c5_0, c5_1, c5_2, c5_3⟩ := cs4 F5; ((try clear q0); (try clear q1); (try clear q2); (try clear q3); have q0 := strat0 (Aside0.mk (rc RL9)) (Aside0.mk (Below.refl _ _)) (by omega); have q1 := strat (Aside0.mk (rc RL9)) (Aside0.mk (Below.refl _ _)) 1 (by decide) (by omega); have q2 := strat (Aside0.mk (rc RL9)) (Aside0.mk (Below.refl _ _)) 2 (by decide) (by omega)); clear hb E5)
            | ((with_reducible refine gate_store (t := 28) (p := 5) rfl ?_); obtain ⟨y0, y1, y2, y3⟩ := cs4 F5; have z0 := fz F5 0; have z1 := fz F5 1; have z2 := fz F5 2; have z3 := fz F5 3; refine sx (t := 28) (t' := 28) (p := 5) (v := ?vo406) ?hg ?ho ?hn 0 [.int .i64 (0), .string (elB z9 1), .int .i64 (0), .int .i64 (0)] [.int .i64 (0), .string (elB z9 1), .int .i64 (0), .int .i64 (0)] ?hr B F5 L5 rfl (Nat.le_of_ble_eq_true rfl) ?_; (case ho => rfl); (case hg => rfl); (case hn => rfl); (case hr => first | (go_simp; done) | (go_simp; rfl)); intro w406 hk B G; replace F2 := bk F2 hk N2_5.out; replace RL9 := rk RL9 F5 (by decide) hk; replace F5 := G; clear c5_0 c5_1 c5_2 c5_3; obtain ⟨c5_0, c5_1, c5_2, c5_3⟩ := cs4 F5; ((try clear q0); (try clear q1); (try clear q2); (try clear q3); have q0 := strat0 (Aside0.mk (rc RL9)) (Aside0.mk (Below.refl _ _)) (by omega); have q1 := strat (Aside0.mk (rc RL9)) (Aside0.mk (Below.refl _ _)) 1 (by decide) (by omega); have q2 := strat (Aside0.mk (rc RL9)) (Aside0.mk (Below.refl _ _)) 2 (by decide) (by omega)); clear hk y0 z0 y1 z1 y2 z2 y3 z3)
            | ((with_reducible refine gate_store (t := 3) (p := 22) rfl ?_); obtain ⟨y0, y1, y2, y3⟩ := cs4 F5; have z0 := fz F5 0; have z1 := fz F5 1; have z2 := fz F5 2; have z3 := fz F5 3; refine sx (t := 28) (t' := 3) (p := 22) (v := ?vo407) ?hg ?ho ?hn 0 [.int .i64 (2)] [.int .i64 (2), .string (elB z9 1), .int .i64 (0), .int .i64 (0)] ?hr B F5 L5 rfl (Nat.le_of_ble_eq_true rfl) ?_; (case ho => rfl); (case hg => rfl); (case hn => rfl); (case hr => first | (go_simp; done) | (go_simp; rfl)); intro w407 hk B G; replace F2 := bk F2 hk N2_5.out; replace RL9 := rk RL9 F5 (by decide) hk; replace F5 := G; clear c5_0 c5_1 c5_2 c5_3; obtain ⟨c5_0, c5_1, c5_2, c5_3⟩ := cs4 F5; ((try clear q0); (try clear q1); (try clear q2); (try clear q3); have q0 := strat0 (Aside0.mk (rc RL9)) (Aside0.mk (Below.refl _ _)) (by omega); have q1 := strat (Aside0.mk (rc RL9)) (Aside0.mk (Below.refl _ _)) 1 (by decide) (by omega); have q2 := strat (Aside0.mk (rc RL9)) (Aside0.mk (Below.refl _ _)) 2 (by decide) (by omega)); clear hk y0 z0 y1 z1 y2 z2 y3 z3)
            | (go_at_call 33; with_reducible refine cl (spec_l7Number.M (elB z9 2) _) B fun w408 hb B => ?_; replace F2 := bn F2 hb; replace F5 := bn F5 hb; replace RL9 := rn RL9 hb; clear c5_0 c5_1 c5_2 c5_3; obtain ⟨c5_0, c5_1, c5_2, c5_3⟩ := cs4 F5; ((try clear q0); (try clear q1); (try clear q2); (try clear q3); have q0 := strat0 (Aside0.mk (rc RL9)) (Aside0.mk (Below.refl _ _)) (by omega); have q1 := strat (Aside0.mk (rc RL9)) (Aside0.mk (Below.refl _ _)) 1 (by decide) (by omega); have q2 := strat (Aside0.mk (rc RL9)) (Aside0.mk (Below.refl _ _)) 2 (by decide) (by omega)); clear hb)
            | ((with_reducible refine gate_store (t := 3) (p := 27) rfl ?_); obtain ⟨y0, y1, y2, y3⟩ := cs4 F5; have z0 := fz F5 0; have z1 := fz F5 1; have z2 := fz F5 2; have z3 := fz F5 3; refine sx (t := 28) (t' := 3) (p := 27) (v := ?vo409) ?hg ?ho ?hn 2 [.int .i64 ((num7 (elB z9 2)))] [.int .i64 (2), .string (elB z9 1), .int .i64 ((num7 (elB z9 2))), .int .i64 (0)] ?hr B F5 L5 rfl (Nat.le_of_ble_eq_true rfl) ?_; (case ho => rfl); (case hg => rfl); (case hn => rfl); (case hr => first | (go_simp; done) | (go_simp; rfl)); intro w409 hk B G; replace F2 := bk F2 hk N2_5.out; replace RL9 := rk RL9 F5 (by decide) hk; replace F5 := G; clear c5_0 c5_1 c5_2 c5_3; obtain ⟨c5_0, c5_1, c5_2, c5_3⟩ := cs4 F5; ((try clear q0); (try clear q1); (try clear q2); (try clear q3); have q0 := strat0 (Aside0.mk (rc RL9)) (Aside0.mk (Below.refl _ _)) (by omega); have q1 := strat (Aside0.mk (rc RL9)) (Aside0.mk (Below.refl _ _)) 1 (by decide) (by omega); have q2 := strat (Aside0.mk (rc RL9)) (Aside0.mk (Below.refl _ _)) 2 (by decide) (by omega)); clear hk y0 z0 y1 z1 y2 z2 y3 z3)
            | (go_at_call 14; with_reducible refine cl (spec_CommandText.M 2 (elB z9 1) (num7 (elB z9 2)) 0 _) B fun w410 hb B => ?_; replace F2 := bn F2 hb; replace F5 := bn F5 hb; replace RL9 := rn RL9 hb; clear c5_0 c5_1 c5_2 c5_3; obtain ⟨c5_0, c5_1, c5_2, c5_3⟩ := cs4 F5; ((try clear q0); (try clear q1); (try clear q2); (try clear q3); have q0 := strat0 (Aside0.mk (rc RL9)) (Aside0.mk (Below.refl _ _)) (by omega); have q1 := strat (Aside0.mk (rc RL9)) (Aside0.mk (Below.refl _ _)) 1 (by decide) (by omega); have q2 := strat (Aside0.mk (rc RL9)) (Aside0.mk (Below.refl _ _)) 2 (by decide) (by omega)); clear hb)
            | ((with_reducible refine gate_store (t := 28) (p := 2) rfl ?_); obtain ⟨y0, y1, y2, y3⟩ := cs4 F2; have z0 := fz F2 0; have z1 := fz F2 1; have z2 := fz F2 2; have z3 := fz F2 3; refine sx (t := 28) (t' := 28) (p := 2) (v := ?vo411) ?hg ?ho ?hn 0 [.int .i64 (2), .string (elB z9 1), .int .i64 ((num7 (elB z9 2))), .int .i64 (0)] [.int .i64 (2), .string (elB z9 1), .int .i64 ((num7 (elB z9 2))), .int .i64 (0)] ?hr B F2 L2 rfl (Nat.le_of_ble_eq_true rfl) ?_; (case ho => rfl); (case hg => rfl); (case hn => rfl); (case hr => first | (go_simp; done) | (go_simp; rfl)); intro w411 hk B G; replace RL9 := rk RL9 F2 (by decide) hk; replace F2 := G; ((try clear q0); (try clear q1); (try clear q2); (try clear q3); have q0 := strat0 (Aside0.mk (rc RL9)) (Aside0.mk (Below.refl _ _)) (by omega); have q1 := strat (Aside0.mk (rc RL9)) (Aside0.mk (Below.refl _ _)) 1 (by decide) (by omega); have q2 := strat (Aside0.mk (rc RL9)) (Aside0.mk (Below.refl _ _)) 2 (by decide) (by omega)); clear hk y0 z0 y1 z1 y2 z2 y3 z3))
          refine bodyPost_ret (results_list (rs := [.cell 2 28, .tmp 3]) rfl (by simp) (.cell g2 28 _ (0, 0) _ rfl F2.out hu rfl (by kernel_rfl) (.tmp .nil))) rfl ?_
          have hr2 := HM.out
          subst hr2
          exact ⟨rfl, B.out⟩
        · rw [if_neg (fun k => hq k.2)] at hr
          have hb : ((cmtM 2 (elB W 1) (num7 (elB W 2)) 0).toList == s.toList) = false := by rw [str_beq, decide_eq_false hq]
          have HM := Aside0.mk hr
          clear hr hq hs
          go_enter Tryd.func19, Tryd.ntmps19
          go_wp2_with (first
            | ((with_reducible refine gate_dst (N := 2) rfl ?_); refine bx ?hg (N := 2) ?hd (cs := #[.int .i64 (0), .string (⟨#[]⟩ : ByteArray), .int .i64 (0), .int .i64 (0)]) (t := 28) ?hr B ?_; (case hd => rfl); (case hg => rfl); (case hr => first | (go_simp; done) | (go_simp; rfl)); intro g2 w501 hb B F2 L2 E2; clear hb E2)
            | (go_at_call 35; with_reducible refine cr (spec_l7Words.M s _ (by omega)) B fun AV502 kV502 w502 hb B RV502 QV502 => ?_; replace F2 := bn F2 hb; clear QV502; clear hb)
            | ((with_reducible refine gate_dst (N := 8) rfl ?_); refine lt Kd.string 9 ?hg (N := 8) ?hd ([((⟨#[]⟩ : ByteArray)), ((⟨#[]⟩ : ByteArray)), ((⟨#[]⟩ : ByteArray))] : List ByteArray) [.string (⟨#[]⟩ : ByteArray), .string (⟨#[]⟩ : ByteArray), .string (⟨#[]⟩ : ByteArray)] ?hr (Reps.one (show Kd.M Kd.string _ _ _ (⟨#[]⟩ : ByteArray) [.string (⟨#[]⟩ : ByteArray)] from rfl) (Reps.one (show Kd.M Kd.string _ _ _ (⟨#[]⟩ : ByteArray) [.string (⟨#[]⟩ : ByteArray)] from rfl) (Reps.one (show Kd.M Kd.string _ _ _ (⟨#[]⟩ : ByteArray) [.string (⟨#[]⟩ : ByteArray)] from rfl) (Reps.none _ _)))) (by simp) B ?_; (case hd => rfl); (case hg => rfl); (case hr => first | (go_simp; done) | (go_simp; rfl)); intro z8 hz8 AL8 kL8 w503 hb B RL8 QL8; replace F2 := bn F2 hb; replace RV502 := rn RV502 hb; clear hb QL8)
            | ((with_reducible refine gate_builtin (b := .append) (xs := #[.tmp 7, .tmp 8]) rfl ?_); at_builtin; refine apx Kd.string 9 rfl (.tmp 7) (.tmp 8) 46 (.string (⟨#[]⟩ : ByteArray)) 16 rfl Tryd.underlying46 info9 rfl (by decide) (by omega) rfl rfl RV502 (rc RL8) (fun _ _ h => h) (by rw [← hz8]; simp only [List.length_cons, List.length_nil]; omega) B ?_; intro z9 hz9 AL9 kL9 w504 hg B RL9 hat; replace F2 := bga F2 hg RV502 (by decide); clear hg hat; (have h9 : z9 = W := by rw [← hz9, ← hz8, ← HW.out]; rfl); subst h9; obtain ⟨ad, hA, -⟩ := Kd.at_string (rc RL9) 0 (by omega) (by omega); subst hA; have Z8 := Aside0.mk hz8; have Z9 := Aside0.mk hz9; clear hz8 hz9; have q0 := strat0 (Aside0.mk (rc RL9)) (Aside0.mk (Below.refl _ _)) (by omega); have q1 := strat (Aside0.mk (rc RL9)) (Aside0.mk (Below.refl _ _)) 1 (by decide) (by omega); have q2 := strat (Aside0.mk (rc RL9)) (Aside0.mk (Below.refl _ _)) 2 (by decide) (by omega))
            | ((with_reducible refine gate_dst (N := 5) rfl ?_); refine bx ?hg (N := 5) ?hd (cs := #[.int .i64 (0), .string (⟨#[]⟩ : ByteArray), .int .i64 (0), .int .i64 (0)]) (t := 28) ?hr B ?_; (case hd => rfl); (case hg => rfl); (case hr => first | (go_simp; done) | (go_simp; rfl)); intro g5 w505 hb B F5 L5 E5; have N2_5 := ne1 E5 F2; replace F2 := bn F2 hb; replace RL9 := rn RL9 hb; obtain ⟨c5_0, c5_1, c5_2, c5_3⟩ := cs4 F5; ((try clear q0); (try clear q1); (try clear q2); (try clear q3); have q0 := strat0 (Aside0.mk (rc RL9)) (Aside0.mk (Below.refl _ _)) (by omega); have q1 := strat (Aside0.mk (rc RL9)) (Aside0.mk (Below.refl _ _)) 1 (by decide) (by omega); have q2 := strat (Aside0.mk (rc RL9)) (Aside0.mk (Below.refl _ _)) 2 (by decide) (by omega)); clear hb E5)
            | ((with_reducible refine gate_store (t := 28) (p := 5) rfl ?_); obtain ⟨y0, y1, y2, y3⟩ := cs4 F5; have z0 := fz F5 0; have z1 := fz F5 1; have z2 := fz F5 2; have z3 := fz F5 3; refine sx (t := 28) (t' := 28) (p := 5) (v := ?vo506) ?hg ?ho ?hn 0 [.int .i64 (0), .string (elB z9 1), .int .i64 (0), .int .i64 (0)] [.int .i64 (0), .string (elB z9 1), .int .i64 (0), .int .i64 (0)] ?hr B F5 L5 rfl (Nat.le_of_ble_eq_true rfl) ?_; (case ho => rfl); (case hg => rfl); (case hn => rfl); (case hr => first | (go_simp; done) | (go_simp; rfl)); intro w506 hk B G; replace F2 := bk F2 hk N2_5.out; replace RL9 := rk RL9 F5 (by decide) hk; replace F5 := G; clear c5_0 c5_1 c5_2 c5_3; obtain ⟨c5_0, c5_1, c5_2, c5_3⟩ := cs4 F5; ((try clear q0); (try clear q1); (try clear q2); (try clear q3); have q0 := strat0 (Aside0.mk (rc RL9)) (Aside0.mk (Below.refl _ _)) (by omega); have q1 := strat (Aside0.mk (rc RL9)) (Aside0.mk (Below.refl _ _)) 1 (by decide) (by omega); have q2 := strat (Aside0.mk (rc RL9)) (Aside0.mk (Below.refl _ _)) 2 (by decide) (by omega)); clear hk y0 z0 y1 z1 y2 z2 y3 z3)
            | ((with_reducible refine gate_store (t := 3) (p := 22) rfl ?_); obtain ⟨y0, y1, y2, y3⟩ := cs4 F5; have z0 := fz F5 0; have z1 := fz F5 1; have z2 := fz F5 2; have z3 := fz F5 3; refine sx (t := 28) (t' := 3) (p := 22) (v := ?vo507) ?hg ?ho ?hn 0 [.int .i64 (2)] [.int .i64 (2), .string (elB z9 1), .int .i64 (0), .int .i64 (0)] ?hr B F5 L5 rfl (Nat.le_of_ble_eq_true rfl) ?_; (case ho => rfl); (case hg => rfl); (case hn => rfl); (case hr => first | (go_simp; done) | (go_simp; rfl)); intro w507 hk B G; replace F2 := bk F2 hk N2_5.out; replace RL9 := rk RL9 F5 (by decide) hk; replace F5 := G; clear c5_0 c5_1 c5_2 c5_3; obtain ⟨c5_0, c5_1, c5_2, c5_3⟩ := cs4 F5; ((try clear q0); (try clear q1); (try clear q2); (try clear q3); have q0 := strat0 (Aside0.mk (rc RL9)) (Aside0.mk (Below.refl _ _)) (by omega); have q1 := strat (Aside0.mk (rc RL9)) (Aside0.mk (Below.refl _ _)) 1 (by decide) (by omega); have q2 := strat (Aside0.mk (rc RL9)) (Aside0.mk (Below.refl _ _)) 2 (by decide) (by omega)); clear hk y0 z0 y1 z1 y2 z2 y3 z3)
            | (go_at_call 33; with_reducible refine cl (spec_l7Number.M (elB z9 2) _) B fun w508 hb B => ?_; replace F2 := bn F2 hb; replace F5 := bn F5 hb; replace RL9 := rn RL9 hb; clear c5_0 c5_1 c5_2 c5_3; obtain ⟨c5_0, c5_1, c5_2, c5_3⟩ := cs4 F5; ((try clear q0); (try clear q1); (try clear q2); (try clear q3); have q0 := strat0 (Aside0.mk (rc RL9)) (Aside0.mk (Below.refl _ _)) (by omega); have q1 := strat (Aside0.mk (rc RL9)) (Aside0.mk (Below.refl _ _)) 1 (by decide) (by omega); have q2 := strat (Aside0.mk (rc RL9)) (Aside0.mk (Below.refl _ _)) 2 (by decide) (by omega)); clear hb)
            | ((with_reducible refine gate_store (t := 3) (p := 27) rfl ?_); obtain ⟨y0, y1, y2, y3⟩ := cs4 F5; have z0 := fz F5 0; have z1 := fz F5 1; have z2 := fz F5 2; have z3 := fz F5 3; refine sx (t := 28) (t' := 3) (p := 27) (v := ?vo509) ?hg ?ho ?hn 2 [.int .i64 ((num7 (elB z9 2)))] [.int .i64 (2), .string (elB z9 1), .int .i64 ((num7 (elB z9 2))), .int .i64 (0)] ?hr B F5 L5 rfl (Nat.le_of_ble_eq_true rfl) ?_; (case ho => rfl); (case hg => rfl); (case hn => rfl); (case hr => first | (go_simp; done) | (go_simp; rfl)); intro w509 hk B G; replace F2 := bk F2 hk N2_5.out; replace RL9 := rk RL9 F5 (by decide) hk; replace F5 := G; clear c5_0 c5_1 c5_2 c5_3; obtain ⟨c5_0, c5_1, c5_2, c5_3⟩ := cs4 F5; ((try clear q0); (try clear q1); (try clear q2); (try clear q3); have q0 := strat0 (Aside0.mk (rc RL9)) (Aside0.mk (Below.refl _ _)) (by omega); have q1 := strat (Aside0.mk (rc RL9)) (Aside0.mk (Below.refl _ _)) 1 (by decide) (by omega); have q2 := strat (Aside0.mk (rc RL9)) (Aside0.mk (Below.refl _ _)) 2 (by decide) (by omega)); clear hk y0 z0 y1 z1 y2 z2 y3 z3)
            | (go_at_call 14; with_reducible refine cl (spec_CommandText.M 2 (elB z9 1) (num7 (elB z9 2)) 0 _) B fun w510 hb B => ?_; replace F2 := bn F2 hb; replace RL9 := rn RL9 hb; ((try clear q0); (try clear q1); (try clear q2); (try clear q3); have q0 := strat0 (Aside0.mk (rc RL9)) (Aside0.mk (Below.refl _ _)) (by omega); have q1 := strat (Aside0.mk (rc RL9)) (Aside0.mk (Below.refl _ _)) 1 (by decide) (by omega); have q2 := strat (Aside0.mk (rc RL9)) (Aside0.mk (Below.refl _ _)) 2 (by decide) (by omega)); clear hb)
            | ((with_reducible refine gate_store (t := 28) (p := 2) rfl ?_); obtain ⟨y0, y1, y2, y3⟩ := cs4 F2; have z0 := fz F2 0; have z1 := fz F2 1; have z2 := fz F2 2; have z3 := fz F2 3; refine sx (t := 28) (t' := 28) (p := 2) (v := ?vo511) ?hg ?ho ?hn 0 [.int .i64 (0), .string (⟨#[]⟩ : ByteArray), .int .i64 (0), .int .i64 (0)] [.int .i64 (0), .string (⟨#[]⟩ : ByteArray), .int .i64 (0), .int .i64 (0)] ?hr B F2 L2 rfl (Nat.le_of_ble_eq_true rfl) ?_; (case ho => rfl); (case hg => rfl); (case hn => rfl); (case hr => first | (go_simp; done) | (go_simp; rfl)); intro w511 hk B G; replace RL9 := rk RL9 F2 (by decide) hk; replace F2 := G; ((try clear q0); (try clear q1); (try clear q2); (try clear q3); have q0 := strat0 (Aside0.mk (rc RL9)) (Aside0.mk (Below.refl _ _)) (by omega); have q1 := strat (Aside0.mk (rc RL9)) (Aside0.mk (Below.refl _ _)) 1 (by decide) (by omega); have q2 := strat (Aside0.mk (rc RL9)) (Aside0.mk (Below.refl _ _)) 2 (by decide) (by omega)); clear hk y0 z0 y1 z1 y2 z2 y3 z3))
          refine bodyPost_ret (results_list (rs := [.cell 2 28, .tmp 3]) rfl (by simp) (.cell g2 28 _ (0, 0) _ rfl F2.out hu rfl (by kernel_rfl) (.tmp .nil))) rfl ?_
          have hr2 := HM.out
          subst hr2
          exact ⟨rfl, B.out⟩
      · skip
        by_cases h_2 : elB W 0 = w_drop
        · have hw : (elB W 0).toList = [100, 114, 111, 112] := by rw [h_2, ba_toList]; rfl
          have hc : c7 W = (3, elB W 1, 0, 0) := by unfold c7; rw [if_neg h_0, if_neg h_1, if_pos h_2]
          rw [hc] at hr
          replace hr : (if s.toList ≠ ([] : List UInt8) ∧ (cmtM 3 (elB W 1) 0 0) = s then ((3, elB W 1, 0, 0), true) else (rcZ, false)) = r := hr
          clear hc h_0 h_1 h_2
          by_cases hq : (cmtM 3 (elB W 1) 0 0) = s
          · rw [if_pos ⟨hs, hq⟩] at hr
            have hb : ((cmtM 3 (elB W 1) 0 0).toList == s.toList) = true := by rw [hq]; simp
            have HM := Aside0.mk hr
            clear hr hq hs
            go_enter Tryd.func19, Tryd.ntmps19
            go_wp2_with (first
              | ((with_reducible refine gate_dst (N := 2) rfl ?_); refine bx ?hg (N := 2) ?hd (cs := #[.int .i64 (0), .string (⟨#[]⟩ : ByteArray), .int .i64 (0), .int .i64 (0)]) (t := 28) ?hr B ?_; (case hd => rfl); (case hg => rfl); (case hr => first | (go_simp; done) | (go_simp; rfl)); intro g2 w601 hb B F2 L2 E2; clear hb E2)
              | (go_at_call 35; with_reducible refine cr (spec_l7Words.M s _ (by omega)) B fun AV602 kV602 w602 hb B RV602 QV602 => ?_; replace F2 := bn F2 hb; clear QV602; clear hb)
              | ((with_reducible refine gate_dst (N := 8) rfl ?_); refine lt Kd.string 9 ?hg (N := 8) ?hd ([((⟨#[]⟩ : ByteArray)), ((⟨#[]⟩ : ByteArray)), ((⟨#[]⟩ : ByteArray))] : List ByteArray) [.string (⟨#[]⟩ : ByteArray), .string (⟨#[]⟩ : ByteArray), .string (⟨#[]⟩ : ByteArray)] ?hr (Reps.one (show Kd.M Kd.string _ _ _ (⟨#[]⟩ : ByteArray) [.string (⟨#[]⟩ : ByteArray)] from rfl) (Reps.one (show Kd.M Kd.string _ _ _ (⟨#[]⟩ : ByteArray) [.string (⟨#[]⟩ : ByteArray)] from rfl) (Reps.one (show Kd.M Kd.string _ _ _ (⟨#[]⟩ : ByteArray) [.string (⟨#[]⟩ : ByteArray)] from rfl) (Reps.none _ _)))) (by simp) B ?_; (case hd => rfl); (case hg => rfl); (case hr => first | (go_simp; done) | (go_simp; rfl)); intro z8 hz8 AL8 kL8 w603 hb B RL8 QL8; replace F2 := bn F2 hb; replace RV602 := rn RV602 hb; clear hb QL8)
              | ((with_reducible refine gate_builtin (b := .append) (xs := #[.tmp 7, .tmp 8]) rfl ?_); at_builtin; refine apx Kd.string 9 rfl (.tmp 7) (.tmp 8) 46 (.string (⟨#[]⟩ : ByteArray)) 16 rfl Tryd.underlying46 info9 rfl (by decide) (by omega) rfl rfl RV602 (rc RL8) (fun _ _ h => h) (by rw [← hz8]; simp only [List.length_cons, List.length_nil]; omega) B ?_; intro z9 hz9 AL9 kL9 w604 hg B RL9 hat; replace F2 := bga F2 hg RV602 (by decide); clear hg hat; (have h9 : z9 = W := by rw [← hz9, ← hz8, ← HW.out]; rfl); subst h9; obtain ⟨ad, hA, -⟩ := Kd.at_string (rc RL9) 0 (by omega) (by omega); subst hA; have Z8 := Aside0.mk hz8; have Z9 := Aside0.mk hz9; clear hz8 hz9; have q0 := strat0 (Aside0.mk (rc RL9)) (Aside0.mk (Below.refl _ _)) (by omega); have q1 := strat (Aside0.mk (rc RL9)) (Aside0.mk (Below.refl _ _)) 1 (by decide) (by omega))
              | ((with_reducible refine gate_dst (N := 5) rfl ?_); refine bx ?hg (N := 5) ?hd (cs := #[.int .i64 (0), .string (⟨#[]⟩ : ByteArray), .int .i64 (0), .int .i64 (0)]) (t := 28) ?hr B ?_; (case hd => rfl); (case hg => rfl); (case hr => first | (go_simp; done) | (go_simp; rfl)); intro g5 w605 hb B F5 L5 E5; have N2_5 := ne1 E5 F2; replace F2 := bn F2 hb; replace RL9 := rn RL9 hb; obtain ⟨c5_0, c5_1, c5_2, c5_3⟩ := cs4 F5; ((try clear q0); (try clear q1); (try clear q2); (try clear q3); have q0 := strat0 (Aside0.mk (rc RL9)) (Aside0.mk (Below.refl _ _)) (by omega); have q1 := strat (Aside0.mk (rc RL9)) (Aside0.mk (Below.refl _ _)) 1 (by decide) (by omega)); clear hb E5)
              | ((with_reducible refine gate_store (t := 28) (p := 5) rfl ?_); obtain ⟨y0, y1, y2, y3⟩ := cs4 F5; have z0 := fz F5 0; have z1 := fz F5 1; have z2 := fz F5 2; have z3 := fz F5 3; refine sx (t := 28) (t' := 28) (p := 5) (v := ?vo606) ?hg ?ho ?hn 0 [.int .i64 (0), .string (elB z9 1), .int .i64 (0), .int .i64 (0)] [.int .i64 (0), .string (elB z9 1), .int .i64 (0), .int .i64 (0)] ?hr B F5 L5 rfl (Nat.le_of_ble_eq_true rfl) ?_; (case ho => rfl); (case hg => rfl); (case hn => rfl); (case hr => first | (go_simp; done) | (go_simp; rfl)); intro w606 hk B G; replace F2 := bk F2 hk N2_5.out; replace RL9 := rk RL9 F5 (by decide) hk; replace F5 := G; clear c5_0 c5_1 c5_2 c5_3; obtain ⟨c5_0, c5_1, c5_2, c5_3⟩ := cs4 F5; ((try clear q0); (try clear q1); (try clear q2); (try clear q3); have q0 := strat0 (Aside0.mk (rc RL9)) (Aside0.mk (Below.refl _ _)) (by omega); have q1 := strat (Aside0.mk (rc RL9)) (Aside0.mk (Below.refl _ _)) 1 (by decide) (by omega)); clear hk y0 z0 y1 z1 y2 z2 y3 z3)
              | ((with_reducible refine gate_store (t := 3) (p := 30) rfl ?_); obtain ⟨y0, y1, y2, y3⟩ := cs4 F5; have z0 := fz F5 0; have z1 := fz F5 1; have z2 := fz F5 2; have z3 := fz F5 3; refine sx (t := 28) (t' := 3) (p := 30) (v := ?vo607) ?hg ?ho ?hn 0 [.int .i64 (3)] [.int .i64 (3), .string (elB z9 1), .int .i64 (0), .int .i64 (0)] ?hr B F5 L5 rfl (Nat.le_of_ble_eq_true rfl) ?_; (case ho => rfl); (case hg => rfl); (case hn => rfl); (case hr => first | (go_simp; done) | (go_simp; rfl)); intro w607 hk B G; replace F2 := bk F2 hk N2_5.out; replace RL9 := rk RL9 F5 (by decide) hk; replace F5 := G; clear c5_0 c5_1 c5_2 c5_3; obtain ⟨c5_0, c5_1, c5_2, c5_3⟩ := cs4 F5; ((try clear q0); (try clear q1); (try clear q2); (try clear q3); have q0 := strat0 (Aside0.mk (rc RL9)) (Aside0.mk (Below.refl _ _)) (by omega); have q1 := strat (Aside0.mk (rc RL9)) (Aside0.mk (Below.refl _ _)) 1 (by decide) (by omega)); clear hk y0 z0 y1 z1 y2 z2 y3 z3)
              | (go_at_call 14; with_reducible refine cl (spec_CommandText.M 3 (elB z9 1) 0 0 _) B fun w608 hb B => ?_; replace F2 := bn F2 hb; replace F5 := bn F5 hb; replace RL9 := rn RL9 hb; clear c5_0 c5_1 c5_2 c5_3; obtain ⟨c5_0, c5_1, c5_2, c5_3⟩ := cs4 F5; ((try clear q0); (try clear q1); (try clear q2); (try clear q3); have q0 := strat0 (Aside0.mk (rc RL9)) (Aside0.mk (Below.refl _ _)) (by omega); have q1 := strat (Aside0.mk (rc RL9)) (Aside0.mk (Below.refl _ _)) 1 (by decide) (by omega)); clear hb)
              | ((with_reducible refine gate_store (t := 28) (p := 2) rfl ?_); obtain ⟨y0, y1, y2, y3⟩ := cs4 F2; have z0 := fz F2 0; have z1 := fz F2 1; have z2 := fz F2 2; have z3 := fz F2 3; refine sx (t := 28) (t' := 28) (p := 2) (v := ?vo609) ?hg ?ho ?hn 0 [.int .i64 (3), .string (elB z9 1), .int .i64 (0), .int .i64 (0)] [.int .i64 (3), .string (elB z9 1), .int .i64 (0), .int .i64 (0)] ?hr B F2 L2 rfl (Nat.le_of_ble_eq_true rfl) ?_; (case ho => rfl); (case hg => rfl); (case hn => rfl); (case hr => first | (go_simp; done) | (go_simp; rfl)); intro w609 hk B G; replace RL9 := rk RL9 F2 (by decide) hk; replace F2 := G; ((try clear q0); (try clear q1); (try clear q2); (try clear q3); have q0 := strat0 (Aside0.mk (rc RL9)) (Aside0.mk (Below.refl _ _)) (by omega); have q1 := strat (Aside0.mk (rc RL9)) (Aside0.mk (Below.refl _ _)) 1 (by decide) (by omega)); clear hk y0 z0 y1 z1 y2 z2 y3 z3))
            refine bodyPost_ret (results_list (rs := [.cell 2 28, .tmp 3]) rfl (by simp) (.cell g2 28 _ (0, 0) _ rfl F2.out hu rfl (by kernel_rfl) (.tmp .nil))) rfl ?_
            have hr2 := HM.out
            subst hr2
            exact ⟨rfl, B.out⟩
          · rw [if_neg (fun k => hq k.2)] at hr
            have hb : ((cmtM 3 (elB W 1) 0 0).toList == s.toList) = false := by rw [str_beq, decide_eq_false hq]
            have HM := Aside0.mk hr
            clear hr hq hs
            go_enter Tryd.func19, Tryd.ntmps19
            go_wp2_with (first
              | ((with_reducible refine gate_dst (N := 2) rfl ?_); refine bx ?hg (N := 2) ?hd (cs := #[.int .i64 (0), .string (⟨#[]⟩ : ByteArray), .int .i64 (0), .int .i64 (0)]) (t := 28) ?hr B ?_; (case hd => rfl); (case hg => rfl); (case hr => first | (go_simp; done) | (go_simp; rfl)); intro g2 w701 hb B F2 L2 E2; clear hb E2)
              | (go_at_call 35; with_reducible refine cr (spec_l7Words.M s _ (by omega)) B fun AV702 kV702 w702 hb B RV702 QV702 => ?_; replace F2 := bn F2 hb; clear QV702; clear hb)
              | ((with_reducible refine gate_dst (N := 8) rfl ?_); refine lt Kd.string 9 ?hg (N := 8) ?hd ([((⟨#[]⟩ : ByteArray)), ((⟨#[]⟩ : ByteArray)), ((⟨#[]⟩ : ByteArray))] : List ByteArray) [.string (⟨#[]⟩ : ByteArray), .string (⟨#[]⟩ : ByteArray), .string (⟨#[]⟩ : ByteArray)] ?hr (Reps.one (show Kd.M Kd.string _ _ _ (⟨#[]⟩ : ByteArray) [.string (⟨#[]⟩ : ByteArray)] from rfl) (Reps.one (show Kd.M Kd.string _ _ _ (⟨#[]⟩ : ByteArray) [.string (⟨#[]⟩ : ByteArray)] from rfl) (Reps.one (show Kd.M Kd.string _ _ _ (⟨#[]⟩ : ByteArray) [.string (⟨#[]⟩ : ByteArray)] from rfl) (Reps.none _ _)))) (by simp) B ?_; (case hd => rfl); (case hg => rfl); (case hr => first | (go_simp; done) | (go_simp; rfl)); intro z8 hz8 AL8 kL8 w703 hb B RL8 QL8; replace F2 := bn F2 hb; replace RV702 := rn RV702 hb; clear hb QL8)
              | ((with_reducible refine gate_builtin (b := .append) (xs := #[.tmp 7, .tmp 8]) rfl ?_); at_builtin; refine apx Kd.string 9 rfl (.tmp 7) (.tmp 8) 46 (.string (⟨#[]⟩ : ByteArray)) 16 rfl Tryd.underlying46 info9 rfl (by decide) (by omega) rfl rfl RV702 (rc RL8) (fun _ _ h => h) (by rw [← hz8]; simp only [List.length_cons, List.length_nil]; omega) B ?_; intro z9 hz9 AL9 kL9 w704 hg B RL9 hat; replace F2 := bga F2 hg RV702 (by decide); clear hg hat; (have h9 : z9 = W := by rw [← hz9, ← hz8, ← HW.out]; rfl); subst h9; obtain ⟨ad, hA, -⟩ := Kd.at_string (rc RL9) 0 (by omega) (by omega); subst hA; have Z8 := Aside0.mk hz8; have Z9 := Aside0.mk hz9; clear hz8 hz9; have q0 := strat0 (Aside0.mk (rc RL9)) (Aside0.mk (Below.refl _ _)) (by omega); have q1 := strat (Aside0.mk (rc RL9)) (Aside0.mk (Below.refl _ _)) 1 (by decide) (by omega))
              | ((with_reducible refine gate_dst (N := 5) rfl ?_); refine bx ?hg (N := 5) ?hd (cs := #[.int .i64 (0), .string (⟨#[]⟩ : ByteArray), .int .i64 (0), .int .i64 (0)]) (t := 28) ?hr B ?_; (case hd => rfl); (case hg => rfl); (case hr => first | (go_simp; done) | (go_simp; rfl)); intro g5 w705 hb B F5 L5 E5; have N2_5 := ne1 E5 F2; replace F2 := bn F2 hb; replace RL9 := rn RL9 hb; obtain ⟨c5_0, c5_1, c5_2, c5_3⟩ := cs4 F5; ((try clear q0); (try clear q1); (try clear q2); (try clear q3); have q0 := strat0 (Aside0.mk (rc RL9)) (Aside0.mk (Below.refl _ _)) (by omega); have q1 := strat (Aside0.mk (rc RL9)) (Aside0.mk (Below.refl _ _)) 1 (by decide) (by omega)); clear hb E5)
              | ((with_reducible refine gate_store (t := 28) (p := 5) rfl ?_); obtain ⟨y0, y1, y2, y3⟩ := cs4 F5; have z0 := fz F5 0; have z1 := fz F5 1; have z2 := fz F5 2; have z3 := fz F5 3; refine sx (t := 28) (t' := 28) (p := 5) (v := ?vo706) ?hg ?ho ?hn 0 [.int .i64 (0), .string (elB z9 1), .int .i64 (0), .int .i64 (0)] [.int .i64 (0), .string (elB z9 1), .int .i64 (0), .int .i64 (0)] ?hr B F5 L5 rfl (Nat.le_of_ble_eq_true rfl) ?_; (case ho => rfl); (case hg => rfl); (case hn => rfl); (case hr => first | (go_simp; done) | (go_simp; rfl)); intro w706 hk B G; replace F2 := bk F2 hk N2_5.out; replace RL9 := rk RL9 F5 (by decide) hk; replace F5 := G; clear c5_0 c5_1 c5_2 c5_3; obtain ⟨c5_0, c5_1, c5_2, c5_3⟩ := cs4 F5; ((try clear q0); (try clear q1); (try clear q2); (try clear q3); have q0 := strat0 (Aside0.mk (rc RL9)) (Aside0.mk (Below.refl _ _)) (by omega); have q1 := strat (Aside0.mk (rc RL9)) (Aside0.mk (Below.refl _ _)) 1 (by decide) (by omega)); clear hk y0 z0 y1 z1 y2 z2 y3 z3)
              | ((with_reducible refine gate_store (t := 3) (p := 30) rfl ?_); obtain ⟨y0, y1, y2, y3⟩ := cs4 F5; have z0 := fz F5 0; have z1 := fz F5 1; have z2 := fz F5 2; have z3 := fz F5 3; refine sx (t := 28) (t' := 3) (p := 30) (v := ?vo707) ?hg ?ho ?hn 0 [.int .i64 (3)] [.int .i64 (3), .string (elB z9 1), .int .i64 (0), .int .i64 (0)] ?hr B F5 L5 rfl (Nat.le_of_ble_eq_true rfl) ?_; (case ho => rfl); (case hg => rfl); (case hn => rfl); (case hr => first | (go_simp; done) | (go_simp; rfl)); intro w707 hk B G; replace F2 := bk F2 hk N2_5.out; replace RL9 := rk RL9 F5 (by decide) hk; replace F5 := G; clear c5_0 c5_1 c5_2 c5_3; obtain ⟨c5_0, c5_1, c5_2, c5_3⟩ := cs4 F5; ((try clear q0); (try clear q1); (try clear q2); (try clear q3); have q0 := strat0 (Aside0.mk (rc RL9)) (Aside0.mk (Below.refl _ _)) (by omega); have q1 := strat (Aside0.mk (rc RL9)) (Aside0.mk (Below.refl _ _)) 1 (by decide) (by omega)); clear hk y0 z0 y1 z1 y2 z2 y3 z3)
              | (go_at_call 14; with_reducible refine cl (spec_CommandText.M 3 (elB z9 1) 0 0 _) B fun w708 hb B => ?_; replace F2 := bn F2 hb; replace RL9 := rn RL9 hb; ((try clear q0); (try clear q1); (try clear q2); (try clear q3); have q0 := strat0 (Aside0.mk (rc RL9)) (Aside0.mk (Below.refl _ _)) (by omega); have q1 := strat (Aside0.mk (rc RL9)) (Aside0.mk (Below.refl _ _)) 1 (by decide) (by omega)); clear hb)
              | ((with_reducible refine gate_store (t := 28) (p := 2) rfl ?_); obtain ⟨y0, y1, y2, y3⟩ := cs4 F2; have z0 := fz F2 0; have z1 := fz F2 1; have z2 := fz F2 2; have z3 := fz F2 3; refine sx (t := 28) (t' := 28) (p := 2) (v := ?vo709) ?hg ?ho ?hn 0 [.int .i64 (0), .string (⟨#[]⟩ : ByteArray), .int .i64 (0), .int .i64 (0)] [.int .i64 (0), .string (⟨#[]⟩ : ByteArray), .int .i64 (0), .int .i64 (0)] ?hr B F2 L2 rfl (Nat.le_of_ble_eq_true rfl) ?_; (case ho => rfl); (case hg => rfl); (case hn => rfl); (case hr => first | (go_simp; done) | (go_simp; rfl)); intro w709 hk B G; replace RL9 := rk RL9 F2 (by decide) hk; replace F2 := G; ((try clear q0); (try clear q1); (try clear q2); (try clear q3); have q0 := strat0 (Aside0.mk (rc RL9)) (Aside0.mk (Below.refl _ _)) (by omega); have q1 := strat (Aside0.mk (rc RL9)) (Aside0.mk (Below.refl _ _)) 1 (by decide) (by omega)); clear hk y0 z0 y1 z1 y2 z2 y3 z3))
            refine bodyPost_ret (results_list (rs := [.cell 2 28, .tmp 3]) rfl (by simp) (.cell g2 28 _ (0, 0) _ rfl F2.out hu rfl (by kernel_rfl) (.tmp .nil))) rfl ?_
            have hr2 := HM.out
            subst hr2
            exact ⟨rfl, B.out⟩
        · skip
          by_cases h_3 : elB W 0 = w_swap
          · have hw : (elB W 0).toList = [115, 119, 97, 112] := by rw [h_3, ba_toList]; rfl
            have hc : c7 W = (4, elB W 1, num7 (elB W 3), num7 (elB W 2)) := by unfold c7; rw [if_neg h_0, if_neg h_1, if_neg h_2, if_pos h_3]
            rw [hc] at hr
            replace hr : (if s.toList ≠ ([] : List UInt8) ∧ (cmtM 4 (elB W 1) (num7 (elB W 3)) (num7 (elB W 2))) = s then ((4, elB W 1, num7 (elB W 3), num7 (elB W 2)), true) else (rcZ, false)) = r := hr
            clear hc h_0 h_1 h_2 h_3
            by_cases hq : (cmtM 4 (elB W 1) (num7 (elB W 3)) (num7 (elB W 2))) = s
            · rw [if_pos ⟨hs, hq⟩] at hr
              have hb : ((cmtM 4 (elB W 1) (num7 (elB W 3)) (num7 (elB W 2))).toList == s.toList) = true := by rw [hq]; simp
              have HM := Aside0.mk hr
              clear hr hq hs
              go_enter Tryd.func19, Tryd.ntmps19
              go_wp2_with (first
                | ((with_reducible refine gate_dst (N := 2) rfl ?_); refine bx ?hg (N := 2) ?hd (cs := #[.int .i64 (0), .string (⟨#[]⟩ : ByteArray), .int .i64 (0), .int .i64 (0)]) (t := 28) ?hr B ?_; (case hd => rfl); (case hg => rfl); (case hr => first | (go_simp; done) | (go_simp; rfl)); intro g2 w801 hb B F2 L2 E2; clear hb E2)
                | (go_at_call 35; with_reducible refine cr (spec_l7Words.M s _ (by omega)) B fun AV802 kV802 w802 hb B RV802 QV802 => ?_; replace F2 := bn F2 hb; clear QV802; clear hb)
                | ((with_reducible refine gate_dst (N := 8) rfl ?_); refine lt Kd.string 9 ?hg (N := 8) ?hd ([((⟨#[]⟩ : ByteArray)), ((⟨#[]⟩ : ByteArray)), ((⟨#[]⟩ : ByteArray))] : List ByteArray) [.string (⟨#[]⟩ : ByteArray), .string (⟨#[]⟩ : ByteArray), .string (⟨#[]⟩ : ByteArray)] ?hr (Reps.one (show Kd.M Kd.string _ _ _ (⟨#[]⟩ : ByteArray) [.string (⟨#[]⟩ : ByteArray)] from rfl) (Reps.one (show Kd.M Kd.string _ _ _ (⟨#[]⟩ : ByteArray) [.string (⟨#[]⟩ : ByteArray)] from rfl) (Reps.one (show Kd.M Kd.string _ _ _ (⟨#[]⟩ : ByteArray) [.string (⟨#[]⟩ : ByteArray)] from rfl) (Reps.none _ _)))) (by simp) B ?_; (case hd => rfl); (case hg => rfl); (case hr => first | (go_simp; done) | (go_simp; rfl)); intro z8 hz8 AL8 kL8 w803 hb B RL8 QL8; replace F2 := bn F2 hb; replace RV802 := rn RV802 hb; clear hb QL8)
                | ((with_reducible refine gate_builtin (b := .append) (xs := #[.tmp 7, .tmp 8]) rfl ?_); at_builtin; refine apx Kd.string 9 rfl (.tmp 7) (.tmp 8) 46 (.string (⟨#[]⟩ : ByteArray)) 16 rfl Tryd.underlying46 info9 rfl (by decide) (by omega) rfl rfl RV802 (rc RL8) (fun _ _ h => h) (by rw [← hz8]; simp only [List.length_cons, List.length_nil]; omega) B ?_; intro z9 hz9 AL9 kL9 w804 hg B RL9 hat; replace F2 := bga F2 hg RV802 (by decide); clear hg hat; (have h9 : z9 = W := by rw [← hz9, ← hz8, ← HW.out]; rfl); subst h9; obtain ⟨ad, hA, -⟩ := Kd.at_string (rc RL9) 0 (by omega) (by omega); subst hA; have Z8 := Aside0.mk hz8; have Z9 := Aside0.mk hz9; clear hz8 hz9; have q0 := strat0 (Aside0.mk (rc RL9)) (Aside0.mk (Below.refl _ _)) (by omega); have q1 := strat (Aside0.mk (rc RL9)) (Aside0.mk (Below.refl _ _)) 1 (by decide) (by omega); have q2 := strat (Aside0.mk (rc RL9)) (Aside0.mk (Below.refl _ _)) 2 (by decide) (by omega); have q3 := strat (Aside0.mk (rc RL9)) (Aside0.mk (Below.refl _ _)) 3 (by decide) (by omega))
                | ((with_reducible refine gate_dst (N := 5) rfl ?_); refine bx ?hg (N := 5) ?hd (cs := #[.int .i64 (0), .string (⟨#[]⟩ : ByteArray), .int .i64 (0), .int .i64 (0)]) (t := 28) ?hr B ?_; (case hd => rfl); (case hg => rfl); (case hr => first | (go_simp; done) | (go_simp; rfl)); intro g5 w805 hb B F5 L5 E5; have N2_5 := ne1 E5 F2; replace F2 := bn F2 hb; replace RL9 := rn RL9 hb; obtain ⟨c5_0, c5_1, c5_2, c5_3⟩ := cs4 F5; ((try clear q0); (try clear q1); (try clear q2); (try clear q3); have q0 := strat0 (Aside0.mk (rc RL9)) (Aside0.mk (Below.refl _ _)) (by omega); have q1 := strat (Aside0.mk (rc RL9)) (Aside0.mk (Below.refl _ _)) 1 (by decide) (by omega); have q2 := strat (Aside0.mk (rc RL9)) (Aside0.mk (Below.refl _ _)) 2 (by decide) (by omega); have q3 := strat (Aside0.mk (rc RL9)) (Aside0.mk (Below.refl _ _)) 3 (by decide) (by omega)); clear hb E5)
                | ((with_reducible refine gate_store (t := 28) (p := 5) rfl ?_); obtain ⟨y0, y1, y2, y3⟩ := cs4 F5; have z0 := fz F5 0; have z1 := fz F5 1; have z2 := fz F5 2; have z3 := fz F5 3; refine sx (t := 28) (t' := 28) (p := 5) (v := ?vo806) ?hg ?ho ?hn 0 [.int .i64 (0), .string (elB z9 1), .int .i64 (0), .int .i64 (0)] [.int .i64 (0), .string (elB z9 1), .int .i64 (0), .int .i64 (0)] ?hr B F5 L5 rfl (Nat.le_of_ble_eq_true rfl) ?_; (case ho => rfl); (case hg => rfl); (case hn => rfl); (case hr => first | (go_simp; done) | (go_simp; rfl)); intro w806 hk B G; replace F2 := bk F2 hk N2_5.out; replace RL9 := rk RL9 F5 (by decide) hk; replace F5 := G; clear c5_0 c5_1 c5_2 c5_3; obtain ⟨c5_0, c5_1, c5_2, c5_3⟩ := cs4 F5; ((try clear q0); (try clear q1); (try clear q2); (try clear q3); have q0 := strat0 (Aside0.mk (rc RL9)) (Aside0.mk (Below.refl _ _)) (by omega); have q1 := strat (Aside0.mk (rc RL9)) (Aside0.mk (Below.refl _ _)) 1 (by decide) (by omega); have q2 := strat (Aside0.mk (rc RL9)) (Aside0.mk (Below.refl _ _)) 2 (by decide) (by omega); have q3 := strat (Aside0.mk (rc RL9)) (Aside0.mk (Below.refl _ _)) 3 (by decide) (by omega)); clear hk y0 z0 y1 z1 y2 z2 y3 z3)
                | ((with_reducible refine gate_store (t := 3) (p := 33) rfl ?_); obtain ⟨y0, y1, y2, y3⟩ := cs4 F5; have z0 := fz F5 0; have z1 := fz F5 1; have z2 := fz F5 2; have z3 := fz F5 3; refine sx (t := 28) (t' := 3) (p := 33) (v := ?vo807) ?hg ?ho ?hn 0 [.int .i64 (4)] [.int .i64 (4), .string (elB z9 1), .int .i64 (0), .int .i64 (0)] ?hr B F5 L5 rfl (Nat.le_of_ble_eq_true rfl) ?_; (case ho => rfl); (case hg => rfl); (case hn => rfl); (case hr => first | (go_simp; done) | (go_simp; rfl)); intro w807 hk B G; replace F2 := bk F2 hk N2_5.out; replace RL9 := rk RL9 F5 (by decide) hk; replace F5 := G; clear c5_0 c5_1 c5_2 c5_3; obtain ⟨c5_0, c5_1, c5_2, c5_3⟩ := cs4 F5; ((try clear q0); (try clear q1); (try clear q2); (try clear q3); have q0 := strat0 (Aside0.mk (rc RL9)) (Aside0.mk (Below.refl _ _)) (by omega); have q1 := strat (Aside0.mk (rc RL9)) (Aside0.mk (Below.refl _ _)) 1 (by decide) (by omega); have q2 := strat (Aside0.mk (rc RL9)) (Aside0.mk (Below.refl _ _)) 2 (by decide) (by omega); have q3 := strat (Aside0.mk (rc RL9)) (Aside0.mk (Below.refl _ _)) 3 (by decide) (by omega)); clear hk y0 z0 y1 z1 y2 z2 y3 z3)
                | (go_at_call 33; with_reducible refine cl (spec_l7Number.M (elB z9 2) _) B fun w808 hb B => ?_; replace F2 := bn F2 hb; replace F5 := bn F5 hb; replace RL9 := rn RL9 hb; clear c5_0 c5_1 c5_2 c5_3; obtain ⟨c5_0, c5_1, c5_2, c5_3⟩ := cs4 F5; ((try clear q0); (try clear q1); (try clear q2); (try clear q3); have q0 := strat0 (Aside0.mk (rc RL9)) (Aside0.mk (Below.refl _ _)) (by omega); have q1 := strat (Aside0.mk (rc RL9)) (Aside0.mk (Below.refl _ _)) 1 (by decide) (by omega); have q2 := strat (Aside0.mk (rc RL9)) (Aside0.mk (Below.refl _ _)) 2 (by decide) (by omega); have q3 := strat (Aside0.mk (rc RL9)) (Aside0.mk (Below.refl _ _)) 3 (by decide) (by omega)); clear hb)
                | ((with_reducible refine gate_store (t := 3) (p := 38) rfl ?_); obtain ⟨y0, y1, y2, y3⟩ := cs4 F5; have z0 := fz F5 0; have z1 := fz F5 1; have z2 := fz F5 2; have z3 := fz F5 3; refine sx (t := 28) (t' := 3) (p := 38) (v := ?vo809) ?hg ?ho ?hn 3 [.int .i64 ((num7 (elB z9 2)))] [.int .i64 (4), .string (elB z9 1), .int .i64 (0), .int .i64 ((num7 (elB z9 2)))] ?hr B F5 L5 rfl (Nat.le_of_ble_eq_true rfl) ?_; (case ho => rfl); (case hg => rfl); (case hn => rfl); (case hr => first | (go_simp; done) | (go_simp; rfl)); intro w809 hk B G; replace F2 := bk F2 hk N2_5.out; replace RL9 := rk RL9 F5 (by decide) hk; replace F5 := G; clear c5_0 c5_1 c5_2 c5_3; obtain ⟨c5_0, c5_1, c5_2, c5_3⟩ := cs4 F5; ((try clear q0); (try clear q1); (try clear q2); (try clear q3); have q0 := strat0 (Aside0.mk (rc RL9)) (Aside0.mk (Below.refl _ _)) (by omega); have q1 := strat (Aside0.mk (rc RL9)) (Aside0.mk (Below.refl _ _)) 1 (by decide) (by omega); have q2 := strat (Aside0.mk (rc RL9)) (Aside0.mk (Below.refl _ _)) 2 (by decide) (by omega); have q3 := strat (Aside0.mk (rc RL9)) (Aside0.mk (Below.refl _ _)) 3 (by decide) (by omega)); clear hk y0 z0 y1 z1 y2 z2 y3 z3)
                | (go_at_call 33; with_reducible refine cl (spec_l7Number.M (elB z9 3) _) B fun w810 hb B => ?_; replace F2 := bn F2 hb; replace F5 := bn F5 hb; replace RL9 := rn RL9 hb; clear c5_0 c5_1 c5_2 c5_3; obtain ⟨c5_0, c5_1, c5_2, c5_3⟩ := cs4 F5; ((try clear q0); (try clear q1); (try clear q2); (try clear q3); have q0 := strat0 (Aside0.mk (rc RL9)) (Aside0.mk (Below.refl _ _)) (by omega); have q1 := strat (Aside0.mk (rc RL9)) (Aside0.mk (Below.refl _ _)) 1 (by decide) (by omega); have q2 := strat (Aside0.mk (rc RL9)) (Aside0.mk (Below.refl _ _)) 2 (by decide) (by omega); have q3 := strat (Aside0.mk (rc RL9)) (Aside0.mk (Below.refl _ _)) 3 (by decide) (by omega)); clear hb)
                | ((with_reducible refine gate_store (t := 3) (p := 43) rfl ?_); obtain ⟨y0, y1, y2, y3⟩ := cs4 F5; have z0 := fz F5 0; have z1 := fz F5 1; have z2 := fz F5 2; have z3 := fz F5 3; refine sx (t := 28) (t' := 3) (p := 43) (v := ?vo811) ?hg ?ho ?hn 2 [.int .i64 ((num7 (elB z9 3)))] [.int .i64 (4), .string (elB z9 1), .int .i64 ((num7 (elB z9 3))), .int .i64 ((num7 (elB z9 2)))] ?hr B F5 L5 rfl (Nat.le_of_ble_eq_true rfl) ?_; (case ho => rfl); (case hg => rfl); (case hn => rfl); (case hr => first | (go_simp; done) | (go_simp; rfl)); intro w811 hk B G; replace F2 := bk F2 hk N2_5.out; replace RL9 := rk RL9 F5 (by decide) hk; replace F5 := G; clear c5_0 c5_1 c5_2 c5_3; obtain ⟨c5_0, c5_1, c5_2, c5_3⟩ := cs4 F5; ((try clear q0); (try clear q1); (try clear q2); (try clear q3); have q0 := strat0 (Aside0.mk (rc RL9)) (Aside0.mk (Below.refl _ _)) (by omega); have q1 := strat (Aside0.mk (rc RL9)) (Aside0.mk (Below.refl _ _)) 1 (by decide) (by omega); have q2 := strat (Aside0.mk (rc RL9)) (Aside0.mk (Below.refl _ _)) 2 (by decide) (by omega); have q3 := strat (Aside0.mk (rc RL9)) (Aside0.mk (Below.refl _ _)) 3 (by decide) (by omega)); clear hk y0 z0 y1 z1 y2 z2 y3 z3)
                | (go_at_call 14; with_reducible refine cl (spec_CommandText.M 4 (elB z9 1) (num7 (elB z9 3)) (num7 (elB z9 2)) _) B fun w812 hb B => ?_; replace F2 := bn F2 hb; replace F5 := bn F5 hb; replace RL9 := rn RL9 hb; clear c5_0 c5_1 c5_2 c5_3; obtain ⟨c5_0, c5_1, c5_2, c5_3⟩ := cs4 F5; ((try clear q0); (try clear q1); (try clear q2); (try clear q3); have q0 := strat0 (Aside0.mk (rc RL9)) (Aside0.mk (Below.refl _ _)) (by omega); have q1 := strat (Aside0.mk (rc RL9)) (Aside0.mk (Below.refl _ _)) 1 (by decide) (by omega); have q2 := strat (Aside0.mk (rc RL9)) (Aside0.mk (Below.refl _ _)) 2 (by decide) (by omega); have q3 := strat (Aside0.mk (rc RL9)) (Aside0.mk (Below.refl _ _)) 3 (by decide) (by omega)); clear hb)
                | ((with_reducible refine gate_store (t := 28) (p := 2) rfl ?_); obtain ⟨y0, y1, y2, y3⟩ := cs4 F2; have z0 := fz F2 0; have z1 := fz F2 1; have z2 := fz F2 2; have z3 := fz F2 3; refine sx (t := 28) (t' := 28) (p := 2) (v := ?vo813) ?hg ?ho ?hn 0 [.int .i64 (4), .string (elB z9 1), .int .i64 ((num7 (elB z9 3))), .int .i64 ((num7 (elB z9 2)))] [.int .i64 (4), .string (elB z9 1), .int .i64 ((num7 (elB z9 3))), .int .i64 ((num7 (elB z9 2)))] ?hr B F2 L2 rfl (Nat.le_of_ble_eq_true rfl) ?_; (case ho => rfl); (case hg => rfl); (case hn => rfl); (case hr => first | (go_simp; done) | (go_simp; rfl)); intro w813 hk B G; replace RL9 := rk RL9 F2 (by decide) hk; replace F2 := G; ((try clear q0); (try clear q1); (try clear q2); (try clear q3); have q0 := strat0 (Aside0.mk (rc RL9)) (Aside0.mk (Below.refl _ _)) (by omega); have q1 := strat (Aside0.mk (rc RL9)) (Aside0.mk (Below.refl _ _)) 1 (by decide) (by omega); have q2 := strat (Aside0.mk (rc RL9)) (Aside0.mk (Below.refl _ _)) 2 (by decide) (by omega); have q3 := strat (Aside0.mk (rc RL9)) (Aside0.mk (Below.refl _ _)) 3 (by decide) (by omega)); clear hk y0 z0 y1 z1 y2 z2 y3 z3))
              refine bodyPost_ret (results_list (rs := [.cell 2 28, .tmp 3]) rfl (by simp) (.cell g2 28 _ (0, 0) _ rfl F2.out hu rfl (by kernel_rfl) (.tmp .nil))) rfl ?_
              have hr2 := HM.out
              subst hr2
              exact ⟨rfl, B.out⟩
            · rw [if_neg (fun k => hq k.2)] at hr
              have hb : ((cmtM 4 (elB W 1) (num7 (elB W 3)) (num7 (elB W 2))).toList == s.toList) = false := by rw [str_beq, decide_eq_false hq]
              have HM := Aside0.mk hr
              clear hr hq hs
              go_enter Tryd.func19, Tryd.ntmps19
              go_wp2_with (first
                | ((with_reducible refine gate_dst (N := 2) rfl ?_); refine bx ?hg (N := 2) ?hd (cs := #[.int .i64 (0), .string (⟨#[]⟩ : ByteArray), .int .i64 (0), .int .i64 (0)]) (t := 28) ?hr B ?_; (case hd => rfl); (case hg => rfl); (case hr => first | (go_simp; done) | (go_simp; rfl)); intro g2 w901 hb B F2 L2 E2; clear hb E2)
                | (go_at_call 35; with_reducible refine cr (spec_l7Words.M s _ (by omega)) B fun AV902 kV902 w902 hb B RV902 QV902 => ?_; replace F2 := bn F2 hb; clear QV902; clear hb)
                | ((with_reducible refine gate_dst (N := 8) rfl ?_); refine lt Kd.string 9 ?hg (N := 8) ?hd ([((⟨#[]⟩ : ByteArray)), ((⟨#[]⟩ : ByteArray)), ((⟨#[]⟩ : ByteArray))] : List ByteArray) [.string (⟨#[]⟩ : ByteArray), .string (⟨#[]⟩ : ByteArray), .string (⟨#[]⟩ : ByteArray)] ?hr (Reps.one (show Kd.M Kd.string _ _ _ (⟨#[]⟩ : ByteArray) [.string (⟨#[]⟩ : ByteArray)] from rfl) (Reps.one (show Kd.M Kd.string _ _ _ (⟨#[]⟩ : ByteArray) [.string (⟨#[]⟩ : ByteArray)] from rfl) (Reps.one (show Kd.M Kd.string _ _ _ (⟨#[]⟩ : ByteArray) [.string (⟨#[]⟩ : ByteArray)] from rfl) (Reps.none _ _)))) (by simp) B ?_; (case hd => rfl); (case hg => rfl); (case hr => first | (go_simp; done) | (go_simp; rfl)); intro z8 hz8 AL8 kL8 w903 hb B RL8 QL8; replace F2 := bn F2 hb; replace RV902 := rn RV902 hb; clear hb QL8)
                | ((with_reducible refine gate_builtin (b := .append) (xs := #[.tmp 7, .tmp 8]) rfl ?_); at_builtin; refine apx Kd.string 9 rfl (.tmp 7) (.tmp 8) 46 (.string (⟨#[]⟩ : ByteArray)) 16 rfl Tryd.underlying46 info9 rfl (by decide) (by omega) rfl rfl RV902 (rc RL8) (fun _ _ h => h) (by rw [← hz8]; simp only [List.length_cons, List.length_nil]; omega) B ?_; intro z9 hz9 AL9 kL9 w904 hg B RL9 hat; replace F2 := bga F2 hg RV902 (by decide); clear hg hat; (have h9 : z9 = W := by rw [← hz9, ← hz8, ← HW.out]; rfl); subst h9; obtain ⟨ad, hA, -⟩ := Kd.at_string (rc RL9) 0 (by omega) (by omega); subst hA; have Z8 := Aside0.mk hz8; have Z9 := Aside0.mk hz9; clear hz8 hz9; have q0 := strat0 (Aside0.mk (rc RL9)) (Aside0.mk (Below.refl _ _)) (by omega); have q1 := strat (Aside0.mk (rc RL9)) (Aside0.mk (Below.refl _ _)) 1 (by decide) (by omega); have q2 := strat (Aside0.mk (rc RL9)) (Aside0.mk (Below.refl _ _)) 2 (by decide) (by omega); have q3 := strat (Aside0.mk (rc RL9)) (Aside0.mk (Below.refl _ _)) 3 (by decide) (by omega))
                | ((with_reducible refine gate_dst (N := 5) rfl ?_); refine bx ?hg (N := 5) ?hd (cs := #[.int .i64 (0), .string (⟨#[]⟩ : ByteArray), .int .i64 (0), .int .i64 (0)]) (t := 28) ?hr B ?_; (case hd => rfl); (case hg => rfl); (case hr => first | (go_simp; done) | (go_simp; rfl)); intro g5 w905 hb B F5 L5 E5; have N2_5 := ne1 E5 F2; replace F2 := bn F2 hb; replace RL9 := rn RL9 hb; obtain ⟨c5_0, c5_1, c5_2, c5_3⟩ := cs4 F5; ((try clear q0); (try clear q1); (try clear q2); (try clear q3); have q0 := strat0 (Aside0.mk (rc RL9)) (Aside0.mk (Below.refl _ _)) (by omega); have q1 := strat (Aside0.mk (rc RL9)) (Aside0.mk (Below.refl _ _)) 1 (by decide) (by omega); have q2 := strat (Aside0.mk (rc RL9)) (Aside0.mk (Below.refl _ _)) 2 (by decide) (by omega); have q3 := strat (Aside0.mk (rc RL9)) (Aside0.mk (Below.refl _ _)) 3 (by decide) (by omega)); clear hb E5)
                | ((with_reducible refine gate_store (t := 28) (p := 5) rfl ?_); obtain ⟨y0, y1, y2, y3⟩ := cs4 F5; have z0 := fz F5 0; have z1 := fz F5 1; have z2 := fz F5 2; have z3 := fz F5 3; refine sx (t := 28) (t' := 28) (p := 5) (v := ?vo906) ?hg ?ho ?hn 0 [.int .i64 (0), .string (elB z9 1), .int .i64 (0), .int .i64 (0)] [.int .i64 (0), .string (elB z9 1), .int .i64 (0), .int .i64 (0)] ?hr B F5 L5 rfl (Nat.le_of_ble_eq_true rfl) ?_; (case ho => rfl); (case hg => rfl); (case hn => rfl); (case hr => first | (go_simp; done) | (go_simp; rfl)); intro w906 hk B G; replace F2 := bk F2 hk N2_5.out; replace RL9 := rk RL9 F5 (by decide) hk; replace F5 := G; clear c5_0 c5_1 c5_2 c5_3; obtain ⟨c5_0, c5_1, c5_2, c5_3⟩ := cs4 F5; ((try clear q0); (try clear q1); (try clear q2); (try clear q3); have q0 := strat0 (Aside0.mk (rc RL9)) (Aside0.mk (Below.refl _ _)) (by omega); have q1 := strat (Aside0.mk (rc RL9)) (Aside0.mk (Below.refl _ _)) 1 (by decide) (by omega); have q2 := strat (Aside0.mk (rc RL9)) (Aside0.mk (Below.refl _ _)) 2 (by decide) (by omega); have q3 := strat (Aside0.mk (rc RL9)) (Aside0.mk (Below.refl _ _)) 3 (by decide) (by omega)); clear hk y0 z0 y1 z1 y2 z2 y3 z3)
                | ((with_reducible refine gate_store (t := 3) (p := 33) rfl ?_); obtain ⟨y0, y1, y2, y3⟩ := cs4 F5; have z0 := fz F5 0; have z1 := fz F5 1; have z2 := fz F5 2; have z3 := fz F5 3; refine sx (t := 28) (t' := 3) (p := 33) (v := ?vo907) ?hg ?ho ?hn 0 [.int .i64 (4)] [.int .i64 (4), .string (elB z9 1), .int .i64 (0), .int .i64 (0)] ?hr B F5 L5 rfl (Nat.le_of_ble_eq_true rfl) ?_; (case ho => rfl); (case hg => rfl); (case hn => rfl); (case hr => first | (go_simp; done) | (go_simp; rfl)); intro w907 hk B G; replace F2 := bk F2 hk N2_5.out; replace RL9 := rk RL9 F5 (by decide) hk; replace F5 := G; clear c5_0 c5_1 c5_2 c5_3; obtain ⟨c5_0, c5_1, c5_2, c5_3⟩ := cs4 F5; ((try clear q0); (try clear q1); (try clear q2); (try clear q3); have q0 := strat0 (Aside0.mk (rc RL9)) (Aside0.mk (Below.refl _ _)) (by omega); have q1 := strat (Aside0.mk (rc RL9)) (Aside0.mk (Below.refl _ _)) 1 (by decide) (by omega); have q2 := strat (Aside0.mk (rc RL9)) (Aside0.mk (Below.refl _ _)) 2 (by decide) (by omega); have q3 := strat (Aside0.mk (rc RL9)) (Aside0.mk (Below.refl _ _)) 3 (by decide) (by omega)); clear hk y0 z0 y1 z1 y2 z2 y3 z3)
                | (go_at_call 33; with_reducible refine cl (spec_l7Number.M (elB z9 2) _) B fun w908 hb B => ?_; replace F2 := bn F2 hb; replace F5 := bn F5 hb; replace RL9 := rn RL9 hb; clear c5_0 c5_1 c5_2 c5_3; obtain ⟨c5_0, c5_1, c5_2, c5_3⟩ := cs4 F5; ((try clear q0); (try clear q1); (try clear q2); (try clear q3); have q0 := strat0 (Aside0.mk (rc RL9)) (Aside0.mk (Below.refl _ _)) (by omega); have q1 := strat (Aside0.mk (rc RL9)) (Aside0.mk (Below.refl _ _)) 1 (by decide) (by omega); have q2 := strat (Aside0.mk (rc RL9)) (Aside0.mk (Below.refl _ _)) 2 (by decide) (by omega); have q3 := strat (Aside0.mk (rc RL9)) (Aside0.mk (Below.refl _ _)) 3 (by decide) (by omega)); clear hb)
                | ((with_reducible refine gate_store (t := 3) (p := 38) rfl ?_); obtain ⟨y0, y1, y2, y3⟩ := cs4 F5; have z0 := fz F5 0; have z1 := fz F5 1; have z2 := fz F5 2; have z3 := fz F5 3; refine sx (t := 28) (t' := 3) (p := 38) (v := ?vo909) ?hg ?ho ?hn 3 [.int .i64 ((num7 (elB z9 2)))] [.int .i64 (4), .string (elB z9 1), .int .i64 (0), .int .i64 ((num7 (elB z9 2)))] ?hr B F5 L5 rfl (Nat.le_of_ble_eq_true rfl) ?_; (case ho => rfl); (case hg => rfl); (case hn => rfl); (case hr => first | (go_simp; done) | (go_simp; rfl)); intro w909 hk B G; replace F2 := bk F2 hk N2_5.out; replace RL9 := rk RL9 F5 (by decide) hk; replace F5 := G; clear c5_0 c5_1 c5_2 c5_3; obtain ⟨c5_0, c5_1, c5_2, c5_3⟩ := cs4 F5; ((try clear q0); (try clear q1); (try clear q2); (try clear q3); have q0 := strat0 (Aside0.mk (rc RL9)) (Aside0.mk (Below.refl _ _)) (by omega); have q1 := strat (Aside0.mk (rc RL9)) (Aside0.mk (Below.refl _ _)) 1 (by decide) (by omega); have q2 := strat (Aside0.mk (rc RL9)) (Aside0.mk (Below.refl _ _)) 2 (by decide) (by omega); have q3 := strat (Aside0.mk (rc RL9)) (Aside0.mk (Below.refl _ _)) 3 (by decide) (by omega)); clear hk y0 z0 y1 z1 y2 z2 y3 z3)
                | (go_at_call 33; with_reducible refine cl (spec_l7Number.M (elB z9 3) _) B fun w910 hb B => ?_; replace F2 := bn F2 hb; replace F5 := bn F5 hb; replace RL9 := rn RL9 hb; clear c5_0 c5_1 c5_2 c5_3; obtain ⟨c5_0, c5_1, c5_2, c5_3⟩ := cs4 F5; ((try clear q0); (try clear q1); (try clear q2); (try clear q3); have q0 := strat0 (Aside0.mk (rc RL9)) (Aside0.mk (Below.refl _ _)) (by omega); have q1 := strat (Aside0.mk (rc RL9)) (Aside0.mk (Below.refl _ _)) 1 (by decide) (by omega); have q2 := strat (Aside0.mk (rc RL9)) (Aside0.mk (Below.refl _ _)) 2 (by decide) (by omega); have q3 := strat (Aside0.mk (rc RL9)) (Aside0.mk (Below.refl _ _)) 3 (by decide) (by omega)); clear hb)
                | ((with_reducible refine gate_store (t := 3) (p := 43) rfl ?_); obtain ⟨y0, y1, y2, y3⟩ := cs4 F5; have z0 := fz F5 0; have z1 := fz F5 1; have z2 := fz F5 2; have z3 := fz F5 3; refine sx (t := 28) (t' := 3) (p := 43) (v := ?vo911) ?hg ?ho ?hn 2 [.int .i64 ((num7 (elB z9 3)))] [.int .i64 (4), .string (elB z9 1), .int .i64 ((num7 (elB z9 3))), .int .i64 ((num7 (elB z9 2)))] ?hr B F5 L5 rfl (Nat.le_of_ble_eq_true rfl) ?_; (case ho => rfl); (case hg => rfl); (case hn => rfl); (case hr => first | (go_simp; done) | (go_simp; rfl)); intro w911 hk B G; replace F2 := bk F2 hk N2_5.out; replace RL9 := rk RL9 F5 (by decide) hk; replace F5 := G; clear c5_0 c5_1 c5_2 c5_3; obtain ⟨c5_0, c5_1, c5_2, c5_3⟩ := cs4 F5; ((try clear q0); (try clear q1); (try clear q2); (try clear q3); have q0 := strat0 (Aside0.mk (rc RL9)) (Aside0.mk (Below.refl _ _)) (by omega); have q1 := strat (Aside0.mk (rc RL9)) (Aside0.mk (Below.refl _ _)) 1 (by decide) (by omega); have q2 := strat (Aside0.mk (rc RL9)) (Aside0.mk (Below.refl _ _)) 2 (by decide) (by omega); have q3 := strat (Aside0.mk (rc RL9)) (Aside0.mk (Below.refl _ _)) 3 (by decide) (by omega)); clear hk y0 z0 y1 z1 y2 z2 y3 z3)
                | (go_at_call 14; with_reducible refine cl (spec_CommandText.M 4 (elB z9 1) (num7 (elB z9 3)) (num7 (elB z9 2)) _) B fun w912 hb B => ?_; replace F2 := bn F2 hb; replace RL9 := rn RL9 hb; ((try clear q0); (try clear q1); (try clear q2); (try clear q3); have q0 := strat0 (Aside0.mk (rc RL9)) (Aside0.mk (Below.refl _ _)) (by omega); have q1 := strat (Aside0.mk (rc RL9)) (Aside0.mk (Below.refl _ _)) 1 (by decide) (by omega); have q2 := strat (Aside0.mk (rc RL9)) (Aside0.mk (Below.refl _ _)) 2 (by decide) (by omega); have q3 := strat (Aside0.mk (rc RL9)) (Aside0.mk (Below.refl _ _)) 3 (by decide) (by omega)); clear hb)
                | ((with_reducible refine gate_store (t := 28) (p := 2) rfl ?_); obtain ⟨y0, y1, y2, y3⟩ := cs4 F2; have z0 := fz F2 0; have z1 := fz F2 1; have z2 := fz F2 2; have z3 := fz F2 3; refine sx (t := 28) (t' := 28) (p := 2) (v := ?vo913) ?hg ?ho ?hn 0 [.int .i64 (0), .string (⟨#[]⟩ : ByteArray), .int .i64 (0), .int .i64 (0)] [.int .i64 (0), .string (⟨#[]⟩ : ByteArray), .int .i64 (0), .int .i64 (0)] ?hr B F2 L2 rfl (Nat.le_of_ble_eq_true rfl) ?_; (case ho => rfl); (case hg => rfl); (case hn => rfl); (case hr => first | (go_simp; done) | (go_simp; rfl)); intro w913 hk B G; replace RL9 := rk RL9 F2 (by decide) hk; replace F2 := G; ((try clear q0); (try clear q1); (try clear q2); (try clear q3); have q0 := strat0 (Aside0.mk (rc RL9)) (Aside0.mk (Below.refl _ _)) (by omega); have q1 := strat (Aside0.mk (rc RL9)) (Aside0.mk (Below.refl _ _)) 1 (by decide) (by omega); have q2 := strat (Aside0.mk (rc RL9)) (Aside0.mk (Below.refl _ _)) 2 (by decide) (by omega); have q3 := strat (Aside0.mk (rc RL9)) (Aside0.mk (Below.refl _ _)) 3 (by decide) (by omega)); clear hk y0 z0 y1 z1 y2 z2 y3 z3))
              refine bodyPost_ret (results_list (rs := [.cell 2 28, .tmp 3]) rfl (by simp) (.cell g2 28 _ (0, 0) _ rfl F2.out hu rfl (by kernel_rfl) (.tmp .nil))) rfl ?_
              have hr2 := HM.out
              subst hr2
              exact ⟨rfl, B.out⟩
          · skip
            by_cases h_4 : elB W 0 = w_seal
            · have hw : (elB W 0).toList = [115, 101, 97, 108] := by rw [h_4, ba_toList]; rfl
              have hc : c7 W = (5, elB W 1, 0, 0) := by unfold c7; rw [if_neg h_0, if_neg h_1, if_neg h_2, if_neg h_3, if_pos h_4]
              rw [hc] at hr
              replace hr : (if s.toList ≠ ([] : List UInt8) ∧ (cmtM 5 (elB W 1) 0 0) = s then ((5, elB W 1, 0, 0), true) else (rcZ, false)) = r := hr
              clear hc h_0 h_1 h_2 h_3 h_4
              by_cases hq : (cmtM 5 (elB W 1) 0 0) = s
              · rw [if_pos ⟨hs, hq⟩] at hr
                have hb : ((cmtM 5 (elB W 1) 0 0).toList == s.toList) = true := by rw [hq]; simp
                have HM := Aside0.mk hr
                clear hr hq hs
                go_enter Tryd.func19, Tryd.ntmps19
                go_wp2_with (first
                  | ((with_reducible refine gate_dst (N := 2) rfl ?_); refine bx ?hg (N := 2) ?hd (cs := #[.int .i64 (0), .string (⟨#[]⟩ : ByteArray), .int .i64 (0), .int .i64 (0)]) (t := 28) ?hr B ?_; (case hd => rfl); (case hg => rfl); (case hr => first | (go_simp; done) | (go_simp; rfl)); intro g2 w1001 hb B F2 L2 E2; clear hb E2)
                  | (go_at_call 35; with_reducible refine cr (spec_l7Words.M s _ (by omega)) B fun AV1002 kV1002 w1002 hb B RV1002 QV1002 => ?_; replace F2 := bn F2 hb; clear QV1002; clear hb)
                  | ((with_reducible refine gate_dst (N := 8) rfl ?_); refine lt Kd.string 9 ?hg (N := 8) ?hd ([((⟨#[]⟩ : ByteArray)), ((⟨#[]⟩ : ByteArray)), ((⟨#[]⟩ : ByteArray))] : List ByteArray) [.string (⟨#[]⟩ : ByteArray), .string (⟨#[]⟩ : ByteArray), .string (⟨#[]⟩ : ByteArray)] ?hr (Reps.one (show Kd.M Kd.string _ _ _ (⟨#[]⟩ : ByteArray) [.string (⟨#[]⟩ : ByteArray)] from rfl) (Reps.one (show Kd.M Kd.string _ _ _ (⟨#[]⟩ : ByteArray) [.string (⟨#[]⟩ : ByteArray)] from rfl) (Reps.one (show Kd.M Kd.string _ _ _ (⟨#[]⟩ : ByteArray) [.string (⟨#[]⟩ : ByteArray)] from rfl) (Reps.none _ _)))) (by simp) B ?_; (case hd => rfl); (case hg => rfl); (case hr => first | (go_simp; done) | (go_simp; rfl)); intro z8 hz8 AL8 kL8 w1003 hb B RL8 QL8; replace F2 := bn F2 hb; replace RV1002 := rn RV1002 hb; clear hb QL8)
                  | ((with_reducible refine gate_builtin (b := .append) (xs := #[.tmp 7, .tmp 8]) rfl ?_); at_builtin; refine apx Kd.string 9 rfl (.tmp 7) (.tmp 8) 46 (.string (⟨#[]⟩ : ByteArray)) 16 rfl Tryd.underlying46 info9 rfl (by decide) (by omega) rfl rfl RV1002 (rc RL8) (fun _ _ h => h) (by rw [← hz8]; simp only [List.length_cons, List.length_nil]; omega) B ?_; intro z9 hz9 AL9 kL9 w1004 hg B RL9 hat; replace F2 := bga F2 hg RV1002 (by decide); clear hg hat; (have h9 : z9 = W := by rw [← hz9, ← hz8, ← HW.out]; rfl); subst h9; obtain ⟨ad, hA, -⟩ := Kd.at_string (rc RL9) 0 (by omega) (by omega); subst hA; have Z8 := Aside0.mk hz8; have Z9 := Aside0.mk hz9; clear hz8 hz9; have q0 := strat0 (Aside0.mk (rc RL9)) (Aside0.mk (Below.refl _ _)) (by omega); have q1 := strat (Aside0.mk (rc RL9)) (Aside0.mk (Below.refl _ _)) 1 (by decide) (by omega))
                  | ((with_reducible refine gate_dst (N := 5) rfl ?_); refine bx ?hg (N := 5) ?hd (cs := #[.int .i64 (0), .string (⟨#[]⟩ : ByteArray), .int .i64 (0), .int .i64 (0)]) (t := 28) ?hr B ?_; (case hd => rfl); (case hg => rfl); (case hr => first | (go_simp; done) | (go_simp; rfl)); intro g5 w1005 hb B F5 L5 E5; have N2_5 := ne1 E5 F2; replace F2 := bn F2 hb; replace RL9 := rn RL9 hb; obtain ⟨c5_0, c5_1, c5_2, c5_3⟩ := cs4 F5; ((try clear q0); (try clear q1); (try clear q2); (try clear q3); have q0 := strat0 (Aside0.mk (rc RL9)) (Aside0.mk (Below.refl _ _)) (by omega); have q1 := strat (Aside0.mk (rc RL9)) (Aside0.mk (Below.refl _ _)) 1 (by decide) (by omega)); clear hb E5)
                  | ((with_reducible refine gate_store (t := 28) (p := 5) rfl ?_); obtain ⟨y0, y1, y2, y3⟩ := cs4 F5; have z0 := fz F5 0; have z1 := fz F5 1; have z2 := fz F5 2; have z3 := fz F5 3; refine sx (t := 28) (t' := 28) (p := 5) (v := ?vo1006) ?hg ?ho ?hn 0 [.int .i64 (0), .string (elB z9 1), .int .i64 (0), .int .i64 (0)] [.int .i64 (0), .string (elB z9 1), .int .i64 (0), .int .i64 (0)] ?hr B F5 L5 rfl (Nat.le_of_ble_eq_true rfl) ?_; (case ho => rfl); (case hg => rfl); (case hn => rfl); (case hr => first | (go_simp; done) | (go_simp; rfl)); intro w1006 hk B G; replace F2 := bk F2 hk N2_5.out; replace RL9 := rk RL9 F5 (by decide) hk; replace F5 := G; clear c5_0 c5_1 c5_2 c5_3; obtain ⟨c5_0, c5_1, c5_2, c5_3⟩ := cs4 F5; ((try clear q0); (try clear q1); (try clear q2); (try clear q3); have q0 := strat0 (Aside0.mk (rc RL9)) (Aside0.mk (Below.refl _ _)) (by omega); have q1 := strat (Aside0.mk (rc RL9)) (Aside0.mk (Below.refl _ _)) 1 (by decide) (by omega)); clear hk y0 z0 y1 z1 y2 z2 y3 z3)
                  | ((with_reducible refine gate_store (t := 3) (p := 46) rfl ?_); obtain ⟨y0, y1, y2, y3⟩ := cs4 F5; have z0 := fz F5 0; have z1 := fz F5 1; have z2 := fz F5 2; have z3 := fz F5 3; refine sx (t := 28) (t' := 3) (p := 46) (v := ?vo1007) ?hg ?ho ?hn 0 [.int .i64 (5)] [.int .i64 (5), .string (elB z9 1), .int .i64 (0), .int .i64 (0)] ?hr B F5 L5 rfl (Nat.le_of_ble_eq_true rfl) ?_; (case ho => rfl); (case hg => rfl); (case hn => rfl); (case hr => first | (go_simp; done) | (go_simp; rfl)); intro w1007 hk B G; replace F2 := bk F2 hk N2_5.out; replace RL9 := rk RL9 F5 (by decide) hk; replace F5 := G; clear c5_0 c5_1 c5_2 c5_3; obtain ⟨c5_0, c5_1, c5_2, c5_3⟩ := cs4 F5; ((try clear q0); (try clear q1); (try clear q2); (try clear q3); have q0 := strat0 (Aside0.mk (rc RL9)) (Aside0.mk (Below.refl _ _)) (by omega); have q1 := strat (Aside0.mk (rc RL9)) (Aside0.mk (Below.refl _ _)) 1 (by decide) (by omega)); clear hk y0 z0 y1 z1 y2 z2 y3 z3)
                  | (go_at_call 14; with_reducible refine cl (spec_CommandText.M 5 (elB z9 1) 0 0 _) B fun w1008 hb B => ?_; replace F2 := bn F2 hb; replace F5 := bn F5 hb; replace RL9 := rn RL9 hb; clear c5_0 c5_1 c5_2 c5_3; obtain ⟨c5_0, c5_1, c5_2, c5_3⟩ := cs4 F5; ((try clear q0); (try clear q1); (try clear q2); (try clear q3); have q0 := strat0 (Aside0.mk (rc RL9)) (Aside0.mk (Below.refl _ _)) (by omega); have q1 := strat (Aside0.mk (rc RL9)) (Aside0.mk (Below.refl _ _)) 1 (by decide) (by omega)); clear hb)
                  | ((with_reducible refine gate_store (t := 28) (p := 2) rfl ?_); obtain ⟨y0, y1, y2, y3⟩ := cs4 F2; have z0 := fz F2 0; have z1 := fz F2 1; have z2 := fz F2 2; have z3 := fz F2 3; refine sx (t := 28) (t' := 28) (p := 2) (v := ?vo1009) ?hg ?ho ?hn 0 [.int .i64 (5), .string (elB z9 1), .int .i64 (0), .int .i64 (0)] [.int .i64 (5), .string (elB z9 1), .int .i64 (0), .int .i64 (0)] ?hr B F2 L2 rfl (Nat.le_of_ble_eq_true rfl) ?_; (case ho => rfl); (case hg => rfl); (case hn => rfl); (case hr => first | (go_simp; done) | (go_simp; rfl)); intro w1009 hk B G; replace RL9 := rk RL9 F2 (by decide) hk; replace F2 := G; ((try clear q0); (try clear q1); (try clear q2); (try clear q3); have q0 := strat0 (Aside0.mk (rc RL9)) (Aside0.mk (Below.refl _ _)) (by omega); have q1 := strat (Aside0.mk (rc RL9)) (Aside0.mk (Below.refl _ _)) 1 (by decide) (by omega)); clear hk y0 z0 y1 z1 y2 z2 y3 z3))
                refine bodyPost_ret (results_list (rs := [.cell 2 28, .tmp 3]) rfl (by simp) (.cell g2 28 _ (0, 0) _ rfl F2.out hu rfl (by kernel_rfl) (.tmp .nil))) rfl ?_
                have hr2 := HM.out
                subst hr2
                exact ⟨rfl, B.out⟩
              · rw [if_neg (fun k => hq k.2)] at hr
                have hb : ((cmtM 5 (elB W 1) 0 0).toList == s.toList) = false := by rw [str_beq, decide_eq_false hq]
                have HM := Aside0.mk hr
                clear hr hq hs
                go_enter Tryd.func19, Tryd.ntmps19
                go_wp2_with (first
                  | ((with_reducible refine gate_dst (N := 2) rfl ?_); refine bx ?hg (N := 2) ?hd (cs := #[.int .i64 (0), .string (⟨#[]⟩ : ByteArray), .int .i64 (0), .int .i64 (0)]) (t := 28) ?hr B ?_; (case hd => rfl); (case hg => rfl); (case hr => first | (go_simp; done) | (go_simp; rfl)); intro g2 w1101 hb B F2 L2 E2; clear hb E2)
                  | (go_at_call 35; with_reducible refine cr (spec_l7Words.M s _ (by omega)) B fun AV1102 kV1102 w1102 hb B RV1102 QV1102 => ?_; replace F2 := bn F2 hb; clear QV1102; clear hb)
                  | ((with_reducible refine gate_dst (N := 8) rfl ?_); refine lt Kd.string 9 ?hg (N := 8) ?hd ([((⟨#[]⟩ : ByteArray)), ((⟨#[]⟩ : ByteArray)), ((⟨#[]⟩ : ByteArray))] : List ByteArray) [.string (⟨#[]⟩ : ByteArray), .string (⟨#[]⟩ : ByteArray), .string (⟨#[]⟩ : ByteArray)] ?hr (Reps.one (show Kd.M Kd.string _ _ _ (⟨#[]⟩ : ByteArray) [.string (⟨#[]⟩ : ByteArray)] from rfl) (Reps.one (show Kd.M Kd.string _ _ _ (⟨#[]⟩ : ByteArray) [.string (⟨#[]⟩ : ByteArray)] from rfl) (Reps.one (show Kd.M Kd.string _ _ _ (⟨#[]⟩ : ByteArray) [.string (⟨#[]⟩ : ByteArray)] from rfl) (Reps.none _ _)))) (by simp) B ?_; (case hd => rfl); (case hg => rfl); (case hr => first | (go_simp; done) | (go_simp; rfl)); intro z8 hz8 AL8 kL8 w1103 hb B RL8 QL8; replace F2 := bn F2 hb; replace RV1102 := rn RV1102 hb; clear hb QL8)
                  | ((with_reducible refine gate_builtin (b := .append) (xs := #[.tmp 7, .tmp 8]) rfl ?_); at_builtin; refine apx Kd.string 9 rfl (.tmp 7) (.tmp 8) 46 (.string (⟨#[]⟩ : ByteArray)) 16 rfl Tryd.underlying46 info9 rfl (by decide) (by omega) rfl rfl RV1102 (rc RL8) (fun _ _ h => h) (by rw [← hz8]; simp only [List.length_cons, List.length_nil]; omega) B ?_; intro z9 hz9 AL9 kL9 w1104 hg B RL9 hat; replace F2 := bga F2 hg RV1102 (by decide); clear hg hat; (have h9 : z9 = W := by rw [← hz9, ← hz8, ← HW.out]; rfl); subst h9; obtain ⟨ad, hA, -⟩ := Kd.at_string (rc RL9) 0 (by omega) (by omega); subst hA; have Z8 := Aside0.mk hz8; have Z9 := Aside0.mk hz9; clear hz8 hz9; have q0 := strat0 (Aside0.mk (rc RL9)) (Aside0.mk (Below.refl _ _)) (by omega); have q1 := strat (Aside0.mk (rc RL9)) (Aside0.mk (Below.refl _ _)) 1 (by decide) (by omega))
                  | ((with_reducible refine gate_dst (N := 5) rfl ?_); refine bx ?hg (N := 5) ?hd (cs := #[.int .i64 (0), .string (⟨#[]⟩ : ByteArray), .int .i64 (0), .int .i64 (0)]) (t := 28) ?hr B ?_; (case hd => rfl); (case hg => rfl); (case hr => first | (go_simp; done) | (go_simp; rfl)); intro g5 w1105 hb B F5 L5 E5; have N2_5 := ne1 E5 F2; replace F2 := bn F2 hb; replace RL9 := rn RL9 hb; obtain ⟨c5_0, c5_1, c5_2, c5_3⟩ := cs4 F5; ((try clear q0); (try clear q1); (try clear q2); (try clear q3); have q0 := strat0 (Aside0.mk (rc RL9)) (Aside0.mk (Below.refl _ _)) (by omega); have q1 := strat (Aside0.mk (rc RL9)) (Aside0.mk (Below.refl _ _)) 1 (by decide) (by omega)); clear hb E5)
                  | ((with_reducible refine gate_store (t := 28) (p := 5) rfl ?_); obtain ⟨y0, y1, y2, y3⟩ := cs4 F5; have z0 := fz F5 0; have z1 := fz F5 1; have z2 := fz F5 2; have z3 := fz F5 3; refine sx (t := 28) (t' := 28) (p := 5) (v := ?vo1106) ?hg ?ho ?hn 0 [.int .i64 (0), .string (elB z9 1), .int .i64 (0), .int .i64 (0)] [.int .i64 (0), .string (elB z9 1), .int .i64 (0), .int .i64 (0)] ?hr B F5 L5 rfl (Nat.le_of_ble_eq_true rfl) ?_; (case ho => rfl); (case hg => rfl); (case hn => rfl); (case hr => first | (go_simp; done) | (go_simp; rfl)); intro w1106 hk B G; replace F2 := bk F2 hk N2_5.out; replace RL9 := rk RL9 F5 (by decide) hk; replace F5 := G; clear c5_0 c5_1 c5_2 c5_3; obtain ⟨c5_0, c5_1, c5_2, c5_3⟩ := cs4 F5; ((try clear q0); (try clear q1); (try clear q2); (try clear q3); have q0 := strat0 (Aside0.mk (rc RL9)) (Aside0.mk (Below.refl _ _)) (by omega); have q1 := strat (Aside0.mk (rc RL9)) (Aside0.mk (Below.refl _ _)) 1 (by decide) (by omega)); clear hk y0 z0 y1 z1 y2 z2 y3 z3)
                  | ((with_reducible refine gate_store (t := 3) (p := 46) rfl ?_); obtain ⟨y0, y1, y2, y3⟩ := cs4 F5; have z0 := fz F5 0; have z1 := fz F5 1; have z2 := fz F5 2; have z3 := fz F5 3; refine sx (t := 28) (t' := 3) (p := 46) (v := ?vo1107) ?hg ?ho ?hn 0 [.int .i64 (5)] [.int .i64 (5), .string (elB z9 1), .int .i64 (0), .int .i64 (0)] ?hr B F5 L5 rfl (Nat.le_of_ble_eq_true rfl) ?_; (case ho => rfl); (case hg => rfl); (case hn => rfl); (case hr => first | (go_simp; done) | (go_simp; rfl)); intro w1107 hk B G; replace F2 := bk F2 hk N2_5.out; replace RL9 := rk RL9 F5 (by decide) hk; replace F5 := G; clear c5_0 c5_1 c5_2 c5_3; obtain ⟨c5_0, c5_1, c5_2, c5_3⟩ := cs4 F5; ((try clear q0); (try clear q1); (try clear q2); (try clear q3); have q0 := strat0 (Aside0.mk (rc RL9)) (Aside0.mk (Below.refl _ _)) (by omega); have q1 := strat (Aside0.mk (rc RL9)) (Aside0.mk (Below.refl _ _)) 1 (by decide) (by omega)); clear hk y0 z0 y1 z1 y2 z2 y3 z3)
                  | (go_at_call 14; with_reducible refine cl (spec_CommandText.M 5 (elB z9 1) 0 0 _) B fun w1108 hb B => ?_; replace F2 := bn F2 hb; replace RL9 := rn RL9 hb; ((try clear q0); (try clear q1); (try clear q2); (try clear q3); have q0 := strat0 (Aside0.mk (rc RL9)) (Aside0.mk (Below.refl _ _)) (by omega); have q1 := strat (Aside0.mk (rc RL9)) (Aside0.mk (Below.refl _ _)) 1 (by decide) (by omega)); clear hb)
                  | ((with_reducible refine gate_store (t := 28) (p := 2) rfl ?_); obtain ⟨y0, y1, y2, y3⟩ := cs4 F2; have z0 := fz F2 0; have z1 := fz F2 1; have z2 := fz F2 2; have z3 := fz F2 3; refine sx (t := 28) (t' := 28) (p := 2) (v := ?vo1109) ?hg ?ho ?hn 0 [.int .i64 (0), .string (⟨#[]⟩ : ByteArray), .int .i64 (0), .int .i64 (0)] [.int .i64 (0), .string (⟨#[]⟩ : ByteArray), .int .i64 (0), .int .i64 (0)] ?hr B F2 L2 rfl (Nat.le_of_ble_eq_true rfl) ?_; (case ho => rfl); (case hg => rfl); (case hn => rfl); (case hr => first | (go_simp; done) | (go_simp; rfl)); intro w1109 hk B G; replace RL9 := rk RL9 F2 (by decide) hk; replace F2 := G; ((try clear q0); (try clear q1); (try clear q2); (try clear q3); have q0 := strat0 (Aside0.mk (rc RL9)) (Aside0.mk (Below.refl _ _)) (by omega); have q1 := strat (Aside0.mk (rc RL9)) (Aside0.mk (Below.refl _ _)) 1 (by decide) (by omega)); clear hk y0 z0 y1 z1 y2 z2 y3 z3))
                refine bodyPost_ret (results_list (rs := [.cell 2 28, .tmp 3]) rfl (by simp) (.cell g2 28 _ (0, 0) _ rfl F2.out hu rfl (by kernel_rfl) (.tmp .nil))) rfl ?_
                have hr2 := HM.out
                subst hr2
                exact ⟨rfl, B.out⟩
            · skip
              have b0 : ((elB W 0).toList == [103, 101, 116]) = false := by rw [show ([103, 101, 116] : List UInt8) = w_get.toList by rw [ba_toList]; rfl, str_beq, decide_eq_false h_0]
              have b1 : ((elB W 0).toList == [112, 117, 116]) = false := by rw [show ([112, 117, 116] : List UInt8) = w_put.toList by rw [ba_toList]; rfl, str_beq, decide_eq_false h_1]
              have b2 : ((elB W 0).toList == [100, 114, 111, 112]) = false := by rw [show ([100, 114, 111, 112] : List UInt8) = w_drop.toList by rw [ba_toList]; rfl, str_beq, decide_eq_false h_2]
              have b3 : ((elB W 0).toList == [115, 119, 97, 112]) = false := by rw [show ([115, 119, 97, 112] : List UInt8) = w_swap.toList by rw [ba_toList]; rfl, str_beq, decide_eq_false h_3]
              have b4 : ((elB W 0).toList == [115, 101, 97, 108]) = false := by rw [show ([115, 101, 97, 108] : List UInt8) = w_seal.toList by rw [ba_toList]; rfl, str_beq, decide_eq_false h_4]
              have hc : c7 W = (0, elB W 1, 0, 0) := by unfold c7; rw [if_neg h_0, if_neg h_1, if_neg h_2, if_neg h_3, if_neg h_4]
              rw [hc] at hr
              replace hr : (if s.toList ≠ ([] : List UInt8) ∧ (cmtM 0 (elB W 1) 0 0) = s then ((0, elB W 1, 0, 0), true) else (rcZ, false)) = r := hr
              clear hc h_0 h_1 h_2 h_3 h_4
              by_cases hq : (cmtM 0 (elB W 1) 0 0) = s
              · rw [if_pos ⟨hs, hq⟩] at hr
                have hb : ((cmtM 0 (elB W 1) 0 0).toList == s.toList) = true := by rw [hq]; simp
                have HM := Aside0.mk hr
                clear hr hq hs
                go_enter Tryd.func19, Tryd.ntmps19
                go_wp2_with (first
                  | ((with_reducible refine gate_dst (N := 2) rfl ?_); refine bx ?hg (N := 2) ?hd (cs := #[.int .i64 (0), .string (⟨#[]⟩ : ByteArray), .int .i64 (0), .int .i64 (0)]) (t := 28) ?hr B ?_; (case hd => rfl); (case hg => rfl); (case hr => first | (go_simp; done) | (go_simp; rfl)); intro g2 w1201 hb B F2 L2 E2; clear hb E2)
                  | (go_at_call 35; with_reducible refine cr (spec_l7Words.M s _ (by omega)) B fun AV1202 kV1202 w1202 hb B RV1202 QV1202 => ?_; replace F2 := bn F2 hb; clear QV1202; clear hb)
                  | ((with_reducible refine gate_dst (N := 8) rfl ?_); refine lt Kd.string 9 ?hg (N := 8) ?hd ([((⟨#[]⟩ : ByteArray)), ((⟨#[]⟩ : ByteArray)), ((⟨#[]⟩ : ByteArray))] : List ByteArray) [.string (⟨#[]⟩ : ByteArray), .string (⟨#[]⟩ : ByteArray), .string (⟨#[]⟩ : ByteArray)] ?hr (Reps.one (show Kd.M Kd.string _ _ _ (⟨#[]⟩ : ByteArray) [.string (⟨#[]⟩ : ByteArray)] from rfl) (Reps.one (show Kd.M Kd.string _ _ _ (⟨#[]⟩ : ByteArray) [.string (⟨#[]⟩ : ByteArray)] from rfl) (Reps.one (show Kd.M Kd.string _ _ _ (⟨#[]⟩ : ByteArray) [.string (⟨#[]⟩ : ByteArray)] from rfl) (Reps.none _ _)))) (by simp) B ?_; (case hd => rfl); (case hg => rfl); (case hr => first | (go_simp; done) | (go_simp; rfl)); intro z8 hz8 AL8 kL8 w1203 hb B RL8 QL8; replace F2 := bn F2 hb; replace RV1202 := rn RV1202 hb; clear hb QL8)
                  | ((with_reducible refine gate_builtin (b := .append) (xs := #[.tmp 7, .tmp 8]) rfl ?_); at_builtin; refine apx Kd.string 9 rfl (.tmp 7) (.tmp 8) 46 (.string (⟨#[]⟩ : ByteArray)) 16 rfl Tryd.underlying46 info9 rfl (by decide) (by omega) rfl rfl RV1202 (rc RL8) (fun _ _ h => h) (by rw [← hz8]; simp only [List.length_cons, List.length_nil]; omega) B ?_; intro z9 hz9 AL9 kL9 w1204 hg B RL9 hat; replace F2 := bga F2 hg RV1202 (by decide); clear hg hat; (have h9 : z9 = W := by rw [← hz9, ← hz8, ← HW.out]; rfl); subst h9; obtain ⟨ad, hA, -⟩ := Kd.at_string (rc RL9) 0 (by omega) (by omega); subst hA; have Z8 := Aside0.mk hz8; have Z9 := Aside0.mk hz9; clear hz8 hz9; have q0 := strat0 (Aside0.mk (rc RL9)) (Aside0.mk (Below.refl _ _)) (by omega); have q1 := strat (Aside0.mk (rc RL9)) (Aside0.mk (Below.refl _ _)) 1 (by decide) (by omega))
                  | ((with_reducible refine gate_dst (N := 5) rfl ?_); refine bx ?hg (N := 5) ?hd (cs := #[.int .i64 (0), .string (⟨#[]⟩ : ByteArray), .int .i64 (0), .int .i64 (0)]) (t := 28) ?hr B ?_; (case hd => rfl); (case hg => rfl); (case hr => first | (go_simp; done) | (go_simp; rfl)); intro g5 w1205 hb B F5 L5 E5; have N2_5 := ne1 E5 F2; replace F2 := bn F2 hb; replace RL9 := rn RL9 hb; obtain ⟨c5_0, c5_1, c5_2, c5_3⟩ := cs4 F5; ((try clear q0); (try clear q1); (try clear q2); (try clear q3); have q0 := strat0 (Aside0.mk (rc RL9)) (Aside0.mk (Below.refl _ _)) (by omega); have q1 := strat (Aside0.mk (rc RL9)) (Aside0.mk (Below.refl _ _)) 1 (by decide) (by omega)); clear hb E5)
                  | ((with_reducible refine gate_store (t := 28) (p := 5) rfl ?_); obtain ⟨y0, y1, y2, y3⟩ := cs4 F5; have z0 := fz F5 0; have z1 := fz F5 1; have z2 := fz F5 2; have z3 := fz F5 3; refine sx (t := 28) (t' := 28) (p := 5) (v := ?vo1206) ?hg ?ho ?hn 0 [.int .i64 (0), .string (elB z9 1), .int .i64 (0), .int .i64 (0)] [.int .i64 (0), .string (elB z9 1), .int .i64 (0), .int .i64 (0)] ?hr B F5 L5 rfl (Nat.le_of_ble_eq_true rfl) ?_; (case ho => rfl); (case hg => rfl); (case hn => rfl); (case hr => first | (go_simp; done) | (go_simp; rfl)); intro w1206 hk B G; replace F2 := bk F2 hk N2_5.out; replace RL9 := rk RL9 F5 (by decide) hk; replace F5 := G; clear c5_0 c5_1 c5_2 c5_3; obtain ⟨c5_0, c5_1, c5_2, c5_3⟩ := cs4 F5; ((try clear q0); (try clear q1); (try clear q2); (try clear q3); have q0 := strat0 (Aside0.mk (rc RL9)) (Aside0.mk (Below.refl _ _)) (by omega); have q1 := strat (Aside0.mk (rc RL9)) (Aside0.mk (Below.refl _ _)) 1 (by decide) (by omega)); clear hk y0 z0 y1 z1 y2 z2 y3 z3)
                  | (go_at_call 14; with_reducible refine cl (spec_CommandText.M 0 (elB z9 1) 0 0 _) B fun w1207 hb B => ?_; replace F2 := bn F2 hb; replace F5 := bn F5 hb; replace RL9 := rn RL9 hb; clear c5_0 c5_1 c5_2 c5_3; obtain ⟨c5_0, c5_1, c5_2, c5_3⟩ := cs4 F5; ((try clear q0); (try clear q1); (try clear q2); (try clear q3); have q0 := strat0 (Aside0.mk (rc RL9)) (Aside0.mk (Below.refl _ _)) (by omega); have q1 := strat (Aside0.mk (rc RL9)) (Aside0.mk (Below.refl _ _)) 1 (by decide) (by omega)); clear hb)
                  | ((with_reducible refine gate_store (t := 28) (p := 2) rfl ?_); obtain ⟨y0, y1, y2, y3⟩ := cs4 F2; have z0 := fz F2 0; have z1 := fz F2 1; have z2 := fz F2 2; have z3 := fz F2 3; refine sx (t := 28) (t' := 28) (p := 2) (v := ?vo1208) ?hg ?ho ?hn 0 [.int .i64 (0), .string (elB z9 1), .int .i64 (0), .int .i64 (0)] [.int .i64 (0), .string (elB z9 1), .int .i64 (0), .int .i64 (0)] ?hr B F2 L2 rfl (Nat.le_of_ble_eq_true rfl) ?_; (case ho => rfl); (case hg => rfl); (case hn => rfl); (case hr => first | (go_simp; done) | (go_simp; rfl)); intro w1208 hk B G; replace RL9 := rk RL9 F2 (by decide) hk; replace F2 := G; ((try clear q0); (try clear q1); (try clear q2); (try clear q3); have q0 := strat0 (Aside0.mk (rc RL9)) (Aside0.mk (Below.refl _ _)) (by omega); have q1 := strat (Aside0.mk (rc RL9)) (Aside0.mk (Below.refl _ _)) 1 (by decide) (by omega)); clear hk y0 z0 y1 z1 y2 z2 y3 z3))
                refine bodyPost_ret (results_list (rs := [.cell 2 28, .tmp 3]) rfl (by simp) (.cell g2 28 _ (0, 0) _ rfl F2.out hu rfl (by kernel_rfl) (.tmp .nil))) rfl ?_
                have hr2 := HM.out
                subst hr2
                exact ⟨rfl, B.out⟩
              · rw [if_neg (fun k => hq k.2)] at hr
                have hb : ((cmtM 0 (elB W 1) 0 0).toList == s.toList) = false := by rw [str_beq, decide_eq_false hq]
                have HM := Aside0.mk hr
                clear hr hq hs
                go_enter Tryd.func19, Tryd.ntmps19
                go_wp2_with (first
                  | ((with_reducible refine gate_dst (N := 2) rfl ?_); refine bx ?hg (N := 2) ?hd (cs := #[.int .i64 (0), .string (⟨#[]⟩ : ByteArray), .int .i64 (0), .int .i64 (0)]) (t := 28) ?hr B ?_; (case hd => rfl); (case hg => rfl); (case hr => first | (go_simp; done) | (go_simp; rfl)); intro g2 w1301 hb B F2 L2 E2; clear hb E2)
                  | (go_at_call 35; with_reducible refine cr (spec_l7Words.M s _ (by omega)) B fun AV1302 kV1302 w1302 hb B RV1302 QV1302 => ?_; replace F2 := bn F2 hb; clear QV1302; clear hb)
                  | ((with_reducible refine gate_dst (N := 8) rfl ?_); refine lt Kd.string 9 ?hg (N := 8) ?hd ([((⟨#[]⟩ : ByteArray)), ((⟨#[]⟩ : ByteArray)), ((⟨#[]⟩ : ByteArray))] : List ByteArray) [.string (⟨#[]⟩ : ByteArray), .string (⟨#[]⟩ : ByteArray), .string (⟨#[]⟩ : ByteArray)] ?hr (Reps.one (show Kd.M Kd.string _ _ _ (⟨#[]⟩ : ByteArray) [.string (⟨#[]⟩ : ByteArray)] from rfl) (Reps.one (show Kd.M Kd.string _ _ _ (⟨#[]⟩ : ByteArray) [.string (⟨#[]⟩ : ByteArray)] from rfl) (Reps.one (show Kd.M Kd.string _ _ _ (⟨#[]⟩ : ByteArray) [.string (⟨#[]⟩ : ByteArray)] from rfl) (Reps.none _ _)))) (by simp) B ?_; (case hd => rfl); (case hg => rfl); (case hr => first | (go_simp; done) | (go_simp; rfl)); intro z8 hz8 AL8 kL8 w1303 hb B RL8 QL8; replace F2 := bn F2 hb; replace RV1302 := rn RV1302 hb; clear hb QL8)
                  | ((with_reducible refine gate_builtin (b := .append) (xs := #[.tmp 7, .tmp 8]) rfl ?_); at_builtin; refine apx Kd.string 9 rfl (.tmp 7) (.tmp 8) 46 (.string (⟨#[]⟩ : ByteArray)) 16 rfl Tryd.underlying46 info9 rfl (by decide) (by omega) rfl rfl RV1302 (rc RL8) (fun _ _ h => h) (by rw [← hz8]; simp only [List.length_cons, List.length_nil]; omega) B ?_; intro z9 hz9 AL9 kL9 w1304 hg B RL9 hat; replace F2 := bga F2 hg RV1302 (by decide); clear hg hat; (have h9 : z9 = W := by rw [← hz9, ← hz8, ← HW.out]; rfl); subst h9; obtain ⟨ad, hA, -⟩ := Kd.at_string (rc RL9) 0 (by omega) (by omega); subst hA; have Z8 := Aside0.mk hz8; have Z9 := Aside0.mk hz9; clear hz8 hz9; have q0 := strat0 (Aside0.mk (rc RL9)) (Aside0.mk (Below.refl _ _)) (by omega); have q1 := strat (Aside0.mk (rc RL9)) (Aside0.mk (Below.refl _ _)) 1 (by decide) (by omega))
                  | ((with_reducible refine gate_dst (N := 5) rfl ?_); refine bx ?hg (N := 5) ?hd (cs := #[.int .i64 (0), .string (⟨#[]⟩ : ByteArray), .int .i64 (0), .int .i64 (0)]) (t := 28) ?hr B ?_; (case hd => rfl); (case hg => rfl); (case hr => first | (go_simp; done) | (go_simp; rfl)); intro g5 w1305 hb B F5 L5 E5; have N2_5 := ne1 E5 F2; replace F2 := bn F2 hb; replace RL9 := rn RL9 hb; obtain ⟨c5_0, c5_1, c5_2, c5_3⟩ := cs4 F5; ((try clear q0); (try clear q1); (try clear q2); (try clear q3); have q0 := strat0 (Aside0.mk (rc RL9)) (Aside0.mk (Below.refl _ _)) (by omega); have q1 := strat (Aside0.mk (rc RL9)) (Aside0.mk (Below.refl _ _)) 1 (by decide) (by omega)); clear hb E5)
                  | ((with_reducible refine gate_store (t := 28) (p := 5) rfl ?_); obtain ⟨y0, y1, y2, y3⟩ := cs4 F5; have z0 := fz F5 0; have z1 := fz F5 1; have z2 := fz F5 2; have z3 := fz F5 3; refine sx (t := 28) (t' := 28) (p := 5) (v := ?vo1306) ?hg ?ho ?hn 0 [.int .i64 (0), .string (elB z9 1), .int .i64 (0), .int .i64 (0)] [.int .i64 (0), .string (elB z9 1), .int .i64 (0), .int .i64 (0)] ?hr B F5 L5 rfl (Nat.le_of_ble_eq_true rfl) ?_; (case ho => rfl); (case hg => rfl); (case hn => rfl); (case hr => first | (go_simp; done) | (go_simp; rfl)); intro w1306 hk B G; replace F2 := bk F2 hk N2_5.out; replace RL9 := rk RL9 F5 (by decide) hk; replace F5 := G; clear c5_0 c5_1 c5_2 c5_3; obtain ⟨c5_0, c5_1, c5_2, c5_3⟩ := cs4 F5; ((try clear q0); (try clear q1); (try clear q2); (try clear q3); have q0 := strat0 (Aside0.mk (rc RL9)) (Aside0.mk (Below.refl _ _)) (by omega); have q1 := strat (Aside0.mk (rc RL9)) (Aside0.mk (Below.refl _ _)) 1 (by decide) (by omega)); clear hk y0 z0 y1 z1 y2 z2 y3 z3)
                  | (go_at_call 14; with_reducible refine cl (spec_CommandText.M 0 (elB z9 1) 0 0 _) B fun w1307 hb B => ?_; replace F2 := bn F2 hb; replace RL9 := rn RL9 hb; ((try clear q0); (try clear q1); (try clear q2); (try clear q3); have q0 := strat0 (Aside0.mk (rc RL9)) (Aside0.mk (Below.refl _ _)) (by omega); have q1 := strat (Aside0.mk (rc RL9)) (Aside0.mk (Below.refl _ _)) 1 (by decide) (by omega)); clear hb)
                  | ((with_reducible refine gate_store (t := 28) (p := 2) rfl ?_); obtain ⟨y0, y1, y2, y3⟩ := cs4 F2; have z0 := fz F2 0; have z1 := fz F2 1; have z2 := fz F2 2; have z3 := fz F2 3; refine sx (t := 28) (t' := 28) (p := 2) (v := ?vo1308) ?hg ?ho ?hn 0 [.int .i64 (0), .string (⟨#[]⟩ : ByteArray), .int .i64 (0), .int .i64 (0)] [.int .i64 (0), .string (⟨#[]⟩ : ByteArray), .int .i64 (0), .int .i64 (0)] ?hr B F2 L2 rfl (Nat.le_of_ble_eq_true rfl) ?_; (case ho => rfl); (case hg => rfl); (case hn => rfl); (case hr => first | (go_simp; done) | (go_simp; rfl)); intro w1308 hk B G; replace RL9 := rk RL9 F2 (by decide) hk; replace F2 := G; ((try clear q0); (try clear q1); (try clear q2); (try clear q3); have q0 := strat0 (Aside0.mk (rc RL9)) (Aside0.mk (Below.refl _ _)) (by omega); have q1 := strat (Aside0.mk (rc RL9)) (Aside0.mk (Below.refl _ _)) 1 (by decide) (by omega)); clear hk y0 z0 y1 z1 y2 z2 y3 z3))
                refine bodyPost_ret (results_list (rs := [.cell 2 28, .tmp 3]) rfl (by simp) (.cell g2 28 _ (0, 0) _ rfl F2.out hu rfl (by kernel_rfl) (.tmp .nil))) rfl ?_
                have hr2 := HM.out
                subst hr2
                exact ⟨rfl, B.out⟩

theorem impl_commandOf.M2 (A0 : Option Addr) (c0 : Nat) (W : List ByteArray) (c : Int × ByteArray × Int × Int) (w : World) (hcc : cOf W = c) (ht : TE w) (hr0 : Kd.C Kd.string w A0 W.length W) (hp : 0 < W.length) (hz : ∀ s ∈ W, s.size ≤ 64) : Calls Tryd.prog 36 #[.slice A0 W.length c0] w fun e w' => e = .returned (.agg #[.int .i64 c.1, .string c.2.1, .int .i64 c.2.2.1, .int .i64 c.2.2.2]) ∧ Below w.heap.size w w' := by
  subst hcc
  exact impl_commandOf.M A0 c0 W w ht hr0 hp hz
theorem impl_ReadCommand.M (s : ByteArray) (w : World) (ht : TS w) : Calls Tryd.prog 20 #[.string s] w fun e w' => e = .returned (.tuple #[.agg #[.int .i64 (rcI s).1.1, .string (rcI s).1.2.1, .int .i64 (rcI s).1.2.2.1, .int .i64 (rcI s).1.2.2.2], .bool (rcI s).2]) ∧ Below w.heap.size w w' := by
  have B := Aside0.mk (Below.refl w.heap.size w)
  have hu := Tryd.underlying28
  have HT := Aside0.mk ht
  clear ht
  obtain ⟨r, hr⟩ : ∃ r, rcI s = r := ⟨_, rfl⟩
  rw [hr]
  by_cases hl : 64 < s.size
  · skip
    have hM : r = (rcZ, false) := by rw [← hr]; unfold rcI; rw [if_pos hl]
    have d0 : decide (64 < (s.size : Int)) = true := decide_eq_true (by omega)
    clear hr
    go_enter Tryd.func20, Tryd.ntmps20
    go_wp2_with (first
      | ((with_reducible refine gate_dst (N := 2) rfl ?_); refine bx ?hg (N := 2) ?hd (cs := #[.int .i64 (0), .string (⟨#[]⟩ : ByteArray), .int .i64 (0), .int .i64 (0)]) (t := 28) ?hr B ?_; (case hd => rfl); (case hg => rfl); (case hr => first | (go_simp; done) | (go_simp; rfl)); intro g2 w101 hb B F2 L2 E2; clear hb E2)
      | ((with_reducible refine gate_store (t := 28) (p := 2) rfl ?_); obtain ⟨y0, y1, y2, y3⟩ := cs4 F2; have z0 := fz F2 0; have z1 := fz F2 1; have z2 := fz F2 2; have z3 := fz F2 3; refine sx (t := 28) (t' := 28) (p := 2) (v := ?vo102) ?hg ?ho ?hn 0 [.int .i64 (0), .string (⟨#[]⟩ : ByteArray), .int .i64 (0), .int .i64 (0)] [.int .i64 (0), .string (⟨#[]⟩ : ByteArray), .int .i64 (0), .int .i64 (0)] ?hr B F2 L2 rfl (Nat.le_of_ble_eq_true rfl) ?_; (case ho => rfl); (case hg => rfl); (case hn => rfl); (case hr => first | (go_simp; done) | (go_simp; rfl)); intro w102 hk B G; replace F2 := G; clear hk y0 z0 y1 z1 y2 z2 y3 z3))
    refine bodyPost_ret (results_list (rs := [.cell 2 28, .tmp 3]) rfl (by simp) (.cell g2 28 _ (0, 0) _ rfl F2.out hu rfl (by kernel_rfl) (.tmp .nil))) rfl ?_
    subst hM
    exact ⟨rfl, B.out⟩
  · have d0 : decide (64 < (s.size : Int)) = false := decide_eq_false (by omega)
    have hp := words_pos s
    have hz := words_small (s := s) (by omega)
    obtain ⟨c, hcc⟩ : ∃ c, cOf (wordsM s) = c := ⟨_, rfl⟩
    by_cases hv : cmdB c.1 c.2.1 c.2.2.1 c.2.2.2 = true
    · by_cases hq : cmtM c.1 c.2.1 c.2.2.1 c.2.2.2 = s
      · skip
        have hM : r = (c, true) := by rw [← hr]; unfold rcI; rw [if_neg hl, hcc, if_pos ⟨hv, hq⟩]
        have hb : ((cmtM c.1 c.2.1 c.2.2.1 c.2.2.2).toList == s.toList) = true := by rw [hq]; simp
        clear hr hq
        go_enter Tryd.func20, Tryd.ntmps20
        go_wp2_with (first
          | ((with_reducible refine gate_dst (N := 2) rfl ?_); refine bx ?hg (N := 2) ?hd (cs := #[.int .i64 (0), .string (⟨#[]⟩ : ByteArray), .int .i64 (0), .int .i64 (0)]) (t := 28) ?hr B ?_; (case hd => rfl); (case hg => rfl); (case hr => first | (go_simp; done) | (go_simp; rfl)); intro g2 w401 hb B F2 L2 E2; clear hb E2)
          | (go_at_call 37; with_reducible refine csp (strings_Split.M s w _ HT B (by omega)) B fun ad cc w402 hb B RC => ?_; replace F2 := bn F2 hb; clear hb)
          | (go_at_call 36; with_reducible refine cl (impl_commandOf.M2 _ _ (wordsM s) c _ hcc (ts_te HT B) RC.out hp hz) B fun w403 hb B => ?_; replace F2 := bn F2 hb; clear hb)
          | ((with_reducible refine gate_dst (N := 4) rfl ?_); refine bx ?hg (N := 4) ?hd (cs := #[.int .i64 (0), .string (⟨#[]⟩ : ByteArray), .int .i64 (0), .int .i64 (0)]) (t := 28) ?hr B ?_; (case hd => rfl); (case hg => rfl); (case hr => first | (go_simp; done) | (go_simp; rfl)); intro g4 w404 hb B F4 L4 E4; have N2_4 := ne1 E4 F2; replace F2 := bn F2 hb; obtain ⟨c4_0, c4_1, c4_2, c4_3⟩ := cs4 F4; clear hb E4)
          | ((with_reducible refine gate_store (t := 28) (p := 4) rfl ?_); obtain ⟨y0, y1, y2, y3⟩ := cs4 F4; have z0 := fz F4 0; have z1 := fz F4 1; have z2 := fz F4 2; have z3 := fz F4 3; refine sx (t := 28) (t' := 28) (p := 4) (v := ?vo405) ?hg ?ho ?hn 0 [.int .i64 (c.1), .string c.2.1, .int .i64 (c.2.2.1), .int .i64 (c.2.2.2)] [.int .i64 (c.1), .string c.2.1, .int .i64 (c.2.2.1), .int .i64 (c.2.2.2)] ?hr B F4 L4 rfl (Nat.le_of_ble_eq_true rfl) ?_; (case ho => rfl); (case hg => rfl); (case hn => rfl); (case hr => first | (go_simp; done) | (go_simp; rfl)); intro w405 hk B G; replace F2 := bk F2 hk N2_4.out; replace F4 := G; clear c4_0 c4_1 c4_2 c4_3; obtain ⟨c4_0, c4_1, c4_2, c4_3⟩ := cs4 F4; clear hk y0 z0 y1 z1 y2 z2 y3 z3)
          | (go_at_call 26; with_reducible refine cl (impl_CommandValid.M c.1 c.2.1 c.2.2.1 c.2.2.2 _) B fun w406 hb B => ?_; replace F2 := bn F2 hb; replace F4 := bn F4 hb; clear c4_0 c4_1 c4_2 c4_3; obtain ⟨c4_0, c4_1, c4_2, c4_3⟩ := cs4 F4; clear hb)
          | (go_at_call 16; with_reducible refine cl (impl_CommandText.M c.1 c.2.1 c.2.2.1 c.2.2.2 _ (ts_tt HT B)) B fun w407 hb B => ?_; replace F2 := bn F2 hb; replace F4 := bn F4 hb; clear c4_0 c4_1 c4_2 c4_3; obtain ⟨c4_0, c4_1, c4_2, c4_3⟩ := cs4 F4; clear hb)
          | ((with_reducible refine gate_store (t := 28) (p := 2) rfl ?_); obtain ⟨y0, y1, y2, y3⟩ := cs4 F2; have z0 := fz F2 0; have z1 := fz F2 1; have z2 := fz F2 2; have z3 := fz F2 3; refine sx (t := 28) (t' := 28) (p := 2) (v := ?vo408) ?hg ?ho ?hn 0 [.int .i64 (c.1), .string c.2.1, .int .i64 (c.2.2.1), .int .i64 (c.2.2.2)] [.int .i64 (c.1), .string c.2.1, .int .i64 (c.2.2.1), .int .i64 (c.2.2.2)] ?hr B F2 L2 rfl (Nat.le_of_ble_eq_true rfl) ?_; (case ho => rfl); (case hg => rfl); (case hn => rfl); (case hr => first | (go_simp; done) | (go_simp; rfl)); intro w408 hk B G; replace F2 := G; clear hk y0 z0 y1 z1 y2 z2 y3 z3))
        refine bodyPost_ret (results_list (rs := [.cell 2 28, .tmp 3]) rfl (by simp) (.cell g2 28 _ (0, 0) _ rfl F2.out hu rfl (by kernel_rfl) (.tmp .nil))) rfl ?_
        subst hM
        exact ⟨rfl, B.out⟩
      · skip
        have hM : r = (rcZ, false) := by rw [← hr]; unfold rcI; rw [if_neg hl, hcc, if_neg (fun k => hq k.2)]
        have hb : ((cmtM c.1 c.2.1 c.2.2.1 c.2.2.2).toList == s.toList) = false := by rw [str_beq, decide_eq_false hq]
        clear hr hq
        go_enter Tryd.func20, Tryd.ntmps20
        go_wp2_with (first
          | ((with_reducible refine gate_dst (N := 2) rfl ?_); refine bx ?hg (N := 2) ?hd (cs := #[.int .i64 (0), .string (⟨#[]⟩ : ByteArray), .int .i64 (0), .int .i64 (0)]) (t := 28) ?hr B ?_; (case hd => rfl); (case hg => rfl); (case hr => first | (go_simp; done) | (go_simp; rfl)); intro g2 w201 hb B F2 L2 E2; clear hb E2)
          | (go_at_call 37; with_reducible refine csp (strings_Split.M s w _ HT B (by omega)) B fun ad cc w202 hb B RC => ?_; replace F2 := bn F2 hb; clear hb)
          | (go_at_call 36; with_reducible refine cl (impl_commandOf.M2 _ _ (wordsM s) c _ hcc (ts_te HT B) RC.out hp hz) B fun w203 hb B => ?_; replace F2 := bn F2 hb; clear hb)
          | ((with_reducible refine gate_dst (N := 4) rfl ?_); refine bx ?hg (N := 4) ?hd (cs := #[.int .i64 (0), .string (⟨#[]⟩ : ByteArray), .int .i64 (0), .int .i64 (0)]) (t := 28) ?hr B ?_; (case hd => rfl); (case hg => rfl); (case hr => first | (go_simp; done) | (go_simp; rfl)); intro g4 w204 hb B F4 L4 E4; have N2_4 := ne1 E4 F2; replace F2 := bn F2 hb; obtain ⟨c4_0, c4_1, c4_2, c4_3⟩ := cs4 F4; clear hb E4)
          | ((with_reducible refine gate_store (t := 28) (p := 4) rfl ?_); obtain ⟨y0, y1, y2, y3⟩ := cs4 F4; have z0 := fz F4 0; have z1 := fz F4 1; have z2 := fz F4 2; have z3 := fz F4 3; refine sx (t := 28) (t' := 28) (p := 4) (v := ?vo205) ?hg ?ho ?hn 0 [.int .i64 (c.1), .string c.2.1, .int .i64 (c.2.2.1), .int .i64 (c.2.2.2)] [.int .i64 (c.1), .string c.2.1, .int .i64 (c.2.2.1), .int .i64 (c.2.2.2)] ?hr B F4 L4 rfl (Nat.le_of_ble_eq_true rfl) ?_; (case ho => rfl); (case hg => rfl); (case hn => rfl); (case hr => first | (go_simp; done) | (go_simp; rfl)); intro w205 hk B G; replace F2 := bk F2 hk N2_4.out; replace F4 := G; clear c4_0 c4_1 c4_2 c4_3; obtain ⟨c4_0, c4_1, c4_2, c4_3⟩ := cs4 F4; clear hk y0 z0 y1 z1 y2 z2 y3 z3)
          | (go_at_call 26; with_reducible refine cl (impl_CommandValid.M c.1 c.2.1 c.2.2.1 c.2.2.2 _) B fun w206 hb B => ?_; replace F2 := bn F2 hb; replace F4 := bn F4 hb; clear c4_0 c4_1 c4_2 c4_3; obtain ⟨c4_0, c4_1, c4_2, c4_3⟩ := cs4 F4; clear hb)
          | (go_at_call 16; with_reducible refine cl (impl_CommandText.M c.1 c.2.1 c.2.2.1 c.2.2.2 _ (ts_tt HT B)) B fun w207 hb B => ?_; replace F2 := bn F2 hb; clear hb)
          | ((with_reducible refine gate_store (t := 28) (p := 2) rfl ?_); obtain ⟨y0, y1, y2, y3⟩ := cs4 F2; have z0 := fz F2 0; have z1 := fz F2 1; have z2 := fz F2 2; have z3 := fz F2 3; refine sx (t := 28) (t' := 28) (p := 2) (v := ?vo208) ?hg ?ho ?hn 0 [.int .i64 (0), .string (⟨#[]⟩ : ByteArray), .int .i64 (0), .int .i64 (0)] [.int .i64 (0), .string (⟨#[]⟩ : ByteArray), .int .i64 (0), .int .i64 (0)] ?hr B F2 L2 rfl (Nat.le_of_ble_eq_true rfl) ?_; (case ho => rfl); (case hg => rfl); (case hn => rfl); (case hr => first | (go_simp; done) | (go_simp; rfl)); intro w208 hk B G; replace F2 := G; clear hk y0 z0 y1 z1 y2 z2 y3 z3))
        refine bodyPost_ret (results_list (rs := [.cell 2 28, .tmp 3]) rfl (by simp) (.cell g2 28 _ (0, 0) _ rfl F2.out hu rfl (by kernel_rfl) (.tmp .nil))) rfl ?_
        subst hM
        exact ⟨rfl, B.out⟩
    · skip
      have hM : r = (rcZ, false) := by rw [← hr]; unfold rcI; rw [if_neg hl, hcc, if_neg (fun k => hv k.1)]
      replace hv := Bool.eq_false_iff.mpr hv
      clear hr
      go_enter Tryd.func20, Tryd.ntmps20
      go_wp2_with (first
        | ((with_reducible refine gate_dst (N := 2) rfl ?_); refine bx ?hg (N := 2) ?hd (cs := #[.int .i64 (0), .string (⟨#[]⟩ : ByteArray), .int .i64 (0), .int .i64 (0)]) (t := 28) ?hr B ?_; (case hd => rfl); (case hg => rfl); (case hr => first | (go_simp; done) | (go_simp; rfl)); intro g2 w301 hb B F2 L2 E2; clear hb E2)
        | (go_at_call 37; with_reducible refine csp (strings_Split.M s w _ HT B (by omega)) B fun ad cc w302 hb B RC => ?_; replace F2 := bn F2 hb; clear hb)
        | (go_at_call 36; with_reducible refine cl (impl_commandOf.M2 _ _ (wordsM s) c _ hcc (ts_te HT B) RC.out hp hz) B fun w303 hb B => ?_; replace F2 := bn F2 hb; clear hb)
        | ((with_reducible refine gate_dst (N := 4) rfl ?_); refine bx ?hg (N := 4) ?hd (cs := #[.int .i64 (0), .string (⟨#[]⟩ : ByteArray), .int .i64 (0), .int .i64 (0)]) (t := 28) ?hr B ?_; (case hd => rfl); (case hg => rfl); (case hr => first | (go_simp; done) | (go_simp; rfl)); intro g4 w304 hb B F4 L4 E4; have N2_4 := ne1 E4 F2; replace F2 := bn F2 hb; obtain ⟨c4_0, c4_1, c4_2, c4_3⟩ := cs4 F4; clear hb E4)
        | ((with_reducible refine gate_store (t := 28) (p := 4) rfl ?_); obtain ⟨y0, y1, y2, y3⟩ := cs4 F4; have z0 := fz F4 0; have z1 := fz F4 1; have z2 := fz F4 2; have z3 := fz F4 3; refine sx (t := 28) (t' := 28) (p := 4) (v := ?vo305) ?hg ?ho ?hn 0 [.int .i64 (c.1), .string c.2.1, .int .i64 (c.2.2.1), .int .i64 (c.2.2.2)] [.int .i64 (c.1), .string c.2.1, .int .i64 (c.2.2.1), .int .i64 (c.2.2.2)] ?hr B F4 L4 rfl (Nat.le_of_ble_eq_true rfl) ?_; (case ho => rfl); (case hg => rfl); (case hn => rfl); (case hr => first | (go_simp; done) | (go_simp; rfl)); intro w305 hk B G; replace F2 := bk F2 hk N2_4.out; replace F4 := G; clear c4_0 c4_1 c4_2 c4_3; obtain ⟨c4_0, c4_1, c4_2, c4_3⟩ := cs4 F4; clear hk y0 z0 y1 z1 y2 z2 y3 z3)
        | (go_at_call 26; with_reducible refine cl (impl_CommandValid.M c.1 c.2.1 c.2.2.1 c.2.2.2 _) B fun w306 hb B => ?_; replace F2 := bn F2 hb; replace F4 := bn F4 hb; clear c4_0 c4_1 c4_2 c4_3; obtain ⟨c4_0, c4_1, c4_2, c4_3⟩ := cs4 F4; clear hb)
        | (go_at_call 16; with_reducible refine cl (impl_CommandText.M c.1 c.2.1 c.2.2.1 c.2.2.2 _ (ts_tt HT B)) B fun w307 hb B => ?_; replace F2 := bn F2 hb; clear hb)
        | ((with_reducible refine gate_store (t := 28) (p := 2) rfl ?_); obtain ⟨y0, y1, y2, y3⟩ := cs4 F2; have z0 := fz F2 0; have z1 := fz F2 1; have z2 := fz F2 2; have z3 := fz F2 3; refine sx (t := 28) (t' := 28) (p := 2) (v := ?vo308) ?hg ?ho ?hn 0 [.int .i64 (0), .string (⟨#[]⟩ : ByteArray), .int .i64 (0), .int .i64 (0)] [.int .i64 (0), .string (⟨#[]⟩ : ByteArray), .int .i64 (0), .int .i64 (0)] ?hr B F2 L2 rfl (Nat.le_of_ble_eq_true rfl) ?_; (case ho => rfl); (case hg => rfl); (case hn => rfl); (case hr => first | (go_simp; done) | (go_simp; rfl)); intro w308 hk B G; replace F2 := G; clear hk y0 z0 y1 z1 y2 z2 y3 z3))
      refine bodyPost_ret (results_list (rs := [.cell 2 28, .tmp 3]) rfl (by simp) (.cell g2 28 _ (0, 0) _ rfl F2.out hu rfl (by kernel_rfl) (.tmp .nil))) rfl ?_
      subst hM
      exact ⟨rfl, B.out⟩

namespace Dw
/-! Eventually: for all large enough numbers of rounds; small lemmas on numbers and lists. -/
def Evn (P : Nat → Prop) : Prop := ∃ K, ∀ k, K ≤ k → P k

theorem Evn.all {P : Nat → Prop} (h : ∀ k, P k) : Evn P := ⟨0, fun k _ => h k⟩

theorem Evn.mp {P Q : Nat → Prop} (hp : Evn P) (hq : Evn fun k => P k → Q k) : Evn Q := by
  obtain ⟨K1, h1⟩ := hp
  obtain ⟨K2, h2⟩ := hq
  exact ⟨max K1 K2, fun k hk => h2 k (by omega) (h1 k (by omega))⟩

theorem Evn.succ {P : Nat → Prop} (h : Evn fun k => P (k + 1)) : Evn P := by
  obtain ⟨K, h⟩ := h
  refine ⟨K + 1, fun k hk => ?_⟩
  obtain ⟨m, rfl⟩ : ∃ m, k = m + 1 := ⟨k - 1, by omega⟩
  exact h m (by omega)

theorem Evn.some {P : Nat → Prop} (h : Evn P) : ∃ k, P k := by
  obtain ⟨K, h⟩ := h
  exact ⟨K, h K (Nat.le_refl K)⟩

theorem w64 {x : Int} (h0 : -9223372036854775808 ≤ x) (h1 : x ≤ 9223372036854775807) : wrap64 x = x := by
  unfold wrap64
  omega

theorem rd_drop {xs : List Int} {j : Nat} (h : j < xs.length) : xs.drop j = rd xs (j : Int) :: xs.drop (j + 1) := by
  rw [List.drop_eq_getElem_cons h]
  simp [rd, List.getD_eq_getElem?_getD, List.getElem?_eq_getElem h]

theorem rd_nat {xs : List Int} {j : Nat} (h : j < xs.length) : rd xs (j : Int) = xs[j] := by
  simp [rd, List.getD_eq_getElem?_getD, List.getElem?_eq_getElem h]

theorem wf64 {x : Int} (h : (Lit.int .i64 x).wf = true) : -9223372036854775808 ≤ x ∧ x ≤ 9223372036854775807 := by
  have h' : (decide (IntKind.i64.min ≤ x) && decide (x ≤ IntKind.i64.max)) = true := h
  rw [Bool.and_eq_true, decide_eq_true_eq, decide_eq_true_eq] at h'
  exact h'

/-! The reader of a code: a pick is in its range; the place goes on by one. -/
def Code (b : List Int) : Prop := b.length ≤ 2000 ∧ ∀ x ∈ b, 0 ≤ x ∧ x ≤ 255

theorem rd_code {b : List Int} (h : Code b) (i : Int) : 0 ≤ rd b i ∧ rd b i ≤ 255 := by
  unfold rd
  rw [List.getD_eq_getElem?_getD]
  by_cases hi : i.toNat < b.length
  · rw [List.getElem?_eq_getElem hi]
    exact h.2 _ (List.getElem_mem hi)
  · rw [List.getElem?_eq_none (by omega)]
    simp

theorem xor_pos (a b : Int) (ha0 : 0 ≤ a) (ha1 : a < 4611686018427387904) (hb0 : 0 ≤ b) (hb1 : b < 4611686018427387904) : 0 ≤ Go.bits .xor .i64 a b := by
  obtain ⟨n, rfl⟩ := Int.eq_ofNat_of_zero_le ha0
  obtain ⟨m, rfl⟩ := Int.eq_ofNat_of_zero_le hb0
  have hn : n < 2 ^ 62 := by omega
  have hm : m < 2 ^ 62 := by omega
  have hx := Nat.xor_lt_two_pow hn hm
  have n64 : n % 2 ^ 64 = n := Nat.mod_eq_of_lt (by omega)
  have m64 : m % 2 ^ 64 = m := Nat.mod_eq_of_lt (by omega)
  have e : Go.bits .xor .i64 (n : Int) (m : Int) = IntKind.i64.wrap ((n ^^^ m : Nat) : Int) := by
    show IntKind.i64.wrap (((BitVec.ofInt 64 (n : Int) ^^^ BitVec.ofInt 64 (m : Int)).toNat : Nat) : Int) = _
    rw [BitVec.ofInt_natCast, BitVec.ofInt_natCast, BitVec.toNat_xor, BitVec.toNat_ofNat, BitVec.toNat_ofNat, n64, m64]
  rw [e, IntKind.wrap_i64]
  omega

theorem spec_pick (b : List Int) (hb : Code b) (p n : Int) (h0 : 0 ≤ p) (h1 : p ≤ 1099511627776) :
    ∃ r, 0 ≤ r ∧ (1 ≤ n → r < n) ∧ (n ≤ 1 → r = 0) ∧ Evn fun k => spec_l20Rd_pick.f k b p n = some (r, p + 1) := by
  have hw : wrap64 (p + 1) = p + 1 := w64 (by omega) (by omega)
  by_cases hn : n < 1
  · refine ⟨0, by omega, by omega, by omega, Evn.succ (Evn.all fun k => ?_)⟩
    unfold spec_l20Rd_pick.f
    rw [if_pos hn, hw]
    simp only [spec_l20Rd_pick.j0]
    rw [if_pos trivial]
  · by_cases hl : b.length = 0
    · refine ⟨0, by omega, by omega, by omega, Evn.succ (Evn.all fun k => ?_)⟩
      unfold spec_l20Rd_pick.f
      rw [if_neg hn, hw, hl]
      simp only [spec_l20Rd_pick.j0]
      rw [if_pos (by rfl)]
    · have hl1 : 1 ≤ (b.length : Int) := by omega
      have hle : ((b.length : Int) == 0) = false := by simpa using hl
      have e1 : wrap64 (p + 1 - 1) = p := by rw [show p + 1 - 1 = p by omega]; exact w64 (by omega) (by omega)
      by_cases hp : p < (b.length : Int)
      · have hr := rd_code hb p
        refine ⟨Int.tmod (rd b p) n, Int.tmod_nonneg n hr.1, fun h => Int.tmod_lt_of_pos _ (by omega), fun h => ?_, Evn.succ (Evn.all fun k => ?_)⟩
        · have : n = 1 := by omega
          subst this
          exact Int.tmod_one _
        · unfold spec_l20Rd_pick.f
          rw [if_neg hn, hw, hle]
          simp only [spec_l20Rd_pick.j0]
          rw [if_neg (by simp), e1, if_pos hp, if_pos h0, if_neg (by omega), w64 (x := rd b p) (by omega) (by omega)]
      · have ei : Int.tmod p (b.length : Int) = p % (b.length : Int) := Int.tmod_eq_emod_of_nonneg h0
        have i0 : 0 ≤ p % (b.length : Int) := Int.emod_nonneg _ (by omega)
        have i1 : p % (b.length : Int) < (b.length : Int) := Int.emod_lt_of_pos _ (by omega)
        have e7 : wrap64 (wrap64 (p * 7) + 3) = p * 7 + 3 := by rw [w64 (x := p * 7) (by omega) (by omega), w64 (by omega) (by omega)]
        have ej : Int.tmod (p * 7 + 3) (b.length : Int) = (p * 7 + 3) % (b.length : Int) := Int.tmod_eq_emod_of_nonneg (by omega)
        have j0 : 0 ≤ (p * 7 + 3) % (b.length : Int) := Int.emod_nonneg _ (by omega)
        have j1 : (p * 7 + 3) % (b.length : Int) < (b.length : Int) := Int.emod_lt_of_pos _ (by omega)
        have eq : Int.tdiv p (b.length : Int) = p / (b.length : Int) := Int.tdiv_eq_ediv_of_nonneg h0
        have q0 : 0 ≤ p / (b.length : Int) := Int.ediv_nonneg h0 (by omega)
        have q1 : p / (b.length : Int) ≤ p := Int.ediv_le_self _ h0
        have hu := rd_code hb (p % (b.length : Int))
        have hv := rd_code hb ((p * 7 + 3) % (b.length : Int))
        have main : ∀ u v q : Int, 0 ≤ u → u ≤ 255 → 0 ≤ v → v ≤ 255 → 0 ≤ q → q ≤ p →
            ∃ x, wrap64 ((wrap64 ((wrap64 ((wrap64 ((wrap64 u) * 131)) + (wrap64 ((wrap64 v) * 1117)))) + (wrap64 (p * 29)))) + (wrap64 ((wrap64 q) * 53))) = x ∧ 0 ≤ x ∧ x < 4611686018427387904 ∧ 0 ≤ wrap64 (Int.tdiv x 64) ∧ wrap64 (Int.tdiv x 64) < 4611686018427387904 := by
          intro u v q u0 u1 v0 v1 q0 q1
          refine ⟨u * 131 + v * 1117 + p * 29 + q * 53, ?_, by omega, by omega, ?_, ?_⟩
          · rw [w64 (x := u) (by omega) (by omega), w64 (x := v) (by omega) (by omega), w64 (x := q) (by omega) (by omega), w64 (x := u * 131) (by omega) (by omega), w64 (x := v * 1117) (by omega) (by omega), w64 (x := p * 29) (by omega) (by omega), w64 (x := q * 53) (by omega) (by omega), w64 (x := u * 131 + v * 1117) (by omega) (by omega), w64 (x := u * 131 + v * 1117 + p * 29) (by omega) (by omega), w64 (by omega) (by omega)]
          all_goals
            rw [Int.tdiv_eq_ediv_of_nonneg (by omega), w64 (by omega) (by omega)]
            omega
        obtain ⟨x, hx, x0, x1, y0, y1⟩ := main _ _ _ hu.1 hu.2 hv.1 hv.2 q0 q1
        refine ⟨Int.tmod (Go.bits .xor .i64 x (wrap64 (Int.tdiv x 64))) n, Int.tmod_nonneg n (xor_pos _ _ x0 x1 y0 y1), fun h => Int.tmod_lt_of_pos _ (by omega), fun h => ?_, Evn.succ (Evn.all fun k => ?_)⟩
        · have : n = 1 := by omega
          subst this
          exact Int.tmod_one _
        · unfold spec_l20Rd_pick.f
          rw [if_neg hn, hw, hle]
          simp only [spec_l20Rd_pick.j0]
          rw [if_neg (by simp), e1, if_neg hp, if_neg (by omega), ei, if_pos i0, if_pos i1, e7, ej, if_pos j0, if_pos j1, if_neg (by omega), eq, hx]

theorem spec_odd (b : List Int) (hb : Code b) (p n : Int) (h0 : 0 ≤ p) (h1 : p ≤ 1099511627776) (hn : n ≤ 1000000) :
    ∃ r q, p ≤ q ∧ q ≤ p + 1 ∧ (n ≤ 0 → r = false) ∧ Evn fun k => spec_l20Rd_odd.f k b p n = some (r, q) := by
  by_cases h : n > 0
  · obtain ⟨r, _, _, _, e⟩ := spec_pick b hb p n h0 h1
    refine ⟨r == wrap64 (n - 1), p + 1, by omega, by omega, by omega, Evn.mp e (Evn.all fun k e => ?_)⟩
    unfold spec_l20Rd_odd.f
    rw [if_pos h, e]
    rfl
  · refine ⟨false, p, by omega, by omega, fun _ => rfl, Evn.all fun k => ?_⟩
    unfold spec_l20Rd_odd.f
    rw [if_neg h]

theorem spec_open (l : List Int) (hl : ∀ x ∈ l, (Lit.int .u8 x).wf = true) : ∃ b, Code b ∧ spec_l20Open.f l = some (b, 0) := by
  have hx : ∀ x ∈ l, 0 ≤ x ∧ x ≤ 255 := fun x hx => by
    have h' : (decide (IntKind.u8.min ≤ x) && decide (x ≤ IntKind.u8.max)) = true := hl x hx
    rw [Bool.and_eq_true, decide_eq_true_eq, decide_eq_true_eq] at h'
    exact h'
  unfold spec_l20Open.f
  by_cases h : (l.length : Int) > 2000
  · refine ⟨l.take 2000, ⟨by rw [List.length_take]; omega, fun x hm => hx x (List.mem_of_mem_take hm)⟩, ?_⟩
    rw [if_pos h, if_pos (by omega)]
  · exact ⟨l, ⟨by omega, hx⟩, by rw [if_neg h]⟩

/-! What a reader draws: a value with what is known of it, and the place behind it, not far. -/
def Dr {α : Type} (g : Nat → Option (α × Int)) (p c : Int) (P : α → Prop) : Prop := ∃ r q, p ≤ q ∧ q ≤ p + c ∧ P r ∧ Evn fun k => g k = some (r, q)

theorem Dr.bind {α β : Type} {g : Nat → Option (α × Int)} {H : Nat → α × Int → Option (β × Int)} {p c C : Int} {P : α → Prop} {Q : β → Prop}
    (h1 : Dr g p c P) (h2 : ∀ bt : α × Int, P bt.1 → p ≤ bt.2 → bt.2 ≤ p + c → Dr (fun k => H k bt) bt.2 (C - c) Q) : Dr (fun k => (g k).bind (H k)) p C Q := by
  obtain ⟨r, q, hq0, hq1, hr, e⟩ := h1
  obtain ⟨r', q', h0, h1, hr', e'⟩ := h2 (r, q) hr hq0 hq1
  refine ⟨r', q', by simp only at h0; omega, by simp only at h1; omega, hr', Evn.mp e (Evn.mp e' (Evn.all fun k e' e => ?_))⟩
  dsimp only
  rw [e]
  exact e'

theorem Dr.pure {α : Type} {p c : Int} {P : α → Prop} {r : α} (hr : P r) (hc : 0 ≤ c) : Dr (fun _ => some (r, p)) p c P :=
  ⟨r, p, by omega, by omega, hr, Evn.all fun _ => rfl⟩

theorem Dr.ite {α : Type} {g h : Nat → Option (α × Int)} {p c : Int} {P : α → Prop} {b : Prop} [Decidable b] (h1 : b → Dr g p c P) (h2 : ¬ b → Dr h p c P) : Dr (fun k => if b then g k else h k) p c P := by
  by_cases hb : b
  · simpa [hb] using h1 hb
  · simpa [hb] using h2 hb

/-- a value that is computed on the way, by a function that draws nothing -/
theorem Dr.run {α β : Type} {g : Nat → Option α} {H : Nat → α → Option (β × Int)} {p c : Int} {Q : β → Prop} {r : α} (h1 : Evn fun k => g k = some r) (h2 : Dr (fun k => H k r) p c Q) : Dr (fun k => (g k).bind (H k)) p c Q := by
  obtain ⟨r', q', h0, h1', hr', e'⟩ := h2
  refine ⟨r', q', h0, h1', hr', Evn.mp h1 (Evn.mp e' (Evn.all fun k e' e => ?_))⟩
  dsimp only
  rw [e]
  exact e'

theorem Dr.some_bind {α β : Type} {H : Nat → α → Option (β × Int)} {p c : Int} {Q : β → Prop} {r : α} (h2 : Dr (fun k => H k r) p c Q) : Dr (fun k => (some r).bind (H k)) p c Q := h2

theorem Dr.le {α : Type} {g : Nat → Option (α × Int)} {p c C : Int} {P Q : α → Prop} (h : Dr g p c P) (hc : c ≤ C) (hp : ∀ r, P r → Q r) : Dr g p C Q := by
  obtain ⟨r, q, h0, h1, hr, e⟩ := h
  exact ⟨r, q, h0, by omega, hp r hr, e⟩

theorem Dr.congr {α : Type} {g h : Nat → Option (α × Int)} {p c : Int} {P : α → Prop} (hg : Dr h p c P) (e : ∀ k, g k = h k) : Dr g p c P := by
  obtain ⟨r, q, h0, h1, hr, e'⟩ := hg
  exact ⟨r, q, h0, h1, hr, Evn.mp e' (Evn.all fun k e' => (e k).trans e')⟩

theorem Dr.succ {α : Type} {g : Nat → Option (α × Int)} {p c : Int} {P : α → Prop} (h : Dr (fun k => g (k + 1)) p c P) : Dr g p c P := by
  obtain ⟨r, q, h0, h1, hr, e⟩ := h
  exact ⟨r, q, h0, h1, hr, Evn.succ e⟩

/-- one of a list's values, by an index that was drawn -/
theorem Dr.elt {p c : Int} {P : Int → Prop} {xs : List Int} {i : Int} (h0 : 0 ≤ i) (h1 : i < (xs.length : Int)) (hP : ∀ x ∈ xs, P x) (hc : 0 ≤ c) : Dr (fun _ => if 0 ≤ i then (if i < (xs.length : Int) then some (rd xs i, p) else none) else none) p c P := by
  refine ⟨rd xs i, p, by omega, by omega, ?_, Evn.all fun k => by rw [if_pos h0, if_pos h1]⟩
  obtain ⟨j, rfl⟩ : ∃ j : Nat, i = (j : Int) := ⟨i.toNat, by omega⟩
  rw [rd_nat (by omega)]
  exact hP _ (List.getElem_mem _)

def InPick (n r : Int) : Prop := 0 ≤ r ∧ (1 ≤ n → r < n) ∧ (n ≤ 1 → r = 0)

theorem dr_pick {b : List Int} (hb : Code b) {p : Int} (n : Int) (h0 : 0 ≤ p) (h1 : p ≤ 1099511627776) : Dr (fun k => spec_l20Rd_pick.f k b p n) p 1 (InPick n) := by
  obtain ⟨r, a, c, d, e⟩ := spec_pick b hb p n h0 h1
  exact ⟨r, p + 1, by omega, by omega, ⟨a, c, d⟩, e⟩

theorem dr_odd {b : List Int} (hb : Code b) {p : Int} (n : Int) (h0 : 0 ≤ p) (h1 : p ≤ 1099511627776) (hn : n ≤ 1000000) : Dr (fun k => spec_l20Rd_odd.f k b p n) p 1 (fun r => n ≤ 0 → r = false) := by
  obtain ⟨r, q, a, c, d, e⟩ := spec_odd b hb p n h0 h1 hn
  exact ⟨r, q, a, c, d, e⟩

/-- What is drawn at the end: no place behind it. -/
def Drw {α : Type} (g : Nat → Option α) (P : α → Prop) : Prop := ∃ r, P r ∧ Evn fun k => g k = some r

theorem Drw.bind {α β : Type} {g : Nat → Option (α × Int)} {H : Nat → α × Int → Option β} {p c : Int} {P : α → Prop} {Q : β → Prop}
    (h1 : Dr g p c P) (h2 : ∀ bt : α × Int, P bt.1 → p ≤ bt.2 → bt.2 ≤ p + c → Drw (fun k => H k bt) Q) : Drw (fun k => (g k).bind (H k)) Q := by
  obtain ⟨r, q, hq0, hq1, hr, e⟩ := h1
  obtain ⟨r', hr', e'⟩ := h2 (r, q) hr hq0 hq1
  refine ⟨r', hr', Evn.mp e (Evn.mp e' (Evn.all fun k e' e => ?_))⟩
  dsimp only
  rw [e]
  exact e'

theorem Drw.pure {α : Type} {P : α → Prop} {r : α} (hr : P r) : Drw (fun _ => some r) P := ⟨r, hr, Evn.all fun _ => rfl⟩

theorem Drw.ite {α : Type} {g h : Nat → Option α} {P : α → Prop} {b : Prop} [Decidable b] (h1 : b → Drw g P) (h2 : ¬ b → Drw h P) : Drw (fun k => if b then g k else h k) P := by
  by_cases hb : b
  · simpa [hb] using h1 hb
  · simpa [hb] using h2 hb

theorem Drw.run {α β : Type} {g : Nat → Option α} {H : Nat → α → Option β} {Q : β → Prop} {r : α} (h1 : Evn fun k => g k = some r) (h2 : Drw (fun k => H k r) Q) : Drw (fun k => (g k).bind (H k)) Q := by
  obtain ⟨r', hr', e'⟩ := h2
  refine ⟨r', hr', Evn.mp h1 (Evn.mp e' (Evn.all fun k e' e => ?_))⟩
  dsimp only
  rw [e]
  exact e'

theorem Drw.drw {α β : Type} {g : Nat → Option α} {H : Nat → α → Option β} {P : α → Prop} {Q : β → Prop} (h1 : Drw g P) (h2 : ∀ r, P r → Drw (fun k => H k r) Q) : Drw (fun k => (g k).bind (H k)) Q := by
  obtain ⟨r, hr, e⟩ := h1
  exact Drw.run e (h2 r hr)

theorem Drw.some_bind {α β : Type} {H : Nat → α → Option β} {Q : β → Prop} {r : α} (h2 : Drw (fun k => H k r) Q) : Drw (fun k => (some r).bind (H k)) Q := h2

theorem Drw.congr {α : Type} {g h : Nat → Option α} {P : α → Prop} (hg : Drw h P) (e : ∀ k, g k = h k) : Drw g P := by
  obtain ⟨r, hr, e'⟩ := hg
  exact ⟨r, hr, Evn.mp e' (Evn.all fun k e' => (e k).trans e')⟩

theorem Drw.le {α : Type} {g : Nat → Option α} {P Q : α → Prop} (h : Drw g P) (hp : ∀ r, P r → Q r) : Drw g Q := by
  obtain ⟨r, hr, e⟩ := h
  exact ⟨r, hp r hr, e⟩

/-! The same where the place lies deeper in what is drawn. -/
def Dp {τ : Type} (pl : τ → Int) (g : Nat → Option τ) (p c : Int) (P : τ → Prop) : Prop := ∃ r, p ≤ pl r ∧ pl r ≤ p + c ∧ P r ∧ Evn fun k => g k = some r

theorem Dr.bindP {α τ : Type} {pl : τ → Int} {g : Nat → Option (α × Int)} {H : Nat → α × Int → Option τ} {p c C : Int} {P : α → Prop} {Q : τ → Prop}
    (h1 : Dr g p c P) (h2 : ∀ bt : α × Int, P bt.1 → p ≤ bt.2 → bt.2 ≤ p + c → Dp pl (fun k => H k bt) bt.2 (C - c) Q) : Dp pl (fun k => (g k).bind (H k)) p C Q := by
  obtain ⟨r, q, hq0, hq1, hr, e⟩ := h1
  obtain ⟨r', h0, h1, hr', e'⟩ := h2 (r, q) hr hq0 hq1
  refine ⟨r', by simp only at h0; omega, by simp only at h1; omega, hr', Evn.mp e (Evn.mp e' (Evn.all fun k e' e => ?_))⟩
  dsimp only
  rw [e]
  exact e'

theorem Dp.bind {σ τ : Type} {pl : σ → Int} {pl' : τ → Int} {g : Nat → Option σ} {H : Nat → σ → Option τ} {p c C : Int} {P : σ → Prop} {Q : τ → Prop}
    (h1 : Dp pl g p c P) (h2 : ∀ r : σ, P r → p ≤ pl r → pl r ≤ p + c → Dp pl' (fun k => H k r) (pl r) (C - c) Q) : Dp pl' (fun k => (g k).bind (H k)) p C Q := by
  obtain ⟨r, hq0, hq1, hr, e⟩ := h1
  obtain ⟨r', h0, h1, hr', e'⟩ := h2 r hr hq0 hq1
  refine ⟨r', by omega, by omega, hr', Evn.mp e (Evn.mp e' (Evn.all fun k e' e => ?_))⟩
  dsimp only
  rw [e]
  exact e'

theorem Dp.bindR {σ β : Type} {pl : σ → Int} {g : Nat → Option σ} {H : Nat → σ → Option (β × Int)} {p c C : Int} {P : σ → Prop} {Q : β → Prop}
    (h1 : Dp pl g p c P) (h2 : ∀ r : σ, P r → p ≤ pl r → pl r ≤ p + c → Dr (fun k => H k r) (pl r) (C - c) Q) : Dr (fun k => (g k).bind (H k)) p C Q := by
  obtain ⟨r, hq0, hq1, hr, e⟩ := h1
  obtain ⟨r', q', h0, h1, hr', e'⟩ := h2 r hr hq0 hq1
  refine ⟨r', q', by omega, by omega, hr', Evn.mp e (Evn.mp e' (Evn.all fun k e' e => ?_))⟩
  dsimp only
  rw [e]
  exact e'

theorem Dp.pure {τ : Type} {pl : τ → Int} {p c : Int} {P : τ → Prop} {r : τ} (hp : pl r = p) (hr : P r) (hc : 0 ≤ c) : Dp pl (fun _ => some r) p c P :=
  ⟨r, by omega, by omega, hr, Evn.all fun _ => rfl⟩

theorem Dp.ite {τ : Type} {pl : τ → Int} {g h : Nat → Option τ} {p c : Int} {P : τ → Prop} {b : Prop} [Decidable b] (h1 : b → Dp pl g p c P) (h2 : ¬ b → Dp pl h p c P) : Dp pl (fun k => if b then g k else h k) p c P := by
  by_cases hb : b
  · simpa [hb] using h1 hb
  · simpa [hb] using h2 hb

theorem Dp.run {α τ : Type} {pl : τ → Int} {g : Nat → Option α} {H : Nat → α → Option τ} {p c : Int} {Q : τ → Prop} {r : α} (h1 : Evn fun k => g k = some r) (h2 : Dp pl (fun k => H k r) p c Q) : Dp pl (fun k => (g k).bind (H k)) p c Q := by
  obtain ⟨r', h0, h1', hr', e'⟩ := h2
  refine ⟨r', h0, h1', hr', Evn.mp h1 (Evn.mp e' (Evn.all fun k e' e => ?_))⟩
  dsimp only
  rw [e]
  exact e'

theorem Dp.some_bind {α τ : Type} {pl : τ → Int} {H : Nat → α → Option τ} {p c : Int} {Q : τ → Prop} {r : α} (h2 : Dp pl (fun k => H k r) p c Q) : Dp pl (fun k => (some r).bind (H k)) p c Q := h2

theorem Dp.le {τ : Type} {pl : τ → Int} {g : Nat → Option τ} {p c C : Int} {P Q : τ → Prop} (h : Dp pl g p c P) (hc : c ≤ C) (hp : ∀ r, P r → Q r) : Dp pl g p C Q := by
  obtain ⟨r, h0, h1, hr, e⟩ := h
  exact ⟨r, h0, by omega, hp r hr, e⟩

theorem Dp.congr {τ : Type} {pl : τ → Int} {g h : Nat → Option τ} {p c : Int} {P : τ → Prop} (hg : Dp pl h p c P) (e : ∀ k, g k = h k) : Dp pl g p c P := by
  obtain ⟨r, h0, h1, hr, e'⟩ := hg
  exact ⟨r, h0, h1, hr, Evn.mp e' (Evn.all fun k e' => (e k).trans e')⟩

theorem Dp.succ {τ : Type} {pl : τ → Int} {g : Nat → Option τ} {p c : Int} {P : τ → Prop} (h : Dp pl (fun k => g (k + 1)) p c P) : Dp pl g p c P := by
  obtain ⟨r, h0, h1, hr, e⟩ := h
  exact ⟨r, h0, h1, hr, Evn.succ e⟩

theorem Drw.bindP {σ β : Type} {pl : σ → Int} {g : Nat → Option σ} {H : Nat → σ → Option β} {p c : Int} {P : σ → Prop} {Q : β → Prop}
    (h1 : Dp pl g p c P) (h2 : ∀ r : σ, P r → p ≤ pl r → pl r ≤ p + c → Drw (fun k => H k r) Q) : Drw (fun k => (g k).bind (H k)) Q := by
  obtain ⟨r, hq0, hq1, hr, e⟩ := h1
  obtain ⟨r', hr', e'⟩ := h2 r hr hq0 hq1
  refine ⟨r', hr', Evn.mp e (Evn.mp e' (Evn.all fun k e' e => ?_))⟩
  dsimp only
  rw [e]
  exact e'

theorem rdOf_mem {α : Type} (d : α) {xs : List α} {i : Int} (h0 : 0 ≤ i) (h1 : i < (xs.length : Int)) : rdOf d xs i ∈ xs := by
  obtain ⟨j, rfl⟩ : ∃ j : Nat, i = (j : Int) := ⟨i.toNat, by omega⟩
  have hj : j < xs.length := by omega
  unfold rdOf
  rw [Int.toNat_natCast, List.getD_eq_getElem?_getD, List.getElem?_eq_getElem hj]
  exact List.getElem_mem hj

/-- one of a list's values, by an index that was drawn -/
theorem Dr.eltOf {α : Type} (d : α) {p c : Int} {P : α → Prop} {xs : List α} {i : Int} (h0 : 0 ≤ i) (h1 : i < (xs.length : Int)) (hP : ∀ x ∈ xs, P x) (hc : 0 ≤ c) :
    Dr (fun _ => if 0 ≤ i then (if i < (xs.length : Int) then some (rdOf d xs i, p) else none) else none) p c P :=
  ⟨rdOf d xs i, p, by omega, by omega, hP _ (rdOf_mem d h0 h1), Evn.all fun k => by rw [if_pos h0, if_pos h1]⟩

/-! Strings and their bytes. -/
theorem str_nil : strOfNums [] = (⟨#[]⟩ : ByteArray) := rfl
theorem ba_ext {a b : ByteArray} (h : a.data.toList = b.data.toList) : a = b := by
  cases a; cases b; simp only [ByteArray.mk.injEq]; exact Array.toList_inj.mp h
theorem ba_append (a b : ByteArray) : (a ++ b).data.toList = a.data.toList ++ b.data.toList := by
  rw [ByteArray.data_append, Array.toList_append]
theorem str_append (xs ys : List Int) : strOfNums (xs ++ ys) = strOfNums xs ++ strOfNums ys := by
  refine ba_ext ?_
  rw [ba_append, strOfNums_data, strOfNums_data, strOfNums_data, List.map_append]
theorem str_bytes (s : ByteArray) : strOfNums (bytesOf s) = s := by
  refine ba_ext ?_
  rw [strOfNums_data, bytesOf, List.map_map]
  exact (List.map_congr_left (g := id) fun b _ => by simp).trans (List.map_id _)
theorem bytes_str {xs : List Int} (h : ∀ x ∈ xs, 0 ≤ x ∧ x ≤ 255) : bytesOf (strOfNums xs) = xs := by
  rw [bytesOf, strOfNums_data, List.map_map]
  refine (List.map_congr_left (g := id) fun x hx => ?_).trans (List.map_id _)
  have := h x hx
  simp only [Function.comp, id]
  rw [UInt8.toNat_ofNat_of_lt' (by simp [UInt8.size]; omega)]
  omega
theorem ba_toList (s : ByteArray) : s.toList = s.data.toList := Lib.toList_data s
theorem ba_toList_inj {s t : ByteArray} : s.toList = t.toList ↔ s = t := by
  refine ⟨fun h => ba_ext ?_, fun h => by rw [h]⟩
  rwa [ba_toList, ba_toList] at h
theorem bytes_byte (s : ByteArray) : ∀ x ∈ bytesOf s, 0 ≤ x ∧ x ≤ 255 := by
  intro x hx
  unfold bytesOf at hx
  obtain ⟨b, _, rfl⟩ := List.mem_map.mp hx
  have := b.toNat_lt
  omega

/-! The model of keys. -/
def lowB (x : Int) : Bool := decide (97 ≤ x) && decide (x ≤ 122)
def keyB (s : ByteArray) : Bool := decide (1 ≤ s.size) && decide (s.size ≤ 4) && (bytesOf s).all lowB
theorem bt_drop' {s : ByteArray} {j : Nat} (h : j < s.size) : (bytesOf s).drop j = bt s (j : Int) :: (bytesOf s).drop (j + 1) := by
  rw [rd_drop (by rw [bytesOf_length]; exact h), rd_bytesOf]
theorem bytesOf_tail (s : ByteArray) : bytesOf (s.extract 1 s.size) = (bytesOf s).drop 1 := by
  unfold bytesOf
  rw [← List.map_drop]
  refine congrArg _ ?_
  rw [ByteArray.data_extract, Array.toList_extract]
  rw [List.extract_eq_take_drop, List.take_of_length_le (by rw [List.length_drop, data_length]; omega)]
theorem nil_iff (s : ByteArray) : s.toList = ([] : List UInt8) ↔ s.size = 0 := by
  rw [ba_toList]
  refine ⟨fun h => ?_, fun h => ?_⟩
  · have := data_length s
    rw [h] at this
    exact this.symm
  · exact List.eq_nil_of_length_eq_zero (by rw [data_length]; exact h)

theorem dr_keyl {b : List Int} (hb : Code b) (m : Nat) : ∀ (s : ByteArray) (p : Int), 0 ≤ p → p + (m : Int) ≤ 1099511627776 → s.size + m ≤ 4 → (bytesOf s).all lowB = true →
    Dr (fun k => spec_l20Key.l0 k s (m : Int) b p) p (m : Int) (fun r => r.size = s.size + m ∧ (bytesOf r).all lowB = true) := by
  induction m with
  | zero =>
    intro s p h0 h1 hs hl
    refine Dr.succ (Dr.congr ?_ fun k => spec_l20Key.l0.eq_2 ..)
    exact Dr.ite (fun h => absurd h (by omega)) fun _ => Dr.pure ⟨by omega, hl⟩ (by omega)
  | succ m ih =>
    intro s p h0 h1 hs hl
    refine Dr.succ (Dr.congr ?_ fun k => spec_l20Key.l0.eq_2 ..)
    refine Dr.ite (fun _ => ?_) fun h => absurd (show ((m + 1 : Nat) : Int) > 0 by omega) h
    refine Dr.bind (dr_pick hb 4 (by omega) (by omega)) fun bt hr _ _ => Dr.some_bind (Dr.ite (fun _ => ?_) fun h => absurd (show s.size + (strOfNums [wrap64 (97 + bt.1) % 256]).size ≤ 9223372036854775807 by rw [strOfNums_size]; simp only [List.length_cons, List.length_nil]; omega) h)
    have hr0 := hr.1
    have hr1 := hr.2.1 (by omega)
    have hw : wrap64 (97 + bt.1) % 256 = 97 + bt.1 := by rw [w64 (by omega) (by omega)]; omega
    rw [hw, show wrap64 (((m + 1 : Nat) : Int) - 1) = (m : Int) by rw [w64 (by omega) (by omega)]; omega]
    have hsz : (s ++ strOfNums [97 + bt.1]).size = s.size + 1 := by rw [ByteArray.size_append, strOfNums_size]; rfl
    have hbs : bytesOf (s ++ strOfNums [97 + bt.1]) = bytesOf s ++ [97 + bt.1] := by
      rw [show bytesOf (s ++ strOfNums [97 + bt.1]) = bytesOf s ++ bytesOf (strOfNums [97 + bt.1]) by unfold bytesOf; rw [ba_append, List.map_append], bytes_str (fun x hx => by simp at hx; omega)]
    refine Dr.le (ih _ bt.2 (by omega) (by omega) (by omega) ?_) (by omega) fun r hr => ⟨by rw [hr.1, hsz]; omega, hr.2⟩
    rw [hbs, List.all_append, hl]
    simp only [List.all_cons, List.all_nil, lowB, Bool.true_and, Bool.and_true]
    rw [decide_eq_true (by omega), decide_eq_true (by omega)]
    rfl

theorem dr_key {b : List Int} (hb : Code b) {p : Int} (n : Int) (h0 : 0 ≤ p) (h1 : p ≤ 1099511000000) (hn : n ≤ 1000000) :
    Dr (fun k => spec_l20Key.f k b p n) p 6 (fun s => s.size ≤ 5 ∧ (n ≤ 0 → keyB s = true)) := by
  unfold spec_l20Key.f
  refine Dr.bind (dr_odd hb n (by omega) (by omega) hn) fun bt ho _ _ => Dr.ite (fun ht => ?_) (fun _ => ?_)
  · refine Dr.some_bind (Dr.bind (dr_pick hb 6 (by omega) (by omega)) fun bt2 hr _ _ => Dr.eltOf _ hr.1 (hr.2.1 (by omega)) (fun x hx => ⟨?_, fun hn0 => ?_⟩) (by omega))
    · simp only [List.mem_cons, List.not_mem_nil, or_false] at hx
      rcases hx with rfl | rfl | rfl | rfl | rfl | rfl <;> decide
    · rw [ho hn0] at ht
      cases ht
  · refine Dr.bind (dr_pick hb 12 (by omega) (by omega)) fun bt2 _ _ _ => Dr.ite (fun _ => ?_) (fun _ => ?_)
    · refine Dr.some_bind (Dr.bind (dr_pick hb 5 (by omega) (by omega)) fun bt3 hr _ _ => Dr.eltOf _ hr.1 (hr.2.1 (by omega)) (fun x hx => ?_) (by omega))
      simp only [List.mem_cons, List.not_mem_nil, or_false] at hx
      rcases hx with rfl | rfl | rfl | rfl | rfl <;> exact ⟨by decide, fun _ => by decide +kernel⟩
    · refine Dr.bind (dr_pick hb 2 (by omega) (by omega)) fun bt3 hr _ _ => ?_
      have hr0 := hr.1
      have hr1 := hr.2.1 (by omega)
      obtain ⟨m, hm⟩ : ∃ m : Nat, wrap64 (1 + bt3.1) = (m : Int) := ⟨(1 + bt3.1).toNat, by rw [w64 (by omega) (by omega)]; omega⟩
      rw [hm]
      rw [w64 (by omega) (by omega)] at hm
      refine Dr.le (dr_keyl hb m ⟨#[]⟩ bt3.2 (by omega) (by omega) (by have : (⟨#[]⟩ : ByteArray).size = 0 := rfl; omega) rfl) (by omega) fun r hr => ?_
      have h00 : (⟨#[]⟩ : ByteArray).size = 0 := rfl
      refine ⟨by omega, fun _ => ?_⟩
      unfold keyB
      rw [hr.2, decide_eq_true (by omega), decide_eq_true (by omega)]
      rfl

/-! The model of commands. -/
def valB (x : Int) : Bool := decide (0 ≤ x ∧ x ≤ 999)
def cmdB (kind : Int) (key : ByteArray) (value old : Int) : Bool :=
  (keyB key || (decide (kind = 5) && decide (key.size = 0))) &&
  (if kind = 2 then valB value && decide (old = 0) else if kind = 4 then valB value && (decide (old = -1) || valB old) else decide (1 ≤ kind ∧ kind ≤ 5) && (decide (value = 0) && decide (old = 0)))
theorem nil_dec (s : ByteArray) : decide (s.toList = ([] : List UInt8)) = decide (s.size = 0) := decide_eq_decide.mpr (nil_iff s)

theorem dr_value {b : List Int} (hb : Code b) {p : Int} (n : Int) (h0 : 0 ≤ p) (h1 : p ≤ 1099511000000) (hn : n ≤ 1000000) :
    Dr (fun k => spec_l20Value.f k b p n) p 3 (fun v => -1 ≤ v ∧ v ≤ 1000 ∧ (n ≤ 0 → 0 ≤ v ∧ v ≤ 999)) := by
  unfold spec_l20Value.f
  refine Dr.bind (dr_odd hb n (by omega) (by omega) hn) fun bt ho _ _ => Dr.ite (fun ht => ?_) (fun _ => ?_)
  · refine Dr.some_bind (Dr.bind (dr_pick hb 2 (by omega) (by omega)) fun bt2 hr _ _ => Dr.elt hr.1 (hr.2.1 (by omega)) (fun x hx => ?_) (by omega))
    simp only [List.mem_cons, List.not_mem_nil, or_false] at hx
    refine ⟨by omega, by omega, fun hn0 => ?_⟩
    rw [ho hn0] at ht
    cases ht
  · refine Dr.bind (dr_pick hb 20 (by omega) (by omega)) fun bt2 hr2 _ _ => Dr.some_bind (Dr.bind (dr_pick hb 9 (by omega) (by omega)) fun bt3 hr _ _ => ?_)
    have a := hr.1
    have c := hr.2.1 (by omega)
    have d := hr2.1
    have e := hr2.2.1 (by omega)
    refine Dr.elt ?_ ?_ (fun x hx => ?_) (by omega)
    · rw [Int.tdiv_eq_ediv_of_nonneg a, w64 (by omega) (by omega)]; omega
    · rw [Int.tdiv_eq_ediv_of_nonneg a, w64 (by omega) (by omega)]; simp only [List.length_cons, List.length_nil]; omega
    · simp only [List.mem_cons, List.not_mem_nil, or_false] at hx
      refine ⟨by omega, by omega, fun _ => by omega⟩

def cmdPl (r : Int × ByteArray × Int × Int × Int) : Int := r.2.2.2.2
def cmdOk (r : Int × ByteArray × Int × Int × Int) : Prop := cmdB r.1 r.2.1 r.2.2.1 r.2.2.2.1 = true
theorem cmdB_mk {kind value old : Int} {key : ByteArray} (hk : keyB key = true) (h : (kind = 1 ∨ kind = 3 ∨ kind = 5) ∧ value = 0 ∧ old = 0 ∨ kind = 2 ∧ (0 ≤ value ∧ value ≤ 999) ∧ old = 0 ∨ kind = 4 ∧ (0 ≤ value ∧ value ≤ 999) ∧ (-1 ≤ old ∧ old ≤ 999)) : cmdB kind key value old = true := by
  unfold cmdB valB
  rw [hk, Bool.true_or, Bool.true_and]
  rcases h with ⟨h, rfl, rfl⟩ | ⟨rfl, h, rfl⟩ | ⟨rfl, h, ho⟩
  · rw [if_neg (by omega), if_neg (by omega), decide_eq_true (by omega)]
    rfl
  · rw [if_pos rfl, decide_eq_true h]
    rfl
  · rw [if_neg (by omega), if_pos rfl, decide_eq_true h, ← Bool.decide_or, decide_eq_true (by omega)]
    rfl

theorem dr_cmdj {b : List Int} (hb : Code b) {p : Int} (key : ByteArray) (h0 : 0 ≤ p) (h1 : p ≤ 1099510500000) (hs : key.size ≤ 5) :
    Dp cmdPl (fun k => spec_l20Cmd.j0 k key b p) p 5 (fun r => r.2.1.size ≤ 5 ∧ (keyB key = true → cmdOk r ∧ r.1 ≠ 5)) := by
  refine Dp.succ (Dp.congr ?_ fun k => spec_l20Cmd.j0.eq_2 ..)
  refine Dr.bindP (dr_pick hb 8 (by omega) (by omega)) fun bt _ _ _ => Dp.ite (fun _ => ?_) fun _ => Dp.ite (fun _ => ?_) fun _ => Dp.ite (fun _ => ?_) fun _ => ?_
  · exact Dp.pure rfl ⟨hs, fun hk => ⟨cmdB_mk hk (.inl ⟨.inl rfl, rfl, rfl⟩), by simp⟩⟩ (by omega)
  · exact Dp.pure rfl ⟨hs, fun hk => ⟨cmdB_mk hk (.inl ⟨.inr (.inl rfl), rfl, rfl⟩), by simp⟩⟩ (by omega)
  · refine Dr.bindP (dr_pick hb 5 (by omega) (by omega)) fun bt2 hr2 _ _ => Dr.bindP (dr_pick hb 5 (by omega) (by omega)) fun bt3 hr3 _ _ => ?_
    have a := hr2.1
    have c := hr2.2.1 (by omega)
    have d := hr3.1
    have e := hr3.2.1 (by omega)
    refine Dp.pure rfl ⟨hs, fun hk => ⟨cmdB_mk hk (.inr (.inr ⟨rfl, by dsimp only; omega, ?_⟩)), by simp⟩⟩ (by omega)
    dsimp only
    rw [w64 (by omega) (by omega)]
    omega
  · refine Dr.bindP (dr_value hb 0 (by omega) (by omega) (by omega)) fun bt2 hr2 _ _ => ?_
    have a := hr2.2.2 (by omega)
    refine Dp.pure rfl ⟨hs, fun hk => ⟨cmdB_mk hk (.inr (.inl ⟨rfl, ?_, rfl⟩)), by simp⟩⟩ (by omega)
    dsimp only
    rw [Int.tmod_eq_emod_of_nonneg a.1]
    omega

theorem dr_cmd {b : List Int} (hb : Code b) {p : Int} (n : Int) (h0 : 0 ≤ p) (h1 : p ≤ 1099510000000) (hn : n ≤ 1000000) :
    Dp cmdPl (fun k => spec_l20Cmd.f k b p n) p 20 (fun r => r.2.1.size ≤ 5 ∧ (n ≤ 0 → cmdOk r ∧ r.1 ≠ 5)) := by
  unfold spec_l20Cmd.f
  refine Dr.bindP (dr_odd hb n (by omega) (by omega) hn) fun bt ho _ _ => Dp.ite (fun ht => ?_) (fun _ => ?_)
  · refine Dp.some_bind (Dr.bindP (dr_pick hb 10 (by omega) (by omega)) fun bt2 hr _ _ => ?_)
    refine Dp.ite (fun h0 => Dp.ite (fun h1 => Dp.pure rfl ⟨?_, fun hn0 => ?_⟩ (by omega)) fun h => absurd (hr.2.1 (by omega)) h) fun h => absurd hr.1 h
    · have hm : ∀ x : S28, x ∈ ([(⟨0, (⟨#[]⟩ : ByteArray), 0, 0⟩ : S28), (⟨1, (⟨#[]⟩ : ByteArray), 0, 0⟩ : S28), (⟨1, (⟨#[98]⟩ : ByteArray), 1, 0⟩ : S28), (⟨2, (⟨#[98]⟩ : ByteArray), 1000, 0⟩ : S28), (⟨2, (⟨#[98]⟩ : ByteArray), 0, 1⟩ : S28), (⟨4, (⟨#[98]⟩ : ByteArray), 0, (-2)⟩ : S28), (⟨4, (⟨#[98]⟩ : ByteArray), (-1), 0⟩ : S28), (⟨6, (⟨#[98]⟩ : ByteArray), 0, 0⟩ : S28), (⟨3, (⟨#[65]⟩ : ByteArray), 0, 0⟩ : S28), (⟨5, (⟨#[98, 49]⟩ : ByteArray), 0, 0⟩ : S28)] : List S28) → x.f1.size ≤ 5 := fun x hx => by
        simp only [List.mem_cons, List.not_mem_nil, or_false] at hx
        rcases hx with rfl | rfl | rfl | rfl | rfl | rfl | rfl | rfl | rfl | rfl <;> decide
      exact hm _ (rdOf_mem z28 h0 h1)
    · rw [ho hn0] at ht
      cases ht
  · refine Dr.bindP (dr_key hb 0 (by omega) (by omega) (by omega)) fun bt2 hk _ _ => Dr.bindP (dr_pick hb 2 (by omega) (by omega)) fun bt3 _ _ _ => Dp.ite (fun _ => ?_) (fun _ => ?_)
    · refine Dp.some_bind (Dr.bindP (dr_pick hb 4 (by omega) (by omega)) fun bt4 hr _ _ => ?_)
      refine Dp.ite (fun h0 => Dp.ite (fun h1 => ?_) fun h => absurd (hr.2.1 (by omega)) h) fun h => absurd hr.1 h
      have hm : ∀ x : ByteArray, x ∈ ([(⟨#[98]⟩ : ByteArray), (⟨#[99]⟩ : ByteArray), (⟨#[100]⟩ : ByteArray), (⟨#[109]⟩ : ByteArray)] : List ByteArray) → x.size ≤ 5 ∧ keyB x = true := fun x hx => by
        simp only [List.mem_cons, List.not_mem_nil, or_false] at hx
        rcases hx with rfl | rfl | rfl | rfl <;> exact ⟨by decide, by decide +kernel⟩
      have hx := hm _ (rdOf_mem ByteArray.empty h0 h1)
      exact Dp.le (dr_cmdj hb _ (by omega) (by omega) hx.1) (by omega) fun r hr => ⟨hr.1, fun _ => hr.2 hx.2⟩
    · exact Dp.le (dr_cmdj hb _ (by omega) (by omega) hk.1) (by omega) fun r hr => ⟨hr.1, fun _ => hr.2 (hk.2 (by omega))⟩

theorem dr_any {b : List Int} (hb : Code b) {p : Int} (n : Int) (h0 : 0 ≤ p) (h1 : p ≤ 1099509000000) (hn : n ≤ 1000000) :
    Dp cmdPl (fun k => spec_l20Any.f k b p n) p 40 (fun r => r.2.1.size ≤ 5 ∧ (n ≤ 0 → cmdOk r)) := by
  unfold spec_l20Any.f
  refine Dp.bind (dr_cmd hb n (by omega) (by omega) hn) fun r hr _ _ => ?_
  have hpl : cmdPl r = r.2.2.2.2 := rfl
  refine Dr.bindP (dr_pick hb 5 (by omega) (by omega)) fun bt _ _ _ => Dp.ite (fun _ => ?_) (fun _ => ?_)
  · refine Dr.bindP (dr_key hb 0 (by omega) (by omega) (by omega)) fun bt2 hk _ _ => Dp.some_bind (Dr.bindP (dr_pick hb 4 (by omega) (by omega)) fun bt3 hq _ _ => ?_)
    refine Dp.ite (fun h0 => Dp.ite (fun h1 => ?_) fun h => absurd (hq.2.1 (by omega)) h) fun h => absurd hq.1 h
    have hm : ∀ x : ByteArray, x ∈ ([(⟨#[]⟩ : ByteArray), (⟨#[98]⟩ : ByteArray), (⟨#[99]⟩ : ByteArray), bt2.1] : List ByteArray) → x.size ≤ 5 ∧ cmdB 5 x 0 0 = true := fun x hx => by
      simp only [List.mem_cons, List.not_mem_nil, or_false] at hx
      rcases hx with rfl | rfl | rfl | rfl
      · exact ⟨by decide, by decide +kernel⟩
      · exact ⟨by decide, by decide +kernel⟩
      · exact ⟨by decide, by decide +kernel⟩
      · exact ⟨hk.1, cmdB_mk (hk.2 (by omega)) (.inl ⟨.inr (.inr rfl), rfl, rfl⟩)⟩
    have hx := hm _ (rdOf_mem ByteArray.empty h0 h1)
    exact Dp.pure rfl ⟨hx.1, fun _ => hx.2⟩ (by omega)
  · exact Dp.pure rfl ⟨hr.1, fun hn0 => (hr.2 hn0).1⟩ (by omega)

/-- The fixed answer. -/
theorem alive : Evn fun k => laws_alive.f k = some true := Ev.of laws_alive.mono (k := 12) (by decide +kernel)

end Dw
theorem laws_alive.M (w : World) : Calls Tryd.prog 23 #[] w fun e w' => e = .returned (.bool true) ∧ Below w.heap.size w w' := laws_alive.calls 12 true w (by decide +kernel)

end Go.Proofs.YtnogoanlfmflcaaDoor.PFnReadCommand
