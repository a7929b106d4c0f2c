/- Walks over models, part 2: rdv splace sput putlen rdpairs rdses rdspan spin drs rdsealed drstatejoin csl ipplace iin ipart cutt icutst. -/
import Derived.Test.YtenfiihcdhnamaaPFnStateJoinx0
import Derived.Deep.RegionHeld3
import Derived.Lib.Strings
import Derived.Laws.BytesArg
import Derived.Test.YtenfiihcdhnamaaPFnStateJoinx19
import Derived.Test.YtenfiihcdhnamaaPFnStateJoinx27
import Derived.Test.YtenfiihcdhnamaaPFnStateJoinx18
import Derived.Test.YtenfiihcdhnamaaPFnStateJoinx56
import Derived.Test.YtenfiihcdhnamaaPFnStateJoinx57
import Derived.Test.YtenfiihcdhnamaaPFnStateJoinx53
import Derived.Test.YtenfiihcdhnamaaPFnStateJoinx63
import Derived.Test.YtenfiihcdhnamaaPFnStateJoinx62
import Derived.Test.YtenfiihcdhnamaaMFnStateJoin0
import Derived.Test.YtenfiihcdhnamaaMFnStateJoin1
namespace Go.Proofs.Ytenfiihcdhnamaa.PFnStateJoin
open Go.RowKit Go.Proofs.YtenfiihcdhnamaaW.PrintWords Go.Proofs.YtenfiihcdhnamaaW.PrintLast Go.Proofs.YtenfiihcdhnamaaW.PrintMore
set_option linter.unusedVariables false
set_option linter.unusedSimpArgs false
set_option maxHeartbeats 4000000
set_option maxRecDepth 100000
attribute [local go_sem] leq_str geq_str gtr_str
namespace Dw
/-! Eventually: for all large enough numbers of rounds; small lemmas on numbers and lists. -/
def Evn (P : Nat → Prop) : Prop := ∃ K, ∀ k, K ≤ k → P k

theorem Evn.all {P : Nat → Prop} (h : ∀ k, P k) : Evn P := ⟨0, fun k _ => h k⟩

theorem Evn.mp {P Q : Nat → Prop} (hp : Evn P) (hq : Evn fun k => P k → Q k) : Evn Q := by
 obtain ⟨K1, h1⟩ := hp
 obtain ⟨K2, h2⟩ := hq
 exact ⟨max K1 K2, fun k hk => h2 k (by omega) (h1 k (by omega))⟩

theorem Evn.succ {P : Nat → Prop} (h : Evn fun k => P (k + 1)) : Evn P := by
 obtain ⟨K, h⟩ := h
 refine ⟨K + 1, fun k hk => ?_⟩
 obtain ⟨m, rfl⟩ : ∃ m, k = m + 1 := ⟨k - 1, by omega⟩
 exact h m (by omega)

theorem Evn.some {P : Nat → Prop} (h : Evn P) : ∃ k, P k := by
 obtain ⟨K, h⟩ := h
 exact ⟨K, h K (Nat.le_refl K)⟩

theorem w64 {x : Int} (h0 : -9223372036854775808 ≤ x) (h1 : x ≤ 9223372036854775807) : wrap64 x = x := by
 unfold wrap64
 omega

theorem rd_drop {xs : List Int} {j : Nat} (h : j < xs.length) : xs.drop j = rd xs (j : Int) :: xs.drop (j + 1) := by
 rw [List.drop_eq_getElem_cons h]
 simp [rd, List.getD_eq_getElem?_getD, List.getElem?_eq_getElem h]

theorem rd_nat {xs : List Int} {j : Nat} (h : j < xs.length) : rd xs (j : Int) = xs[j] := by
 simp [rd, List.getD_eq_getElem?_getD, List.getElem?_eq_getElem h]

theorem wf64 {x : Int} (h : (Lit.int .i64 x).wf = true) : -9223372036854775808 ≤ x ∧ x ≤ 9223372036854775807 := by
 have h' : (decide (IntKind.i64.min ≤ x) && decide (x ≤ IntKind.i64.max)) = true := h
 rw [Bool.and_eq_true, decide_eq_true_eq, decide_eq_true_eq] at h'
 exact h'

/-! The reader of a code: a pick is in its range; the place goes on by one. -/
def Code (b : List Int) : Prop := b.length ≤ 2000 ∧ ∀ x ∈ b, 0 ≤ x ∧ x ≤ 255

theorem rd_code {b : List Int} (h : Code b) (i : Int) : 0 ≤ rd b i ∧ rd b i ≤ 255 := by
 unfold rd
 rw [List.getD_eq_getElem?_getD]
 by_cases hi : i.toNat < b.length
 ·rw [List.getElem?_eq_getElem hi]
  exact h.2 _ (List.getElem_mem hi)
 ·rw [List.getElem?_eq_none (by omega)]
  simp

theorem xor_pos (a b : Int) (ha0 : 0 ≤ a) (ha1 : a < 4611686018427387904) (hb0 : 0 ≤ b) (hb1 : b < 4611686018427387904) : 0 ≤ Go.bits .xor .i64 a b := by
 obtain ⟨n, rfl⟩ := Int.eq_ofNat_of_zero_le ha0
 obtain ⟨m, rfl⟩ := Int.eq_ofNat_of_zero_le hb0
 have hn : n < 2 ^ 62 := by omega
 have hm : m < 2 ^ 62 := by omega
 have hx := Nat.xor_lt_two_pow hn hm
 have n64 : n % 2 ^ 64 = n := Nat.mod_eq_of_lt (by omega)
 have m64 : m % 2 ^ 64 = m := Nat.mod_eq_of_lt (by omega)
 have e : Go.bits .xor .i64 (n : Int) (m : Int) = IntKind.i64.wrap ((n ^^^ m : Nat) : Int) := by
  show IntKind.i64.wrap (((BitVec.ofInt 64 (n : Int) ^^^ BitVec.ofInt 64 (m : Int)).toNat : Nat) : Int) = _
  rw [BitVec.ofInt_natCast, BitVec.ofInt_natCast, BitVec.toNat_xor, BitVec.toNat_ofNat, BitVec.toNat_ofNat, n64, m64]
 rw [e, IntKind.wrap_i64]
 omega

theorem spec_pick (b : List Int) (hb : Code b) (p n : Int) (h0 : 0 ≤ p) (h1 : p ≤ 1099511627776) :
  ∃ r, 0 ≤ r ∧ (1 ≤ n → r < n) ∧ (n ≤ 1 → r = 0) ∧ Evn fun k => spec_l20Rd_pick.f k b p n = some (r, p + 1) := by
 have hw : wrap64 (p + 1) = p + 1 := w64 (by omega) (by omega)
 by_cases hn : n < 1
 ·refine ⟨0, by omega, by omega, by omega, Evn.succ (Evn.all fun k => ?_)⟩
  unfold spec_l20Rd_pick.f
  rw [if_pos hn, hw]
  simp only [spec_l20Rd_pick.j0]
  rw [if_pos trivial]
 ·by_cases hl : b.length = 0
  ·refine ⟨0, by omega, by omega, by omega, Evn.succ (Evn.all fun k => ?_)⟩
   unfold spec_l20Rd_pick.f
   rw [if_neg hn, hw, hl]
   simp only [spec_l20Rd_pick.j0]
   rw [if_pos (by rfl)]
  ·have hl1 : 1 ≤ (b.length : Int) := by omega
   have hle : ((b.length : Int) == 0) = false := by simpa using hl
   have e1 : wrap64 (p + 1 - 1) = p := by rw [show p + 1 - 1 = p by omega]; exact w64 (by omega) (by omega)
   by_cases hp : p < (b.length : Int)
   ·have hr := rd_code hb p
    refine ⟨Int.tmod (rd b p) n, Int.tmod_nonneg n hr.1, fun h => Int.tmod_lt_of_pos _ (by omega), fun h => ?_, Evn.succ (Evn.all fun k => ?_)⟩
    ·have : n = 1 := by omega
     subst this
     exact Int.tmod_one _
    ·unfold spec_l20Rd_pick.f
     rw [if_neg hn, hw, hle]
     simp only [spec_l20Rd_pick.j0]
     rw [if_neg (by simp), e1, if_pos hp, if_pos h0, if_neg (by omega), w64 (x := rd b p) (by omega) (by omega)]
   ·have ei : Int.tmod p (b.length : Int) = p % (b.length : Int) := Int.tmod_eq_emod_of_nonneg h0
    have i0 : 0 ≤ p % (b.length : Int) := Int.emod_nonneg _ (by omega)
    have i1 : p % (b.length : Int) < (b.length : Int) := Int.emod_lt_of_pos _ (by omega)
    have e7 : wrap64 (wrap64 (p * 7) + 3) = p * 7 + 3 := by rw [w64 (x := p * 7) (by omega) (by omega), w64 (by omega) (by omega)]
    have ej : Int.tmod (p * 7 + 3) (b.length : Int) = (p * 7 + 3) % (b.length : Int) := Int.tmod_eq_emod_of_nonneg (by omega)
    have j0 : 0 ≤ (p * 7 + 3) % (b.length : Int) := Int.emod_nonneg _ (by omega)
    have j1 : (p * 7 + 3) % (b.length : Int) < (b.length : Int) := Int.emod_lt_of_pos _ (by omega)
    have eq : Int.tdiv p (b.length : Int) = p / (b.length : Int) := Int.tdiv_eq_ediv_of_nonneg h0
    have q0 : 0 ≤ p / (b.length : Int) := Int.ediv_nonneg h0 (by omega)
    have q1 : p / (b.length : Int) ≤ p := Int.ediv_le_self _ h0
    have hu := rd_code hb (p % (b.length : Int))
    have hv := rd_code hb ((p * 7 + 3) % (b.length : Int))
    have main : ∀ u v q : Int, 0 ≤ u → u ≤ 255 → 0 ≤ v → v ≤ 255 → 0 ≤ q → q ≤ p →
      ∃ x, wrap64 ((wrap64 ((wrap64 ((wrap64 ((wrap64 u) * 131)) + (wrap64 ((wrap64 v) * 1117)))) + (wrap64 (p * 29)))) + (wrap64 ((wrap64 q) * 53))) = x ∧ 0 ≤ x ∧ x < 4611686018427387904 ∧ 0 ≤ wrap64 (Int.tdiv x 64) ∧ wrap64 (Int.tdiv x 64) < 4611686018427387904 := by
     intro u v q u0 u1 v0 v1 q0 q1
     refine ⟨u * 131 + v * 1117 + p * 29 + q * 53, ?_, by omega, by omega, ?_, ?_⟩
     ·rw [w64 (x := u) (by omega) (by omega), w64 (x := v) (by omega) (by omega), w64 (x := q) (by omega) (by omega), w64 (x := u * 131) (by omega) (by omega), w64 (x := v * 1117) (by omega) (by omega), w64 (x := p * 29) (by omega) (by omega), w64 (x := q * 53) (by omega) (by omega), w64 (x := u * 131 + v * 1117) (by omega) (by omega), w64 (x := u * 131 + v * 1117 + p * 29) (by omega) (by omega), w64 (by omega) (by omega)]
     all_goals
      rw [Int.tdiv_eq_ediv_of_nonneg (by omega), w64 (by omega) (by omega)]
      omega
    obtain ⟨x, hx, x0, x1, y0, y1⟩ := main _ _ _ hu.1 hu.2 hv.1 hv.2 q0 q1
    refine ⟨Int.tmod (Go.bits .xor .i64 x (wrap64 (Int.tdiv x 64))) n, Int.tmod_nonneg n (xor_pos _ _ x0 x1 y0 y1), fun h => Int.tmod_lt_of_pos _ (by omega), fun h => ?_, Evn.succ (Evn.all fun k => ?_)⟩
    ·have : n = 1 := by omega
     subst this
     exact Int.tmod_one _
    ·unfold spec_l20Rd_pick.f
     rw [if_neg hn, hw, hle]
     simp only [spec_l20Rd_pick.j0]
     rw [if_neg (by simp), e1, if_neg hp, if_neg (by omega), ei, if_pos i0, if_pos i1, e7, ej, if_pos j0, if_pos j1, if_neg (by omega), eq, hx]

theorem spec_odd (b : List Int) (hb : Code b) (p n : Int) (h0 : 0 ≤ p) (h1 : p ≤ 1099511627776) (hn : n ≤ 1000000) :
  ∃ r q, p ≤ q ∧ q ≤ p + 1 ∧ (n ≤ 0 → r = false) ∧ Evn fun k => spec_l20Rd_odd.f k b p n = some (r, q) := by
 by_cases h : n > 0
 ·obtain ⟨r, _, _, _, e⟩ := spec_pick b hb p n h0 h1
  refine ⟨r == wrap64 (n - 1), p + 1, by omega, by omega, by omega, Evn.mp e (Evn.all fun k e => ?_)⟩
  unfold spec_l20Rd_odd.f
  rw [if_pos h, e]
  rfl
 ·refine ⟨false, p, by omega, by omega, fun _ => rfl, Evn.all fun k => ?_⟩
  unfold spec_l20Rd_odd.f
  rw [if_neg h]

theorem spec_open (l : List Int) (hl : ∀ x ∈ l, (Lit.int .u8 x).wf = true) : ∃ b, Code b ∧ spec_l20Open.f l = some (b, 0) := by
 have hx : ∀ x ∈ l, 0 ≤ x ∧ x ≤ 255 := fun x hx => by
  have h' : (decide (IntKind.u8.min ≤ x) && decide (x ≤ IntKind.u8.max)) = true := hl x hx
  rw [Bool.and_eq_true, decide_eq_true_eq, decide_eq_true_eq] at h'
  exact h'
 unfold spec_l20Open.f
 by_cases h : (l.length : Int) > 2000
 ·refine ⟨l.take 2000, ⟨by rw [List.length_take]; omega, fun x hm => hx x (List.mem_of_mem_take hm)⟩, ?_⟩
  rw [if_pos h, if_pos (by omega)]
 ·exact ⟨l, ⟨by omega, hx⟩, by rw [if_neg h]⟩

/-! What a reader draws: a value with what is known of it, and the place behind it, not far. -/
def Dr {α : Type} (g : Nat → Option (α × Int)) (p c : Int) (P : α → Prop) : Prop := ∃ r q, p ≤ q ∧ q ≤ p + c ∧ P r ∧ Evn fun k => g k = some (r, q)

theorem Dr.bind {α β : Type} {g : Nat → Option (α × Int)} {H : Nat → α × Int → Option (β × Int)} {p c C : Int} {P : α → Prop} {Q : β → Prop}
  (h1 : Dr g p c P) (h2 : ∀ bt : α × Int, P bt.1 → p ≤ bt.2 → bt.2 ≤ p + c → Dr (fun k => H k bt) bt.2 (C - c) Q) : Dr (fun k => (g k).bind (H k)) p C Q := by
 obtain ⟨r, q, hq0, hq1, hr, e⟩ := h1
 obtain ⟨r', q', h0, h1, hr', e'⟩ := h2 (r, q) hr hq0 hq1
 refine ⟨r', q', by simp only at h0; omega, by simp only at h1; omega, hr', Evn.mp e (Evn.mp e' (Evn.all fun k e' e => ?_))⟩
 dsimp only
 rw [e]
 exact e'

theorem Dr.pure {α : Type} {p c : Int} {P : α → Prop} {r : α} (hr : P r) (hc : 0 ≤ c) : Dr (fun _ => some (r, p)) p c P :=
 ⟨r, p, by omega, by omega, hr, Evn.all fun _ => rfl⟩

theorem Dr.ite {α : Type} {g h : Nat → Option (α × Int)} {p c : Int} {P : α → Prop} {b : Prop} [Decidable b] (h1 : b → Dr g p c P) (h2 : ¬ b → Dr h p c P) : Dr (fun k => if b then g k else h k) p c P := by
 by_cases hb : b
 ·simpa [hb] using h1 hb
 ·simpa [hb] using h2 hb

/-- a value that is computed on the way, by a function that draws nothing -/
theorem Dr.run {α β : Type} {g : Nat → Option α} {H : Nat → α → Option (β × Int)} {p c : Int} {Q : β → Prop} {r : α} (h1 : Evn fun k => g k = some r) (h2 : Dr (fun k => H k r) p c Q) : Dr (fun k => (g k).bind (H k)) p c Q := by
 obtain ⟨r', q', h0, h1', hr', e'⟩ := h2
 refine ⟨r', q', h0, h1', hr', Evn.mp h1 (Evn.mp e' (Evn.all fun k e' e => ?_))⟩
 dsimp only
 rw [e]
 exact e'

theorem Dr.some_bind {α β : Type} {H : Nat → α → Option (β × Int)} {p c : Int} {Q : β → Prop} {r : α} (h2 : Dr (fun k => H k r) p c Q) : Dr (fun k => (some r).bind (H k)) p c Q := h2

theorem Dr.le {α : Type} {g : Nat → Option (α × Int)} {p c C : Int} {P Q : α → Prop} (h : Dr g p c P) (hc : c ≤ C) (hp : ∀ r, P r → Q r) : Dr g p C Q := by
 obtain ⟨r, q, h0, h1, hr, e⟩ := h
 exact ⟨r, q, h0, by omega, hp r hr, e⟩

theorem Dr.congr {α : Type} {g h : Nat → Option (α × Int)} {p c : Int} {P : α → Prop} (hg : Dr h p c P) (e : ∀ k, g k = h k) : Dr g p c P := by
 obtain ⟨r, q, h0, h1, hr, e'⟩ := hg
 exact ⟨r, q, h0, h1, hr, Evn.mp e' (Evn.all fun k e' => (e k).trans e')⟩

theorem Dr.succ {α : Type} {g : Nat → Option (α × Int)} {p c : Int} {P : α → Prop} (h : Dr (fun k => g (k + 1)) p c P) : Dr g p c P := by
 obtain ⟨r, q, h0, h1, hr, e⟩ := h
 exact ⟨r, q, h0, h1, hr, Evn.succ e⟩

/-- one of a list's values, by an index that was drawn -/
theorem Dr.elt {p c : Int} {P : Int → Prop} {xs : List Int} {i : Int} (h0 : 0 ≤ i) (h1 : i < (xs.length : Int)) (hP : ∀ x ∈ xs, P x) (hc : 0 ≤ c) : Dr (fun _ => if 0 ≤ i then (if i < (xs.length : Int) then some (rd xs i, p) else none) else none) p c P := by
 refine ⟨rd xs i, p, by omega, by omega, ?_, Evn.all fun k => by rw [if_pos h0, if_pos h1]⟩
 obtain ⟨j, rfl⟩ : ∃ j : Nat, i = (j : Int) := ⟨i.toNat, by omega⟩
 rw [rd_nat (by omega)]
 exact hP _ (List.getElem_mem _)

def InPick (n r : Int) : Prop := 0 ≤ r ∧ (1 ≤ n → r < n) ∧ (n ≤ 1 → r = 0)

theorem dr_pick {b : List Int} (hb : Code b) {p : Int} (n : Int) (h0 : 0 ≤ p) (h1 : p ≤ 1099511627776) : Dr (fun k => spec_l20Rd_pick.f k b p n) p 1 (InPick n) := by
 obtain ⟨r, a, c, d, e⟩ := spec_pick b hb p n h0 h1
 exact ⟨r, p + 1, by omega, by omega, ⟨a, c, d⟩, e⟩

theorem dr_odd {b : List Int} (hb : Code b) {p : Int} (n : Int) (h0 : 0 ≤ p) (h1 : p ≤ 1099511627776) (hn : n ≤ 1000000) : Dr (fun k => spec_l20Rd_odd.f k b p n) p 1 (fun r => n ≤ 0 → r = false) := by
 obtain ⟨r, q, a, c, d, e⟩ := spec_odd b hb p n h0 h1 hn
 exact ⟨r, q, a, c, d, e⟩

/-- What is drawn at the end: no place behind it. -/
def Drw {α : Type} (g : Nat → Option α) (P : α → Prop) : Prop := ∃ r, P r ∧ Evn fun k => g k = some r

theorem Drw.bind {α β : Type} {g : Nat → Option (α × Int)} {H : Nat → α × Int → Option β} {p c : Int} {P : α → Prop} {Q : β → Prop}
  (h1 : Dr g p c P) (h2 : ∀ bt : α × Int, P bt.1 → p ≤ bt.2 → bt.2 ≤ p + c → Drw (fun k => H k bt) Q) : Drw (fun k => (g k).bind (H k)) Q := by
 obtain ⟨r, q, hq0, hq1, hr, e⟩ := h1
 obtain ⟨r', hr', e'⟩ := h2 (r, q) hr hq0 hq1
 refine ⟨r', hr', Evn.mp e (Evn.mp e' (Evn.all fun k e' e => ?_))⟩
 dsimp only
 rw [e]
 exact e'

theorem Drw.pure {α : Type} {P : α → Prop} {r : α} (hr : P r) : Drw (fun _ => some r) P := ⟨r, hr, Evn.all fun _ => rfl⟩

theorem Drw.ite {α : Type} {g h : Nat → Option α} {P : α → Prop} {b : Prop} [Decidable b] (h1 : b → Drw g P) (h2 : ¬ b → Drw h P) : Drw (fun k => if b then g k else h k) P := by
 by_cases hb : b
 ·simpa [hb] using h1 hb
 ·simpa [hb] using h2 hb

theorem Drw.run {α β : Type} {g : Nat → Option α} {H : Nat → α → Option β} {Q : β → Prop} {r : α} (h1 : Evn fun k => g k = some r) (h2 : Drw (fun k => H k r) Q) : Drw (fun k => (g k).bind (H k)) Q := by
 obtain ⟨r', hr', e'⟩ := h2
 refine ⟨r', hr', Evn.mp h1 (Evn.mp e' (Evn.all fun k e' e => ?_))⟩
 dsimp only
 rw [e]
 exact e'

theorem Drw.drw {α β : Type} {g : Nat → Option α} {H : Nat → α → Option β} {P : α → Prop} {Q : β → Prop} (h1 : Drw g P) (h2 : ∀ r, P r → Drw (fun k => H k r) Q) : Drw (fun k => (g k).bind (H k)) Q := by
 obtain ⟨r, hr, e⟩ := h1
 exact Drw.run e (h2 r hr)

theorem Drw.some_bind {α β : Type} {H : Nat → α → Option β} {Q : β → Prop} {r : α} (h2 : Drw (fun k => H k r) Q) : Drw (fun k => (some r).bind (H k)) Q := h2

theorem Drw.congr {α : Type} {g h : Nat → Option α} {P : α → Prop} (hg : Drw h P) (e : ∀ k, g k = h k) : Drw g P := by
 obtain ⟨r, hr, e'⟩ := hg
 exact ⟨r, hr, Evn.mp e' (Evn.all fun k e' => (e k).trans e')⟩

theorem Drw.le {α : Type} {g : Nat → Option α} {P Q : α → Prop} (h : Drw g P) (hp : ∀ r, P r → Q r) : Drw g Q := by
 obtain ⟨r, hr, e⟩ := h
 exact ⟨r, hp r hr, e⟩

end Dw
theorem Dw.weight (j : Nat) : ∃ t : Int, spec_l1Weight.f (j : Int) = some t ∧ t ≠ 0 := by
 unfold spec_l1Weight.f
 split
 ·exact ⟨_, rfl, by decide⟩
 ·split
  ·exact ⟨_, rfl, by decide⟩
  ·split
   ·exact ⟨_, rfl, by decide⟩
   ·exact ⟨_, rfl, by decide⟩
theorem Dw.keyat_loop (d : Nat) : ∀ (j : Nat) (x : Int) (y : ByteArray), j + d = 4 → y.size ≤ j → ∃ s, ∀ k, d + 1 ≤ k → spec_KeyAt.l0 k x y (j : Int) = some s := by
 induction d with
 | zero =>
  intro j x y hj hy
  refine ⟨y, fun k hk => ?_⟩
  obtain ⟨k, rfl⟩ : ∃ i, k = i + 1 := ⟨k - 1, by omega⟩
  rw [spec_KeyAt.l0, if_neg (by omega)]
 | succ d ih =>
  intro j x y hj hy
  obtain ⟨t, ht, h0⟩ := Dw.weight j
  have hz : (strOfNums [wrap64 (97 + wrap64 (Int.tdiv x t)) % 256]).size = 1 := by rw [strOfNums_size]; rfl
  by_cases hm : Int.tmod x t = 0
  ·refine ⟨y ++ strOfNums [wrap64 (97 + wrap64 (Int.tdiv x t)) % 256], fun k hk => ?_⟩
   obtain ⟨k, rfl⟩ : ∃ i, k = i + 1 := ⟨k - 1, by omega⟩
   rw [spec_KeyAt.l0, if_pos (by omega), ht]
   simp only [Option.bind_some]
   rw [if_neg h0, if_pos (by omega), if_neg h0, if_pos hm]
  ·obtain ⟨s, hs⟩ := ih (j + 1) (wrap64 (Int.tmod x t - 1)) (y ++ strOfNums [wrap64 (97 + wrap64 (Int.tdiv x t)) % 256]) (by omega) (by rw [ByteArray.size_append]; omega)
   refine ⟨s, fun k hk => ?_⟩
   obtain ⟨k, rfl⟩ : ∃ i, k = i + 1 := ⟨k - 1, by omega⟩
   rw [spec_KeyAt.l0, if_pos (by omega), ht]
   simp only [Option.bind_some]
   rw [if_neg h0, if_pos (by omega), if_neg h0, if_neg hm, w64 (x := (j : Int) + 1) (by omega) (by omega), show (j : Int) + 1 = ((j + 1 : Nat) : Int) by omega]
   exact hs k (by omega)
theorem Dw.keyat (n : Int) : ∃ s, Dw.Evn fun k => spec_KeyAt.f k n = some s := by
 have e : ∃ b, spec_l1In.f n 0 475253 = some b := by
  unfold spec_l1In.f
  split
  ·exact ⟨_, rfl⟩
  ·exact ⟨_, rfl⟩
 obtain ⟨b, hb⟩ := e
 unfold spec_KeyAt.f
 rw [hb]
 simp only [Option.bind_some]
 cases b with
 | true =>
  obtain ⟨s, hs⟩ := Dw.keyat_loop 4 0 n (⟨#[]⟩ : ByteArray) (by omega) (by show 0 ≤ 0; omega)
  exact ⟨s, 5, fun k hk => (if_pos rfl).trans (hs k hk)⟩
 | false => exact ⟨_, Dw.Evn.all fun k => if_neg (by simp)⟩
theorem spec_l20Rd_pick.D (n : Int) (w W0 : World) (g : Nat) (bs : List Int) (p : Int) (hI : IsS119 w W0 g bs p) (hB : Below w.heap.size w W0) (hc : Dw.Code bs) (h0 : 0 ≤ p) (h1 : p ≤ 1099511627776) :
  Calls Try.prog 79 #[.pointer (some ⟨g, 0, none⟩), .int .i64 n] W0 fun e w' => ∃ x p', e = .returned (.int .i64 x) ∧ (0 ≤ x ∧ (1 ≤ n → x < n) ∧ (n ≤ 1 → x = 0)) ∧ Left w W0 g bs p 1 p' w' := by
 obtain ⟨r, q, h2, h3, hr, k, e⟩ := Dw.dr_pick hc n h0 h1
 refine (spec_l20Rd_pick.calls k g bs p n r q w W0 hI hB (e k (Nat.le_refl k))).mono ?_
 rintro e w' ⟨rfl, hi, hb, hk⟩
 exact ⟨r, q, rfl, hr, ⟨h2, h3⟩, hi, hb, kept_keep hk⟩
theorem spec_l20Rd_odd.D (n : Int) (hn : n ≤ 1000000) (w W0 : World) (g : Nat) (bs : List Int) (p : Int) (hI : IsS119 w W0 g bs p) (hB : Below w.heap.size w W0) (hc : Dw.Code bs) (h0 : 0 ≤ p) (h1 : p ≤ 1099511627776) :
  Calls Try.prog 99 #[.pointer (some ⟨g, 0, none⟩), .int .i64 n] W0 fun e w' => ∃ x p', e = .returned (.bool x) ∧ (n ≤ 0 → x = false) ∧ Left w W0 g bs p 1 p' w' := by
 obtain ⟨r, q, h2, h3, hr, k, e⟩ := Dw.dr_odd hc n h0 h1 hn
 refine (spec_l20Rd_odd.calls k g bs p n r q w W0 hI hB (e k (Nat.le_refl k))).mono ?_
 rintro e w' ⟨rfl, hi, hb, hk⟩
 exact ⟨r, q, rfl, hr, ⟨h2, h3⟩, hi, hb, kept_keep hk⟩
theorem spec_KeyAt.D (n : Int) (w : World) : Calls Try.prog 116 #[.int .i64 n] w fun e w' => ∃ x, e = .returned (.string x) ∧ x = x ∧ Below w.heap.size w w' := by
 obtain ⟨r, k, e⟩ := Dw.keyat n
 refine (spec_KeyAt.calls k n r w (e k (Nat.le_refl k))).mono ?_
 rintro e w' ⟨rfl, h⟩
 exact ⟨r, rfl, rfl, h⟩
theorem tdiv8 {x : Int} (h0 : 0 ≤ x) (h1 : x < 9) : 0 ≤ Int.tdiv x 8 ∧ Int.tdiv x 8 < 2 := by
 rw [Int.tdiv_eq_ediv_of_nonneg h0]
 omega
theorem spec_l20Value.D (n : Int) (hn : n ≤ 1000000) (w W0 : World) (g : Nat) (bs : List Int) (p : Int) (hI : IsS119 w W0 g bs p) (hB : Below w.heap.size w W0) (hc : Dw.Code bs) (h0 : 0 ≤ p) (h1 : p ≤ 1099511000000) :
  Calls Try.prog 115 #[.pointer (some ⟨g, 0, none⟩), .int .i64 n] W0 fun e w' => ∃ x p', e = .returned (.int .i64 x) ∧ (True) ∧ Left w W0 g bs p 3 p' w' := by
 have B := Aside0.mk hB
 have HI := Aside0.mk hI
 have HC := Aside0.mk hc
 have KK := Aside0.mk (Kept.refl W0 (RB g))
 clear hB hI hc
 go_enter Try.func115, Try.ntmps115
 go_wp2_with (first
  | (go_at_call 99; (with_reducible refine cg1 (spec_l20Rd_odd.D n (by omega) w _ g bs p HI.out B.out HC.out (by omega) (by omega)) fun x1 p1 hx1 hp1 w1 hk B HI2 => ?_); replace KK := kkr KK hk; replace HI := HI2; clear hk; skip)
  | ((with_reducible refine gate_dst (N := 8) rfl ?_); refine lt (Kd.int .i64) 3 ?hg (N := 8) ?hd ([(-1), (1000)] : List Int) [.int .i64 (-1), .int .i64 (1000)] ?hr (Reps.one (show Kd.M (Kd.int .i64) _ _ _ (-1) [.int .i64 (-1)] from rfl) (Reps.one (show Kd.M (Kd.int .i64) _ _ _ (1000) [.int .i64 (1000)] from rfl) (Reps.none _ _))) (by simp) B ?_; (case hd => rfl); (case hg => rfl); (case hr => first | (go_simp; done) | (go_simp; rfl)); intro z8 hz8 AL8 kL8 w51 hb B RL8 QL8; have MRL8 := mrf QL8 KK; replace HI := hib HI hb; replace KK := kkb KK hb; clear hb QL8)
  | (go_at_call 79; (with_reducible refine cg1 (spec_l20Rd_pick.D 2 w _ g bs p1 HI.out B.out HC.out (by omega) (by omega)) fun x52 p52 hx52 hp52 w52 hk B HI2 => ?_); replace RL8 := rkr RL8 HI (by decide) hk; replace KK := kkr KK hk; replace HI := HI2; clear hk; skip; have hj52 := hx52.1; have hi52 : x52 < (z8.length : Int) := (by rw [← hz8]; have := hx52.2.1 (by omega); simpa using this); obtain ⟨ad52, hA52, y52⟩ := Kd.at_int (rc RL8) x52 hj52 hi52; generalize rd z8 x52 = v52 at *; cases hA52; have fj52 := eq_true hj52; have fi52 := eq_true hi52)
  | (go_at_call 79; (with_reducible refine cg1 (spec_l20Rd_pick.D 20 w _ g bs p1 HI.out B.out HC.out (by omega) (by omega)) fun x101 p101 hx101 hp101 w101 hk B HI2 => ?_); replace KK := kkr KK hk; replace HI := HI2; clear hk; skip)
  | ((with_reducible refine gate_dst (N := 15) rfl ?_); refine lt (Kd.int .i64) 3 ?hg (N := 15) ?hd ([(x101), (999)] : List Int) [.int .i64 (x101), .int .i64 (999)] ?hr (Reps.one (show Kd.M (Kd.int .i64) _ _ _ (x101) [.int .i64 (x101)] from rfl) (Reps.one (show Kd.M (Kd.int .i64) _ _ _ (999) [.int .i64 (999)] from rfl) (Reps.none _ _))) (by simp) B ?_; (case hd => rfl); (case hg => rfl); (case hr => first | (go_simp; done) | (go_simp; rfl)); intro z15 hz15 AL15 kL15 w102 hb B RL15 QL15; have MRL15 := mrf QL15 KK; replace HI := hib HI hb; replace KK := kkb KK hb; clear hb QL15)
  | (go_at_call 79; (with_reducible refine cg1 (spec_l20Rd_pick.D 9 w _ g bs p101 HI.out B.out HC.out (by omega) (by omega)) fun x103 p103 hx103 hp103 w103 hk B HI2 => ?_); replace RL15 := rkr RL15 HI (by decide) hk; replace KK := kkr KK hk; replace HI := HI2; clear hk; skip; obtain ⟨i17, hi17⟩ : ∃ i : Int, Int.tdiv x103 8 = i := ⟨_, rfl⟩; have hb17 := tdiv8 hx103.1 (hx103.2.1 (by omega)); rw [hi17] at hb17; have hv17 : IntKind.i64.wrap i17 = i17 := (i64_w _).trans (w64 (by omega) (by omega)); have hv18 : wrap64 i17 = i17 := (w64 (by omega) (by omega)); have hj17 := hb17.1; have hi17 : i17 < (z15.length : Int) := (by rw [← hz15]; have := hb17.2; simpa using this); obtain ⟨ad17, hA17, y17⟩ := Kd.at_int (rc RL15) i17 hj17 hi17; generalize rd z15 i17 = v17 at *; cases hA17; have fj17 := eq_true hj17; have fi17 := eq_true hi17))
 all_goals go_ret
 all_goals exact ⟨_, _, rfl, trivial, ⟨by omega, by omega⟩, HI.out, B.out, KK.out⟩
theorem spec_l20Key.D (n : Int) (hn : n ≤ 1000000) (w W0 : World) (g : Nat) (bs : List Int) (p : Int) (hI : IsS119 w W0 g bs p) (hB : Below w.heap.size w W0) (hc : Dw.Code bs) (h0 : 0 ≤ p) (h1 : p ≤ 1099511000000) :
  Calls Try.prog 78 #[.pointer (some ⟨g, 0, none⟩), .int .i64 n] W0 fun e w' => ∃ x p', e = .returned (.string x) ∧ (True) ∧ Left w W0 g bs p 6 p' w' := by
 have B := Aside0.mk hB
 have HI := Aside0.mk hI
 have HC := Aside0.mk hc
 have KK := Aside0.mk (Kept.refl W0 (RB g))
 clear hB hI hc
 go_enter Try.func78, Try.ntmps78
 go_wp2_with (first
  | (go_at_call 99; (with_reducible refine cg1 (spec_l20Rd_odd.D n (by omega) w _ g bs p HI.out B.out HC.out (by omega) (by omega)) fun x1 p1 hx1 hp1 w1 hk B HI2 => ?_); replace KK := kkr KK hk; replace HI := HI2; clear hk; skip)
  | ((with_reducible refine gate_dst (N := 10) rfl ?_); refine lt Kd.string 9 ?hg (N := 10) ?hd ([((⟨#[]⟩ : ByteArray)), ((⟨#[65]⟩ : ByteArray)), ((⟨#[97, 49]⟩ : ByteArray)), ((⟨#[97, 98, 99, 100, 101]⟩ : ByteArray)), ((⟨#[98, 123]⟩ : ByteArray)), ((⟨#[97, 32, 98]⟩ : ByteArray))] : List ByteArray) [.string (⟨#[]⟩ : ByteArray), .string (⟨#[65]⟩ : ByteArray), .string (⟨#[97, 49]⟩ : ByteArray), .string (⟨#[97, 98, 99, 100, 101]⟩ : ByteArray), .string (⟨#[98, 123]⟩ : ByteArray), .string (⟨#[97, 32, 98]⟩ : ByteArray)] ?hr (Reps.one (show Kd.M Kd.string _ _ _ ((⟨#[]⟩ : ByteArray)) [.string (⟨#[]⟩ : ByteArray)] from rfl) (Reps.one (show Kd.M Kd.string _ _ _ ((⟨#[65]⟩ : ByteArray)) [.string (⟨#[65]⟩ : ByteArray)] from rfl) (Reps.one (show Kd.M Kd.string _ _ _ ((⟨#[97, 49]⟩ : ByteArray)) [.string (⟨#[97, 49]⟩ : ByteArray)] from rfl) (Reps.one (show Kd.M Kd.string _ _ _ ((⟨#[97, 98, 99, 100, 101]⟩ : ByteArray)) [.string (⟨#[97, 98, 99, 100, 101]⟩ : ByteArray)] from rfl) (Reps.one (show Kd.M Kd.string _ _ _ ((⟨#[98, 123]⟩ : ByteArray)) [.string (⟨#[98, 123]⟩ : ByteArray)] from rfl) (Reps.one (show Kd.M Kd.string _ _ _ ((⟨#[97, 32, 98]⟩ : ByteArray)) [.string (⟨#[97, 32, 98]⟩ : ByteArray)] from rfl) (Reps.none _ _))))))) (by simp) B ?_; (case hd => rfl); (case hg => rfl); (case hr => first | (go_simp; done) | (go_simp; rfl)); intro z10 hz10 AL10 kL10 w51 hb B RL10 QL10; have MRL10 := mrf QL10 KK; replace HI := hib HI hb; replace KK := kkb KK hb; clear hb QL10)
  | (go_at_call 79; (with_reducible refine cg1 (spec_l20Rd_pick.D 6 w _ g bs p1 HI.out B.out HC.out (by omega) (by omega)) fun x52 p52 hx52 hp52 w52 hk B HI2 => ?_); replace RL10 := rkr RL10 HI (by decide) hk; replace KK := kkr KK hk; replace HI := HI2; clear hk; skip; have hi52 : x52 < (z10.length : Int) := (by rw [← hz10]; have := hx52.2.1 (by omega); simpa using this); obtain ⟨ad52, hA52, y52⟩ := Kd.at_string (rc RL10) x52 hx52.1 hi52; have hj52 := hx52.1; generalize rdOf ByteArray.empty z10 x52 = s52 at *; cases hA52; have j52 := eq_true hj52; have i52 := eq_true hi52)
  | (go_at_call 79; (with_reducible refine cg1 (spec_l20Rd_pick.D 12 w _ g bs p1 HI.out B.out HC.out (by omega) (by omega)) fun x101 p101 hx101 hp101 w101 hk B HI2 => ?_); replace KK := kkr KK hk; replace HI := HI2; clear hk; skip)
  | ((with_reducible refine gate_dst (N := 18) rfl ?_); refine lt Kd.string 9 ?hg (N := 18) ?hd ([((⟨#[122, 122, 122, 122]⟩ : ByteArray)), ((⟨#[122, 122, 122]⟩ : ByteArray)), ((⟨#[97, 122, 122, 122]⟩ : ByteArray)), ((⟨#[122]⟩ : ByteArray)), ((⟨#[97, 97, 97, 97]⟩ : ByteArray))] : List ByteArray) [.string (⟨#[122, 122, 122, 122]⟩ : ByteArray), .string (⟨#[122, 122, 122]⟩ : ByteArray), .string (⟨#[97, 122, 122, 122]⟩ : ByteArray), .string (⟨#[122]⟩ : ByteArray), .string (⟨#[97, 97, 97, 97]⟩ : ByteArray)] ?hr (Reps.one (show Kd.M Kd.string _ _ _ ((⟨#[122, 122, 122, 122]⟩ : ByteArray)) [.string (⟨#[122, 122, 122, 122]⟩ : ByteArray)] from rfl) (Reps.one (show Kd.M Kd.string _ _ _ ((⟨#[122, 122, 122]⟩ : ByteArray)) [.string (⟨#[122, 122, 122]⟩ : ByteArray)] from rfl) (Reps.one (show Kd.M Kd.string _ _ _ ((⟨#[97, 122, 122, 122]⟩ : ByteArray)) [.string (⟨#[97, 122, 122, 122]⟩ : ByteArray)] from rfl) (Reps.one (show Kd.M Kd.string _ _ _ ((⟨#[122]⟩ : ByteArray)) [.string (⟨#[122]⟩ : ByteArray)] from rfl) (Reps.one (show Kd.M Kd.string _ _ _ ((⟨#[97, 97, 97, 97]⟩ : ByteArray)) [.string (⟨#[97, 97, 97, 97]⟩ : ByteArray)] from rfl) (Reps.none _ _)))))) (by simp) B ?_; (case hd => rfl); (case hg => rfl); (case hr => first | (go_simp; done) | (go_simp; rfl)); intro z18 hz18 AL18 kL18 w201 hb B RL18 QL18; have MRL18 := mrf QL18 KK; replace HI := hib HI hb; replace KK := kkb KK hb; clear hb QL18)
  | (go_at_call 79; (with_reducible refine cg1 (spec_l20Rd_pick.D 5 w _ g bs p101 HI.out B.out HC.out (by omega) (by omega)) fun x202 p202 hx202 hp202 w202 hk B HI2 => ?_); replace RL18 := rkr RL18 HI (by decide) hk; replace KK := kkr KK hk; replace HI := HI2; clear hk; skip; have hi202 : x202 < (z18.length : Int) := (by rw [← hz18]; have := hx202.2.1 (by omega); simpa using this); obtain ⟨ad202, hA202, y202⟩ := Kd.at_string (rc RL18) x202 hx202.1 hi202; have hj202 := hx202.1; generalize rdOf ByteArray.empty z18 x202 = s202 at *; cases hA202; have j202 := eq_true hj202; have i202 := eq_true hi202)
  | (go_at_call 79; (with_reducible refine cg1 (spec_l20Rd_pick.D 2 w _ g bs p101 HI.out B.out HC.out (by omega) (by omega)) fun x251 p251 hx251 hp251 w251 hk B HI2 => ?_); replace KK := kkr KK hk; replace HI := HI2; clear hk; skip; refine Stop.out ?_))
 all_goals try (go_ret; exact ⟨_, _, rfl, trivial, ⟨by omega, by omega⟩, HI.out, B.out, KK.out⟩; done)
 refine ⟨?_⟩
 have hc0 := hx251.1
 have hc1 := hx251.2.1 (by omega)
 obtain ⟨m0, hm0⟩ : ∃ m : Nat, 1 + x251 = (m : Int) := ⟨(1 + x251).toNat, by omega⟩
 go_wp2
 go_loopg [5, 6] (m0 + 1) (fun kx v5 v6 wr => ∃ (m : Nat) (s : ByteArray) (pp : Int), v5 = .string s ∧ v6 = .int .i64 (m : Int) ∧ m < kx ∧ m ≤ 2 ∧ s.size + m ≤ 4 ∧ (p ≤ pp ∧ pp + (m : Int) ≤ p + 6) ∧ Aside0 (IsS119 w wr g bs pp) ∧ Aside0 (Kept W0 wr (RB g)) ∧ Aside0 (Below w.heap.size w wr))
 case atStart => exact ⟨m0, _, _, rfl, congrArg (Value.int .i64) (by omega), by omega, by omega, by show 0 + m0 ≤ 4; omega, by omega, HI, KK, B⟩
 case round =>
  clear HI KK B hm0
  obtain ⟨m, s, pp, rfl, rfl, hm, hm2, hsz, hpp, HI, KK, B⟩ := hrel
  by_cases hp : 0 < m
  ·obtain ⟨d, rfl⟩ : ∃ d, gk = d + 1 := ⟨gk - 1, by omega⟩
   have cj : decide ((0 : Int) < (m : Int)) = true := decide_eq_true (by omega)
   go_wp2_with (first
    | (go_at_call 79; (with_reducible refine cg1 (spec_l20Rd_pick.D 4 w _ g bs pp HI.out B.out HC.out (by omega) (by omega)) fun x301 p301 hx301 hp301 w301 hk B HI2 => ?_); replace KK := kkr KK hk; replace HI := HI2; clear hk; skip)
    | ((with_reducible refine gate_dst (N := 35) rfl ?_); refine lt (Kd.int .u8) 5 ?hg (N := 35) ?hd ([((97 + x301))] : List Int) [.int .u8 ((97 + x301))] ?hr (Reps.one (show Kd.M (Kd.int .u8) _ _ _ ((97 + x301)) [.int .u8 ((97 + x301))] from rfl) (Reps.none _ _)) (by simp) B ?_; (case hd => rfl); (case hg => rfl); (case hr => first | (go_simp; done) | (go_simp; rfl)); intro z35 hz35 AL35 kL35 w302 hb B RL35 QL35; have MRL35 := mrf QL35 KK; replace HI := hib HI hb; replace KK := kkb KK hb; clear hb QL35; have hcv35 := own_string (P := Try.prog) Try.underlying38 Try.underlying5 Try.underlying9 (Kd.own_of_R RL35.out); have hsz35 : (strOfNums z35).size = 1 := (by rw [← hz35]; rw [strOfNums_size]; rfl); have hle35 : decide (s.size + (strOfNums z35).size ≤ 9223372036854775807) = true := decide_eq_true (by omega)))
   go_roundg d
   case measure => omega
   case rel => exact ⟨m - 1, _, _, rfl, congrArg (Value.int .i64) (by omega), by omega, by omega, by rw [ByteArray.size_append, hsz35]; omega, by omega, HI, KK, B⟩
  ·have cj : decide ((0 : Int) < (m : Int)) = false := decide_eq_false (by omega)
   go_wp2
   go_ret
   exact ⟨_, _, rfl, trivial, ⟨by omega, by omega⟩, HI.out, B.out, KK.out⟩

theorem atP_step {l : List S61} {j : Nat} {c : ByteArray} (h : ∀ i (hi : i < l.length), i < j → ltB l[i].f0 c = true) (hj : j ≤ l.length) (hs : ∀ hl : j < l.length, ltB l[j].f0 c = false) : atP l c = j := take_len l j hj h hs
theorem spec_l4Place.M (A0 : Option Addr) (c0 : Nat) (l : List S61) (c : ByteArray) (w : World) (hr0 : Kd.C k61 w A0 l.length l) : Calls Try.prog 123 #[.slice A0 l.length c0, .string c] w fun e w' => e = .returned (.int .i64 ((atP l c : Nat) : Int)) ∧ Below w.heap.size w w' := by
 have B := Aside0.mk (Below.refl w.heap.size w)
 have HR0 := Aside0.mk hr0
 have L63 := Aside0.mk hr0.2.1
 clear hr0
 go_enter Try.func123, Try.ntmps123
 go_wp2
 go_loopg [5] (l.length + 1) (fun kx v5 wr => ∃ j : Nat, v5 = .int .i64 (j : Int) ∧ j ≤ l.length ∧ l.length < j + kx ∧ Aside0 (Below w.heap.size w wr) ∧ Aside0 (∀ i (hi : i < l.length), i < j → ltB l[i].f0 c = true))
 case atStart => exact ⟨0, rfl, by omega, by omega, B, ⟨fun i _ h => absurd h (Nat.not_lt_zero _)⟩⟩
 case round =>
  clear B
  obtain ⟨j, rfl, hj, hk, B, H⟩ := hrel
  have h63 := L63.out
  by_cases hlt : j < l.length
  ·obtain ⟨d, rfl⟩ : ∃ d, gk = d + 1 := ⟨gk - 1, by omega⟩
   have cj : decide ((j : Int) < (l.length : Int)) = true := decide_eq_true (by omega)
   obtain ⟨ad, hA, y0, y1⟩ := at_T61 (cb HR0 B) (j : Int) (by omega) (by omega)
   cases hA
   rw [Int.toNat_natCast] at y0 y1
   have j1 := eq_true (show (j : Int) < (l.length : Int) by omega)
   have j2 := eq_true hlt
   have hy : rd_T61 l (j : Int) = l[j] := pr_nat hlt
   generalize rd_T61 l (j : Int) = y at *
   have HY := Aside0.mk hy
   clear hy
   cases hb : Op.bytesLess y.f0.toList c.toList with
   | true =>
    go_wp2
    go_roundg d
    case measure => omega
    case rel => exact ⟨j + 1, congrArg (Value.int .i64) (Int.natCast_succ _).symm, by omega, by omega, B, ⟨fun i hi h => by
     rcases Nat.lt_or_eq_of_le (show i ≤ j by omega) with h' | h'
     ·exact H.out i hi h'
     ·subst h'; rw [← HY.out]; exact hb⟩⟩
   | false =>
    have hr := atP_step H.out hj (fun _ => by rw [← HY.out]; exact hb)
    go_wp2
    go_ret
    exact ⟨by rw [hr]; rfl, B.out⟩
  ·have cj : decide ((j : Int) < (l.length : Int)) = false := decide_eq_false (by omega)
   have hr := atP_step H.out hj (fun h => absurd h hlt)
   go_wp2
   go_ret
   exact ⟨by rw [hr]; rfl, B.out⟩

theorem spec_PairPut.M (A0 : Option Addr) (c0 : Nat) (l : List S61) (c : ByteArray) (v : Int) (w : World) (hr0 : Kd.C k61 w A0 l.length l) (hc0 : l.length ≤ c0) : Calls Try.prog 114 #[.slice A0 l.length c0, .string c, .int .i64 v] w fun e w' => ∃ v0, e = .returned (.tuple #[v0, .bool (putM l c v).2]) ∧ Kd.R k61 61 w' w.heap.size (fun _ => True) v0 (putM l c v).1 ∧ Below w.heap.size w w' := by
 have B := Aside0.mk (Below.refl w.heap.size w)
 have hu := Try.underlying61
 have HR0 := Aside0.mk hr0
 have HC0 := Aside0.mk hc0
 have L63 := Aside0.mk hr0.2.1
 clear hr0
 obtain ⟨i0, hif, _, hsz0, _⟩ := info_parts info61
 by_cases hvv : (prB l && (keyB c && l1B v 0 999)) = true
 ·have hu0 : putM l c v = if hitM l c then ((l.take (atP l c) ++ [⟨c, v⟩]) ++ l.drop (atP l c + 1), true) else if 48 ≤ l.length then (l, false) else ((l.take (atP l c) ++ [⟨c, v⟩]) ++ l.drop (atP l c), true) := if_pos hvv
  simp only [Bool.and_eq_true] at hvv
  obtain ⟨hv, hkv, hlv⟩ := hvv
  have h48 := prB_len hv
  have hat := atP_le l c
  cases hh : hitM l c with
  | true =>
   clear hif hsz0 hc0
   have hlt2 : decide (((atP l c : Nat) : Int) < (l.length : Int)) = true := decide_eq_true (by have := hit_true hh; omega)
   obtain ⟨hlt, hf0, hf⟩ := hit_true hh
   have j1 := eq_true (show ((atP l c : Nat) : Int) < (l.length : Int) by omega)
   have j2 := eq_true hlt
   have hM : putM l c v = ((l.take (atP l c) ++ [⟨c, v⟩]) ++ l.drop (atP l c + 1), true) := by rw [hu0, if_pos hh]
   go_enter Try.func114, Try.ntmps114
   go_wp2_with (first
    | ((with_reducible refine gate_dst (N := 10) rfl ?_); refine lt k61 61 ?hg (N := 10) ?hd ([] : List S61) [] ?hr (Reps.none _ _) (by simp) B ?_; (case hd => rfl); (case hg => rfl); (case hr => first | (go_simp; done) | (go_simp; rfl)); intro z10 hz10 AL10 kL10 w1 hb B RL10 QL10; clear hb QL10)
    | (go_at_call 48; with_reducible refine cl (spec_PairsValid.M _ _ l _ (cb HR0 B)) B fun w2 hb B => ?_; replace RL10 := rn RL10 hb; clear hb)
    | (go_at_call 89; with_reducible refine cl (spec_KeyValid.M c _) B fun w3 hb B => ?_; replace RL10 := rn RL10 hb; clear hb)
    | (go_at_call 90; with_reducible refine cl (spec_l1In.M v 0 999 _) B fun w4 hb B => ?_; replace RL10 := rn RL10 hb; clear hb)
    | (go_at_call 123; with_reducible refine cl (spec_l4Place.M _ _ l c _ (cb HR0 B)) B fun w5 hb B => ?_; replace RL10 := rn RL10 hb; clear hb; (obtain ⟨ad, hA, y0, y1⟩ := at_T61 (cb HR0 B) ((atP l c : Nat) : Int) (Int.natCast_nonneg _) (Int.ofNat_lt.mpr hlt); cases hA; rw [Int.toNat_natCast] at y0 y1))
    | ((with_reducible refine gate_builtin (b := .append) (xs := #[.tmp 41, .tmp 42]) rfl ?_); at_builtin; refine apx k61 61 rfl (.tmp 41) (.tmp 42) 31 (.agg #[.string (⟨#[]⟩ : ByteArray), .int .i64 (0)]) 24 rfl Try.underlying31 info61 rfl (by decide) (by omega) rfl rfl RL10 (cb HR0 B) (fun x cs h => by rw [k61_open h]; exact k61_mkM _ _ _ x) (by rw [← hz10]; simp only [List.length_append, List.length_nil, List.length_cons, List.length_take, List.length_drop]; omega) B ?_; intro z43 hz43 AL43 kL43 w6 hg B RL43 hat; clear hg hat; (obtain ⟨g0, hA0, hg0⟩ := rform RL43 (by rw [← hz43, ← hz10, List.nil_append]; omega); subst hA0; have HLT : atP l c < z43.length := (by rw [← hz43, ← hz10, List.nil_append]; exact hlt); obtain ⟨cs, hcl, hMM, hcc, hfz⟩ := rcells z61 RL43 (atP l c) HLT; have hsz : k61.sz = 2 := rfl; obtain ⟨u0, hu0⟩ : ∃ u, cs[1]? = some u := ⟨_, List.getElem?_eq_getElem (by rw [hcl]; decide)⟩; have q0 := hcc 1 u0 hu0; have q1 := hfz 1; rw [hsz] at q0 q1; have j3 := eq_true (show ((atP l c : Nat) : Int) < (z43.length : Int) by omega); have j4 := eq_true HLT))
    | ((with_reducible refine gate_store (t := 3) (p := 48) rfl ?_); refine es (t := 3) (p := 48) (v := ?vo7) ?hg ?ho ?hn (atP l c) 1 [.int .i64 (v)] ⟨(z43.getD (atP l c) z61).f0, v⟩ ?hr RL43 HLT hcl hcc (Nat.le_of_ble_eq_true rfl) (by rw [k61_openM hMM]; exact k61_mkM _ _ _ _) B hg0 ?_; (case ho => rfl); (case hg => rfl); (case hn => rfl); (case hr => first | (go_simp; done) | (go_simp; rfl)); intro w7 hgr B RL43; clear hgr))
   go_ret2; have hZ : z43.set (atP l c) ⟨(z43.getD (atP l c) z61).f0, v⟩ = (l.take (atP l c) ++ [⟨c, v⟩]) ++ l.drop (atP l c + 1) := (by rw [← hz43, ← hz10, List.nil_append, show (l.getD (atP l c) z61).f0 = c from hf0, List.set_eq_take_append_cons_drop, if_pos hlt]; simp); exact ⟨_, by rw [hM]; rfl, by rw [hM, ← hZ]; exact RL43.out, B.out⟩
  | false =>
   by_cases h8 : 48 ≤ l.length
   ·have d8 : decide ((48 : Int) ≤ (l.length : Int)) = true := decide_eq_true (by omega)
    have d9 := eq_true h8
    clear hif hsz0 hc0
    have hM : putM l c v = (l, false) := by rw [hu0, if_neg (by rw [hh]; simp), if_pos h8]
    by_cases hlt : atP l c < l.length
    ·skip
     have hf := hit_false hh hlt
     have j1 := eq_true (show ((atP l c : Nat) : Int) < (l.length : Int) by omega)
     have j2 := eq_true hlt
     have hlt2 : decide (((atP l c : Nat) : Int) < (l.length : Int)) = true := decide_eq_true (by omega)
     go_enter Try.func114, Try.ntmps114
     go_wp2_with (first
      | ((with_reducible refine gate_dst (N := 10) rfl ?_); refine lt k61 61 ?hg (N := 10) ?hd ([] : List S61) [] ?hr (Reps.none _ _) (by simp) B ?_; (case hd => rfl); (case hg => rfl); (case hr => first | (go_simp; done) | (go_simp; rfl)); intro z10 hz10 AL10 kL10 w1 hb B RL10 QL10; clear hb QL10)
      | (go_at_call 48; with_reducible refine cl (spec_PairsValid.M _ _ l _ (cb HR0 B)) B fun w2 hb B => ?_; replace RL10 := rn RL10 hb; clear hb)
      | (go_at_call 89; with_reducible refine cl (spec_KeyValid.M c _) B fun w3 hb B => ?_; replace RL10 := rn RL10 hb; clear hb)
      | (go_at_call 90; with_reducible refine cl (spec_l1In.M v 0 999 _) B fun w4 hb B => ?_; replace RL10 := rn RL10 hb; clear hb)
      | (go_at_call 123; with_reducible refine cl (spec_l4Place.M _ _ l c _ (cb HR0 B)) B fun w5 hb B => ?_; replace RL10 := rn RL10 hb; clear hb; (obtain ⟨ad, hA, y0, y1⟩ := at_T61 (cb HR0 B) ((atP l c : Nat) : Int) (Int.natCast_nonneg _) (Int.ofNat_lt.mpr hlt); cases hA; rw [Int.toNat_natCast] at y0 y1))
      | ((with_reducible refine gate_builtin (b := .append) (xs := #[.tmp 53, .tmp 54]) rfl ?_); at_builtin; refine apx k61 61 rfl (.tmp 53) (.tmp 54) 31 (.agg #[.string (⟨#[]⟩ : ByteArray), .int .i64 (0)]) 24 rfl Try.underlying31 info61 rfl (by decide) (by omega) rfl rfl RL10 (cb HR0 B) (fun x cs h => by rw [k61_open h]; exact k61_mkM _ _ _ x) (by rw [← hz10]; simp only [List.length_append, List.length_nil, List.length_cons, List.length_take, List.length_drop]; omega) B ?_; intro z55 hz55 AL55 kL55 w6 hg B RL55 hat; clear hg hat))
     go_ret2; have hZ : z55 = l := (by rw [← hz55, ← hz10]; try simp); exact ⟨_, by rw [hM]; rfl, by rw [hM, ← hZ]; exact RL55.out, B.out⟩
    ·skip
     have hlt2 : decide (((atP l c : Nat) : Int) < (l.length : Int)) = false := decide_eq_false (by omega)
     go_enter Try.func114, Try.ntmps114
     go_wp2_with (first
      | ((with_reducible refine gate_dst (N := 10) rfl ?_); refine lt k61 61 ?hg (N := 10) ?hd ([] : List S61) [] ?hr (Reps.none _ _) (by simp) B ?_; (case hd => rfl); (case hg => rfl); (case hr => first | (go_simp; done) | (go_simp; rfl)); intro z10 hz10 AL10 kL10 w1 hb B RL10 QL10; clear hb QL10)
      | (go_at_call 48; with_reducible refine cl (spec_PairsValid.M _ _ l _ (cb HR0 B)) B fun w2 hb B => ?_; replace RL10 := rn RL10 hb; clear hb)
      | (go_at_call 89; with_reducible refine cl (spec_KeyValid.M c _) B fun w3 hb B => ?_; replace RL10 := rn RL10 hb; clear hb)
      | (go_at_call 90; with_reducible refine cl (spec_l1In.M v 0 999 _) B fun w4 hb B => ?_; replace RL10 := rn RL10 hb; clear hb)
      | (go_at_call 123; with_reducible refine cl (spec_l4Place.M _ _ l c _ (cb HR0 B)) B fun w5 hb B => ?_; replace RL10 := rn RL10 hb; clear hb)
      | ((with_reducible refine gate_builtin (b := .append) (xs := #[.tmp 53, .tmp 54]) rfl ?_); at_builtin; refine apx k61 61 rfl (.tmp 53) (.tmp 54) 31 (.agg #[.string (⟨#[]⟩ : ByteArray), .int .i64 (0)]) 24 rfl Try.underlying31 info61 rfl (by decide) (by omega) rfl rfl RL10 (cb HR0 B) (fun x cs h => by rw [k61_open h]; exact k61_mkM _ _ _ x) (by rw [← hz10]; simp only [List.length_append, List.length_nil, List.length_cons, List.length_take, List.length_drop]; omega) B ?_; intro z55 hz55 AL55 kL55 w6 hg B RL55 hat; clear hg hat))
     go_ret2; have hZ : z55 = l := (by rw [← hz55, ← hz10]; try simp); exact ⟨_, by rw [hM]; rfl, by rw [hM, ← hZ]; exact RL55.out, B.out⟩
   ·have d8 : decide ((48 : Int) ≤ (l.length : Int)) = false := decide_eq_false (by omega)
    have d9 := eq_false h8
    have hcut1 := cut_to (P := Try.prog) 31 61 .i64 Try.underlying31 hif A0 l.length c0 ((atP l c : Nat) : Int) (by omega) (by omega) hc0
    rw [Int.toNat_natCast] at hcut1
    have C1 := Aside0.mk (fun {W : World} (h : Kd.C k61 W A0 l.length l) => show Kd.C k61 W A0 (atP l c) (l.take (atP l c)) from by
     have := Kd.C_take h (m := atP l c) (by omega)
     rwa [List.length_take, Nat.min_eq_left (by omega)] at this)
    have hcut2 := cut_from (P := Try.prog) 31 61 .i64 Try.underlying31 hif 2 hsz0 A0 l.length c0 (((atP l c : Nat) : Int)) (by omega) (by omega)
    rw [show (((atP l c : Nat) : Int)).toNat = atP l c by omega] at hcut2
    obtain ⟨A2, hA2⟩ : ∃ A2, A2 = (if c0 = atP l c then A0 else A0.map (·.add ((atP l c) * 2))) := ⟨_, rfl⟩
    rw [← hA2] at hcut2
    have C2 := Aside0.mk (fun {W : World} (h : Kd.C k61 W A0 l.length l) => show Kd.C k61 W A2 (l.length - (atP l c)) (l.drop (atP l c)) from by
     have := Kd.C_drop h (m := atP l c) (c := c0) (by omega) hc0
     rw [List.length_drop] at this
     rw [hA2]
     exact this)
    clear hA2
    clear hif hsz0 hc0
    have hM : putM l c v = ((l.take (atP l c) ++ [⟨c, v⟩]) ++ l.drop (atP l c), true) := by rw [hu0, if_neg (by rw [hh]; simp), if_neg h8]
    by_cases hlt : atP l c < l.length
    ·skip
     have hf := hit_false hh hlt
     have j1 := eq_true (show ((atP l c : Nat) : Int) < (l.length : Int) by omega)
     have j2 := eq_true hlt
     have hlt2 : decide (((atP l c : Nat) : Int) < (l.length : Int)) = true := decide_eq_true (by omega)
     go_enter Try.func114, Try.ntmps114
     go_wp2_with (first
      | ((with_reducible refine gate_dst (N := 10) rfl ?_); refine lt k61 61 ?hg (N := 10) ?hd ([] : List S61) [] ?hr (Reps.none _ _) (by simp) B ?_; (case hd => rfl); (case hg => rfl); (case hr => first | (go_simp; done) | (go_simp; rfl)); intro z10 hz10 AL10 kL10 w1 hb B RL10 QL10; clear hb QL10)
      | (go_at_call 48; with_reducible refine cl (spec_PairsValid.M _ _ l _ (cb HR0 B)) B fun w2 hb B => ?_; replace RL10 := rn RL10 hb; clear hb)
      | (go_at_call 89; with_reducible refine cl (spec_KeyValid.M c _) B fun w3 hb B => ?_; replace RL10 := rn RL10 hb; clear hb)
      | (go_at_call 90; with_reducible refine cl (spec_l1In.M v 0 999 _) B fun w4 hb B => ?_; replace RL10 := rn RL10 hb; clear hb)
      | (go_at_call 123; with_reducible refine cl (spec_l4Place.M _ _ l c _ (cb HR0 B)) B fun w5 hb B => ?_; replace RL10 := rn RL10 hb; clear hb; (obtain ⟨ad, hA, y0, y1⟩ := at_T61 (cb HR0 B) ((atP l c : Nat) : Int) (Int.natCast_nonneg _) (Int.ofNat_lt.mpr hlt); cases hA; rw [Int.toNat_natCast] at y0 y1))
      | ((with_reducible refine gate_builtin (b := .append) (xs := #[.tmp 56, .tmp 59]) rfl ?_); at_builtin; refine apx k61 61 rfl (.tmp 56) (.tmp 59) 31 (.agg #[.string (⟨#[]⟩ : ByteArray), .int .i64 (0)]) 24 rfl Try.underlying31 info61 rfl (by decide) (by omega) rfl rfl RL10 (C1.out (cb HR0 B)) (fun x cs h => by rw [k61_open h]; exact k61_mkM _ _ _ x) (by rw [← hz10]; simp only [List.length_append, List.length_nil, List.length_cons, List.length_take, List.length_drop]; omega) B ?_; intro z60 hz60 AL60 kL60 w6 hg B RL60 hat; clear hg hat)
      | ((with_reducible refine gate_dst (N := 65) rfl ?_); refine lt k61 61 ?hg (N := 65) ?hd ([⟨c, v⟩] : List S61) [.string c, .int .i64 (v)] ?hr (Reps.c2 (k61_mkM _ _ _ ⟨c, v⟩) (Reps.none _ _)) (by simp) B ?_; (case hd => rfl); (case hg => rfl); (case hr => first | (go_simp; done) | (go_simp; rfl)); intro z65 hz65 AL65 kL65 w7 hb B RL65 QL65; replace RL60 := rn RL60 hb; clear hb QL65)
      | ((with_reducible refine gate_builtin (b := .append) (xs := #[.tmp 61, .tmp 65]) rfl ?_); at_builtin; refine apx k61 61 rfl (.tmp 61) (.tmp 65) 31 (.agg #[.string (⟨#[]⟩ : ByteArray), .int .i64 (0)]) 24 rfl Try.underlying31 info61 rfl (by decide) (by omega) rfl rfl RL60 (rc RL65) (fun x cs h => by rw [k61_open h]; exact k61_mkM _ _ _ x) (by rw [← hz65, ← hz60, ← hz10]; simp only [List.length_append, List.length_nil, List.length_cons, List.length_take, List.length_drop]; omega) B ?_; intro z66 hz66 AL66 kL66 w8 hg B RL66 hat; clear hg hat)
      | ((with_reducible refine gate_builtin (b := .append) (xs := #[.tmp 67, .tmp 70]) rfl ?_); at_builtin; refine apx k61 61 rfl (.tmp 67) (.tmp 70) 31 (.agg #[.string (⟨#[]⟩ : ByteArray), .int .i64 (0)]) 24 rfl Try.underlying31 info61 rfl (by decide) (by omega) rfl rfl RL66 (C2.out (cb HR0 B)) (fun x cs h => by rw [k61_open h]; exact k61_mkM _ _ _ x) (by rw [← hz66, ← hz65, ← hz60, ← hz10]; simp only [List.length_append, List.length_nil, List.length_cons, List.length_take, List.length_drop]; omega) B ?_; intro z71 hz71 AL71 kL71 w9 hg B RL71 hat; clear hg hat))
     go_ret2; have hZ : z71 = (l.take (atP l c) ++ [⟨c, v⟩]) ++ l.drop (atP l c) := (by rw [← hz71, ← hz66, ← hz65, ← hz60, ← hz10]; try simp); exact ⟨_, by rw [hM]; rfl, by rw [hM, ← hZ]; exact RL71.out, B.out⟩
    ·skip
     have hlt2 : decide (((atP l c : Nat) : Int) < (l.length : Int)) = false := decide_eq_false (by omega)
     go_enter Try.func114, Try.ntmps114
     go_wp2_with (first
      | ((with_reducible refine gate_dst (N := 10) rfl ?_); refine lt k61 61 ?hg (N := 10) ?hd ([] : List S61) [] ?hr (Reps.none _ _) (by simp) B ?_; (case hd => rfl); (case hg => rfl); (case hr => first | (go_simp; done) | (go_simp; rfl)); intro z10 hz10 AL10 kL10 w1 hb B RL10 QL10; clear hb QL10)
      | (go_at_call 48; with_reducible refine cl (spec_PairsValid.M _ _ l _ (cb HR0 B)) B fun w2 hb B => ?_; replace RL10 := rn RL10 hb; clear hb)
      | (go_at_call 89; with_reducible refine cl (spec_KeyValid.M c _) B fun w3 hb B => ?_; replace RL10 := rn RL10 hb; clear hb)
      | (go_at_call 90; with_reducible refine cl (spec_l1In.M v 0 999 _) B fun w4 hb B => ?_; replace RL10 := rn RL10 hb; clear hb)
      | (go_at_call 123; with_reducible refine cl (spec_l4Place.M _ _ l c _ (cb HR0 B)) B fun w5 hb B => ?_; replace RL10 := rn RL10 hb; clear hb)
      | ((with_reducible refine gate_builtin (b := .append) (xs := #[.tmp 56, .tmp 59]) rfl ?_); at_builtin; refine apx k61 61 rfl (.tmp 56) (.tmp 59) 31 (.agg #[.string (⟨#[]⟩ : ByteArray), .int .i64 (0)]) 24 rfl Try.underlying31 info61 rfl (by decide) (by omega) rfl rfl RL10 (C1.out (cb HR0 B)) (fun x cs h => by rw [k61_open h]; exact k61_mkM _ _ _ x) (by rw [← hz10]; simp only [List.length_append, List.length_nil, List.length_cons, List.length_take, List.length_drop]; omega) B ?_; intro z60 hz60 AL60 kL60 w6 hg B RL60 hat; clear hg hat)
      | ((with_reducible refine gate_dst (N := 65) rfl ?_); refine lt k61 61 ?hg (N := 65) ?hd ([⟨c, v⟩] : List S61) [.string c, .int .i64 (v)] ?hr (Reps.c2 (k61_mkM _ _ _ ⟨c, v⟩) (Reps.none _ _)) (by simp) B ?_; (case hd => rfl); (case hg => rfl); (case hr => first | (go_simp; done) | (go_simp; rfl)); intro z65 hz65 AL65 kL65 w7 hb B RL65 QL65; replace RL60 := rn RL60 hb; clear hb QL65)
      | ((with_reducible refine gate_builtin (b := .append) (xs := #[.tmp 61, .tmp 65]) rfl ?_); at_builtin; refine apx k61 61 rfl (.tmp 61) (.tmp 65) 31 (.agg #[.string (⟨#[]⟩ : ByteArray), .int .i64 (0)]) 24 rfl Try.underlying31 info61 rfl (by decide) (by omega) rfl rfl RL60 (rc RL65) (fun x cs h => by rw [k61_open h]; exact k61_mkM _ _ _ x) (by rw [← hz65, ← hz60, ← hz10]; simp only [List.length_append, List.length_nil, List.length_cons, List.length_take, List.length_drop]; omega) B ?_; intro z66 hz66 AL66 kL66 w8 hg B RL66 hat; clear hg hat)
      | ((with_reducible refine gate_builtin (b := .append) (xs := #[.tmp 67, .tmp 70]) rfl ?_); at_builtin; refine apx k61 61 rfl (.tmp 67) (.tmp 70) 31 (.agg #[.string (⟨#[]⟩ : ByteArray), .int .i64 (0)]) 24 rfl Try.underlying31 info61 rfl (by decide) (by omega) rfl rfl RL66 (C2.out (cb HR0 B)) (fun x cs h => by rw [k61_open h]; exact k61_mkM _ _ _ x) (by rw [← hz66, ← hz65, ← hz60, ← hz10]; simp only [List.length_append, List.length_nil, List.length_cons, List.length_take, List.length_drop]; omega) B ?_; intro z71 hz71 AL71 kL71 w9 hg B RL71 hat; clear hg hat))
     go_ret2; have hZ : z71 = (l.take (atP l c) ++ [⟨c, v⟩]) ++ l.drop (atP l c) := (by rw [← hz71, ← hz66, ← hz65, ← hz60, ← hz10]; try simp); exact ⟨_, by rw [hM]; rfl, by rw [hM, ← hZ]; exact RL71.out, B.out⟩
 ·have hM : putM l c v = ([], false) := if_neg hvv
  have hvn : prB l = false ∨ keyB c = false ∨ l1B v 0 999 = false := by grind
  clear hif hsz0 hc0
  go_enter Try.func114, Try.ntmps114
  go_wp2_with (first
   | ((with_reducible refine gate_dst (N := 10) rfl ?_); refine lt k61 61 ?hg (N := 10) ?hd ([] : List S61) [] ?hr (Reps.none _ _) (by simp) B ?_; (case hd => rfl); (case hg => rfl); (case hr => first | (go_simp; done) | (go_simp; rfl)); intro z10 hz10 AL10 kL10 w1 hb B RL10 QL10; clear hb QL10)
   | (go_at_call 48; with_reducible refine cl (spec_PairsValid.M _ _ l _ (cb HR0 B)) B fun w2 hb B => ?_; replace RL10 := rn RL10 hb; clear hb)
   | (go_at_call 89; with_reducible refine cl (spec_KeyValid.M c _) B fun w3 hb B => ?_; replace RL10 := rn RL10 hb; clear hb)
   | (go_at_call 90; with_reducible refine cl (spec_l1In.M v 0 999 _) B fun w4 hb B => ?_; replace RL10 := rn RL10 hb; clear hb))
  all_goals first
   | (go_ret2; have hZ : z10 = [] := (by rw [← hz10]; try simp); exact ⟨_, by rw [hM]; rfl, by rw [hM, ← hZ]; exact RL10.out, B.out⟩)
   | (exfalso; grind)

/-! A pair put makes one more at most. -/
theorem putM_len (l : List S61) (c : ByteArray) (v : Int) : (putM l c v).1.length ≤ l.length + 1 := by
  unfold putM
  have hat := atP_le l c
  split
  · split
    · simp only [List.length_append, List.length_take, List.length_drop, List.length_cons, List.length_nil]; omega
    · split
      · simp only; omega
      · simp only [List.length_append, List.length_take, List.length_drop, List.length_cons, List.length_nil]; omega
  · simp

theorem spec_l20Pairs.D (n : Int) (hn : n ≤ 1000000) (w W0 : World) (g : Nat) (bs : List Int) (p : Int) (hI : IsS119 w W0 g bs p) (hB : Below w.heap.size w W0) (hc : Dw.Code bs) (h0 : 0 ≤ p) (h1 : p ≤ 1099500000000) :
  Calls Try.prog 97 #[.pointer (some ⟨g, 0, none⟩), .int .i64 n] W0 fun e w' => ∃ v0 xs p', e = .returned (v0) ∧ (xs.length ≤ 300) ∧ Kd.R k61 61 w' w.heap.size (fun _ => True) v0 xs ∧ Fr W0 v0 ∧ Left w W0 g bs p 90 p' w' := by
 have hu := Try.underlying61
 have B := Aside0.mk hB
 have HI := Aside0.mk hI
 have HC := Aside0.mk hc
 have KK := Aside0.mk (Kept.refl W0 (RB g))
 clear hB hI hc
 go_enter Try.func97, Try.ntmps97
 go_wp2_with (first
  | ((with_reducible refine gate_dst (N := 12) rfl ?_); refine lt k61 61 ?hg (N := 12) ?hd ([] : List S61) [] ?hr (Reps.none _ _) (by simp) B ?_; (case hd => rfl); (case hg => rfl); (case hr => first | (go_simp; done) | (go_simp; rfl)); intro z12 hz12 AL12 kL12 w1 hb B RL12 QL12; have MRL12 := mrf QL12 KK; replace HI := hib HI hb; replace KK := kkb KK hb; clear hb QL12; subst hz12)
  | (go_at_call 79; (with_reducible refine cg1 (spec_l20Rd_pick.D 9 w _ g bs p HI.out B.out HC.out (by omega) (by omega)) fun x2 p2 hx2 hp2 w2 hk B HI2 => ?_); replace RL12 := rkr RL12 HI (by decide) hk; replace KK := kkr KK hk; replace HI := HI2; clear hk; skip))
 have hx1 := hx2.1
 have hx2 := hx2.2.1 (by omega)
 obtain ⟨m0, rfl⟩ : ∃ m : Nat, x2 = (m : Int) := ⟨x2.toNat, by omega⟩
 go_loopg [5, 6] (m0 + 1) (fun kx v5 v6 wr => ∃ (m : Nat) (xs : List S61) (pp : Int), v6 = .int .i64 (m : Int) ∧ m < kx ∧ m ≤ 8 ∧ xs.length + m ≤ 8 ∧ (p ≤ pp ∧ pp + 9 * (m : Int) ≤ p + 80) ∧ Aside0 (IsS119 w wr g bs pp) ∧ Aside0 (Kept W0 wr (RB g)) ∧ Aside0 (Below w.heap.size w wr) ∧ Aside0 (Ow k61 61 wr w.heap.size v5 xs) ∧ Aside0 (Fr W0 v5))
 case atStart => exact ⟨m0, [], _, rfl, by omega, by omega, by simp only [List.length_nil]; omega, by omega, HI, KK, B, RL12, MRL12⟩
 case round =>
  clear HI KK B RL12 MRL12
  obtain ⟨m, xs, pp, rfl, hm, hm8, hxl, hpp, HI, KK, B, Rp5, MRp5⟩ := hrel
  obtain ⟨A5, k5, rfl⟩ := Kd.R_slice Rp5.out
  by_cases hm0 : 0 < m
  ·obtain ⟨d, rfl⟩ : ∃ d, gk = d + 1 := ⟨gk - 1, by omega⟩
   have cj : decide ((0 : Int) < (m : Int)) = true := decide_eq_true (by omega)
   have hw : wrap64 ((m : Int) - 1) = ((m - 1 : Nat) : Int) := by unfold wrap64; omega
   go_wp2_with (first
    | (go_at_call 78; (with_reducible refine cg1 (spec_l20Key.D 0 (by omega) w _ g bs pp HI.out B.out HC.out (by omega) (by omega)) fun x301 p301 hx301 hp301 w301 hk B HI2 => ?_); replace Rp5 := rkr Rp5 HI (by decide) hk; replace KK := kkr KK hk; replace HI := HI2; clear hk; skip)
    | (go_at_call 115; (with_reducible refine cg1 (spec_l20Value.D 0 (by omega) w _ g bs p301 HI.out B.out HC.out (by omega) (by omega)) fun x302 p302 hx302 hp302 w302 hk B HI2 => ?_); replace Rp5 := rkr Rp5 HI (by decide) hk; replace KK := kkr KK hk; replace HI := HI2; clear hk; skip)
    | (go_at_call 114; with_reducible refine crz (spec_PairPut.M _ _ xs x301 x302 _ (rc Rp5) (rl Rp5)) B fun zC303 hzC303 AC303 kC303 w303 hb B RC303 QC303 => ?_; have MRC303 := mrf QC303 KK; replace Rp5 := rn Rp5 hb; replace HI := hib HI hb; replace KK := kkb KK hb; clear QC303; clear hb))
   go_roundg d
   case measure => omega
   case rel => exact ⟨m - 1, zC303, _, congrArg (Value.int .i64) (by omega), by omega, by omega, by rw [← hzC303]; have := putM_len xs x301 x302; omega, by omega, HI, KK, B, RC303, MRC303⟩
  ·have cj : decide ((0 : Int) < (m : Int)) = false := decide_eq_false (by omega)
   go_wp2_with (first
    | (go_at_call 79; (with_reducible refine cg1 (spec_l20Rd_pick.D 16 w _ g bs pp HI.out B.out HC.out (by omega) (by omega)) fun x501 p501 hx501 hp501 w501 hk B HI2 => ?_); replace Rp5 := rkr Rp5 HI (by decide) hk; replace KK := kkr KK hk; replace HI := HI2; clear hk; skip))
   ·rename_i hb7
    clear hb7 hx501
    go_loopg [5, 9] 201 (fun kx v5 v9 wr => ∃ (i : Nat) (xs : List S61) (pp : Int), v9 = .int .i64 (i : Int) ∧ i ≤ 200 ∧ 200 < i + kx ∧ xs.length ≤ 48 ∧ (p ≤ pp ∧ pp ≤ p + 81) ∧ Aside0 (IsS119 w wr g bs pp) ∧ Aside0 (Kept W0 wr (RB g)) ∧ Aside0 (Below w.heap.size w wr) ∧ Aside0 (Ow k61 61 wr w.heap.size v5 xs) ∧ Aside0 (Fr W0 v5))
    case atStart => exact ⟨0, xs, _, rfl, by omega, by omega, by omega, by omega, HI, KK, B, Rp5, MRp5⟩
    case round =>
     clear HI KK B Rp5 MRp5 hxl hpp hp501
     obtain ⟨i, xs, pp, rfl, hi, hk2, hxl, hpp, HI, KK, B, Rp5, MRp5⟩ := hrel
     obtain ⟨A5, k5, rfl⟩ := Kd.R_slice Rp5.out
     by_cases hgo : xs.length < 48 ∧ i < 200
     ·obtain ⟨d, rfl⟩ : ∃ d, gk = d + 1 := ⟨gk - 1, by omega⟩
      have c1 : decide ((xs.length : Int) < 48) = true := decide_eq_true (by omega)
      have c2 : decide ((i : Int) < 200) = true := decide_eq_true (by omega)
      go_wp2_with (first
       | (go_at_call 116; with_reducible refine cx (spec_KeyAt.D _ _) B fun x701 hx701 w701 hb B => ?_; replace Rp5 := rn Rp5 hb; replace HI := hib HI hb; replace KK := kkb KK hb; clear hb)
       | (go_at_call 114; with_reducible refine crz (spec_PairPut.M _ _ xs x701 (i : Int) _ (rc Rp5) (rl Rp5)) B fun zC702 hzC702 AC702 kC702 w702 hb B RC702 QC702 => ?_; have MRC702 := mrf QC702 KK; replace Rp5 := rn Rp5 hb; replace HI := hib HI hb; replace KK := kkb KK hb; clear QC702; clear hb))
      go_roundg d
      case measure => omega
      case rel => exact ⟨i + 1, zC702, _, congrArg (Value.int .i64) (by omega), by omega, by omega, by rw [← hzC702]; have := putM_len xs x701 (i : Int); omega, by omega, HI, KK, B, RC702, MRC702⟩
     ·have cc : (decide ((xs.length : Int) < 48) && decide ((i : Int) < 200)) = false := by simp only [Bool.and_eq_false_iff, decide_eq_false_iff_not]; omega
      by_cases hl : xs.length < 48
      ·have c1 : decide ((xs.length : Int) < 48) = true := decide_eq_true (by omega)
       have c2 : decide ((i : Int) < 200) = false := decide_eq_false (by omega)
       go_wp2_with (first
        | (go_at_call 99; (with_reducible refine cg1 (spec_l20Rd_odd.D n (by omega) w _ g bs pp HI.out B.out HC.out (by omega) (by omega)) fun x901 p901 hx901 hp901 w901 hk B HI2 => ?_); replace Rp5 := rkr Rp5 HI (by decide) hk; replace KK := kkr KK hk; replace HI := HI2; clear hk; skip)
        | ((with_reducible refine gate_dst (N := 60) rfl ?_); refine lt k61 61 ?hg (N := 60) ?hd ([⟨(⟨#[]⟩ : ByteArray), 0⟩, ⟨(⟨#[122, 122, 122, 122]⟩ : ByteArray), -1⟩, ⟨(⟨#[122, 122, 122, 122]⟩ : ByteArray), 1000⟩, ⟨(⟨#[97]⟩ : ByteArray), 1⟩, ⟨(⟨#[65]⟩ : ByteArray), 0⟩] : List S61) [.string (⟨#[]⟩ : ByteArray), .int .i64 (0), .string (⟨#[122, 122, 122, 122]⟩ : ByteArray), .int .i64 (-1), .string (⟨#[122, 122, 122, 122]⟩ : ByteArray), .int .i64 (1000), .string (⟨#[97]⟩ : ByteArray), .int .i64 (1), .string (⟨#[65]⟩ : ByteArray), .int .i64 (0)] ?hr (Reps.c2 (k61_mkM _ _ _ ⟨(⟨#[]⟩ : ByteArray), 0⟩) (Reps.c2 (k61_mkM _ _ _ ⟨(⟨#[122, 122, 122, 122]⟩ : ByteArray), -1⟩) (Reps.c2 (k61_mkM _ _ _ ⟨(⟨#[122, 122, 122, 122]⟩ : ByteArray), 1000⟩) (Reps.c2 (k61_mkM _ _ _ ⟨(⟨#[97]⟩ : ByteArray), 1⟩) (Reps.c2 (k61_mkM _ _ _ ⟨(⟨#[65]⟩ : ByteArray), 0⟩) (Reps.none _ _)))))) (by simp) B ?_; (case hd => rfl); (case hg => rfl); (case hr => first | (go_simp; done) | (go_simp; rfl)); intro z60 hz60 AL60 kL60 w951 hb B RL60 QL60; have MRL60 := mrf QL60 KK; replace Rp5 := rn Rp5 hb; replace HI := hib HI hb; replace KK := kkb KK hb; clear hb QL60)
        | (go_at_call 79; (with_reducible refine cg1 (spec_l20Rd_pick.D 5 w _ g bs p901 HI.out B.out HC.out (by omega) (by omega)) fun x952 p952 hx952 hp952 w952 hk B HI2 => ?_); replace Rp5 := rkr Rp5 HI (by decide) hk; replace RL60 := rkr RL60 HI (by decide) hk; replace KK := kkr KK hk; replace HI := HI2; clear hk; skip; have hi952 : x952 < (z60.length : Int) := (by rw [← hz60]; have := hx952.2.1 (by omega); simpa using this); obtain ⟨ad952, hA952, y952_0, y952_1⟩ := at_T61 (rc RL60) x952 hx952.1 hi952; have hj952 := hx952.1; generalize rd_T61 z60 x952 = y952 at *; cases hA952; have j952 := eq_true hj952; have i952 := eq_true hi952)
        | ((with_reducible refine gate_dst (N := 65) rfl ?_); refine lt k61 61 ?hg (N := 65) ?hd ([⟨y952.f0, y952.f1⟩] : List S61) [.string y952.f0, .int .i64 (y952.f1)] ?hr (Reps.c2 (k61_mkM _ _ _ ⟨y952.f0, y952.f1⟩) (Reps.none _ _)) (by simp) B ?_; (case hd => rfl); (case hg => rfl); (case hr => first | (go_simp; done) | (go_simp; rfl)); intro z65 hz65 AL65 kL65 w953 hb B RL65 QL65; have MRL65 := mrf QL65 KK; replace Rp5 := rn Rp5 hb; replace HI := hib HI hb; replace KK := kkb KK hb; clear hb QL65)
        | ((with_reducible refine gate_builtin (b := .append) (xs := #[.tmp 54, .tmp 65]) rfl ?_); at_builtin; refine apx k61 61 rfl (.tmp 54) (.tmp 65) 31 (.agg #[.string (⟨#[]⟩ : ByteArray), .int .i64 (0)]) 24 rfl Try.underlying31 info61 rfl (by decide) (by omega) rfl rfl Rp5 (rc RL65) (fun x cs h => by rw [k61_open h]; exact k61_mkM _ _ _ x) (by rw [← hz65]; simp only [List.length_cons, List.length_nil]; omega) B ?_; intro z66 hz66 AL66 kL66 w954 hg B RL66 hat; replace HI := hig HI Rp5 (by decide) hg; have MRL66 := mra hat MRp5 KK; replace KK := kkg KK MRp5 hg; clear hg hat))
       all_goals go_ret
       all_goals first
        | exact ⟨_, _, _, rfl, by omega, Rp5.out, MRp5.out, ⟨by omega, by omega⟩, HI.out, B.out, KK.out⟩
        | exact ⟨_, _, _, rfl, by rw [← hz66, ← hz65]; simp only [List.length_append, List.length_cons, List.length_nil]; omega, RL66.out, MRL66.out, ⟨by omega, by omega⟩, HI.out, B.out, KK.out⟩
      ·have c1 : decide ((xs.length : Int) < 48) = false := decide_eq_false (by omega)
       go_wp2_with (first
        | (go_at_call 99; (with_reducible refine cg1 (spec_l20Rd_odd.D n (by omega) w _ g bs pp HI.out B.out HC.out (by omega) (by omega)) fun x1001 p1001 hx1001 hp1001 w1001 hk B HI2 => ?_); replace Rp5 := rkr Rp5 HI (by decide) hk; replace KK := kkr KK hk; replace HI := HI2; clear hk; skip)
        | ((with_reducible refine gate_dst (N := 60) rfl ?_); refine lt k61 61 ?hg (N := 60) ?hd ([⟨(⟨#[]⟩ : ByteArray), 0⟩, ⟨(⟨#[122, 122, 122, 122]⟩ : ByteArray), -1⟩, ⟨(⟨#[122, 122, 122, 122]⟩ : ByteArray), 1000⟩, ⟨(⟨#[97]⟩ : ByteArray), 1⟩, ⟨(⟨#[65]⟩ : ByteArray), 0⟩] : List S61) [.string (⟨#[]⟩ : ByteArray), .int .i64 (0), .string (⟨#[122, 122, 122, 122]⟩ : ByteArray), .int .i64 (-1), .string (⟨#[122, 122, 122, 122]⟩ : ByteArray), .int .i64 (1000), .string (⟨#[97]⟩ : ByteArray), .int .i64 (1), .string (⟨#[65]⟩ : ByteArray), .int .i64 (0)] ?hr (Reps.c2 (k61_mkM _ _ _ ⟨(⟨#[]⟩ : ByteArray), 0⟩) (Reps.c2 (k61_mkM _ _ _ ⟨(⟨#[122, 122, 122, 122]⟩ : ByteArray), -1⟩) (Reps.c2 (k61_mkM _ _ _ ⟨(⟨#[122, 122, 122, 122]⟩ : ByteArray), 1000⟩) (Reps.c2 (k61_mkM _ _ _ ⟨(⟨#[97]⟩ : ByteArray), 1⟩) (Reps.c2 (k61_mkM _ _ _ ⟨(⟨#[65]⟩ : ByteArray), 0⟩) (Reps.none _ _)))))) (by simp) B ?_; (case hd => rfl); (case hg => rfl); (case hr => first | (go_simp; done) | (go_simp; rfl)); intro z60 hz60 AL60 kL60 w1051 hb B RL60 QL60; have MRL60 := mrf QL60 KK; replace Rp5 := rn Rp5 hb; replace HI := hib HI hb; replace KK := kkb KK hb; clear hb QL60)
        | (go_at_call 79; (with_reducible refine cg1 (spec_l20Rd_pick.D 5 w _ g bs p1001 HI.out B.out HC.out (by omega) (by omega)) fun x1052 p1052 hx1052 hp1052 w1052 hk B HI2 => ?_); replace Rp5 := rkr Rp5 HI (by decide) hk; replace RL60 := rkr RL60 HI (by decide) hk; replace KK := kkr KK hk; replace HI := HI2; clear hk; skip; have hi1052 : x1052 < (z60.length : Int) := (by rw [← hz60]; have := hx1052.2.1 (by omega); simpa using this); obtain ⟨ad1052, hA1052, y1052_0, y1052_1⟩ := at_T61 (rc RL60) x1052 hx1052.1 hi1052; have hj1052 := hx1052.1; generalize rd_T61 z60 x1052 = y1052 at *; cases hA1052; have j1052 := eq_true hj1052; have i1052 := eq_true hi1052)
        | ((with_reducible refine gate_dst (N := 65) rfl ?_); refine lt k61 61 ?hg (N := 65) ?hd ([⟨y1052.f0, y1052.f1⟩] : List S61) [.string y1052.f0, .int .i64 (y1052.f1)] ?hr (Reps.c2 (k61_mkM _ _ _ ⟨y1052.f0, y1052.f1⟩) (Reps.none _ _)) (by simp) B ?_; (case hd => rfl); (case hg => rfl); (case hr => first | (go_simp; done) | (go_simp; rfl)); intro z65 hz65 AL65 kL65 w1053 hb B RL65 QL65; have MRL65 := mrf QL65 KK; replace Rp5 := rn Rp5 hb; replace HI := hib HI hb; replace KK := kkb KK hb; clear hb QL65)
        | ((with_reducible refine gate_builtin (b := .append) (xs := #[.tmp 54, .tmp 65]) rfl ?_); at_builtin; refine apx k61 61 rfl (.tmp 54) (.tmp 65) 31 (.agg #[.string (⟨#[]⟩ : ByteArray), .int .i64 (0)]) 24 rfl Try.underlying31 info61 rfl (by decide) (by omega) rfl rfl Rp5 (rc RL65) (fun x cs h => by rw [k61_open h]; exact k61_mkM _ _ _ x) (by rw [← hz65]; simp only [List.length_cons, List.length_nil]; omega) B ?_; intro z66 hz66 AL66 kL66 w1054 hg B RL66 hat; replace HI := hig HI Rp5 (by decide) hg; have MRL66 := mra hat MRp5 KK; replace KK := kkg KK MRp5 hg; clear hg hat))
       all_goals go_ret
       all_goals first
        | exact ⟨_, _, _, rfl, by omega, Rp5.out, MRp5.out, ⟨by omega, by omega⟩, HI.out, B.out, KK.out⟩
        | exact ⟨_, _, _, rfl, by rw [← hz66, ← hz65]; simp only [List.length_append, List.length_cons, List.length_nil]; omega, RL66.out, MRL66.out, ⟨by omega, by omega⟩, HI.out, B.out, KK.out⟩
   ·go_wp2_with (first
     | (go_at_call 99; (with_reducible refine cg1 (spec_l20Rd_odd.D n (by omega) w _ g bs p501 HI.out B.out HC.out (by omega) (by omega)) fun x1101 p1101 hx1101 hp1101 w1101 hk B HI2 => ?_); replace Rp5 := rkr Rp5 HI (by decide) hk; replace KK := kkr KK hk; replace HI := HI2; clear hk; skip)
     | ((with_reducible refine gate_dst (N := 60) rfl ?_); refine lt k61 61 ?hg (N := 60) ?hd ([⟨(⟨#[]⟩ : ByteArray), 0⟩, ⟨(⟨#[122, 122, 122, 122]⟩ : ByteArray), -1⟩, ⟨(⟨#[122, 122, 122, 122]⟩ : ByteArray), 1000⟩, ⟨(⟨#[97]⟩ : ByteArray), 1⟩, ⟨(⟨#[65]⟩ : ByteArray), 0⟩] : List S61) [.string (⟨#[]⟩ : ByteArray), .int .i64 (0), .string (⟨#[122, 122, 122, 122]⟩ : ByteArray), .int .i64 (-1), .string (⟨#[122, 122, 122, 122]⟩ : ByteArray), .int .i64 (1000), .string (⟨#[97]⟩ : ByteArray), .int .i64 (1), .string (⟨#[65]⟩ : ByteArray), .int .i64 (0)] ?hr (Reps.c2 (k61_mkM _ _ _ ⟨(⟨#[]⟩ : ByteArray), 0⟩) (Reps.c2 (k61_mkM _ _ _ ⟨(⟨#[122, 122, 122, 122]⟩ : ByteArray), -1⟩) (Reps.c2 (k61_mkM _ _ _ ⟨(⟨#[122, 122, 122, 122]⟩ : ByteArray), 1000⟩) (Reps.c2 (k61_mkM _ _ _ ⟨(⟨#[97]⟩ : ByteArray), 1⟩) (Reps.c2 (k61_mkM _ _ _ ⟨(⟨#[65]⟩ : ByteArray), 0⟩) (Reps.none _ _)))))) (by simp) B ?_; (case hd => rfl); (case hg => rfl); (case hr => first | (go_simp; done) | (go_simp; rfl)); intro z60 hz60 AL60 kL60 w1151 hb B RL60 QL60; have MRL60 := mrf QL60 KK; replace Rp5 := rn Rp5 hb; replace HI := hib HI hb; replace KK := kkb KK hb; clear hb QL60)
     | (go_at_call 79; (with_reducible refine cg1 (spec_l20Rd_pick.D 5 w _ g bs p1101 HI.out B.out HC.out (by omega) (by omega)) fun x1152 p1152 hx1152 hp1152 w1152 hk B HI2 => ?_); replace Rp5 := rkr Rp5 HI (by decide) hk; replace RL60 := rkr RL60 HI (by decide) hk; replace KK := kkr KK hk; replace HI := HI2; clear hk; skip; have hi1152 : x1152 < (z60.length : Int) := (by rw [← hz60]; have := hx1152.2.1 (by omega); simpa using this); obtain ⟨ad1152, hA1152, y1152_0, y1152_1⟩ := at_T61 (rc RL60) x1152 hx1152.1 hi1152; have hj1152 := hx1152.1; generalize rd_T61 z60 x1152 = y1152 at *; cases hA1152; have j1152 := eq_true hj1152; have i1152 := eq_true hi1152)
     | ((with_reducible refine gate_dst (N := 65) rfl ?_); refine lt k61 61 ?hg (N := 65) ?hd ([⟨y1152.f0, y1152.f1⟩] : List S61) [.string y1152.f0, .int .i64 (y1152.f1)] ?hr (Reps.c2 (k61_mkM _ _ _ ⟨y1152.f0, y1152.f1⟩) (Reps.none _ _)) (by simp) B ?_; (case hd => rfl); (case hg => rfl); (case hr => first | (go_simp; done) | (go_simp; rfl)); intro z65 hz65 AL65 kL65 w1153 hb B RL65 QL65; have MRL65 := mrf QL65 KK; replace Rp5 := rn Rp5 hb; replace HI := hib HI hb; replace KK := kkb KK hb; clear hb QL65)
     | ((with_reducible refine gate_builtin (b := .append) (xs := #[.tmp 54, .tmp 65]) rfl ?_); at_builtin; refine apx k61 61 rfl (.tmp 54) (.tmp 65) 31 (.agg #[.string (⟨#[]⟩ : ByteArray), .int .i64 (0)]) 24 rfl Try.underlying31 info61 rfl (by decide) (by omega) rfl rfl Rp5 (rc RL65) (fun x cs h => by rw [k61_open h]; exact k61_mkM _ _ _ x) (by rw [← hz65]; simp only [List.length_cons, List.length_nil]; omega) B ?_; intro z66 hz66 AL66 kL66 w1154 hg B RL66 hat; replace HI := hig HI Rp5 (by decide) hg; have MRL66 := mra hat MRp5 KK; replace KK := kkg KK MRp5 hg; clear hg hat))
    all_goals go_ret
    all_goals first
     | exact ⟨_, _, _, rfl, by omega, Rp5.out, MRp5.out, ⟨by omega, by omega⟩, HI.out, B.out, KK.out⟩
     | exact ⟨_, _, _, rfl, by rw [← hz66, ← hz65]; simp only [List.length_append, List.length_cons, List.length_nil]; omega, RL66.out, MRL66.out, ⟨by omega, by omega⟩, HI.out, B.out, KK.out⟩


theorem spec_l20Session.D (n : Int) (hn : n ≤ 1000000) (w W0 : World) (g : Nat) (bs : List Int) (p : Int) (hI : IsS119 w W0 g bs p) (hB : Below w.heap.size w W0) (hc : Dw.Code bs) (h0 : 0 ≤ p) (h1 : p ≤ 1099505000000) :
  Calls Try.prog 117 #[.pointer (some ⟨g, 0, none⟩), .int .i64 n] W0 fun e w' => ∃ x y u p', e = .returned (.agg #[.int .i64 x, .int .i64 y, .int .i64 u]) ∧ (True) ∧ Left w W0 g bs p 5 p' w' := by
 have hu := Try.underlying100
 have B := Aside0.mk hB
 have HI := Aside0.mk hI
 have HC := Aside0.mk hc
 have KK := Aside0.mk (Kept.refl W0 (RB g))
 clear hB hI hc
 go_enter Try.func117, Try.ntmps117
 go_wp2_with (first
  | ((with_reducible refine gate_dst (N := 4) rfl ?_); refine bx ?hg (N := 4) ?hd (cs := #[.int .i64 (0), .int .i64 (0), .int .i64 (0)]) (t := 100) ?hr B ?_; (case hd => rfl); (case hg => rfl); (case hr => first | (go_simp; done) | (go_simp; rfl)); intro g4 w1 hb B F4 L4 E4; have M4 := mbx E4 KK; replace HI := hib HI hb; replace KK := kkb KK hb; clear hb E4)
  | (go_at_call 99; (with_reducible refine cg1 (spec_l20Rd_odd.D n (by omega) w _ g bs p HI.out B.out HC.out (by omega) (by omega)) fun x2 p2 hx2 hp2 w2 hk B HI2 => ?_); replace F4 := bkr F4 HI (by decide) hk; replace KK := kkr KK hk; replace HI := HI2; clear hk; skip)
  | ((with_reducible refine gate_dst (N := 14) rfl ?_); refine lt k100 100 ?hg (N := 14) ?hd ([⟨-1, 1, 0⟩, ⟨4, 1, 0⟩, ⟨1, 0, 0⟩, ⟨1, 1000, 0⟩, ⟨1, 1, -3⟩, ⟨1, 1, 1000⟩] : List S100) [.int .i64 (-1), .int .i64 (1), .int .i64 (0), .int .i64 (4), .int .i64 (1), .int .i64 (0), .int .i64 (1), .int .i64 (0), .int .i64 (0), .int .i64 (1), .int .i64 (1000), .int .i64 (0), .int .i64 (1), .int .i64 (1), .int .i64 (-3), .int .i64 (1), .int .i64 (1), .int .i64 (1000)] ?hr (Reps.c3 (k100_mkM _ _ _ ⟨-1, 1, 0⟩) (Reps.c3 (k100_mkM _ _ _ ⟨4, 1, 0⟩) (Reps.c3 (k100_mkM _ _ _ ⟨1, 0, 0⟩) (Reps.c3 (k100_mkM _ _ _ ⟨1, 1000, 0⟩) (Reps.c3 (k100_mkM _ _ _ ⟨1, 1, -3⟩) (Reps.c3 (k100_mkM _ _ _ ⟨1, 1, 1000⟩) (Reps.none _ _))))))) (by simp) B ?_; (case hd => rfl); (case hg => rfl); (case hr => first | (go_simp; done) | (go_simp; rfl)); intro z14 hz14 AL14 kL14 w51 hb B RL14 QL14; have NB4_L14 := nb QL14 F4; have MRL14 := mrf QL14 KK; replace F4 := bn F4 hb; replace HI := hib HI hb; replace KK := kkb KK hb; clear hb QL14)
  | (go_at_call 79; (with_reducible refine cg1 (spec_l20Rd_pick.D 6 w _ g bs p2 HI.out B.out HC.out (by omega) (by omega)) fun x52 p52 hx52 hp52 w52 hk B HI2 => ?_); replace F4 := bkr F4 HI (by decide) hk; replace RL14 := rkr RL14 HI (by decide) hk; replace KK := kkr KK hk; replace HI := HI2; clear hk; skip; have hi52 : x52 < (z14.length : Int) := (by rw [← hz14]; have := hx52.2.1 (by omega); simpa using this); obtain ⟨ad52, hA52, y52_0, y52_1, y52_2⟩ := at_T100 (rc RL14) x52 hx52.1 hi52; have hj52 := hx52.1; generalize rd_T100 z14 x52 = y52 at *; cases hA52; have j52 := eq_true hj52; have i52 := eq_true hi52)
  | ((with_reducible refine gate_store (t := 100) (p := 4) rfl ?_); obtain ⟨y0, y1, y2⟩ := cs3 F4; have z0 := fz F4 0; have z1 := fz F4 1; have z2 := fz F4 2; refine sx (t := 100) (t' := 100) (p := 4) (v := ?vo53) ?hg ?ho ?hn 0 [.int .i64 (y52.f0), .int .i64 (y52.f1), .int .i64 (y52.f2)] [.int .i64 (y52.f0), .int .i64 (y52.f1), .int .i64 (y52.f2)] ?hr B F4 L4 rfl (Nat.le_of_ble_eq_true rfl) ?_; (case ho => rfl); (case hg => rfl); (case hn => rfl); (case hr => first | (go_simp; done) | (go_simp; rfl)); intro w53 hk B G; replace RL14 := rkn RL14 hk NB4_L14; replace HI := his HI F4 (by decide) hk; replace KK := kks KK M4 hk; replace F4 := G; clear hk y0 z0 y1 z1 y2 z2)
  | (go_at_call 79; (with_reducible refine cg1 (spec_l20Rd_pick.D 4 w _ g bs p2 HI.out B.out HC.out (by omega) (by omega)) fun x101 p101 hx101 hp101 w101 hk B HI2 => ?_); replace F4 := bkr F4 HI (by decide) hk; replace KK := kkr KK hk; replace HI := HI2; clear hk; skip)
  | (go_at_call 79; (with_reducible refine cg1 (spec_l20Rd_pick.D 6 w _ g bs p101 HI.out B.out HC.out (by omega) (by omega)) fun x102 p102 hx102 hp102 w102 hk B HI2 => ?_); replace F4 := bkr F4 HI (by decide) hk; replace KK := kkr KK hk; replace HI := HI2; clear hk; skip)
  | (go_at_call 79; (with_reducible refine cg1 (spec_l20Rd_pick.D 9 w _ g bs p102 HI.out B.out HC.out (by omega) (by omega)) fun x103 p103 hx103 hp103 w103 hk B HI2 => ?_); replace F4 := bkr F4 HI (by decide) hk; replace KK := kkr KK hk; replace HI := HI2; clear hk; skip)
  | ((with_reducible refine gate_store (t := 100) (p := 4) rfl ?_); obtain ⟨y0, y1, y2⟩ := cs3 F4; have z0 := fz F4 0; have z1 := fz F4 1; have z2 := fz F4 2; refine sx (t := 100) (t' := 100) (p := 4) (v := ?vo104) ?hg ?ho ?hn 0 [.int .i64 (x101), .int .i64 (1 + x102), .int .i64 (x103 + -2)] [.int .i64 (x101), .int .i64 (1 + x102), .int .i64 (x103 + -2)] ?hr B F4 L4 rfl (Nat.le_of_ble_eq_true rfl) ?_; (case ho => rfl); (case hg => rfl); (case hn => rfl); (case hr => first | (go_simp; done) | (go_simp; rfl)); intro w104 hk B G; replace HI := his HI F4 (by decide) hk; replace KK := kks KK M4 hk; replace F4 := G; clear hk y0 z0 y1 z1 y2 z2))
 all_goals (refine bodyPost_ret (results_single rfl (.cell g4 100 _ (0, 0) _ rfl F4.out hu rfl (by kernel_rfl) .nil)) rfl ?_)
 all_goals exact ⟨_, _, _, _, rfl, trivial, ⟨by omega, by omega⟩, HI.out, B.out, KK.out⟩
theorem spec_l20Sessions.D (n : Int) (hn : n ≤ 1000000) (w W0 : World) (g : Nat) (bs : List Int) (p : Int) (hI : IsS119 w W0 g bs p) (hB : Below w.heap.size w W0) (hc : Dw.Code bs) (h0 : 0 ≤ p) (h1 : p ≤ 1099500000000) :
  Calls Try.prog 98 #[.pointer (some ⟨g, 0, none⟩), .int .i64 n] W0 fun e w' => ∃ v0 xs p', e = .returned (v0) ∧ (xs.length ≤ 300) ∧ Kd.R k100 100 w' w.heap.size (fun _ => True) v0 xs ∧ Fr W0 v0 ∧ Left w W0 g bs p 70 p' w' := by
 have hu := Try.underlying100
 have B := Aside0.mk hB
 have HI := Aside0.mk hI
 have HC := Aside0.mk hc
 have KK := Aside0.mk (Kept.refl W0 (RB g))
 clear hB hI hc
 go_enter Try.func98, Try.ntmps98
 go_wp2_with (first
  | ((with_reducible refine gate_dst (N := 9) rfl ?_); refine lt k100 100 ?hg (N := 9) ?hd ([] : List S100) [] ?hr (Reps.none _ _) (by simp) B ?_; (case hd => rfl); (case hg => rfl); (case hr => first | (go_simp; done) | (go_simp; rfl)); intro z9 hz9 AL9 kL9 w1 hb B RL9 QL9; have MRL9 := mrf QL9 KK; replace HI := hib HI hb; replace KK := kkb KK hb; clear hb QL9; subst hz9)
  | (go_at_call 79; (with_reducible refine cg1 (spec_l20Rd_pick.D 5 w _ g bs p HI.out B.out HC.out (by omega) (by omega)) fun x2 p2 hx2 hp2 w2 hk B HI2 => ?_); replace RL9 := rkr RL9 HI (by decide) hk; replace KK := kkr KK hk; replace HI := HI2; clear hk; skip))
 have hx1 := hx2.1
 have hx2 := hx2.2.1 (by omega)
 obtain ⟨m0, rfl⟩ : ∃ m : Nat, x2 = (m : Int) := ⟨x2.toNat, by omega⟩
 go_loopg [5, 6] (m0 + 1) (fun kx v5 v6 wr => ∃ (m : Nat) (xs : List S100) (pp : Int), v6 = .int .i64 (m : Int) ∧ m < kx ∧ m ≤ 4 ∧ xs.length + m ≤ 4 ∧ (p ≤ pp ∧ pp + 5 * (m : Int) ≤ p + 30) ∧ Aside0 (IsS119 w wr g bs pp) ∧ Aside0 (Kept W0 wr (RB g)) ∧ Aside0 (Below w.heap.size w wr) ∧ Aside0 (Ow k100 100 wr w.heap.size v5 xs) ∧ Aside0 (Fr W0 v5))
 case atStart => exact ⟨m0, [], _, rfl, by omega, by omega, by simp only [List.length_nil]; omega, by omega, HI, KK, B, RL9, MRL9⟩
 case round =>
  clear HI KK B RL9 MRL9
  obtain ⟨m, xs, pp, rfl, hm, hm8, hxl, hpp, HI, KK, B, Rp5, MRp5⟩ := hrel
  obtain ⟨A5, k5, rfl⟩ := Kd.R_slice Rp5.out
  by_cases hm0 : 0 < m
  ·obtain ⟨d, rfl⟩ : ∃ d, gk = d + 1 := ⟨gk - 1, by omega⟩
   have cj : decide ((0 : Int) < (m : Int)) = true := decide_eq_true (by omega)
   go_wp2_with (first
    | (go_at_call 117; (with_reducible refine cg3 (spec_l20Session.D 0 (by omega) w _ g bs pp HI.out B.out HC.out (by omega) (by omega)) fun x301 y301 u301 p301 hx301 hp301 w301 hk B HI2 => ?_); replace Rp5 := rkr Rp5 HI (by decide) hk; replace KK := kkr KK hk; replace HI := HI2; clear hk; skip)
    | (go_at_call 110; with_reducible refine crz (spec_SessionPut.M _ _ xs x301 y301 u301 _ (rc Rp5) (rl Rp5)) B fun zU302 hzU302 AU302 kU302 w302 hb B RU302 QU302 => ?_; have MRU302 := mrf QU302 KK; replace Rp5 := rn Rp5 hb; replace HI := hib HI hb; replace KK := kkb KK hb; clear QU302; clear hb))
   go_roundg d
   case measure => omega
   case rel => exact ⟨m - 1, zU302, _, congrArg (Value.int .i64) (by omega), by omega, by omega, by rw [← hzU302]; have := putB_length xs ⟨x301, y301, u301⟩; omega, by omega, HI, KK, B, RU302, MRU302⟩
  ·have cj : decide ((0 : Int) < (m : Int)) = false := decide_eq_false (by omega)
   go_wp2_with (first
    | (go_at_call 99; (with_reducible refine cg1 (spec_l20Rd_odd.D n (by omega) w _ g bs pp HI.out B.out HC.out (by omega) (by omega)) fun x501 p501 hx501 hp501 w501 hk B HI2 => ?_); replace Rp5 := rkr Rp5 HI (by decide) hk; replace KK := kkr KK hk; replace HI := HI2; clear hk; skip)
    | (go_at_call 79; (with_reducible refine cg1 (spec_l20Rd_pick.D 2 w _ g bs p501 HI.out B.out HC.out (by omega) (by omega)) fun x601 p601 hx601 hp601 w601 hk B HI2 => ?_); replace Rp5 := rkr Rp5 HI (by decide) hk; replace KK := kkr KK hk; replace HI := HI2; clear hk; skip)
    | ((with_reducible refine gate_builtin (b := .append) (xs := #[.tmp 30, .tmp 31]) rfl ?_); at_builtin; refine apx k100 100 rfl (.tmp 30) (.tmp 31) 32 (.agg #[.int .i64 (0), .int .i64 (0), .int .i64 (0)]) 24 rfl Try.underlying32 info100 rfl (by decide) (by omega) rfl rfl Rp5 (rc Rp5) (fun x cs h => by rw [k100_open h]; exact k100_mkM _ _ _ x) (by omega) B ?_; intro z32 hz32 AL32 kL32 w701 hg B RL32 hat; replace HI := hig HI Rp5 (by decide) hg; have MRL32 := mra hat MRp5 KK; replace KK := kkg KK MRp5 hg; clear hg hat)
    | (go_at_call 117; (with_reducible refine cg3 (spec_l20Session.D 1 (by omega) w _ g bs p601 HI.out B.out HC.out (by omega) (by omega)) fun x801 y801 u801 p801 hx801 hp801 w801 hk B HI2 => ?_); replace Rp5 := rkr Rp5 HI (by decide) hk; replace KK := kkr KK hk; replace HI := HI2; clear hk; skip)
    | ((with_reducible refine gate_dst (N := 36) rfl ?_); refine lt k100 100 ?hg (N := 36) ?hd ([⟨x801, y801, u801⟩] : List S100) [.int .i64 (x801), .int .i64 (y801), .int .i64 (u801)] ?hr (Reps.c3 (k100_mkM _ _ _ ⟨x801, y801, u801⟩) (Reps.none _ _)) (by simp) B ?_; (case hd => rfl); (case hg => rfl); (case hr => first | (go_simp; done) | (go_simp; rfl)); intro z36 hz36 AL36 kL36 w802 hb B RL36 QL36; have MRL36 := mrf QL36 KK; replace Rp5 := rn Rp5 hb; replace HI := hib HI hb; replace KK := kkb KK hb; clear hb QL36)
    | ((with_reducible refine gate_builtin (b := .append) (xs := #[.tmp 33, .tmp 36]) rfl ?_); at_builtin; refine apx k100 100 rfl (.tmp 33) (.tmp 36) 32 (.agg #[.int .i64 (0), .int .i64 (0), .int .i64 (0)]) 24 rfl Try.underlying32 info100 rfl (by decide) (by omega) rfl rfl Rp5 (rc RL36) (fun x cs h => by rw [k100_open h]; exact k100_mkM _ _ _ x) (by rw [← hz36]; simp only [List.length_cons, List.length_nil]; omega) B ?_; intro z37 hz37 AL37 kL37 w803 hg B RL37 hat; replace HI := hig HI Rp5 (by decide) hg; have MRL37 := mra hat MRp5 KK; replace KK := kkg KK MRp5 hg; clear hg hat))
   all_goals go_ret
   all_goals first
    | exact ⟨_, _, _, rfl, by omega, Rp5.out, MRp5.out, ⟨by omega, by omega⟩, HI.out, B.out, KK.out⟩
    | exact ⟨_, _, _, rfl, by rw [← hz32]; simp only [List.length_append]; omega, RL32.out, MRL32.out, ⟨by omega, by omega⟩, HI.out, B.out, KK.out⟩
    | exact ⟨_, _, _, rfl, by rw [← hz37, ← hz36]; simp only [List.length_append, List.length_cons, List.length_nil]; omega, RL37.out, MRL37.out, ⟨by omega, by omega⟩, HI.out, B.out, KK.out⟩

theorem spec_l20Span.D (n : Int) (hn : n ≤ 1000000) (w W0 : World) (g : Nat) (bs : List Int) (p : Int) (hI : IsS119 w W0 g bs p) (hB : Below w.heap.size w W0) (hc : Dw.Code bs) (h0 : 0 ≤ p) (h1 : p ≤ 1099505000000) :
  Calls Try.prog 77 #[.pointer (some ⟨g, 0, none⟩), .int .i64 n] W0 fun e w' => ∃ x y p', e = .returned (.agg #[.string x, .string y]) ∧ (True) ∧ Left w W0 g bs p 20 p' w' := by
 have hu := Try.underlying30
 have B := Aside0.mk hB
 have HI := Aside0.mk hI
 have HC := Aside0.mk hc
 have KK := Aside0.mk (Kept.refl W0 (RB g))
 clear hB hI hc
 go_enter Try.func77, Try.ntmps77
 go_wp2_with (first
  | ((with_reducible refine gate_dst (N := 4) rfl ?_); refine bx ?hg (N := 4) ?hd (cs := #[.string (⟨#[]⟩ : ByteArray), .string (⟨#[]⟩ : ByteArray)]) (t := 30) ?hr B ?_; (case hd => rfl); (case hg => rfl); (case hr => first | (go_simp; done) | (go_simp; rfl)); intro g4 w1 hb B F4 L4 E4; have M4 := mbx E4 KK; replace HI := hib HI hb; replace KK := kkb KK hb; clear hb E4)
  | (go_at_call 99; (with_reducible refine cg1 (spec_l20Rd_odd.D n (by omega) w _ g bs p HI.out B.out HC.out (by omega) (by omega)) fun x2 p2 hx2 hp2 w2 hk B HI2 => ?_); replace F4 := bkr F4 HI (by decide) hk; replace KK := kkr KK hk; replace HI := HI2; clear hk; skip)
  | ((with_reducible refine gate_dst (N := 15) rfl ?_); refine lt k30 30 ?hg (N := 15) ?hd ([⟨(⟨#[98]⟩ : ByteArray), (⟨#[98]⟩ : ByteArray)⟩, ⟨(⟨#[99]⟩ : ByteArray), (⟨#[98]⟩ : ByteArray)⟩, ⟨(⟨#[]⟩ : ByteArray), (⟨#[97]⟩ : ByteArray)⟩, ⟨(⟨#[65]⟩ : ByteArray), (⟨#[]⟩ : ByteArray)⟩, ⟨(⟨#[]⟩ : ByteArray), (⟨#[97, 98, 99, 100, 101]⟩ : ByteArray)⟩] : List S30) [.string (⟨#[98]⟩ : ByteArray), .string (⟨#[98]⟩ : ByteArray), .string (⟨#[99]⟩ : ByteArray), .string (⟨#[98]⟩ : ByteArray), .string (⟨#[]⟩ : ByteArray), .string (⟨#[97]⟩ : ByteArray), .string (⟨#[65]⟩ : ByteArray), .string (⟨#[]⟩ : ByteArray), .string (⟨#[]⟩ : ByteArray), .string (⟨#[97, 98, 99, 100, 101]⟩ : ByteArray)] ?hr (Reps.c2 (k30_mkM _ _ _ ⟨(⟨#[98]⟩ : ByteArray), (⟨#[98]⟩ : ByteArray)⟩) (Reps.c2 (k30_mkM _ _ _ ⟨(⟨#[99]⟩ : ByteArray), (⟨#[98]⟩ : ByteArray)⟩) (Reps.c2 (k30_mkM _ _ _ ⟨(⟨#[]⟩ : ByteArray), (⟨#[97]⟩ : ByteArray)⟩) (Reps.c2 (k30_mkM _ _ _ ⟨(⟨#[65]⟩ : ByteArray), (⟨#[]⟩ : ByteArray)⟩) (Reps.c2 (k30_mkM _ _ _ ⟨(⟨#[]⟩ : ByteArray), (⟨#[97, 98, 99, 100, 101]⟩ : ByteArray)⟩) (Reps.none _ _)))))) (by simp) B ?_; (case hd => rfl); (case hg => rfl); (case hr => first | (go_simp; done) | (go_simp; rfl)); intro z15 hz15 AL15 kL15 w51 hb B RL15 QL15; have NB4_L15 := nb QL15 F4; have MRL15 := mrf QL15 KK; replace F4 := bn F4 hb; replace HI := hib HI hb; replace KK := kkb KK hb; clear hb QL15)
  | (go_at_call 79; (with_reducible refine cg1 (spec_l20Rd_pick.D 5 w _ g bs p2 HI.out B.out HC.out (by omega) (by omega)) fun x52 p52 hx52 hp52 w52 hk B HI2 => ?_); replace F4 := bkr F4 HI (by decide) hk; replace RL15 := rkr RL15 HI (by decide) hk; replace KK := kkr KK hk; replace HI := HI2; clear hk; skip; have hi52 : x52 < (z15.length : Int) := (by rw [← hz15]; have := hx52.2.1 (by omega); simpa using this); obtain ⟨ad52, hA52, y52_0, y52_1⟩ := at_T30 (rc RL15) x52 hx52.1 hi52; have hj52 := hx52.1; generalize rd_T30 z15 x52 = y52 at *; cases hA52; have j52 := eq_true hj52; have i52 := eq_true hi52)
  | ((with_reducible refine gate_store (t := 30) (p := 4) rfl ?_); obtain ⟨y0, y1⟩ := cs2 F4; have z0 := fz F4 0; have z1 := fz F4 1; refine sx (t := 30) (t' := 30) (p := 4) (v := ?vo53) ?hg ?ho ?hn 0 [.string y52.f0, .string y52.f1] [.string y52.f0, .string y52.f1] ?hr B F4 L4 rfl (Nat.le_of_ble_eq_true rfl) ?_; (case ho => rfl); (case hg => rfl); (case hn => rfl); (case hr => first | (go_simp; done) | (go_simp; rfl)); intro w53 hk B G; replace RL15 := rkn RL15 hk NB4_L15; replace HI := his HI F4 (by decide) hk; replace KK := kks KK M4 hk; replace F4 := G; clear hk y0 z0 y1 z1)
  | (go_at_call 78; (with_reducible refine cg1 (spec_l20Key.D 0 (by omega) w _ g bs p2 HI.out B.out HC.out (by omega) (by omega)) fun x101 p101 hx101 hp101 w101 hk B HI2 => ?_); replace F4 := bkr F4 HI (by decide) hk; replace KK := kkr KK hk; replace HI := HI2; clear hk; skip)
  | (go_at_call 78; (with_reducible refine cg1 (spec_l20Key.D 0 (by omega) w _ g bs p101 HI.out B.out HC.out (by omega) (by omega)) fun x102 p102 hx102 hp102 w102 hk B HI2 => ?_); replace F4 := bkr F4 HI (by decide) hk; replace KK := kkr KK hk; replace HI := HI2; clear hk; skip)
  | (go_at_call 79; (with_reducible refine cg1 (spec_l20Rd_pick.D 6 w _ g bs p102 HI.out B.out HC.out (by omega) (by omega)) fun x103 p103 hx103 hp103 w103 hk B HI2 => ?_); replace F4 := bkr F4 HI (by decide) hk; replace KK := kkr KK hk; replace HI := HI2; clear hk; skip)
  | ((with_reducible refine gate_store (t := 30) (p := 4) rfl ?_); obtain ⟨y0, y1⟩ := cs2 F4; have z0 := fz F4 0; have z1 := fz F4 1; refine sx (t := 30) (t' := 30) (p := 4) (v := ?vo201) ?hg ?ho ?hn 0 [.string (⟨#[]⟩ : ByteArray), .string (⟨#[]⟩ : ByteArray)] [.string (⟨#[]⟩ : ByteArray), .string (⟨#[]⟩ : ByteArray)] ?hr B F4 L4 rfl (Nat.le_of_ble_eq_true rfl) ?_; (case ho => rfl); (case hg => rfl); (case hn => rfl); (case hr => first | (go_simp; done) | (go_simp; rfl)); intro w201 hk B G; replace HI := his HI F4 (by decide) hk; replace KK := kks KK M4 hk; replace F4 := G; clear hk y0 z0 y1 z1)
  | ((with_reducible refine gate_store (t := 30) (p := 4) rfl ?_); obtain ⟨y0, y1⟩ := cs2 F4; have z0 := fz F4 0; have z1 := fz F4 1; refine sx (t := 30) (t' := 30) (p := 4) (v := ?vo251) ?hg ?ho ?hn 0 [.string x101, .string (⟨#[]⟩ : ByteArray)] [.string x101, .string (⟨#[]⟩ : ByteArray)] ?hr B F4 L4 rfl (Nat.le_of_ble_eq_true rfl) ?_; (case ho => rfl); (case hg => rfl); (case hn => rfl); (case hr => first | (go_simp; done) | (go_simp; rfl)); intro w251 hk B G; replace HI := his HI F4 (by decide) hk; replace KK := kks KK M4 hk; replace F4 := G; clear hk y0 z0 y1 z1)
  | ((with_reducible refine gate_store (t := 30) (p := 4) rfl ?_); obtain ⟨y0, y1⟩ := cs2 F4; have z0 := fz F4 0; have z1 := fz F4 1; refine sx (t := 30) (t' := 30) (p := 4) (v := ?vo301) ?hg ?ho ?hn 0 [.string (⟨#[]⟩ : ByteArray), .string x102] [.string (⟨#[]⟩ : ByteArray), .string x102] ?hr B F4 L4 rfl (Nat.le_of_ble_eq_true rfl) ?_; (case ho => rfl); (case hg => rfl); (case hn => rfl); (case hr => first | (go_simp; done) | (go_simp; rfl)); intro w301 hk B G; replace HI := his HI F4 (by decide) hk; replace KK := kks KK M4 hk; replace F4 := G; clear hk y0 z0 y1 z1)
  | ((with_reducible refine gate_store (t := 30) (p := 4) rfl ?_); obtain ⟨y0, y1⟩ := cs2 F4; have z0 := fz F4 0; have z1 := fz F4 1; refine sx (t := 30) (t' := 30) (p := 4) (v := ?vo351) ?hg ?ho ?hn 0 [.string x101, .string x102] [.string x101, .string x102] ?hr B F4 L4 rfl (Nat.le_of_ble_eq_true rfl) ?_; (case ho => rfl); (case hg => rfl); (case hn => rfl); (case hr => first | (go_simp; done) | (go_simp; rfl)); intro w351 hk B G; replace HI := his HI F4 (by decide) hk; replace KK := kks KK M4 hk; replace F4 := G; clear hk y0 z0 y1 z1)
  | ((with_reducible refine gate_store (t := 30) (p := 4) rfl ?_); obtain ⟨y0, y1⟩ := cs2 F4; have z0 := fz F4 0; have z1 := fz F4 1; refine sx (t := 30) (t' := 30) (p := 4) (v := ?vo401) ?hg ?ho ?hn 0 [.string x102, .string x101] [.string x102, .string x101] ?hr B F4 L4 rfl (Nat.le_of_ble_eq_true rfl) ?_; (case ho => rfl); (case hg => rfl); (case hn => rfl); (case hr => first | (go_simp; done) | (go_simp; rfl)); intro w401 hk B G; replace HI := his HI F4 (by decide) hk; replace KK := kks KK M4 hk; replace F4 := G; clear hk y0 z0 y1 z1)
  | ((with_reducible refine gate_store (t := 30) (p := 4) rfl ?_); obtain ⟨y0, y1⟩ := cs2 F4; have z0 := fz F4 0; have z1 := fz F4 1; refine sx (t := 30) (t' := 30) (p := 4) (v := ?vo451) ?hg ?ho ?hn 0 [.string x101, .string (⟨#[]⟩ : ByteArray)] [.string x101, .string (⟨#[]⟩ : ByteArray)] ?hr B F4 L4 rfl (Nat.le_of_ble_eq_true rfl) ?_; (case ho => rfl); (case hg => rfl); (case hn => rfl); (case hr => first | (go_simp; done) | (go_simp; rfl)); intro w451 hk B G; replace HI := his HI F4 (by decide) hk; replace KK := kks KK M4 hk; replace F4 := G; clear hk y0 z0 y1 z1))
 all_goals (refine bodyPost_ret (results_single rfl (.cell g4 30 _ (0, 0) _ rfl F4.out hu rfl (by kernel_rfl) .nil)) rfl ?_)
 all_goals exact ⟨_, _, _, rfl, trivial, ⟨by omega, by omega⟩, HI.out, B.out, KK.out⟩

def spec_PairScan.T7 : Bool × List (List Nat × List Nat) := (true, [([], []), ([], []), ([], []), ([1, 2], [1, 2]), ([3], [3]), ([4], [4]), ([0, 5], [0, 5])])
def spec_PairScan.B7 : List Nat := [0, 0, 0, 6, 14, 30, 63]
theorem spec_PairScan.tab7 : rtab .any (opsOf Try.f106 7) = spec_PairScan.T7 := by kernel_rfl
theorem spec_PairScan.bits7 : waitsOk spec_PairScan.T7.2 spec_PairScan.B7 = true := by kernel_rfl
theorem spec_PairScan.M (A0 : Option Addr) (c0 : Nat) (l : List S61) (a b : ByteArray) (w : World) (hr0 : Kd.C k61 w A0 l.length l) (hc0 : l.length ≤ c0) : Calls Try.prog 106 #[.slice A0 l.length c0, .agg #[.string a, .string b], .int .i64 48] w fun e w' => ∃ v0, e = .returned v0 ∧ Kd.R k61 61 w' w.heap.size (fun _ => True) v0 (inM l a b) ∧ Below w.heap.size w w' := by
 have B := Aside0.mk (Below.refl w.heap.size w)
 have hu := Try.underlying30
 have HR0 := Aside0.mk hr0
 have HC0 := Aside0.mk hc0
 have L63 := Aside0.mk hr0.2.1
 clear hr0 hc0
 obtain ⟨r, hr⟩ : ∃ r, inM l a b = r := ⟨_, rfl⟩
 rw [hr]
 have l148 : l1B 48 0 48 = true := by decide
 go_enter Try.func106, Try.ntmps106
 go_wp2_with (first
  | ((with_reducible refine gate_dst (N := 4) rfl ?_); refine bx ?hg (N := 4) ?hd (cs := #[.string a, .string b]) (t := 30) ?hr B ?_; (case hd => rfl); (case hg => rfl); (case hr => first | (go_simp; done) | (go_simp; rfl)); intro g4 w1 hb B F4 L4 E4; obtain ⟨c4_0, c4_1⟩ := cs2 F4; clear hb E4)
  | ((with_reducible refine gate_dst (N := 9) rfl ?_); refine lt k61 61 ?hg (N := 9) ?hd ([] : List S61) [] ?hr (Reps.none _ _) (by simp) B ?_; (case hd => rfl); (case hg => rfl); (case hr => first | (go_simp; done) | (go_simp; rfl)); intro z9 hz9 AL9 kL9 w2 hb B RL9 QL9; replace F4 := bn F4 hb; clear c4_0 c4_1; obtain ⟨c4_0, c4_1⟩ := cs2 F4; clear hb QL9)
  | (go_at_call 48; with_reducible refine cl (spec_PairsValid.M _ _ l _ (cb HR0 B)) B fun w3 hb B => ?_; replace F4 := bn F4 hb; replace RL9 := rn RL9 hb; clear c4_0 c4_1; obtain ⟨c4_0, c4_1⟩ := cs2 F4; clear hb)
  | (go_at_call 47; with_reducible refine cl (spec_IntervalValid.M a b _) B fun w4 hb B => ?_; replace F4 := bn F4 hb; replace RL9 := rn RL9 hb; clear hb)
  | (go_at_call 90; with_reducible refine cl (spec_l1In.M 48 0 48 _) B fun w5 hb B => ?_; replace F4 := bn F4 hb; replace RL9 := rn RL9 hb; clear hb))
 all_goals try (refine useEq (a := r) (b := ([] : List S61)) ?_ (fun hM => ?_); (rw [← hr]; unfold inM; grind); subst hM; subst hz9; go_ret; exact ⟨_, rfl, RL9.out, B.out⟩)
 have hv : prB l = true ∧ ivB a b = true := by grind
 have hrq : l.filter (fun p => insB a b p.f0) = r := by rw [← hr]; unfold inM; simp [hv.1, hv.2]
 subst hz9
 have h48 := prB_len hv.1
 have HV := Aside0.mk hv
 have H := Aside0.mk (show ([] : List S61) ++ (l.drop 0).filter (fun p => insB a b p.f0) = r from hrq)
 clear hr hrq hv c4_0 c4_1
 go_loopg [7, 8] (l.length + 1) (fun kx v7 v8 wr => ∃ (j : Nat) (p : List S61), v8 = .int .i64 (j : Int) ∧ j ≤ l.length ∧ l.length < j + kx ∧ p.length ≤ j ∧ Aside0 (Below w.heap.size w wr) ∧ Aside0 (wr.heap[g4]? = some (.cells #[.string a, .string b] 30 (0, 0))) ∧ Aside0 (Ow k61 61 wr w.heap.size v7 p) ∧ Aside0 (p ++ (l.drop j).filter (fun p => insB a b p.f0) = r))
 case atStart => exact ⟨0, [], rfl, by omega, by omega, by simp, B, F4, RL9, H⟩
 case round =>
  clear H B F4 RL9
  obtain ⟨j, p, rfl, hj, hk, hpl, B, F4, Rp7, H⟩ := hrel
  obtain ⟨A7, k7, rfl⟩ := Kd.R_slice Rp7.out
  obtain ⟨c4_0, c4_1⟩ := cs2 F4
  by_cases hlt : j < l.length
  ·have HS := H.out
   rw [pr_drop hlt, List.filter_cons] at HS
   have hhi := has_ins HV.out.1 HV.out.2 hlt
   clear H
   obtain ⟨d, rfl⟩ : ∃ d, gk = d + 1 := ⟨gk - 1, by omega⟩
   have cj : decide ((j : Int) < (l.length : Int)) = true := decide_eq_true (by omega)
   have cp : decide ((p.length : Int) < 48) = true := decide_eq_true (by omega)
   obtain ⟨ad, hA, y0, y1⟩ := at_T61 (cb HR0 B) (j : Int) (by omega) (by omega)
   cases hA
   rw [Int.toNat_natCast] at y0 y1
   have j1 := eq_true (show (j : Int) < (l.length : Int) by omega)
   have j2 := eq_true hlt
   generalize hy : rd_T61 l (j : Int) = y at *
   have HT := Aside0.mk HS
   have HH := Aside0.mk hhi
   clear HS hhi
   try go_wp2
   all_goals (
    refine rg (n := 7) (S := fun W => W.heap[g4]? = some (.cells #[.string a, .string b] 30 (0, 0)) ∧ Kd.C k61 W (some ad) l.length l) (ds := []) #[false, false, false, false, false, false, false] (by kernel_rfl) rfl rfl ⟨F4.out, (cb HR0 B)⟩ id B (fun w101 hb B hHeld => ?_)
    refine with_tabW spec_PairScan.tab7 spec_PairScan.bits7 (fun HT_ HW_ => ?_)
    replace F4 := bn F4 hb
    replace Rp7 := rn Rp7 hb
    clear hb
    refine ta (i := 0) (N := some 36) (v := ?_) (bits 7 1) rfl rfl (take_ofW HT_.out HW_.out (by kernel_rfl)) (fun _ _ _ h => h) (by kernel_rfl) hHeld ?_ ?_; rotate_left; (intro w' hS; obtain ⟨s0, s1⟩ := hS; obtain ⟨q0, q1⟩ := cs2 (Aside0.mk s0); go_simp; with_reducible rfl)
    refine pu (i := 1) (N := some 37) (v := ?_) (bits 7 3) rfl rfl (any_of HT_.out (by kernel_rfl)) (fun _ _ _ h => h) (by kernel_rfl) ?_ ?_; rotate_left; (intro w'; go_simp; with_reducible rfl)
    refine pu (i := 2) (N := some 38) (v := ?_) (bits 7 7) rfl rfl (any_of HT_.out (by kernel_rfl)) (fun _ _ _ h => h) (by kernel_rfl) ?_ ?_; rotate_left; (intro w'; go_simp; with_reducible rfl)
    refine pu (i := 3) (N := some 39) (v := ?_) (bits 7 15) rfl rfl (any_of HT_.out (by kernel_rfl)) (fun _ _ _ h => h) (by kernel_rfl) ?_ ?_; rotate_left; (intro w'; go_simp; with_reducible rfl)
    refine pu (i := 4) (N := some 40) (v := ?_) (bits 7 31) rfl rfl (any_of HT_.out (by kernel_rfl)) (fun _ _ _ h => h) (by kernel_rfl) ?_ ?_; rotate_left; (intro w'; go_simp; with_reducible rfl)
    refine ta (i := 5) (N := some 41) (v := ?_) (bits 7 63) rfl rfl (take_ofW HT_.out HW_.out (by kernel_rfl)) (fun _ _ _ h => h) (by kernel_rfl) hHeld ?_ ?_; rotate_left; (intro w' hS; obtain ⟨s0, s1⟩ := hS; obtain ⟨_, hA, q0, q1⟩ := at_T61 s1 (j : Int) (by omega) (by omega); cases hA; rw [Int.toNat_natCast] at q0 q1; rw [hy] at q0 q1; go_simp; with_reducible rfl)
    refine norm_ (a' := ?_) ?_ ?_
    rotate_left
    ·simp only [Act.put, List.setIfInBounds_toArray, List.set_cons_zero, List.set_cons_succ, i64_w, i32_w]
     rfl
    refine one_ (i := 6) (N := some 42) (bits 7 127) rfl rfl (one_of HT_.out (by kernel_rfl)) (by decide) (fun K hK => ?_)
    refine goes_ Try.func50 (by kernel_rfl) rfl #[.agg #[.string a, .string b], .string y.f0] (by rfl) rfl rfl (by (try simp only [List.map_toArray, List.map_cons, List.map_nil]); rfl) ?_
    with_reducible refine cl (spec_IntervalHas.M a b y.f0 _) B fun w102 hb B => ?_
    replace F4 := bn F4 hb
    replace Rp7 := rn Rp7 hb
    clear hb
    refine ⟨_, rfl, ?_⟩
    refine hK.out _ _ ⟨F4.out, (cb HR0 B)⟩ (fun hHeld => ?_)
    clear hK K
    refine norm_ (a' := ?_) ?_ ?_
    rotate_left
    ·show Act.put _ (some 42) _ = _
     simp only [Act.put, List.setIfInBounds_toArray, List.set_cons_zero, List.set_cons_succ, i64_w, i32_w]
     rfl
    refine done_ (done_of HT_.out (by kernel_rfl)) ?_
    clear y0 y1
    obtain ⟨ad2, hA, y0, y1⟩ := at_T61 (cb HR0 B) (j : Int) (by omega) (by omega)
    cases hA
    rw [Int.toNat_natCast, hy] at y0 y1)
   all_goals go_wp2_with (first
    | ((with_reducible refine gate_dst (N := 48) rfl ?_); refine lt k61 61 ?hg (N := 48) ?hd ([⟨y.f0, y.f1⟩] : List S61) [.string y.f0, .int .i64 (y.f1)] ?hr (Reps.c2 (k61_mkM _ _ _ ⟨y.f0, y.f1⟩) (Reps.none _ _)) (by simp) B ?_; (case hd => rfl); (case hg => rfl); (case hr => first | (go_simp; done) | (go_simp; rfl)); intro z48 hz48 AL48 kL48 w103 hb B RL48 QL48; replace F4 := bn F4 hb; replace Rp7 := rn Rp7 hb; clear hb QL48)
    | ((with_reducible refine gate_builtin (b := .append) (xs := #[.tmp 43, .tmp 48]) rfl ?_); at_builtin; refine apx k61 61 rfl (.tmp 43) (.tmp 48) 31 (.agg #[.string (⟨#[]⟩ : ByteArray), .int .i64 (0)]) 24 rfl Try.underlying31 info61 rfl (by decide) (by omega) rfl rfl Rp7 (rc RL48) (fun x cs h => by rw [k61_open h]; exact k61_mkM _ _ _ x) (by rw [← hz48]; simp only [List.length_cons, List.length_nil]; omega) B ?_; intro z49 hz49 AL49 kL49 w104 hg B RL49 hat; replace F4 := bga F4 hg Rp7 (by decide); clear hg hat))
   all_goals first
    | (refine useEq (a := hasB a b y.f0) (b := true) ?_ (fun hK => ?_); (first | assumption | (simp_all; done)); have HS := HT.out; rw [← HH.out, hK, if_pos rfl] at HS; go_roundg d; (case measure => omega); (case rel => exact ⟨j + 1, z49, congrArg (Value.int .i64) (Int.natCast_succ _).symm, by omega, by omega, (by rw [← hz49, ← hz48]; simp only [List.length_append, List.length_cons, List.length_nil]; omega), B, F4, RL49, ⟨by rw [← hz49, ← hz48, List.append_assoc]; exact HS⟩⟩))
    | (refine useEq (a := hasB a b y.f0) (b := false) ?_ (fun hK => ?_); (first | assumption | (simp_all; done)); have HS := HT.out; rw [← HH.out, hK, if_neg (by simp)] at HS; go_roundg d; (case measure => omega); (case rel => exact ⟨j + 1, p, congrArg (Value.int .i64) (Int.natCast_succ _).symm, by omega, by omega, by omega, B, F4, Rp7, ⟨HS⟩⟩))
  ·have cj : decide ((j : Int) < (l.length : Int)) = false := decide_eq_false (by omega)
   have hr := H.out
   rw [List.drop_of_length_le (by omega), List.filter_nil, List.append_nil] at hr
   subst hr
   clear H
   go_wp2
   go_ret
   exact ⟨_, rfl, Rp7.out, B.out⟩
theorem spec_PairsIn.M (A0 : Option Addr) (c0 : Nat) (l : List S61) (a b : ByteArray) (w : World) (hr0 : Kd.C k61 w A0 l.length l) (hc0 : l.length ≤ c0) : Calls Try.prog 74 #[.slice A0 l.length c0, .agg #[.string a, .string b]] w fun e w' => ∃ v0, e = .returned v0 ∧ Kd.R k61 61 w' w.heap.size (fun _ => True) v0 (inM l a b) ∧ Below w.heap.size w w' := by
 have B := Aside0.mk (Below.refl w.heap.size w)
 have hu := Try.underlying30
 have HR0 := Aside0.mk hr0
 have HC0 := Aside0.mk hc0
 have L63 := Aside0.mk hr0.2.1
 clear hr0 hc0
 go_enter Try.func74, Try.ntmps74
 go_wp2_with (first
  | ((with_reducible refine gate_dst (N := 3) rfl ?_); refine bx ?hg (N := 3) ?hd (cs := #[.string a, .string b]) (t := 30) ?hr B ?_; (case hd => rfl); (case hg => rfl); (case hr => first | (go_simp; done) | (go_simp; rfl)); intro g3 w1 hb B F3 L3 E3; obtain ⟨c3_0, c3_1⟩ := cs2 F3; clear hb E3)
  | (go_at_call 106; with_reducible refine cr (spec_PairScan.M _ _ l a b _ (cb HR0 B) HC0.out) B fun AI2 kI2 w2 hb B RI2 QI2 => ?_; clear QI2; clear hb))
 go_ret
 exact ⟨_, rfl, RI2.out, B.out⟩

/-! Operations of a region that draws its order, one by one: a box, a literal, a row put behind a row. -/
section
variable {P : Program} {w W : World} {ops' : Array Oper} {o : Oper} {a : Act} {QE : Exit → Act → World → Prop} {Kc : Act → World → Prop}
theorem below_al (W : World) (ob : Obj) : Below W.heap.size W (W.alloc ob) := below_alloc (Below.refl _ _) ob
theorem al_blk (W : World) (ob : Obj) : (W.alloc ob).heap[W.heap.size]? = some ob := by unfold World.alloc; exact Array.getElem?_push_size
theorem bxs {N : Tmp} {cs : Array Value} {t : TypeId} (hw : Region.wanted o (yielded ops' a.tmps) = true) (hd : o.dst = some N) (hrun : (execOp a.eval o).run P W = .ok (.value (.pointer (some ⟨W.heap.size, 0, none⟩))) (W.alloc (.cells cs t (0, 0))))
    (B : Aside0 (Below w.heap.size w W))
    (h : ∀ g w1, Below W.heap.size W w1 → Aside0 (Below w.heap.size w w1) → Aside0 (w1.heap[g]? = some (.cells cs t (0, 0))) → Aside0 (w.heap.size ≤ g) → Aside0 (g = W.heap.size) → Kc (a.put (some N) (.pointer (some ⟨g, 0, none⟩))) w1) :
    if Region.wanted o (yielded ops' a.tmps) = true then Oper.wp P o a W Kc QE else Kc (a.put (some N) undef) W :=
  value_ hw hd hrun (h _ _ (below_al W _) ⟨below_step B.out (below_al W _)⟩ ⟨al_blk W _⟩ ⟨below_size B.out⟩ ⟨rfl⟩)
variable {α β : Type} {b : Nat} {xs : List α}
theorem lts (d : Kd α) (e : Nat) (hw : Region.wanted o (yielded ops' a.tmps) = true) {N : Tmp} (hd : o.dst = some N) (xs : List α) (inner : List Value) (hrun : (execOp a.eval o).run P W = .ok (.value (.slice (some ⟨W.heap.size, 0, none⟩) xs.length xs.length)) (W.alloc (.cells inner.toArray e)))
    (hp : Reps (d.M W W.heap.size (fun _ => True)) d.sz xs inner) (hm : xs.length ≤ 9223372036854775807) (B : Aside0 (Below w.heap.size w W))
    (h : ∀ zs, xs = zs → ∀ A kk w1, Below W.heap.size W w1 → Aside0 (Below w.heap.size w w1) → Aside0 (Ow d e w1 w.heap.size (.slice A zs.length kk) zs) → Aside0 (Fr W (.slice A zs.length kk)) → Kc (a.put (some N) (.slice A zs.length kk)) w1) :
    if Region.wanted o (yielded ops' a.tmps) = true then Oper.wp P o a W Kc QE else Kc (a.put (some N) undef) W := by
  rw [← hd]
  refine Kd.R_lit_step d (w0 := W) W.heap.size e hw hd hrun hp (fun _ h => h) trivial (Below.refl _ _) (Nat.le_refl _) hm fun v1 w1 hR hb hg hnew => ?_
  obtain ⟨A, kk, rfl⟩ := Kd.R_slice hR
  rw [hd]
  exact h xs rfl A kk w1 hb ⟨below_step B.out hb⟩ ⟨Kd.R_lower hR (below_size B.out)⟩ ⟨fun k hk => Kd.R_base hR k hk⟩
theorem aps (d : Kd α) (e : Nat) (hw : Region.wanted o (yielded ops' a.tmps) = true) {N : Tmp} (hd : o.dst = some N) (s x : Operand) (t : TypeId) (z : Value) (bytes : Nat) (ho : o.op = .call { callee := .builtin .append, args := #[s, x], argTypes := #[t, t] })
    (ht : P.underlying t = some (.slice e)) (hinfo : (P.info? e).map (fun i => (i.zero, i.size, i.bytes)) = some (some z, d.sz, bytes)) (hz : z.cells.size = d.sz) (hs0 : 0 < d.sz) (hb0 : 0 < bytes)
    {v : Value} {ys : List α} {A : Option Addr} {m c : Nat} (hs : a.eval s = v) (hx : a.eval x = .slice A m c) (R : Aside0 (Ow d e W w.heap.size v xs)) (C : d.C W A m ys) (hKM : ∀ x cs, d.K W x cs → d.M W w.heap.size (fun _ => False) x cs)
    (hl : (xs.length + m) * bytes ≤ 140737488355328) (B : Aside0 (Below w.heap.size w W))
    (h : ∀ zs, xs ++ ys = zs → ∀ A' kk w1, W.grownBy w1 v.ownBlock → Aside0 (Below w.heap.size w w1) → Aside0 (Ow d e w1 w.heap.size (.slice A' zs.length kk) zs) → Aside0 ((Value.slice A' zs.length kk).ownBlock = v.ownBlock ∨ ∃ b, (Value.slice A' zs.length kk).ownBlock = some b ∧ W.heap.size ≤ b) → Kc (a.put (some N) (.slice A' zs.length kk)) w1) :
    if Region.wanted o (yielded ops' a.tmps) = true then Oper.wp P o a W Kc QE else Kc (a.put (some N) undef) W := by
  rw [← hd]
  refine Kd.R_append_rows_step d (w0 := w) w.heap.size hw s x t e z bytes ho ht hinfo hz hs0 hb0 v xs ys A m c (fun _ => True) (fun _ => False) hs hx R.out C hKM (fun _ h => h.elim) (fun _ _ => trivial) B.out (below_size B.out) hl fun v1 w1 hR hb hg hat => ?_
  obtain ⟨A', kk, rfl⟩ := Kd.R_slice hR
  rw [hd]
  exact h _ rfl A' kk w1 hg ⟨hb⟩ ⟨hR⟩ ⟨hat⟩
end

def spec_l20Sealed.T1 : Bool × List (List Nat × List Nat) := (true, [([], []), ([], []), ([1], [1]), ([], []), ([2, 3, 2], [2, 3]), ([], []), ([5, 4], [5]), ([], []), ([0, 4, 6, 7], [0, 4, 6, 7]), ([], []), ([9, 8, 6, 0, 1, 2, 3, 4, 5, 6, 7, 8, 9], [8, 9])])
def spec_l20Sealed.B1 : List Nat := [0, 0, 2, 0, 14, 0, 62, 0, 255, 0, 1023]
theorem spec_l20Sealed.tab1 : rtab .any (opsOf Try.f71 1) = spec_l20Sealed.T1 := by kernel_rfl
theorem spec_l20Sealed.bits1 : waitsOk spec_l20Sealed.T1.2 spec_l20Sealed.B1 = true := by kernel_rfl
theorem spec_l20Sealed.D (va vb ct : ByteArray) (n : Int) (hn : n ≤ 1000000) (w W0 : World) (g : Nat) (bs : List Int) (p : Int) (hI : IsS119 w W0 g bs p) (hB : Below w.heap.size w W0) (hc : Dw.Code bs) (h0 : 0 ≤ p) (h1 : p ≤ 1099499000000) :
  Calls Try.prog 71 #[.pointer (some ⟨g, 0, none⟩), .agg #[.string va, .string vb], .string ct, .int .i64 n] W0 fun e w' => ∃ a b v0 v1 t c xs ys p', e = .returned (.agg #[.string a, .string b, v0, v1, .bool t, .string c]) ∧ (xs.length ≤ 300 ∧ ys.length ≤ 300) ∧ (Kd.R k61 61 w' w.heap.size (fun _ => True) v0 xs ∧ Fr W0 v0) ∧ (Kd.R k100 100 w' w.heap.size (fun _ => True) v1 ys ∧ Fr W0 v1) ∧ Left w W0 g bs p 400 p' w' := by
 have hu := Try.underlying34
 have hu2 := Try.underlying30
 have B := Aside0.mk hB
 have HI := Aside0.mk hI
 have HC := Aside0.mk hc
 have KK := Aside0.mk (Kept.refl W0 (RB g))
 clear hB hI hc
 go_enter Try.func71, Try.ntmps71
 go_wp2_with (first
  | ((with_reducible refine gate_dst (N := 5) rfl ?_); refine bx ?hg (N := 5) ?hd (cs := #[.string va, .string vb]) (t := 30) ?hr B ?_; (case hd => rfl); (case hg => rfl); (case hr => first | (go_simp; done) | (go_simp; rfl)); intro g5 w1 hb B F5 L5 E5; have M5 := mbx E5 KK; replace HI := hib HI hb; replace KK := kkb KK hb; obtain ⟨c5_0, c5_1⟩ := cs2 F5; clear hb E5)
  | ((with_reducible refine gate_dst (N := 8) rfl ?_); refine bx ?hg (N := 8) ?hd (cs := #[.string (⟨#[]⟩ : ByteArray), .string (⟨#[]⟩ : ByteArray), .slice none 0 0, .slice none 0 0, .bool false, .string (⟨#[]⟩ : ByteArray)]) (t := 34) ?hr B ?_; (case hd => rfl); (case hg => rfl); (case hr => first | (go_simp; done) | (go_simp; rfl)); intro g8 w2 hb B F8 L8 E8; have M8 := mbx E8 KK; replace F5 := bn F5 hb; replace HI := hib HI hb; replace KK := kkb KK hb; clear c5_0 c5_1; obtain ⟨c5_0, c5_1⟩ := cs2 F5; clear hb E8))
 all_goals (
  refine rg (n := 11) (S := fun W => W.heap[g5]? = some (.cells #[.string va, .string vb] 30 (0, 0))) (ds := []) #[false, false, false, false, false, false, false, false, false, false, false] (by kernel_rfl) rfl rfl F5.out id B (fun w3 hb B hHeld => ?_)
  refine with_tabW spec_l20Sealed.tab1 spec_l20Sealed.bits1 (fun HT_ HW_ => ?_)
  replace F5 := bn F5 hb
  replace F8 := bn F8 hb
  replace HI := hib HI hb
  replace KK := kkb KK hb
  clear hb
  refine join_ 1 (bits 11 1023) (σ := Option Addr × Nat × List S61 × Option Addr × Nat × List S61 × Option Addr × Nat × List S100 × Nat × Int) (fun (ADs12, kDs12, zDs12, AIs14, kIs14, zIs14, ADs16, kDs16, zDs16, g9, ps16) => [(10, .agg #[.string va, .string vb]), (11, .pointer (some ⟨g, 0, none⟩)), (12, .slice ADs12 zDs12.length kDs12), (13, .agg #[.string va, .string vb]), (14, .slice AIs14 zIs14.length kIs14), (15, .pointer (some ⟨g, 0, none⟩)), (16, .slice ADs16 zDs16.length kDs16), (17, .string ct), (18, .agg #[.string va, .string vb, .slice AIs14 zIs14.length kIs14, .slice ADs16 zDs16.length kDs16, .bool true, .string ct]), (9, .pointer (some ⟨g9, 0, none⟩))]) (fun (ADs12, kDs12, zDs12, AIs14, kIs14, zIs14, ADs16, kDs16, zDs16, g9, ps16) W => Aside0 (Below w.heap.size w W) ∧ Aside0 (W.heap[g5]? = some (.cells #[.string va, .string vb] 30 (0, 0))) ∧ Aside0 (W.heap[g8]? = some (.cells #[.string (⟨#[]⟩ : ByteArray), .string (⟨#[]⟩ : ByteArray), .slice none 0 0, .slice none 0 0, .bool false, .string (⟨#[]⟩ : ByteArray)] 34 (0, 0))) ∧ Aside0 (W.heap[g9]? = some (.cells #[.string (⟨#[]⟩ : ByteArray), .string (⟨#[]⟩ : ByteArray), .slice none 0 0, .slice none 0 0, .bool false, .string (⟨#[]⟩ : ByteArray)] 34 (0, 0))) ∧ Aside0 (w.heap.size ≤ g9) ∧ Aside0 (g5 ≠ g9) ∧ Aside0 (g8 ≠ g9) ∧ Aside0 (Ow k61 61 W w.heap.size (.slice AIs14 zIs14.length kIs14) zIs14) ∧ Aside0 (Ow k100 100 W w.heap.size (.slice ADs16 zDs16.length kDs16) zDs16) ∧ Aside0 (∀ k_, (.slice ADs16 zDs16.length kDs16 : Value).ownBlock = some k_ → (.slice AIs14 zIs14.length kIs14 : Value).ownBlock = some k_ → False) ∧ Aside0 (IsS119 w W g bs ps16) ∧ Aside0 (Kept W0 W (RB g)) ∧ Aside0 (W0.heap.size ≤ g9) ∧ Aside0 (Fr W0 (.slice AIs14 zIs14.length kIs14)) ∧ Aside0 (Fr W0 (.slice ADs16 zDs16.length kDs16)) ∧ (p ≤ ps16 ∧ ps16 ≤ p + 160) ∧ zIs14.length ≤ 300 ∧ zDs16.length ≤ 300) ?_ (fun J => ?_)
  rotate_left
  ·refine ta (i := 0) (N := some 10) (v := ?_) (bits 11 1) rfl rfl (take_ofW HT_.out HW_.out (by kernel_rfl)) (fun _ _ _ h => h) (by kernel_rfl) hHeld ?_ ?_; rotate_left; (intro w' hS; have s0 := hS; obtain ⟨q0, q1⟩ := cs2 (Aside0.mk s0); go_simp; with_reducible rfl)
   refine pu (i := 1) (N := some 11) (v := ?_) (bits 11 3) rfl rfl (any_of HT_.out (by kernel_rfl)) (fun _ _ _ h => h) (by kernel_rfl) ?_ ?_; rotate_left; (intro w'; go_simp; with_reducible rfl)
   refine ta (i := 3) (N := some 13) (v := ?_) (bits 11 11) rfl rfl (take_ofW HT_.out HW_.out (by kernel_rfl)) (fun _ _ _ h => h) (by kernel_rfl) hHeld ?_ ?_; rotate_left; (intro w' hS; have s0 := hS; obtain ⟨q0, q1⟩ := cs2 (Aside0.mk s0); go_simp; with_reducible rfl)
   refine pu (i := 5) (N := some 15) (v := ?_) (bits 11 43) rfl rfl (any_of HT_.out (by kernel_rfl)) (fun _ _ _ h => h) (by kernel_rfl) ?_ ?_; rotate_left; (intro w'; go_simp; with_reducible rfl)
   refine pu (i := 7) (N := some 17) (v := ?_) (bits 11 171) rfl rfl (any_of HT_.out (by kernel_rfl)) (fun _ _ _ h => h) (by kernel_rfl) ?_ ?_; rotate_left; (intro w'; go_simp; with_reducible rfl)
   refine norm_ (a' := ?_) ?_ ?_
   rotate_left
   ·simp only [Act.put, List.setIfInBounds_toArray, List.set_cons_zero, List.set_cons_succ, i64_w, i32_w]
    rfl
   refine two_ (i := 2) (j := 9) (Ni := some 12) (Nj := some 9) (bits 11 175) (bits 11 683) rfl rfl rfl rfl (two_of HT_.out (by kernel_rfl)) (by decide) (by decide) (fun K hK => ?_) (fun K hK => ?_)
   ·refine goes_ Try.func97 (by kernel_rfl) rfl #[.pointer (some ⟨g, 0, none⟩), .int .i64 (0)] (by rfl) rfl rfl (by (try simp only [List.map_toArray, List.map_cons, List.map_nil]); rfl) ?_
    (with_reducible refine cgr (spec_l20Pairs.D 0 (by omega) w _ g bs p HI.out B.out HC.out (by omega) (by omega)) fun zDs12 ADs12 kDs12 ps12 hxs12 hps12 w4 hk B HI2 RDs12 QDs12 => ?_)
    have MRDs12 := mrf QDs12 KK
    replace F5 := bkr F5 HI (by decide) hk
    replace F8 := bkr F8 HI (by decide) hk
    replace KK := kkr KK hk
    replace HI := HI2
    clear hk QDs12
    refine ⟨_, rfl, ?_⟩
    refine hK.out _ _ F5.out (fun hHeld => ?_)
    clear hK K
    refine norm_ (a' := ?_) ?_ ?_
    rotate_left
    ·show Act.put _ (some 12) _ = _
     simp only [Act.put, List.setIfInBounds_toArray, List.set_cons_zero, List.set_cons_succ, i64_w, i32_w]
     rfl
    refine two_ (i := 4) (j := 9) (Ni := some 14) (Nj := some 9) (bits 11 191) (bits 11 687) rfl rfl rfl rfl (two_of HT_.out (by kernel_rfl)) (by decide) (by decide) (fun K hK => ?_) (fun K hK => ?_)
    ·refine goes_ Try.func74 (by kernel_rfl) rfl #[.slice ADs12 zDs12.length kDs12, .agg #[.string va, .string vb]] (by rfl) rfl rfl (by (try simp only [List.map_toArray, List.map_cons, List.map_nil]); rfl) ?_
     with_reducible refine crz (spec_PairsIn.M _ _ zDs12 va vb _ (rc RDs12) (rl RDs12)) B fun zIs14 hzIs14 AIs14 kIs14 w5 hb B RIs14 QIs14 => ?_
     have MRIs14 := mrf QIs14 KK
     replace F5 := bn F5 hb
     replace F8 := bn F8 hb
     replace HI := hib HI hb
     replace KK := kkb KK hb
     clear hb
     refine ⟨_, rfl, ?_⟩
     refine hK.out _ _ F5.out (fun hHeld => ?_)
     clear hK K
     refine norm_ (a' := ?_) ?_ ?_
     rotate_left
     ·show Act.put _ (some 14) _ = _
      simp only [Act.put, List.setIfInBounds_toArray, List.set_cons_zero, List.set_cons_succ, i64_w, i32_w]
      rfl
     clear QIs14
     refine two_ (i := 6) (j := 9) (Ni := some 16) (Nj := some 9) (bits 11 255) (bits 11 703) rfl rfl rfl rfl (two_of HT_.out (by kernel_rfl)) (by decide) (by decide) (fun K hK => ?_) (fun K hK => ?_)
     ·refine goes_ Try.func98 (by kernel_rfl) rfl #[.pointer (some ⟨g, 0, none⟩), .int .i64 (0)] (by rfl) rfl rfl (by (try simp only [List.map_toArray, List.map_cons, List.map_nil]); rfl) ?_
      (with_reducible refine cgr (spec_l20Sessions.D 0 (by omega) w _ g bs ps12 HI.out B.out HC.out (by omega) (by omega)) fun zDs16 ADs16 kDs16 ps16 hxs16 hps16 w6 hk B HI2 RDs16 QDs16 => ?_)
      have DIs14_Ds16 := fr QDs16 RIs14
      have MRDs16 := mrf QDs16 KK
      replace F5 := bkr F5 HI (by decide) hk
      replace F8 := bkr F8 HI (by decide) hk
      replace RIs14 := rkr RIs14 HI (by decide) hk
      replace KK := kkr KK hk
      replace HI := HI2
      clear hk QDs16
      refine ⟨_, rfl, ?_⟩
      refine hK.out _ _ F5.out (fun hHeld => ?_)
      clear hK K
      refine norm_ (a' := ?_) ?_ ?_
      rotate_left
      ·show Act.put _ (some 16) _ = _
       simp only [Act.put, List.setIfInBounds_toArray, List.set_cons_zero, List.set_cons_succ, i64_w, i32_w]
       rfl
      refine pu (i := 8) (N := some 18) (v := ?_) (bits 11 511) rfl rfl (any_of HT_.out (by kernel_rfl)) (fun _ _ _ h => h) (by kernel_rfl) ?_ ?_; rotate_left; (intro w'; go_simp; with_reducible rfl)
      refine norm_ (a' := ?_) ?_ ?_
      rotate_left
      ·simp only [Act.put, List.setIfInBounds_toArray, List.set_cons_zero, List.set_cons_succ, i64_w, i32_w]
       rfl
      refine one_ (i := 9) (N := some 9) (bits 11 1023) rfl rfl (one_of HT_.out (by kernel_rfl)) (by decide) (fun K hK => ?_)
      refine bxs (cs := #[.string (⟨#[]⟩ : ByteArray), .string (⟨#[]⟩ : ByteArray), .slice none 0 0, .slice none 0 0, .bool false, .string (⟨#[]⟩ : ByteArray)]) (t := 34) (by rfl) rfl ?hr B (fun g9 w7 hb B F9 L9 E9 => ?_)
      (case hr => first | (go_simp; done) | (go_simp; rfl))
      have N5_9 := ne1 E9 F5
      have N8_9 := ne1 E9 F8
      have M9 := mbx E9 KK
      replace F5 := bn F5 hb
      replace F8 := bn F8 hb
      replace RIs14 := rn RIs14 hb
      replace RDs16 := rn RDs16 hb
      replace HI := hib HI hb
      replace KK := kkb KK hb
      clear hb E9
      refine hK.out _ _ F5.out (fun hHeld => ?_)
      clear hK K
      refine norm_ (a' := ?_) ?_ ?_
      rotate_left
      ·show Act.put _ (some 9) _ = _
       simp only [Act.put, List.setIfInBounds_toArray, List.set_cons_zero, List.set_cons_succ, i64_w, i32_w]
       rfl
      refine norm_ (a' := _) ?_ (J ⟨ADs12, kDs12, zDs12, AIs14, kIs14, zIs14, ADs16, kDs16, zDs16, g9, ps16⟩ _ ⟨B, F5, F8, F9, L9, N5_9, N8_9, RIs14, RDs16, DIs14_Ds16, HI, KK, M9, MRIs14, MRDs16, (by omega), (by rw [← hzIs14]; exact Nat.le_trans (inM_len _ _ _) hxs12), hxs16⟩)
      simp only [putAll, Act.put, List.setIfInBounds_toArray, List.set_cons_zero, List.set_cons_succ]
      try rfl
     ·refine bxs (cs := #[.string (⟨#[]⟩ : ByteArray), .string (⟨#[]⟩ : ByteArray), .slice none 0 0, .slice none 0 0, .bool false, .string (⟨#[]⟩ : ByteArray)]) (t := 34) (by rfl) rfl ?hr B (fun g9 w6 hb B F9 L9 E9 => ?_)
      (case hr => first | (go_simp; done) | (go_simp; rfl))
      have N5_9 := ne1 E9 F5
      have N8_9 := ne1 E9 F8
      have M9 := mbx E9 KK
      replace F5 := bn F5 hb
      replace F8 := bn F8 hb
      replace RIs14 := rn RIs14 hb
      replace HI := hib HI hb
      replace KK := kkb KK hb
      clear hb E9
      refine hK.out _ _ F5.out (fun hHeld => ?_)
      clear hK K
      refine norm_ (a' := ?_) ?_ ?_
      rotate_left
      ·show Act.put _ (some 9) _ = _
       simp only [Act.put, List.setIfInBounds_toArray, List.set_cons_zero, List.set_cons_succ, i64_w, i32_w]
       rfl
      refine one_ (i := 6) (N := some 16) (bits 11 767) rfl rfl (one_of HT_.out (by kernel_rfl)) (by decide) (fun K hK => ?_)
      refine goes_ Try.func98 (by kernel_rfl) rfl #[.pointer (some ⟨g, 0, none⟩), .int .i64 (0)] (by rfl) rfl rfl (by (try simp only [List.map_toArray, List.map_cons, List.map_nil]); rfl) ?_
      (with_reducible refine cgr (spec_l20Sessions.D 0 (by omega) w _ g bs ps12 HI.out B.out HC.out (by omega) (by omega)) fun zDs16 ADs16 kDs16 ps16 hxs16 hps16 w7 hk B HI2 RDs16 QDs16 => ?_)
      have DIs14_Ds16 := fr QDs16 RIs14
      have MRDs16 := mrf QDs16 KK
      replace F5 := bkr F5 HI (by decide) hk
      replace F8 := bkr F8 HI (by decide) hk
      replace F9 := bkr F9 HI (by decide) hk
      replace RIs14 := rkr RIs14 HI (by decide) hk
      replace KK := kkr KK hk
      replace HI := HI2
      clear hk QDs16
      refine ⟨_, rfl, ?_⟩
      refine hK.out _ _ F5.out (fun hHeld => ?_)
      clear hK K
      refine norm_ (a' := ?_) ?_ ?_
      rotate_left
      ·show Act.put _ (some 16) _ = _
       simp only [Act.put, List.setIfInBounds_toArray, List.set_cons_zero, List.set_cons_succ, i64_w, i32_w]
       rfl
      refine pu (i := 8) (N := some 18) (v := ?_) (bits 11 1023) rfl rfl (any_of HT_.out (by kernel_rfl)) (fun _ _ _ h => h) (by kernel_rfl) ?_ ?_; rotate_left; (intro w'; go_simp; with_reducible rfl)
      refine norm_ (a' := ?_) ?_ ?_
      rotate_left
      ·simp only [Act.put, List.setIfInBounds_toArray, List.set_cons_zero, List.set_cons_succ, i64_w, i32_w]
       rfl
      refine norm_ (a' := _) ?_ (J ⟨ADs12, kDs12, zDs12, AIs14, kIs14, zIs14, ADs16, kDs16, zDs16, g9, ps16⟩ _ ⟨B, F5, F8, F9, L9, N5_9, N8_9, RIs14, RDs16, DIs14_Ds16, HI, KK, M9, MRIs14, MRDs16, (by omega), (by rw [← hzIs14]; exact Nat.le_trans (inM_len _ _ _) hxs12), hxs16⟩)
      simp only [putAll, Act.put, List.setIfInBounds_toArray, List.set_cons_zero, List.set_cons_succ]
      try rfl
    ·refine bxs (cs := #[.string (⟨#[]⟩ : ByteArray), .string (⟨#[]⟩ : ByteArray), .slice none 0 0, .slice none 0 0, .bool false, .string (⟨#[]⟩ : ByteArray)]) (t := 34) (by rfl) rfl ?hr B (fun g9 w5 hb B F9 L9 E9 => ?_)
     (case hr => first | (go_simp; done) | (go_simp; rfl))
     have N5_9 := ne1 E9 F5
     have N8_9 := ne1 E9 F8
     have M9 := mbx E9 KK
     replace F5 := bn F5 hb
     replace F8 := bn F8 hb
     replace RDs12 := rn RDs12 hb
     replace HI := hib HI hb
     replace KK := kkb KK hb
     clear hb E9
     refine hK.out _ _ F5.out (fun hHeld => ?_)
     clear hK K
     refine norm_ (a' := ?_) ?_ ?_
     rotate_left
     ·show Act.put _ (some 9) _ = _
      simp only [Act.put, List.setIfInBounds_toArray, List.set_cons_zero, List.set_cons_succ, i64_w, i32_w]
      rfl
     refine one_ (i := 4) (N := some 14) (bits 11 703) rfl rfl (one_of HT_.out (by kernel_rfl)) (by decide) (fun K hK => ?_)
     refine goes_ Try.func74 (by kernel_rfl) rfl #[.slice ADs12 zDs12.length kDs12, .agg #[.string va, .string vb]] (by rfl) rfl rfl (by (try simp only [List.map_toArray, List.map_cons, List.map_nil]); rfl) ?_
     with_reducible refine crz (spec_PairsIn.M _ _ zDs12 va vb _ (rc RDs12) (rl RDs12)) B fun zIs14 hzIs14 AIs14 kIs14 w6 hb B RIs14 QIs14 => ?_
     have MRIs14 := mrf QIs14 KK
     replace F5 := bn F5 hb
     replace F8 := bn F8 hb
     replace F9 := bn F9 hb
     replace HI := hib HI hb
     replace KK := kkb KK hb
     clear hb
     refine ⟨_, rfl, ?_⟩
     refine hK.out _ _ F5.out (fun hHeld => ?_)
     clear hK K
     refine norm_ (a' := ?_) ?_ ?_
     rotate_left
     ·show Act.put _ (some 14) _ = _
      simp only [Act.put, List.setIfInBounds_toArray, List.set_cons_zero, List.set_cons_succ, i64_w, i32_w]
      rfl
     clear QIs14
     refine one_ (i := 6) (N := some 16) (bits 11 767) rfl rfl (one_of HT_.out (by kernel_rfl)) (by decide) (fun K hK => ?_)
     refine goes_ Try.func98 (by kernel_rfl) rfl #[.pointer (some ⟨g, 0, none⟩), .int .i64 (0)] (by rfl) rfl rfl (by (try simp only [List.map_toArray, List.map_cons, List.map_nil]); rfl) ?_
     (with_reducible refine cgr (spec_l20Sessions.D 0 (by omega) w _ g bs ps12 HI.out B.out HC.out (by omega) (by omega)) fun zDs16 ADs16 kDs16 ps16 hxs16 hps16 w7 hk B HI2 RDs16 QDs16 => ?_)
     have DIs14_Ds16 := fr QDs16 RIs14
     have MRDs16 := mrf QDs16 KK
     replace F5 := bkr F5 HI (by decide) hk
     replace F8 := bkr F8 HI (by decide) hk
     replace F9 := bkr F9 HI (by decide) hk
     replace RIs14 := rkr RIs14 HI (by decide) hk
     replace KK := kkr KK hk
     replace HI := HI2
     clear hk QDs16
     refine ⟨_, rfl, ?_⟩
     refine hK.out _ _ F5.out (fun hHeld => ?_)
     clear hK K
     refine norm_ (a' := ?_) ?_ ?_
     rotate_left
     ·show Act.put _ (some 16) _ = _
      simp only [Act.put, List.setIfInBounds_toArray, List.set_cons_zero, List.set_cons_succ, i64_w, i32_w]
      rfl
     refine pu (i := 8) (N := some 18) (v := ?_) (bits 11 1023) rfl rfl (any_of HT_.out (by kernel_rfl)) (fun _ _ _ h => h) (by kernel_rfl) ?_ ?_; rotate_left; (intro w'; go_simp; with_reducible rfl)
     refine norm_ (a' := ?_) ?_ ?_
     rotate_left
     ·simp only [Act.put, List.setIfInBounds_toArray, List.set_cons_zero, List.set_cons_succ, i64_w, i32_w]
      rfl
     refine norm_ (a' := _) ?_ (J ⟨ADs12, kDs12, zDs12, AIs14, kIs14, zIs14, ADs16, kDs16, zDs16, g9, ps16⟩ _ ⟨B, F5, F8, F9, L9, N5_9, N8_9, RIs14, RDs16, DIs14_Ds16, HI, KK, M9, MRIs14, MRDs16, (by omega), (by rw [← hzIs14]; exact Nat.le_trans (inM_len _ _ _) hxs12), hxs16⟩)
     simp only [putAll, Act.put, List.setIfInBounds_toArray, List.set_cons_zero, List.set_cons_succ]
     try rfl
   ·refine bxs (cs := #[.string (⟨#[]⟩ : ByteArray), .string (⟨#[]⟩ : ByteArray), .slice none 0 0, .slice none 0 0, .bool false, .string (⟨#[]⟩ : ByteArray)]) (t := 34) (by rfl) rfl ?hr B (fun g9 w4 hb B F9 L9 E9 => ?_)
    (case hr => first | (go_simp; done) | (go_simp; rfl))
    have N5_9 := ne1 E9 F5
    have N8_9 := ne1 E9 F8
    have M9 := mbx E9 KK
    replace F5 := bn F5 hb
    replace F8 := bn F8 hb
    replace HI := hib HI hb
    replace KK := kkb KK hb
    clear hb E9
    refine hK.out _ _ F5.out (fun hHeld => ?_)
    clear hK K
    refine norm_ (a' := ?_) ?_ ?_
    rotate_left
    ·show Act.put _ (some 9) _ = _
     simp only [Act.put, List.setIfInBounds_toArray, List.set_cons_zero, List.set_cons_succ, i64_w, i32_w]
     rfl
    refine one_ (i := 2) (N := some 12) (bits 11 687) rfl rfl (one_of HT_.out (by kernel_rfl)) (by decide) (fun K hK => ?_)
    refine goes_ Try.func97 (by kernel_rfl) rfl #[.pointer (some ⟨g, 0, none⟩), .int .i64 (0)] (by rfl) rfl rfl (by (try simp only [List.map_toArray, List.map_cons, List.map_nil]); rfl) ?_
    (with_reducible refine cgr (spec_l20Pairs.D 0 (by omega) w _ g bs p HI.out B.out HC.out (by omega) (by omega)) fun zDs12 ADs12 kDs12 ps12 hxs12 hps12 w5 hk B HI2 RDs12 QDs12 => ?_)
    have MRDs12 := mrf QDs12 KK
    replace F5 := bkr F5 HI (by decide) hk
    replace F8 := bkr F8 HI (by decide) hk
    replace F9 := bkr F9 HI (by decide) hk
    replace KK := kkr KK hk
    replace HI := HI2
    clear hk QDs12
    refine ⟨_, rfl, ?_⟩
    refine hK.out _ _ F5.out (fun hHeld => ?_)
    clear hK K
    refine norm_ (a' := ?_) ?_ ?_
    rotate_left
    ·show Act.put _ (some 12) _ = _
     simp only [Act.put, List.setIfInBounds_toArray, List.set_cons_zero, List.set_cons_succ, i64_w, i32_w]
     rfl
    refine one_ (i := 4) (N := some 14) (bits 11 703) rfl rfl (one_of HT_.out (by kernel_rfl)) (by decide) (fun K hK => ?_)
    refine goes_ Try.func74 (by kernel_rfl) rfl #[.slice ADs12 zDs12.length kDs12, .agg #[.string va, .string vb]] (by rfl) rfl rfl (by (try simp only [List.map_toArray, List.map_cons, List.map_nil]); rfl) ?_
    with_reducible refine crz (spec_PairsIn.M _ _ zDs12 va vb _ (rc RDs12) (rl RDs12)) B fun zIs14 hzIs14 AIs14 kIs14 w6 hb B RIs14 QIs14 => ?_
    have MRIs14 := mrf QIs14 KK
    replace F5 := bn F5 hb
    replace F8 := bn F8 hb
    replace F9 := bn F9 hb
    replace HI := hib HI hb
    replace KK := kkb KK hb
    clear hb
    refine ⟨_, rfl, ?_⟩
    refine hK.out _ _ F5.out (fun hHeld => ?_)
    clear hK K
    refine norm_ (a' := ?_) ?_ ?_
    rotate_left
    ·show Act.put _ (some 14) _ = _
     simp only [Act.put, List.setIfInBounds_toArray, List.set_cons_zero, List.set_cons_succ, i64_w, i32_w]
     rfl
    clear QIs14
    refine one_ (i := 6) (N := some 16) (bits 11 767) rfl rfl (one_of HT_.out (by kernel_rfl)) (by decide) (fun K hK => ?_)
    refine goes_ Try.func98 (by kernel_rfl) rfl #[.pointer (some ⟨g, 0, none⟩), .int .i64 (0)] (by rfl) rfl rfl (by (try simp only [List.map_toArray, List.map_cons, List.map_nil]); rfl) ?_
    (with_reducible refine cgr (spec_l20Sessions.D 0 (by omega) w _ g bs ps12 HI.out B.out HC.out (by omega) (by omega)) fun zDs16 ADs16 kDs16 ps16 hxs16 hps16 w7 hk B HI2 RDs16 QDs16 => ?_)
    have DIs14_Ds16 := fr QDs16 RIs14
    have MRDs16 := mrf QDs16 KK
    replace F5 := bkr F5 HI (by decide) hk
    replace F8 := bkr F8 HI (by decide) hk
    replace F9 := bkr F9 HI (by decide) hk
    replace RIs14 := rkr RIs14 HI (by decide) hk
    replace KK := kkr KK hk
    replace HI := HI2
    clear hk QDs16
    refine ⟨_, rfl, ?_⟩
    refine hK.out _ _ F5.out (fun hHeld => ?_)
    clear hK K
    refine norm_ (a' := ?_) ?_ ?_
    rotate_left
    ·show Act.put _ (some 16) _ = _
     simp only [Act.put, List.setIfInBounds_toArray, List.set_cons_zero, List.set_cons_succ, i64_w, i32_w]
     rfl
    refine pu (i := 8) (N := some 18) (v := ?_) (bits 11 1023) rfl rfl (any_of HT_.out (by kernel_rfl)) (fun _ _ _ h => h) (by kernel_rfl) ?_ ?_; rotate_left; (intro w'; go_simp; with_reducible rfl)
    refine norm_ (a' := ?_) ?_ ?_
    rotate_left
    ·simp only [Act.put, List.setIfInBounds_toArray, List.set_cons_zero, List.set_cons_succ, i64_w, i32_w]
     rfl
    refine norm_ (a' := _) ?_ (J ⟨ADs12, kDs12, zDs12, AIs14, kIs14, zIs14, ADs16, kDs16, zDs16, g9, ps16⟩ _ ⟨B, F5, F8, F9, L9, N5_9, N8_9, RIs14, RDs16, DIs14_Ds16, HI, KK, M9, MRIs14, MRDs16, (by omega), (by rw [← hzIs14]; exact Nat.le_trans (inM_len _ _ _) hxs12), hxs16⟩)
    simp only [putAll, Act.put, List.setIfInBounds_toArray, List.set_cons_zero, List.set_cons_succ]
    try rfl
  rintro ⟨ADs12, kDs12, zDs12, AIs14, kIs14, zIs14, ADs16, kDs16, zDs16, g9, ps16⟩ w8 ⟨B, F5, F8, F9, L9, N5_9, N8_9, RIs14, RDs16, DIs14_Ds16, HI, KK, M9, MRIs14, MRDs16, hpj1, hlIs14, hlDs16⟩
  refine norm_ (a' := ?_) ?_ ?_
  rotate_left
  ·simp only [putAll, Act.put, List.setIfInBounds_toArray, List.set_cons_zero, List.set_cons_succ]
   rfl
  refine one_ (i := 10) (N := none) (bits 11 2047) rfl rfl (one_of HT_.out (by kernel_rfl)) (by decide) (fun K hK => ?_)
  obtain ⟨y0, y1, y2, y3, y4, y5⟩ := cs6 F9
  have z0 := fz F9 0
  have z1 := fz F9 1
  have z2 := fz F9 2
  have z3 := fz F9 3
  have z4 := fz F9 4
  have z5 := fz F9 5
  refine sxs (g := g9) 0 [.string va, .string vb, .slice AIs14 zIs14.length kIs14, .slice ADs16 zDs16.length kDs16, .bool true, .string ct] [.string va, .string vb, .slice AIs14 zIs14.length kIs14, .slice ADs16 zDs16.length kDs16, .bool true, .string ct] (by rfl) rfl ?hr B F9 L9 rfl (Nat.le_of_ble_eq_true rfl) (fun w9 hk B G => ?_)
  (case hr => first | (go_simp; done) | (go_simp; rfl))
  replace F5 := bk F5 hk N5_9.out
  replace F8 := bk F8 hk N8_9.out
  replace RIs14 := rk RIs14 F9 (by decide) hk
  replace RDs16 := rk RDs16 F9 (by decide) hk
  replace HI := his HI F9 (by decide) hk
  replace KK := kks KK M9 hk
  replace F9 := G
  clear hk y0 z0 y1 z1 y2 z2 y3 z3 y4 z4 y5 z5
  refine hK.out _ _ F5.out (fun hHeld => ?_)
  clear hK K
  refine done_ (done_of HT_.out (by kernel_rfl)) ?_)
 all_goals go_wp2_with (first
  | (go_at_call 99; (with_reducible refine cg1 (spec_l20Rd_odd.D n (by omega) w _ g bs ps16 HI.out B.out HC.out (by omega) (by omega)) fun x10 p10 hx10 hp10 w10 hk B HI2 => ?_); replace F8 := bkr F8 HI (by decide) hk; replace F9 := bkr F9 HI (by decide) hk; replace RIs14 := rkr RIs14 HI (by decide) hk; replace RDs16 := rkr RDs16 HI (by decide) hk; replace KK := kkr KK hk; replace HI := HI2; clear hk; skip; obtain ⟨c9_0, c9_1, c9_2, c9_3, c9_4, c9_5⟩ := cs6 F9; (
  cases x10; (
  focus (
  go_wp2_with (first
   | ((with_reducible refine gate_store (t := 34) (p := 8) rfl ?_); obtain ⟨y0, y1, y2, y3, y4, y5⟩ := cs6 F8; have z0 := fz F8 0; have z1 := fz F8 1; have z2 := fz F8 2; have z3 := fz F8 3; have z4 := fz F8 4; have z5 := fz F8 5; refine sx (t := 34) (t' := 34) (p := 8) (v := ?vo101) ?hg ?ho ?hn 0 [.string va, .string vb, .slice AIs14 zIs14.length kIs14, .slice ADs16 zDs16.length kDs16, .bool true, .string ct] [.string va, .string vb, .slice AIs14 zIs14.length kIs14, .slice ADs16 zDs16.length kDs16, .bool true, .string ct] ?hr B F8 L8 rfl (Nat.le_of_ble_eq_true rfl) ?_; (case ho => rfl); (case hg => rfl); (case hn => rfl); (case hr => first | (go_simp; done) | (go_simp; rfl)); intro w101 hk B G; replace F9 := bk F9 hk N8_9.out.symm; replace RIs14 := rk RIs14 F8 (by decide) hk; replace RDs16 := rk RDs16 F8 (by decide) hk; replace HI := his HI F8 (by decide) hk; replace KK := kks KK M8 hk; replace F8 := G; clear hk y0 z0 y1 z1 y2 z2 y3 z3 y4 z4 y5 z5)); refine bodyPost_ret (results_single rfl (.cell g8 34 _ (0, 0) _ rfl F8.out hu rfl (by kernel_rfl) .nil)) rfl ?_; exact ⟨_, _, _, _, _, _, _, _, _, rfl, ⟨hlIs14, hlDs16⟩, ⟨RIs14.out, MRIs14.out⟩, ⟨RDs16.out, MRDs16.out⟩, ⟨by omega, by omega⟩, HI.out, B.out, KK.out⟩)); (
  go_wp2_with (first
   | (go_at_call 79; (with_reducible refine cg1 (spec_l20Rd_pick.D 3 w _ g bs p10 HI.out B.out HC.out (by omega) (by omega)) fun x201 p201 hx201 hp201 w201 hk B HI2 => ?_); replace F8 := bkr F8 HI (by decide) hk; replace F9 := bkr F9 HI (by decide) hk; replace RIs14 := rkr RIs14 HI (by decide) hk; replace RDs16 := rkr RDs16 HI (by decide) hk; replace KK := kkr KK hk; replace HI := HI2; clear hk; skip; (
    by_cases ex201_0 : x201 = 0; (
    focus (
    have dx201_0 : (x201 == 0) = true := beq_iff_eq.mpr ex201_0; clear ex201_0; (
    go_wp2_with (first
     | ((with_reducible refine gate_store (t := 4) (p := 29) rfl ?_); obtain ⟨y0, y1, y2, y3, y4, y5⟩ := cs6 F9; have z0 := fz F9 0; have z1 := fz F9 1; have z2 := fz F9 2; have z3 := fz F9 3; have z4 := fz F9 4; have z5 := fz F9 5; refine sx (t := 34) (t' := 4) (p := 29) (v := ?vo301) ?hg ?ho ?hn 4 [.bool false] [.string va, .string vb, .slice AIs14 zIs14.length kIs14, .slice ADs16 zDs16.length kDs16, .bool false, .string ct] ?hr B F9 L9 rfl (Nat.le_of_ble_eq_true rfl) ?_; (case ho => rfl); (case hg => rfl); (case hn => rfl); (case hr => first | (go_simp; done) | (go_simp; rfl)); intro w301 hk B G; replace F8 := bk F8 hk N8_9.out; replace RIs14 := rk RIs14 F9 (by decide) hk; replace RDs16 := rk RDs16 F9 (by decide) hk; replace HI := his HI F9 (by decide) hk; replace KK := kks KK M9 hk; replace F9 := G; clear c9_0 c9_1 c9_2 c9_3 c9_4 c9_5; obtain ⟨c9_0, c9_1, c9_2, c9_3, c9_4, c9_5⟩ := cs6 F9; clear hk y0 z0 y1 z1 y2 z2 y3 z3 y4 z4 y5 z5)
     | ((with_reducible refine gate_store (t := 9) (p := 30) rfl ?_); obtain ⟨y0, y1, y2, y3, y4, y5⟩ := cs6 F9; have z0 := fz F9 0; have z1 := fz F9 1; have z2 := fz F9 2; have z3 := fz F9 3; have z4 := fz F9 4; have z5 := fz F9 5; refine sx (t := 34) (t' := 9) (p := 30) (v := ?vo302) ?hg ?ho ?hn 5 [.string (⟨#[]⟩ : ByteArray)] [.string va, .string vb, .slice AIs14 zIs14.length kIs14, .slice ADs16 zDs16.length kDs16, .bool false, .string (⟨#[]⟩ : ByteArray)] ?hr B F9 L9 rfl (Nat.le_of_ble_eq_true rfl) ?_; (case ho => rfl); (case hg => rfl); (case hn => rfl); (case hr => first | (go_simp; done) | (go_simp; rfl)); intro w302 hk B G; replace F8 := bk F8 hk N8_9.out; replace RIs14 := rk RIs14 F9 (by decide) hk; replace RDs16 := rk RDs16 F9 (by decide) hk; replace HI := his HI F9 (by decide) hk; replace KK := kks KK M9 hk; replace F9 := G; clear c9_0 c9_1 c9_2 c9_3 c9_4 c9_5; obtain ⟨c9_0, c9_1, c9_2, c9_3, c9_4, c9_5⟩ := cs6 F9; clear hk y0 z0 y1 z1 y2 z2 y3 z3 y4 z4 y5 z5)
     | ((with_reducible refine gate_store (t := 34) (p := 8) rfl ?_); obtain ⟨y0, y1, y2, y3, y4, y5⟩ := cs6 F8; have z0 := fz F8 0; have z1 := fz F8 1; have z2 := fz F8 2; have z3 := fz F8 3; have z4 := fz F8 4; have z5 := fz F8 5; refine sx (t := 34) (t' := 34) (p := 8) (v := ?vo303) ?hg ?ho ?hn 0 [.string va, .string vb, .slice AIs14 zIs14.length kIs14, .slice ADs16 zDs16.length kDs16, .bool false, .string (⟨#[]⟩ : ByteArray)] [.string va, .string vb, .slice AIs14 zIs14.length kIs14, .slice ADs16 zDs16.length kDs16, .bool false, .string (⟨#[]⟩ : ByteArray)] ?hr B F8 L8 rfl (Nat.le_of_ble_eq_true rfl) ?_; (case ho => rfl); (case hg => rfl); (case hn => rfl); (case hr => first | (go_simp; done) | (go_simp; rfl)); intro w303 hk B G; replace F9 := bk F9 hk N8_9.out.symm; replace RIs14 := rk RIs14 F8 (by decide) hk; replace RDs16 := rk RDs16 F8 (by decide) hk; replace HI := his HI F8 (by decide) hk; replace KK := kks KK M8 hk; replace F8 := G; clear hk y0 z0 y1 z1 y2 z2 y3 z3 y4 z4 y5 z5)); refine bodyPost_ret (results_single rfl (.cell g8 34 _ (0, 0) _ rfl F8.out hu rfl (by kernel_rfl) .nil)) rfl ?_; exact ⟨_, _, _, _, _, _, _, _, _, rfl, ⟨hlIs14, hlDs16⟩, ⟨RIs14.out, MRIs14.out⟩, ⟨RDs16.out, MRDs16.out⟩, ⟨by omega, by omega⟩, HI.out, B.out, KK.out⟩))); (
    have dx201_0 : (x201 == 0) = false := beq_eq_false_iff_ne.mpr ex201_0; (
    by_cases ex201_1 : x201 = 1; (
    focus (
    have dx201_1 : (x201 == 1) = true := beq_iff_eq.mpr ex201_1; clear ex201_1; (
    go_wp2_with (first
     | ((with_reducible refine gate_store (t := 9) (p := 33) rfl ?_); obtain ⟨y0, y1, y2, y3, y4, y5⟩ := cs6 F9; have z0 := fz F9 0; have z1 := fz F9 1; have z2 := fz F9 2; have z3 := fz F9 3; have z4 := fz F9 4; have z5 := fz F9 5; refine sx (t := 34) (t' := 9) (p := 33) (v := ?vo501) ?hg ?ho ?hn 5 [.string (⟨#[122, 122, 122, 122]⟩ : ByteArray)] [.string va, .string vb, .slice AIs14 zIs14.length kIs14, .slice ADs16 zDs16.length kDs16, .bool true, .string (⟨#[122, 122, 122, 122]⟩ : ByteArray)] ?hr B F9 L9 rfl (Nat.le_of_ble_eq_true rfl) ?_; (case ho => rfl); (case hg => rfl); (case hn => rfl); (case hr => first | (go_simp; done) | (go_simp; rfl)); intro w501 hk B G; replace F8 := bk F8 hk N8_9.out; replace RIs14 := rk RIs14 F9 (by decide) hk; replace RDs16 := rk RDs16 F9 (by decide) hk; replace HI := his HI F9 (by decide) hk; replace KK := kks KK M9 hk; replace F9 := G; clear c9_0 c9_1 c9_2 c9_3 c9_4 c9_5; obtain ⟨c9_0, c9_1, c9_2, c9_3, c9_4, c9_5⟩ := cs6 F9; clear hk y0 z0 y1 z1 y2 z2 y3 z3 y4 z4 y5 z5)
     | ((with_reducible refine gate_store (t := 34) (p := 8) rfl ?_); obtain ⟨y0, y1, y2, y3, y4, y5⟩ := cs6 F8; have z0 := fz F8 0; have z1 := fz F8 1; have z2 := fz F8 2; have z3 := fz F8 3; have z4 := fz F8 4; have z5 := fz F8 5; refine sx (t := 34) (t' := 34) (p := 8) (v := ?vo502) ?hg ?ho ?hn 0 [.string va, .string vb, .slice AIs14 zIs14.length kIs14, .slice ADs16 zDs16.length kDs16, .bool true, .string (⟨#[122, 122, 122, 122]⟩ : ByteArray)] [.string va, .string vb, .slice AIs14 zIs14.length kIs14, .slice ADs16 zDs16.length kDs16, .bool true, .string (⟨#[122, 122, 122, 122]⟩ : ByteArray)] ?hr B F8 L8 rfl (Nat.le_of_ble_eq_true rfl) ?_; (case ho => rfl); (case hg => rfl); (case hn => rfl); (case hr => first | (go_simp; done) | (go_simp; rfl)); intro w502 hk B G; replace F9 := bk F9 hk N8_9.out.symm; replace RIs14 := rk RIs14 F8 (by decide) hk; replace RDs16 := rk RDs16 F8 (by decide) hk; replace HI := his HI F8 (by decide) hk; replace KK := kks KK M8 hk; replace F8 := G; clear hk y0 z0 y1 z1 y2 z2 y3 z3 y4 z4 y5 z5)); refine bodyPost_ret (results_single rfl (.cell g8 34 _ (0, 0) _ rfl F8.out hu rfl (by kernel_rfl) .nil)) rfl ?_; exact ⟨_, _, _, _, _, _, _, _, _, rfl, ⟨hlIs14, hlDs16⟩, ⟨RIs14.out, MRIs14.out⟩, ⟨RDs16.out, MRDs16.out⟩, ⟨by omega, by omega⟩, HI.out, B.out, KK.out⟩))); (
    have dx201_1 : (x201 == 1) = false := beq_eq_false_iff_ne.mpr ex201_1; (
    go_wp2_with (first
     | (go_at_call 98; (with_reducible refine cgr (spec_l20Sessions.D 1 (by omega) w _ g bs p201 HI.out B.out HC.out (by omega) (by omega)) fun zD601 AD601 kD601 p601 hx601 hp601 w601 hk B HI2 RD601 QD601 => ?_); have DIs14_D601 := fr QD601 RIs14; have DDs16_D601 := fr QD601 RDs16; have MRD601 := mrf QD601 KK; replace F8 := bkr F8 HI (by decide) hk; replace F9 := bkr F9 HI (by decide) hk; replace RIs14 := rkr RIs14 HI (by decide) hk; replace RDs16 := rkr RDs16 HI (by decide) hk; replace KK := kkr KK hk; replace HI := HI2; clear hk QD601; clear c9_0 c9_1 c9_2 c9_3 c9_4 c9_5; obtain ⟨c9_0, c9_1, c9_2, c9_3, c9_4, c9_5⟩ := cs6 F9; skip)
     | ((with_reducible refine gate_store (t := 32) (p := 26) rfl ?_); obtain ⟨y0, y1, y2, y3, y4, y5⟩ := cs6 F9; have z0 := fz F9 0; have z1 := fz F9 1; have z2 := fz F9 2; have z3 := fz F9 3; have z4 := fz F9 4; have z5 := fz F9 5; refine sx (t := 34) (t' := 32) (p := 26) (v := ?vo602) ?hg ?ho ?hn 3 [.slice AD601 zD601.length kD601] [.string va, .string vb, .slice AIs14 zIs14.length kIs14, .slice AD601 zD601.length kD601, .bool true, .string ct] ?hr B F9 L9 rfl (Nat.le_of_ble_eq_true rfl) ?_; (case ho => rfl); (case hg => rfl); (case hn => rfl); (case hr => first | (go_simp; done) | (go_simp; rfl)); intro w602 hk B G; replace F8 := bk F8 hk N8_9.out; replace RIs14 := rk RIs14 F9 (by decide) hk; replace RDs16 := rk RDs16 F9 (by decide) hk; replace RD601 := rk RD601 F9 (by decide) hk; replace HI := his HI F9 (by decide) hk; replace KK := kks KK M9 hk; replace F9 := G; clear c9_0 c9_1 c9_2 c9_3 c9_4 c9_5; obtain ⟨c9_0, c9_1, c9_2, c9_3, c9_4, c9_5⟩ := cs6 F9; clear hk y0 z0 y1 z1 y2 z2 y3 z3 y4 z4 y5 z5)
     | ((with_reducible refine gate_store (t := 34) (p := 8) rfl ?_); obtain ⟨y0, y1, y2, y3, y4, y5⟩ := cs6 F8; have z0 := fz F8 0; have z1 := fz F8 1; have z2 := fz F8 2; have z3 := fz F8 3; have z4 := fz F8 4; have z5 := fz F8 5; refine sx (t := 34) (t' := 34) (p := 8) (v := ?vo603) ?hg ?ho ?hn 0 [.string va, .string vb, .slice AIs14 zIs14.length kIs14, .slice AD601 zD601.length kD601, .bool true, .string ct] [.string va, .string vb, .slice AIs14 zIs14.length kIs14, .slice AD601 zD601.length kD601, .bool true, .string ct] ?hr B F8 L8 rfl (Nat.le_of_ble_eq_true rfl) ?_; (case ho => rfl); (case hg => rfl); (case hn => rfl); (case hr => first | (go_simp; done) | (go_simp; rfl)); intro w603 hk B G; replace F9 := bk F9 hk N8_9.out.symm; replace RIs14 := rk RIs14 F8 (by decide) hk; replace RDs16 := rk RDs16 F8 (by decide) hk; replace RD601 := rk RD601 F8 (by decide) hk; replace HI := his HI F8 (by decide) hk; replace KK := kks KK M8 hk; replace F8 := G; clear hk y0 z0 y1 z1 y2 z2 y3 z3 y4 z4 y5 z5)); refine bodyPost_ret (results_single rfl (.cell g8 34 _ (0, 0) _ rfl F8.out hu rfl (by kernel_rfl) .nil)) rfl ?_; exact ⟨_, _, _, _, _, _, _, _, _, rfl, ⟨hlIs14, hx601⟩, ⟨RIs14.out, MRIs14.out⟩, ⟨RD601.out, MRD601.out⟩, ⟨by omega, by omega⟩, HI.out, B.out, KK.out⟩)))))))))))

theorem pick_div {x : Int} (h0 : 0 ≤ x) (h1 : x < 5) : 0 ≤ Int.tdiv x 4 ∧ Int.tdiv x 4 < 2 := by
 rw [Int.tdiv_eq_ediv_of_nonneg h0]
 omega
def spec_DrawStateJoin.T3 : Bool × List (List Nat × List Nat) := (true, [([], []), ([], []), ([1], [1]), ([0, 2, 2], [0, 2]), ([3], [3]), ([4], [4]), ([4], [4]), ([4], [4]), ([], []), ([], []), ([8, 5, 3, 0, 1, 2, 3, 4, 5, 8, 9], [5, 8]), ([9, 6, 10, 0, 1, 2, 3, 4, 5, 6, 8, 9, 10], [6, 9]), ([7, 11, 0, 1, 2, 3, 4, 5, 6, 7, 8, 9, 10, 11], [7])])
def spec_DrawStateJoin.B3 : List Nat := [0, 0, 2, 7, 15, 31, 31, 31, 0, 0, 831, 1919, 4095]
theorem spec_DrawStateJoin.tab3 : rtab .any (opsOf Try.f42 3) = spec_DrawStateJoin.T3 := by kernel_rfl
theorem spec_DrawStateJoin.bits3 : waitsOk spec_DrawStateJoin.T3.2 spec_DrawStateJoin.B3 = true := by kernel_rfl
def spec_DrawStateJoin.T8 : Bool × List (List Nat × List Nat) := (true, [([], []), ([], []), ([], []), ([1, 2], [1, 2]), ([0, 3, 0], [0]), ([3, 4, 0, 1, 2, 3, 4], [3])])
def spec_DrawStateJoin.B8 : List Nat := [0, 0, 0, 6, 15, 31]
theorem spec_DrawStateJoin.tab8 : rtab .any (opsOf Try.f42 8) = spec_DrawStateJoin.T8 := by kernel_rfl
theorem spec_DrawStateJoin.bits8 : waitsOk spec_DrawStateJoin.T8.2 spec_DrawStateJoin.B8 = true := by kernel_rfl
theorem spec_DrawStateJoin.D (A0 : Option Addr) (c0 : Nat) (l : List Int) (w : World) (hr0 : Kd.C (Kd.int .u8) w A0 l.length l) (hc0 : l.length ≤ c0) (hs : ∀ x ∈ l, (Lit.int .u8 x).wf = true) : Calls Try.prog 42 #[.slice A0 l.length c0] w fun e w' => ∃ a b v0 v1 t c xs ys a2 b2 v2 v3 t2 c2 xs2 ys2, e = .returned (.tuple #[.agg #[.string a, .string b, v0, v1, .bool t, .string c], .agg #[.string a2, .string b2, v2, v3, .bool t2, .string c2]]) ∧ ((xs.length ≤ 300 ∧ ys.length ≤ 300) ∧ xs2.length ≤ 300 ∧ ys2.length ≤ 300) ∧ (Kd.R k61 61 w' w.heap.size (fun _ => True) v0 xs ∧ Kd.R k100 100 w' w.heap.size (fun _ => True) v1 ys) ∧ (Kd.R k61 61 w' w.heap.size (fun _ => True) v2 xs2 ∧ Kd.R k100 100 w' w.heap.size (fun _ => True) v3 ys2) ∧ Below w.heap.size w w' := by
 obtain ⟨bs, hc, ho⟩ := Dw.spec_open l hs
 have B := Aside0.mk (Below.refl w.heap.size w)
 have HR0 := Aside0.mk hr0
 have HC0 := Aside0.mk hc0
 have HC := Aside0.mk hc
 have HO := Aside0.mk ho
 clear hr0 hc0 hs hc ho
 have hu := Try.underlying34
 have hu2 := Try.underlying30
 go_enter Try.func42, Try.ntmps42
 go_wp2_with (first
  | ((with_reducible refine gate_dst (N := 2) rfl ?_); refine bx ?hg (N := 2) ?hd (cs := #[.string (⟨#[]⟩ : ByteArray), .string (⟨#[]⟩ : ByteArray), .slice none 0 0, .slice none 0 0, .bool false, .string (⟨#[]⟩ : ByteArray)]) (t := 34) ?hr B ?_; (case hd => rfl); (case hg => rfl); (case hr => first | (go_simp; done) | (go_simp; rfl)); intro g2 w1 hb B F2 L2 E2; clear hb E2)
  | ((with_reducible refine gate_dst (N := 3) rfl ?_); refine bx ?hg (N := 3) ?hd (cs := #[.string (⟨#[]⟩ : ByteArray), .string (⟨#[]⟩ : ByteArray), .slice none 0 0, .slice none 0 0, .bool false, .string (⟨#[]⟩ : ByteArray)]) (t := 34) ?hr B ?_; (case hd => rfl); (case hg => rfl); (case hr => first | (go_simp; done) | (go_simp; rfl)); intro g3 w2 hb B F3 L3 E3; have N2_3 := ne1 E3 F2; replace F2 := bn F2 hb; clear hb E3)
  | (go_at_call 63; (with_reducible refine copen (spec_l20Open.calls _ _ l bs 0 w _ B.out HR0.out HC0.out HO.out) fun g w3 hb B HI => ?_); replace F2 := bn F2 hb; replace F3 := bn F3 hb; clear hb)
  | (go_at_call 77; (with_reducible refine cg2 (spec_l20Span.D 0 (by omega) w _ g bs 0 HI.out B.out HC.out (by omega) (by omega)) fun x4 y4 p4 hx4 hp4 w4 hk B HI2 => ?_); replace F2 := bkr F2 HI (by decide) hk; replace F3 := bkr F3 HI (by decide) hk; replace HI := HI2; clear hk; skip)
  | ((with_reducible refine gate_dst (N := 5) rfl ?_); refine bx ?hg (N := 5) ?hd (cs := #[.string (⟨#[]⟩ : ByteArray), .string (⟨#[]⟩ : ByteArray)]) (t := 30) ?hr B ?_; (case hd => rfl); (case hg => rfl); (case hr => first | (go_simp; done) | (go_simp; rfl)); intro g5 w5 hb B F5 L5 E5; have N2_5 := ne1 E5 F2; have N3_5 := ne1 E5 F3; replace F2 := bn F2 hb; replace F3 := bn F3 hb; replace HI := hib HI hb; obtain ⟨c5_0, c5_1⟩ := cs2 F5; clear hb E5)
  | ((with_reducible refine gate_store (t := 30) (p := 5) rfl ?_); obtain ⟨y0, y1⟩ := cs2 F5; have z0 := fz F5 0; have z1 := fz F5 1; refine sx (t := 30) (t' := 30) (p := 5) (v := ?vo6) ?hg ?ho ?hn 0 [.string x4, .string y4] [.string x4, .string y4] ?hr B F5 L5 rfl (Nat.le_of_ble_eq_true rfl) ?_; (case ho => rfl); (case hg => rfl); (case hn => rfl); (case hr => first | (go_simp; done) | (go_simp; rfl)); intro w6 hk B G; replace F2 := bk F2 hk N2_5.out; replace F3 := bk F3 hk N3_5.out; replace HI := his HI F5 (by decide) hk; replace F5 := G; clear c5_0 c5_1; obtain ⟨c5_0, c5_1⟩ := cs2 F5; clear hk y0 z0 y1 z1))
 all_goals (
  refine rg (n := 13) (S := fun W => W.heap[g5]? = some (.cells #[.string x4, .string y4] 30 (0, 0))) (ds := []) #[false, false, false, false, false, false, false, false, false, false, false, false, false] (by kernel_rfl) rfl rfl F5.out id B (fun w7 hb B hHeld => ?_)
  refine with_tabW spec_DrawStateJoin.tab3 spec_DrawStateJoin.bits3 (fun HT_ HW_ => ?_)
  replace F2 := bn F2 hb
  replace F3 := bn F3 hb
  replace F5 := bn F5 hb
  replace HI := hib HI hb
  clear hb
  refine join_ 3 (bits 13 1023) (σ := Nat × Nat × Int × ByteArray) (fun (g6, g7, ps17, xs17) => [(15, .agg #[.string x4, .string y4]), (16, .pointer (some ⟨g, 0, none⟩)), (17, .string xs17), (18, .tuple #[.agg #[.string (cutV x4 y4 xs17).1, .string (cutV x4 y4 xs17).2.1], .agg #[.string (cutV x4 y4 xs17).2.2.1, .string (cutV x4 y4 xs17).2.2.2.1], .bool (cutV x4 y4 xs17).2.2.2.2]), (14, .tuple #[.agg #[.string (cutV x4 y4 xs17).1, .string (cutV x4 y4 xs17).2.1], .agg #[.string (cutV x4 y4 xs17).2.2.1, .string (cutV x4 y4 xs17).2.2.2.1], .bool (cutV x4 y4 xs17).2.2.2.2]), (19, .agg #[.string (cutV x4 y4 xs17).1, .string (cutV x4 y4 xs17).2.1]), (20, .agg #[.string (cutV x4 y4 xs17).2.2.1, .string (cutV x4 y4 xs17).2.2.2.1]), (21, .bool (cutV x4 y4 xs17).2.2.2.2), (6, .pointer (some ⟨g6, 0, none⟩)), (7, .pointer (some ⟨g7, 0, none⟩))]) (fun (g6, g7, ps17, xs17) W => Aside0 (Below w.heap.size w W) ∧ Aside0 (W.heap[g2]? = some (.cells #[.string (⟨#[]⟩ : ByteArray), .string (⟨#[]⟩ : ByteArray), .slice none 0 0, .slice none 0 0, .bool false, .string (⟨#[]⟩ : ByteArray)] 34 (0, 0))) ∧ Aside0 (W.heap[g3]? = some (.cells #[.string (⟨#[]⟩ : ByteArray), .string (⟨#[]⟩ : ByteArray), .slice none 0 0, .slice none 0 0, .bool false, .string (⟨#[]⟩ : ByteArray)] 34 (0, 0))) ∧ Aside0 (W.heap[g5]? = some (.cells #[.string x4, .string y4] 30 (0, 0))) ∧ Aside0 (W.heap[g6]? = some (.cells #[.string (⟨#[]⟩ : ByteArray), .string (⟨#[]⟩ : ByteArray)] 30 (0, 0))) ∧ Aside0 (w.heap.size ≤ g6) ∧ Aside0 (W.heap[g7]? = some (.cells #[.string (⟨#[]⟩ : ByteArray), .string (⟨#[]⟩ : ByteArray)] 30 (0, 0))) ∧ Aside0 (w.heap.size ≤ g7) ∧ Aside0 (g2 ≠ g6) ∧ Aside0 (g3 ≠ g6) ∧ Aside0 (g5 ≠ g6) ∧ Aside0 (g2 ≠ g7) ∧ Aside0 (g3 ≠ g7) ∧ Aside0 (g5 ≠ g7) ∧ Aside0 (g6 ≠ g7) ∧ Aside0 (IsS119 w W g bs ps17) ∧ (p4 ≤ ps17 ∧ ps17 ≤ p4 + 6)) ?_ (fun J => ?_)
  rotate_left
  ·refine ta (i := 0) (N := some 15) (v := ?_) (bits 13 1) rfl rfl (take_ofW HT_.out HW_.out (by kernel_rfl)) (fun _ _ _ h => h) (by kernel_rfl) hHeld ?_ ?_; rotate_left; (intro w' hS; have s0 := hS; obtain ⟨q0, q1⟩ := cs2 (Aside0.mk s0); go_simp; with_reducible rfl)
   refine pu (i := 1) (N := some 16) (v := ?_) (bits 13 3) rfl rfl (any_of HT_.out (by kernel_rfl)) (fun _ _ _ h => h) (by kernel_rfl) ?_ ?_; rotate_left; (intro w'; go_simp; with_reducible rfl)
   refine norm_ (a' := ?_) ?_ ?_
   rotate_left
   ·simp only [Act.put, List.setIfInBounds_toArray, List.set_cons_zero, List.set_cons_succ, i64_w, i32_w]
    rfl
   refine three_ (i := 2) (j := 8) (k := 9) (Ni := some 17) (Nj := some 6) (Nk := some 7) (bits 13 7) (bits 13 259) (bits 13 515) rfl rfl rfl rfl rfl rfl (three_of HT_.out (by kernel_rfl)) (by decide) (by decide) (by decide) (fun K hK => ?_) (fun K hK => ?_) (fun K hK => ?_)
   ·refine goes_ Try.func78 (by kernel_rfl) rfl #[.pointer (some ⟨g, 0, none⟩), .int .i64 (0)] (by rfl) rfl rfl (by (try simp only [List.map_toArray, List.map_cons, List.map_nil]); rfl) ?_
    (with_reducible refine cg1 (spec_l20Key.D 0 (by omega) w _ g bs p4 HI.out B.out HC.out (by omega) (by omega)) fun xs17 ps17 hxs17 hps17 w8 hk B HI2 => ?_)
    replace F2 := bkr F2 HI (by decide) hk
    replace F3 := bkr F3 HI (by decide) hk
    replace F5 := bkr F5 HI (by decide) hk
    replace HI := HI2
    clear hk
    refine ⟨_, rfl, ?_⟩
    refine hK.out _ _ F5.out (fun hHeld => ?_)
    clear hK K
    refine norm_ (a' := ?_) ?_ ?_
    rotate_left
    ·show Act.put _ (some 17) _ = _
     simp only [Act.put, List.setIfInBounds_toArray, List.set_cons_zero, List.set_cons_succ, i64_w, i32_w]
     rfl
    refine three_ (i := 3) (j := 8) (k := 9) (Ni := some 18) (Nj := some 6) (Nk := some 7) (bits 13 15) (bits 13 263) (bits 13 519) rfl rfl rfl rfl rfl rfl (three_of HT_.out (by kernel_rfl)) (by decide) (by decide) (by decide) (fun K hK => ?_) (fun K hK => ?_) (fun K hK => ?_)
    ·refine goes_ Try.func51 (by kernel_rfl) rfl #[.agg #[.string x4, .string y4], .string xs17] (by rfl) rfl rfl (by (try simp only [List.map_toArray, List.map_cons, List.map_nil]); rfl) ?_
     with_reducible refine cl (spec_IntervalCut.M x4 y4 xs17 _) B fun w9 hb B => ?_
     replace F2 := bn F2 hb
     replace F3 := bn F3 hb
     replace F5 := bn F5 hb
     replace HI := hib HI hb
     clear hb
     refine ⟨_, rfl, ?_⟩
     refine hK.out _ _ F5.out (fun hHeld => ?_)
     clear hK K
     refine norm_ (a' := ?_) ?_ ?_
     rotate_left
     ·show Act.put _ (some 18) _ = _
      simp only [Act.put, List.setIfInBounds_toArray, List.set_cons_zero, List.set_cons_succ, i64_w, i32_w]
      rfl
     refine pu (i := 4) (N := some 14) (v := ?_) (bits 13 31) rfl rfl (any_of HT_.out (by kernel_rfl)) (fun _ _ _ h => h) (by kernel_rfl) ?_ ?_; rotate_left; (intro w'; go_simp; with_reducible rfl)
     refine pu (i := 5) (N := some 19) (v := ?_) (bits 13 63) rfl rfl (any_of HT_.out (by kernel_rfl)) (fun _ _ _ h => h) (by kernel_rfl) ?_ ?_; rotate_left; (intro w'; go_simp; with_reducible rfl)
     refine pu (i := 6) (N := some 20) (v := ?_) (bits 13 127) rfl rfl (any_of HT_.out (by kernel_rfl)) (fun _ _ _ h => h) (by kernel_rfl) ?_ ?_; rotate_left; (intro w'; go_simp; with_reducible rfl)
     refine pu (i := 7) (N := some 21) (v := ?_) (bits 13 255) rfl rfl (any_of HT_.out (by kernel_rfl)) (fun _ _ _ h => h) (by kernel_rfl) ?_ ?_; rotate_left; (intro w'; go_simp; with_reducible rfl)
     refine norm_ (a' := ?_) ?_ ?_
     rotate_left
     ·simp only [Act.put, List.setIfInBounds_toArray, List.set_cons_zero, List.set_cons_succ, i64_w, i32_w]
      rfl
     refine two_ (i := 8) (j := 9) (Ni := some 6) (Nj := some 7) (bits 13 511) (bits 13 767) rfl rfl rfl rfl (two_of HT_.out (by kernel_rfl)) (by decide) (by decide) (fun K hK => ?_) (fun K hK => ?_)
     ·refine bxs (cs := #[.string (⟨#[]⟩ : ByteArray), .string (⟨#[]⟩ : ByteArray)]) (t := 30) (by rfl) rfl ?hr B (fun g6 w10 hb B F6 L6 E6 => ?_)
      (case hr => first | (go_simp; done) | (go_simp; rfl))
      have N2_6 := ne1 E6 F2
      have N3_6 := ne1 E6 F3
      have N5_6 := ne1 E6 F5
      replace F2 := bn F2 hb
      replace F3 := bn F3 hb
      replace F5 := bn F5 hb
      replace HI := hib HI hb
      clear hb E6
      refine hK.out _ _ F5.out (fun hHeld => ?_)
      clear hK K
      refine norm_ (a' := ?_) ?_ ?_
      rotate_left
      ·show Act.put _ (some 6) _ = _
       simp only [Act.put, List.setIfInBounds_toArray, List.set_cons_zero, List.set_cons_succ, i64_w, i32_w]
       rfl
      refine one_ (i := 9) (N := some 7) (bits 13 1023) rfl rfl (one_of HT_.out (by kernel_rfl)) (by decide) (fun K hK => ?_)
      refine bxs (cs := #[.string (⟨#[]⟩ : ByteArray), .string (⟨#[]⟩ : ByteArray)]) (t := 30) (by rfl) rfl ?hr B (fun g7 w11 hb B F7 L7 E7 => ?_)
      (case hr => first | (go_simp; done) | (go_simp; rfl))
      have N2_7 := ne1 E7 F2
      have N3_7 := ne1 E7 F3
      have N5_7 := ne1 E7 F5
      have N6_7 := ne1 E7 F6
      replace F2 := bn F2 hb
      replace F3 := bn F3 hb
      replace F5 := bn F5 hb
      replace F6 := bn F6 hb
      replace HI := hib HI hb
      clear hb E7
      refine hK.out _ _ F5.out (fun hHeld => ?_)
      clear hK K
      refine norm_ (a' := ?_) ?_ ?_
      rotate_left
      ·show Act.put _ (some 7) _ = _
       simp only [Act.put, List.setIfInBounds_toArray, List.set_cons_zero, List.set_cons_succ, i64_w, i32_w]
       rfl
      refine norm_ (a' := _) ?_ (J ⟨g6, g7, ps17, xs17⟩ _ ⟨B, F2, F3, F5, F6, L6, F7, L7, N2_6, N3_6, N5_6, N2_7, N3_7, N5_7, N6_7, HI, (by omega)⟩)
      simp only [putAll, Act.put, List.setIfInBounds_toArray, List.set_cons_zero, List.set_cons_succ]
      try rfl
     ·refine bxs (cs := #[.string (⟨#[]⟩ : ByteArray), .string (⟨#[]⟩ : ByteArray)]) (t := 30) (by rfl) rfl ?hr B (fun g7 w10 hb B F7 L7 E7 => ?_)
      (case hr => first | (go_simp; done) | (go_simp; rfl))
      have N2_7 := ne1 E7 F2
      have N3_7 := ne1 E7 F3
      have N5_7 := ne1 E7 F5
      replace F2 := bn F2 hb
      replace F3 := bn F3 hb
      replace F5 := bn F5 hb
      replace HI := hib HI hb
      clear hb E7
      refine hK.out _ _ F5.out (fun hHeld => ?_)
      clear hK K
      refine norm_ (a' := ?_) ?_ ?_
      rotate_left
      ·show Act.put _ (some 7) _ = _
       simp only [Act.put, List.setIfInBounds_toArray, List.set_cons_zero, List.set_cons_succ, i64_w, i32_w]
       rfl
      refine one_ (i := 8) (N := some 6) (bits 13 1023) rfl rfl (one_of HT_.out (by kernel_rfl)) (by decide) (fun K hK => ?_)
      refine bxs (cs := #[.string (⟨#[]⟩ : ByteArray), .string (⟨#[]⟩ : ByteArray)]) (t := 30) (by rfl) rfl ?hr B (fun g6 w11 hb B F6 L6 E6 => ?_)
      (case hr => first | (go_simp; done) | (go_simp; rfl))
      have N2_6 := ne1 E6 F2
      have N3_6 := ne1 E6 F3
      have N5_6 := ne1 E6 F5
      have N7_6 := ne1 E6 F7
      replace F2 := bn F2 hb
      replace F3 := bn F3 hb
      replace F5 := bn F5 hb
      replace F7 := bn F7 hb
      replace HI := hib HI hb
      clear hb E6
      refine hK.out _ _ F5.out (fun hHeld => ?_)
      clear hK K
      refine norm_ (a' := ?_) ?_ ?_
      rotate_left
      ·show Act.put _ (some 6) _ = _
       simp only [Act.put, List.setIfInBounds_toArray, List.set_cons_zero, List.set_cons_succ, i64_w, i32_w]
       rfl
      refine norm_ (a' := _) ?_ (J ⟨g6, g7, ps17, xs17⟩ _ ⟨B, F2, F3, F5, F6, L6, F7, L7, N2_6, N3_6, N5_6, N2_7, N3_7, N5_7, ⟨N7_6.out.symm⟩, HI, (by omega)⟩)
      simp only [putAll, Act.put, List.setIfInBounds_toArray, List.set_cons_zero, List.set_cons_succ]
      try rfl
    ·refine bxs (cs := #[.string (⟨#[]⟩ : ByteArray), .string (⟨#[]⟩ : ByteArray)]) (t := 30) (by rfl) rfl ?hr B (fun g6 w9 hb B F6 L6 E6 => ?_)
     (case hr => first | (go_simp; done) | (go_simp; rfl))
     have N2_6 := ne1 E6 F2
     have N3_6 := ne1 E6 F3
     have N5_6 := ne1 E6 F5
     replace F2 := bn F2 hb
     replace F3 := bn F3 hb
     replace F5 := bn F5 hb
     replace HI := hib HI hb
     clear hb E6
     refine hK.out _ _ F5.out (fun hHeld => ?_)
     clear hK K
     refine norm_ (a' := ?_) ?_ ?_
     rotate_left
     ·show Act.put _ (some 6) _ = _
      simp only [Act.put, List.setIfInBounds_toArray, List.set_cons_zero, List.set_cons_succ, i64_w, i32_w]
      rfl
     refine two_ (i := 3) (j := 9) (Ni := some 18) (Nj := some 7) (bits 13 271) (bits 13 775) rfl rfl rfl rfl (two_of HT_.out (by kernel_rfl)) (by decide) (by decide) (fun K hK => ?_) (fun K hK => ?_)
     ·refine goes_ Try.func51 (by kernel_rfl) rfl #[.agg #[.string x4, .string y4], .string xs17] (by rfl) rfl rfl (by (try simp only [List.map_toArray, List.map_cons, List.map_nil]); rfl) ?_
      with_reducible refine cl (spec_IntervalCut.M x4 y4 xs17 _) B fun w10 hb B => ?_
      replace F2 := bn F2 hb
      replace F3 := bn F3 hb
      replace F5 := bn F5 hb
      replace F6 := bn F6 hb
      replace HI := hib HI hb
      clear hb
      refine ⟨_, rfl, ?_⟩
      refine hK.out _ _ F5.out (fun hHeld => ?_)
      clear hK K
      refine norm_ (a' := ?_) ?_ ?_
      rotate_left
      ·show Act.put _ (some 18) _ = _
       simp only [Act.put, List.setIfInBounds_toArray, List.set_cons_zero, List.set_cons_succ, i64_w, i32_w]
       rfl
      refine pu (i := 4) (N := some 14) (v := ?_) (bits 13 287) rfl rfl (any_of HT_.out (by kernel_rfl)) (fun _ _ _ h => h) (by kernel_rfl) ?_ ?_; rotate_left; (intro w'; go_simp; with_reducible rfl)
      refine pu (i := 5) (N := some 19) (v := ?_) (bits 13 319) rfl rfl (any_of HT_.out (by kernel_rfl)) (fun _ _ _ h => h) (by kernel_rfl) ?_ ?_; rotate_left; (intro w'; go_simp; with_reducible rfl)
      refine pu (i := 6) (N := some 20) (v := ?_) (bits 13 383) rfl rfl (any_of HT_.out (by kernel_rfl)) (fun _ _ _ h => h) (by kernel_rfl) ?_ ?_; rotate_left; (intro w'; go_simp; with_reducible rfl)
      refine pu (i := 7) (N := some 21) (v := ?_) (bits 13 511) rfl rfl (any_of HT_.out (by kernel_rfl)) (fun _ _ _ h => h) (by kernel_rfl) ?_ ?_; rotate_left; (intro w'; go_simp; with_reducible rfl)
      refine norm_ (a' := ?_) ?_ ?_
      rotate_left
      ·simp only [Act.put, List.setIfInBounds_toArray, List.set_cons_zero, List.set_cons_succ, i64_w, i32_w]
       rfl
      refine one_ (i := 9) (N := some 7) (bits 13 1023) rfl rfl (one_of HT_.out (by kernel_rfl)) (by decide) (fun K hK => ?_)
      refine bxs (cs := #[.string (⟨#[]⟩ : ByteArray), .string (⟨#[]⟩ : ByteArray)]) (t := 30) (by rfl) rfl ?hr B (fun g7 w11 hb B F7 L7 E7 => ?_)
      (case hr => first | (go_simp; done) | (go_simp; rfl))
      have N2_7 := ne1 E7 F2
      have N3_7 := ne1 E7 F3
      have N5_7 := ne1 E7 F5
      have N6_7 := ne1 E7 F6
      replace F2 := bn F2 hb
      replace F3 := bn F3 hb
      replace F5 := bn F5 hb
      replace F6 := bn F6 hb
      replace HI := hib HI hb
      clear hb E7
      refine hK.out _ _ F5.out (fun hHeld => ?_)
      clear hK K
      refine norm_ (a' := ?_) ?_ ?_
      rotate_left
      ·show Act.put _ (some 7) _ = _
       simp only [Act.put, List.setIfInBounds_toArray, List.set_cons_zero, List.set_cons_succ, i64_w, i32_w]
       rfl
      refine norm_ (a' := _) ?_ (J ⟨g6, g7, ps17, xs17⟩ _ ⟨B, F2, F3, F5, F6, L6, F7, L7, N2_6, N3_6, N5_6, N2_7, N3_7, N5_7, N6_7, HI, (by omega)⟩)
      simp only [putAll, Act.put, List.setIfInBounds_toArray, List.set_cons_zero, List.set_cons_succ]
      try rfl
     ·refine bxs (cs := #[.string (⟨#[]⟩ : ByteArray), .string (⟨#[]⟩ : ByteArray)]) (t := 30) (by rfl) rfl ?hr B (fun g7 w10 hb B F7 L7 E7 => ?_)
      (case hr => first | (go_simp; done) | (go_simp; rfl))
      have N2_7 := ne1 E7 F2
      have N3_7 := ne1 E7 F3
      have N5_7 := ne1 E7 F5
      have N6_7 := ne1 E7 F6
      replace F2 := bn F2 hb
      replace F3 := bn F3 hb
      replace F5 := bn F5 hb
      replace F6 := bn F6 hb
      replace HI := hib HI hb
      clear hb E7
      refine hK.out _ _ F5.out (fun hHeld => ?_)
      clear hK K
      refine norm_ (a' := ?_) ?_ ?_
      rotate_left
      ·show Act.put _ (some 7) _ = _
       simp only [Act.put, List.setIfInBounds_toArray, List.set_cons_zero, List.set_cons_succ, i64_w, i32_w]
       rfl
      refine one_ (i := 3) (N := some 18) (bits 13 783) rfl rfl (one_of HT_.out (by kernel_rfl)) (by decide) (fun K hK => ?_)
      refine goes_ Try.func51 (by kernel_rfl) rfl #[.agg #[.string x4, .string y4], .string xs17] (by rfl) rfl rfl (by (try simp only [List.map_toArray, List.map_cons, List.map_nil]); rfl) ?_
      with_reducible refine cl (spec_IntervalCut.M x4 y4 xs17 _) B fun w11 hb B => ?_
      replace F2 := bn F2 hb
      replace F3 := bn F3 hb
      replace F5 := bn F5 hb
      replace F6 := bn F6 hb
      replace F7 := bn F7 hb
      replace HI := hib HI hb
      clear hb
      refine ⟨_, rfl, ?_⟩
      refine hK.out _ _ F5.out (fun hHeld => ?_)
      clear hK K
      refine norm_ (a' := ?_) ?_ ?_
      rotate_left
      ·show Act.put _ (some 18) _ = _
       simp only [Act.put, List.setIfInBounds_toArray, List.set_cons_zero, List.set_cons_succ, i64_w, i32_w]
       rfl
      refine pu (i := 4) (N := some 14) (v := ?_) (bits 13 799) rfl rfl (any_of HT_.out (by kernel_rfl)) (fun _ _ _ h => h) (by kernel_rfl) ?_ ?_; rotate_left; (intro w'; go_simp; with_reducible rfl)
      refine pu (i := 5) (N := some 19) (v := ?_) (bits 13 831) rfl rfl (any_of HT_.out (by kernel_rfl)) (fun _ _ _ h => h) (by kernel_rfl) ?_ ?_; rotate_left; (intro w'; go_simp; with_reducible rfl)
      refine pu (i := 6) (N := some 20) (v := ?_) (bits 13 895) rfl rfl (any_of HT_.out (by kernel_rfl)) (fun _ _ _ h => h) (by kernel_rfl) ?_ ?_; rotate_left; (intro w'; go_simp; with_reducible rfl)
      refine pu (i := 7) (N := some 21) (v := ?_) (bits 13 1023) rfl rfl (any_of HT_.out (by kernel_rfl)) (fun _ _ _ h => h) (by kernel_rfl) ?_ ?_; rotate_left; (intro w'; go_simp; with_reducible rfl)
      refine norm_ (a' := ?_) ?_ ?_
      rotate_left
      ·simp only [Act.put, List.setIfInBounds_toArray, List.set_cons_zero, List.set_cons_succ, i64_w, i32_w]
       rfl
      refine norm_ (a' := _) ?_ (J ⟨g6, g7, ps17, xs17⟩ _ ⟨B, F2, F3, F5, F6, L6, F7, L7, N2_6, N3_6, N5_6, N2_7, N3_7, N5_7, N6_7, HI, (by omega)⟩)
      simp only [putAll, Act.put, List.setIfInBounds_toArray, List.set_cons_zero, List.set_cons_succ]
      try rfl
    ·refine bxs (cs := #[.string (⟨#[]⟩ : ByteArray), .string (⟨#[]⟩ : ByteArray)]) (t := 30) (by rfl) rfl ?hr B (fun g7 w9 hb B F7 L7 E7 => ?_)
     (case hr => first | (go_simp; done) | (go_simp; rfl))
     have N2_7 := ne1 E7 F2
     have N3_7 := ne1 E7 F3
     have N5_7 := ne1 E7 F5
     replace F2 := bn F2 hb
     replace F3 := bn F3 hb
     replace F5 := bn F5 hb
     replace HI := hib HI hb
     clear hb E7
     refine hK.out _ _ F5.out (fun hHeld => ?_)
     clear hK K
     refine norm_ (a' := ?_) ?_ ?_
     rotate_left
     ·show Act.put _ (some 7) _ = _
      simp only [Act.put, List.setIfInBounds_toArray, List.set_cons_zero, List.set_cons_succ, i64_w, i32_w]
      rfl
     refine two_ (i := 3) (j := 8) (Ni := some 18) (Nj := some 6) (bits 13 527) (bits 13 775) rfl rfl rfl rfl (two_of HT_.out (by kernel_rfl)) (by decide) (by decide) (fun K hK => ?_) (fun K hK => ?_)
     ·refine goes_ Try.func51 (by kernel_rfl) rfl #[.agg #[.string x4, .string y4], .string xs17] (by rfl) rfl rfl (by (try simp only [List.map_toArray, List.map_cons, List.map_nil]); rfl) ?_
      with_reducible refine cl (spec_IntervalCut.M x4 y4 xs17 _) B fun w10 hb B => ?_
      replace F2 := bn F2 hb
      replace F3 := bn F3 hb
      replace F5 := bn F5 hb
      replace F7 := bn F7 hb
      replace HI := hib HI hb
      clear hb
      refine ⟨_, rfl, ?_⟩
      refine hK.out _ _ F5.out (fun hHeld => ?_)
      clear hK K
      refine norm_ (a' := ?_) ?_ ?_
      rotate_left
      ·show Act.put _ (some 18) _ = _
       simp only [Act.put, List.setIfInBounds_toArray, List.set_cons_zero, List.set_cons_succ, i64_w, i32_w]
       rfl
      refine pu (i := 4) (N := some 14) (v := ?_) (bits 13 543) rfl rfl (any_of HT_.out (by kernel_rfl)) (fun _ _ _ h => h) (by kernel_rfl) ?_ ?_; rotate_left; (intro w'; go_simp; with_reducible rfl)
      refine pu (i := 5) (N := some 19) (v := ?_) (bits 13 575) rfl rfl (any_of HT_.out (by kernel_rfl)) (fun _ _ _ h => h) (by kernel_rfl) ?_ ?_; rotate_left; (intro w'; go_simp; with_reducible rfl)
      refine pu (i := 6) (N := some 20) (v := ?_) (bits 13 639) rfl rfl (any_of HT_.out (by kernel_rfl)) (fun _ _ _ h => h) (by kernel_rfl) ?_ ?_; rotate_left; (intro w'; go_simp; with_reducible rfl)
      refine pu (i := 7) (N := some 21) (v := ?_) (bits 13 767) rfl rfl (any_of HT_.out (by kernel_rfl)) (fun _ _ _ h => h) (by kernel_rfl) ?_ ?_; rotate_left; (intro w'; go_simp; with_reducible rfl)
      refine norm_ (a' := ?_) ?_ ?_
      rotate_left
      ·simp only [Act.put, List.setIfInBounds_toArray, List.set_cons_zero, List.set_cons_succ, i64_w, i32_w]
       rfl
      refine one_ (i := 8) (N := some 6) (bits 13 1023) rfl rfl (one_of HT_.out (by kernel_rfl)) (by decide) (fun K hK => ?_)
      refine bxs (cs := #[.string (⟨#[]⟩ : ByteArray), .string (⟨#[]⟩ : ByteArray)]) (t := 30) (by rfl) rfl ?hr B (fun g6 w11 hb B F6 L6 E6 => ?_)
      (case hr => first | (go_simp; done) | (go_simp; rfl))
      have N2_6 := ne1 E6 F2
      have N3_6 := ne1 E6 F3
      have N5_6 := ne1 E6 F5
      have N7_6 := ne1 E6 F7
      replace F2 := bn F2 hb
      replace F3 := bn F3 hb
      replace F5 := bn F5 hb
      replace F7 := bn F7 hb
      replace HI := hib HI hb
      clear hb E6
      refine hK.out _ _ F5.out (fun hHeld => ?_)
      clear hK K
      refine norm_ (a' := ?_) ?_ ?_
      rotate_left
      ·show Act.put _ (some 6) _ = _
       simp only [Act.put, List.setIfInBounds_toArray, List.set_cons_zero, List.set_cons_succ, i64_w, i32_w]
       rfl
      refine norm_ (a' := _) ?_ (J ⟨g6, g7, ps17, xs17⟩ _ ⟨B, F2, F3, F5, F6, L6, F7, L7, N2_6, N3_6, N5_6, N2_7, N3_7, N5_7, ⟨N7_6.out.symm⟩, HI, (by omega)⟩)
      simp only [putAll, Act.put, List.setIfInBounds_toArray, List.set_cons_zero, List.set_cons_succ]
      try rfl
     ·refine bxs (cs := #[.string (⟨#[]⟩ : ByteArray), .string (⟨#[]⟩ : ByteArray)]) (t := 30) (by rfl) rfl ?hr B (fun g6 w10 hb B F6 L6 E6 => ?_)
      (case hr => first | (go_simp; done) | (go_simp; rfl))
      have N2_6 := ne1 E6 F2
      have N3_6 := ne1 E6 F3
      have N5_6 := ne1 E6 F5
      have N7_6 := ne1 E6 F7
      replace F2 := bn F2 hb
      replace F3 := bn F3 hb
      replace F5 := bn F5 hb
      replace F7 := bn F7 hb
      replace HI := hib HI hb
      clear hb E6
      refine hK.out _ _ F5.out (fun hHeld => ?_)
      clear hK K
      refine norm_ (a' := ?_) ?_ ?_
      rotate_left
      ·show Act.put _ (some 6) _ = _
       simp only [Act.put, List.setIfInBounds_toArray, List.set_cons_zero, List.set_cons_succ, i64_w, i32_w]
       rfl
      refine one_ (i := 3) (N := some 18) (bits 13 783) rfl rfl (one_of HT_.out (by kernel_rfl)) (by decide) (fun K hK => ?_)
      refine goes_ Try.func51 (by kernel_rfl) rfl #[.agg #[.string x4, .string y4], .string xs17] (by rfl) rfl rfl (by (try simp only [List.map_toArray, List.map_cons, List.map_nil]); rfl) ?_
      with_reducible refine cl (spec_IntervalCut.M x4 y4 xs17 _) B fun w11 hb B => ?_
      replace F2 := bn F2 hb
      replace F3 := bn F3 hb
      replace F5 := bn F5 hb
      replace F7 := bn F7 hb
      replace F6 := bn F6 hb
      replace HI := hib HI hb
      clear hb
      refine ⟨_, rfl, ?_⟩
      refine hK.out _ _ F5.out (fun hHeld => ?_)
      clear hK K
      refine norm_ (a' := ?_) ?_ ?_
      rotate_left
      ·show Act.put _ (some 18) _ = _
       simp only [Act.put, List.setIfInBounds_toArray, List.set_cons_zero, List.set_cons_succ, i64_w, i32_w]
       rfl
      refine pu (i := 4) (N := some 14) (v := ?_) (bits 13 799) rfl rfl (any_of HT_.out (by kernel_rfl)) (fun _ _ _ h => h) (by kernel_rfl) ?_ ?_; rotate_left; (intro w'; go_simp; with_reducible rfl)
      refine pu (i := 5) (N := some 19) (v := ?_) (bits 13 831) rfl rfl (any_of HT_.out (by kernel_rfl)) (fun _ _ _ h => h) (by kernel_rfl) ?_ ?_; rotate_left; (intro w'; go_simp; with_reducible rfl)
      refine pu (i := 6) (N := some 20) (v := ?_) (bits 13 895) rfl rfl (any_of HT_.out (by kernel_rfl)) (fun _ _ _ h => h) (by kernel_rfl) ?_ ?_; rotate_left; (intro w'; go_simp; with_reducible rfl)
      refine pu (i := 7) (N := some 21) (v := ?_) (bits 13 1023) rfl rfl (any_of HT_.out (by kernel_rfl)) (fun _ _ _ h => h) (by kernel_rfl) ?_ ?_; rotate_left; (intro w'; go_simp; with_reducible rfl)
      refine norm_ (a' := ?_) ?_ ?_
      rotate_left
      ·simp only [Act.put, List.setIfInBounds_toArray, List.set_cons_zero, List.set_cons_succ, i64_w, i32_w]
       rfl
      refine norm_ (a' := _) ?_ (J ⟨g6, g7, ps17, xs17⟩ _ ⟨B, F2, F3, F5, F6, L6, F7, L7, N2_6, N3_6, N5_6, N2_7, N3_7, N5_7, ⟨N7_6.out.symm⟩, HI, (by omega)⟩)
      simp only [putAll, Act.put, List.setIfInBounds_toArray, List.set_cons_zero, List.set_cons_succ]
      try rfl
   ·refine bxs (cs := #[.string (⟨#[]⟩ : ByteArray), .string (⟨#[]⟩ : ByteArray)]) (t := 30) (by rfl) rfl ?hr B (fun g6 w8 hb B F6 L6 E6 => ?_)
    (case hr => first | (go_simp; done) | (go_simp; rfl))
    have N2_6 := ne1 E6 F2
    have N3_6 := ne1 E6 F3
    have N5_6 := ne1 E6 F5
    replace F2 := bn F2 hb
    replace F3 := bn F3 hb
    replace F5 := bn F5 hb
    replace HI := hib HI hb
    clear hb E6
    refine hK.out _ _ F5.out (fun hHeld => ?_)
    clear hK K
    refine norm_ (a' := ?_) ?_ ?_
    rotate_left
    ·show Act.put _ (some 6) _ = _
     simp only [Act.put, List.setIfInBounds_toArray, List.set_cons_zero, List.set_cons_succ, i64_w, i32_w]
     rfl
    refine two_ (i := 2) (j := 9) (Ni := some 17) (Nj := some 7) (bits 13 263) (bits 13 771) rfl rfl rfl rfl (two_of HT_.out (by kernel_rfl)) (by decide) (by decide) (fun K hK => ?_) (fun K hK => ?_)
    ·refine goes_ Try.func78 (by kernel_rfl) rfl #[.pointer (some ⟨g, 0, none⟩), .int .i64 (0)] (by rfl) rfl rfl (by (try simp only [List.map_toArray, List.map_cons, List.map_nil]); rfl) ?_
     (with_reducible refine cg1 (spec_l20Key.D 0 (by omega) w _ g bs p4 HI.out B.out HC.out (by omega) (by omega)) fun xs17 ps17 hxs17 hps17 w9 hk B HI2 => ?_)
     replace F2 := bkr F2 HI (by decide) hk
     replace F3 := bkr F3 HI (by decide) hk
     replace F5 := bkr F5 HI (by decide) hk
     replace F6 := bkr F6 HI (by decide) hk
     replace HI := HI2
     clear hk
     refine ⟨_, rfl, ?_⟩
     refine hK.out _ _ F5.out (fun hHeld => ?_)
     clear hK K
     refine norm_ (a' := ?_) ?_ ?_
     rotate_left
     ·show Act.put _ (some 17) _ = _
      simp only [Act.put, List.setIfInBounds_toArray, List.set_cons_zero, List.set_cons_succ, i64_w, i32_w]
      rfl
     refine two_ (i := 3) (j := 9) (Ni := some 18) (Nj := some 7) (bits 13 271) (bits 13 775) rfl rfl rfl rfl (two_of HT_.out (by kernel_rfl)) (by decide) (by decide) (fun K hK => ?_) (fun K hK => ?_)
     ·refine goes_ Try.func51 (by kernel_rfl) rfl #[.agg #[.string x4, .string y4], .string xs17] (by rfl) rfl rfl (by (try simp only [List.map_toArray, List.map_cons, List.map_nil]); rfl) ?_
      with_reducible refine cl (spec_IntervalCut.M x4 y4 xs17 _) B fun w10 hb B => ?_
      replace F2 := bn F2 hb
      replace F3 := bn F3 hb
      replace F5 := bn F5 hb
      replace F6 := bn F6 hb
      replace HI := hib HI hb
      clear hb
      refine ⟨_, rfl, ?_⟩
      refine hK.out _ _ F5.out (fun hHeld => ?_)
      clear hK K
      refine norm_ (a' := ?_) ?_ ?_
      rotate_left
      ·show Act.put _ (some 18) _ = _
       simp only [Act.put, List.setIfInBounds_toArray, List.set_cons_zero, List.set_cons_succ, i64_w, i32_w]
       rfl
      refine pu (i := 4) (N := some 14) (v := ?_) (bits 13 287) rfl rfl (any_of HT_.out (by kernel_rfl)) (fun _ _ _ h => h) (by kernel_rfl) ?_ ?_; rotate_left; (intro w'; go_simp; with_reducible rfl)
      refine pu (i := 5) (N := some 19) (v := ?_) (bits 13 319) rfl rfl (any_of HT_.out (by kernel_rfl)) (fun _ _ _ h => h) (by kernel_rfl) ?_ ?_; rotate_left; (intro w'; go_simp; with_reducible rfl)
      refine pu (i := 6) (N := some 20) (v := ?_) (bits 13 383) rfl rfl (any_of HT_.out (by kernel_rfl)) (fun _ _ _ h => h) (by kernel_rfl) ?_ ?_; rotate_left; (intro w'; go_simp; with_reducible rfl)
      refine pu (i := 7) (N := some 21) (v := ?_) (bits 13 511) rfl rfl (any_of HT_.out (by kernel_rfl)) (fun _ _ _ h => h) (by kernel_rfl) ?_ ?_; rotate_left; (intro w'; go_simp; with_reducible rfl)
      refine norm_ (a' := ?_) ?_ ?_
      rotate_left
      ·simp only [Act.put, List.setIfInBounds_toArray, List.set_cons_zero, List.set_cons_succ, i64_w, i32_w]
       rfl
      refine one_ (i := 9) (N := some 7) (bits 13 1023) rfl rfl (one_of HT_.out (by kernel_rfl)) (by decide) (fun K hK => ?_)
      refine bxs (cs := #[.string (⟨#[]⟩ : ByteArray), .string (⟨#[]⟩ : ByteArray)]) (t := 30) (by rfl) rfl ?hr B (fun g7 w11 hb B F7 L7 E7 => ?_)
      (case hr => first | (go_simp; done) | (go_simp; rfl))
      have N2_7 := ne1 E7 F2
      have N3_7 := ne1 E7 F3
      have N5_7 := ne1 E7 F5
      have N6_7 := ne1 E7 F6
      replace F2 := bn F2 hb
      replace F3 := bn F3 hb
      replace F5 := bn F5 hb
      replace F6 := bn F6 hb
      replace HI := hib HI hb
      clear hb E7
      refine hK.out _ _ F5.out (fun hHeld => ?_)
      clear hK K
      refine norm_ (a' := ?_) ?_ ?_
      rotate_left
      ·show Act.put _ (some 7) _ = _
       simp only [Act.put, List.setIfInBounds_toArray, List.set_cons_zero, List.set_cons_succ, i64_w, i32_w]
       rfl
      refine norm_ (a' := _) ?_ (J ⟨g6, g7, ps17, xs17⟩ _ ⟨B, F2, F3, F5, F6, L6, F7, L7, N2_6, N3_6, N5_6, N2_7, N3_7, N5_7, N6_7, HI, (by omega)⟩)
      simp only [putAll, Act.put, List.setIfInBounds_toArray, List.set_cons_zero, List.set_cons_succ]
      try rfl
     ·refine bxs (cs := #[.string (⟨#[]⟩ : ByteArray), .string (⟨#[]⟩ : ByteArray)]) (t := 30) (by rfl) rfl ?hr B (fun g7 w10 hb B F7 L7 E7 => ?_)
      (case hr => first | (go_simp; done) | (go_simp; rfl))
      have N2_7 := ne1 E7 F2
      have N3_7 := ne1 E7 F3
      have N5_7 := ne1 E7 F5
      have N6_7 := ne1 E7 F6
      replace F2 := bn F2 hb
      replace F3 := bn F3 hb
      replace F5 := bn F5 hb
      replace F6 := bn F6 hb
      replace HI := hib HI hb
      clear hb E7
      refine hK.out _ _ F5.out (fun hHeld => ?_)
      clear hK K
      refine norm_ (a' := ?_) ?_ ?_
      rotate_left
      ·show Act.put _ (some 7) _ = _
       simp only [Act.put, List.setIfInBounds_toArray, List.set_cons_zero, List.set_cons_succ, i64_w, i32_w]
       rfl
      refine one_ (i := 3) (N := some 18) (bits 13 783) rfl rfl (one_of HT_.out (by kernel_rfl)) (by decide) (fun K hK => ?_)
      refine goes_ Try.func51 (by kernel_rfl) rfl #[.agg #[.string x4, .string y4], .string xs17] (by rfl) rfl rfl (by (try simp only [List.map_toArray, List.map_cons, List.map_nil]); rfl) ?_
      with_reducible refine cl (spec_IntervalCut.M x4 y4 xs17 _) B fun w11 hb B => ?_
      replace F2 := bn F2 hb
      replace F3 := bn F3 hb
      replace F5 := bn F5 hb
      replace F6 := bn F6 hb
      replace F7 := bn F7 hb
      replace HI := hib HI hb
      clear hb
      refine ⟨_, rfl, ?_⟩
      refine hK.out _ _ F5.out (fun hHeld => ?_)
      clear hK K
      refine norm_ (a' := ?_) ?_ ?_
      rotate_left
      ·show Act.put _ (some 18) _ = _
       simp only [Act.put, List.setIfInBounds_toArray, List.set_cons_zero, List.set_cons_succ, i64_w, i32_w]
       rfl
      refine pu (i := 4) (N := some 14) (v := ?_) (bits 13 799) rfl rfl (any_of HT_.out (by kernel_rfl)) (fun _ _ _ h => h) (by kernel_rfl) ?_ ?_; rotate_left; (intro w'; go_simp; with_reducible rfl)
      refine pu (i := 5) (N := some 19) (v := ?_) (bits 13 831) rfl rfl (any_of HT_.out (by kernel_rfl)) (fun _ _ _ h => h) (by kernel_rfl) ?_ ?_; rotate_left; (intro w'; go_simp; with_reducible rfl)
      refine pu (i := 6) (N := some 20) (v := ?_) (bits 13 895) rfl rfl (any_of HT_.out (by kernel_rfl)) (fun _ _ _ h => h) (by kernel_rfl) ?_ ?_; rotate_left; (intro w'; go_simp; with_reducible rfl)
      refine pu (i := 7) (N := some 21) (v := ?_) (bits 13 1023) rfl rfl (any_of HT_.out (by kernel_rfl)) (fun _ _ _ h => h) (by kernel_rfl) ?_ ?_; rotate_left; (intro w'; go_simp; with_reducible rfl)
      refine norm_ (a' := ?_) ?_ ?_
      rotate_left
      ·simp only [Act.put, List.setIfInBounds_toArray, List.set_cons_zero, List.set_cons_succ, i64_w, i32_w]
       rfl
      refine norm_ (a' := _) ?_ (J ⟨g6, g7, ps17, xs17⟩ _ ⟨B, F2, F3, F5, F6, L6, F7, L7, N2_6, N3_6, N5_6, N2_7, N3_7, N5_7, N6_7, HI, (by omega)⟩)
      simp only [putAll, Act.put, List.setIfInBounds_toArray, List.set_cons_zero, List.set_cons_succ]
      try rfl
    ·refine bxs (cs := #[.string (⟨#[]⟩ : ByteArray), .string (⟨#[]⟩ : ByteArray)]) (t := 30) (by rfl) rfl ?hr B (fun g7 w9 hb B F7 L7 E7 => ?_)
     (case hr => first | (go_simp; done) | (go_simp; rfl))
     have N2_7 := ne1 E7 F2
     have N3_7 := ne1 E7 F3
     have N5_7 := ne1 E7 F5
     have N6_7 := ne1 E7 F6
     replace F2 := bn F2 hb
     replace F3 := bn F3 hb
     replace F5 := bn F5 hb
     replace F6 := bn F6 hb
     replace HI := hib HI hb
     clear hb E7
     refine hK.out _ _ F5.out (fun hHeld => ?_)
     clear hK K
     refine norm_ (a' := ?_) ?_ ?_
     rotate_left
     ·show Act.put _ (some 7) _ = _
      simp only [Act.put, List.setIfInBounds_toArray, List.set_cons_zero, List.set_cons_succ, i64_w, i32_w]
      rfl
     refine one_ (i := 2) (N := some 17) (bits 13 775) rfl rfl (one_of HT_.out (by kernel_rfl)) (by decide) (fun K hK => ?_)
     refine goes_ Try.func78 (by kernel_rfl) rfl #[.pointer (some ⟨g, 0, none⟩), .int .i64 (0)] (by rfl) rfl rfl (by (try simp only [List.map_toArray, List.map_cons, List.map_nil]); rfl) ?_
     (with_reducible refine cg1 (spec_l20Key.D 0 (by omega) w _ g bs p4 HI.out B.out HC.out (by omega) (by omega)) fun xs17 ps17 hxs17 hps17 w10 hk B HI2 => ?_)
     replace F2 := bkr F2 HI (by decide) hk
     replace F3 := bkr F3 HI (by decide) hk
     replace F5 := bkr F5 HI (by decide) hk
     replace F6 := bkr F6 HI (by decide) hk
     replace F7 := bkr F7 HI (by decide) hk
     replace HI := HI2
     clear hk
     refine ⟨_, rfl, ?_⟩
     refine hK.out _ _ F5.out (fun hHeld => ?_)
     clear hK K
     refine norm_ (a' := ?_) ?_ ?_
     rotate_left
     ·show Act.put _ (some 17) _ = _
      simp only [Act.put, List.setIfInBounds_toArray, List.set_cons_zero, List.set_cons_succ, i64_w, i32_w]
      rfl
     refine one_ (i := 3) (N := some 18) (bits 13 783) rfl rfl (one_of HT_.out (by kernel_rfl)) (by decide) (fun K hK => ?_)
     refine goes_ Try.func51 (by kernel_rfl) rfl #[.agg #[.string x4, .string y4], .string xs17] (by rfl) rfl rfl (by (try simp only [List.map_toArray, List.map_cons, List.map_nil]); rfl) ?_
     with_reducible refine cl (spec_IntervalCut.M x4 y4 xs17 _) B fun w11 hb B => ?_
     replace F2 := bn F2 hb
     replace F3 := bn F3 hb
     replace F5 := bn F5 hb
     replace F6 := bn F6 hb
     replace F7 := bn F7 hb
     replace HI := hib HI hb
     clear hb
     refine ⟨_, rfl, ?_⟩
     refine hK.out _ _ F5.out (fun hHeld => ?_)
     clear hK K
     refine norm_ (a' := ?_) ?_ ?_
     rotate_left
     ·show Act.put _ (some 18) _ = _
      simp only [Act.put, List.setIfInBounds_toArray, List.set_cons_zero, List.set_cons_succ, i64_w, i32_w]
      rfl
     refine pu (i := 4) (N := some 14) (v := ?_) (bits 13 799) rfl rfl (any_of HT_.out (by kernel_rfl)) (fun _ _ _ h => h) (by kernel_rfl) ?_ ?_; rotate_left; (intro w'; go_simp; with_reducible rfl)
     refine pu (i := 5) (N := some 19) (v := ?_) (bits 13 831) rfl rfl (any_of HT_.out (by kernel_rfl)) (fun _ _ _ h => h) (by kernel_rfl) ?_ ?_; rotate_left; (intro w'; go_simp; with_reducible rfl)
     refine pu (i := 6) (N := some 20) (v := ?_) (bits 13 895) rfl rfl (any_of HT_.out (by kernel_rfl)) (fun _ _ _ h => h) (by kernel_rfl) ?_ ?_; rotate_left; (intro w'; go_simp; with_reducible rfl)
     refine pu (i := 7) (N := some 21) (v := ?_) (bits 13 1023) rfl rfl (any_of HT_.out (by kernel_rfl)) (fun _ _ _ h => h) (by kernel_rfl) ?_ ?_; rotate_left; (intro w'; go_simp; with_reducible rfl)
     refine norm_ (a' := ?_) ?_ ?_
     rotate_left
     ·simp only [Act.put, List.setIfInBounds_toArray, List.set_cons_zero, List.set_cons_succ, i64_w, i32_w]
      rfl
     refine norm_ (a' := _) ?_ (J ⟨g6, g7, ps17, xs17⟩ _ ⟨B, F2, F3, F5, F6, L6, F7, L7, N2_6, N3_6, N5_6, N2_7, N3_7, N5_7, N6_7, HI, (by omega)⟩)
     simp only [putAll, Act.put, List.setIfInBounds_toArray, List.set_cons_zero, List.set_cons_succ]
     try rfl
   ·refine bxs (cs := #[.string (⟨#[]⟩ : ByteArray), .string (⟨#[]⟩ : ByteArray)]) (t := 30) (by rfl) rfl ?hr B (fun g7 w8 hb B F7 L7 E7 => ?_)
    (case hr => first | (go_simp; done) | (go_simp; rfl))
    have N2_7 := ne1 E7 F2
    have N3_7 := ne1 E7 F3
    have N5_7 := ne1 E7 F5
    replace F2 := bn F2 hb
    replace F3 := bn F3 hb
    replace F5 := bn F5 hb
    replace HI := hib HI hb
    clear hb E7
    refine hK.out _ _ F5.out (fun hHeld => ?_)
    clear hK K
    refine norm_ (a' := ?_) ?_ ?_
    rotate_left
    ·show Act.put _ (some 7) _ = _
     simp only [Act.put, List.setIfInBounds_toArray, List.set_cons_zero, List.set_cons_succ, i64_w, i32_w]
     rfl
    refine two_ (i := 2) (j := 8) (Ni := some 17) (Nj := some 6) (bits 13 519) (bits 13 771) rfl rfl rfl rfl (two_of HT_.out (by kernel_rfl)) (by decide) (by decide) (fun K hK => ?_) (fun K hK => ?_)
    ·refine goes_ Try.func78 (by kernel_rfl) rfl #[.pointer (some ⟨g, 0, none⟩), .int .i64 (0)] (by rfl) rfl rfl (by (try simp only [List.map_toArray, List.map_cons, List.map_nil]); rfl) ?_
     (with_reducible refine cg1 (spec_l20Key.D 0 (by omega) w _ g bs p4 HI.out B.out HC.out (by omega) (by omega)) fun xs17 ps17 hxs17 hps17 w9 hk B HI2 => ?_)
     replace F2 := bkr F2 HI (by decide) hk
     replace F3 := bkr F3 HI (by decide) hk
     replace F5 := bkr F5 HI (by decide) hk
     replace F7 := bkr F7 HI (by decide) hk
     replace HI := HI2
     clear hk
     refine ⟨_, rfl, ?_⟩
     refine hK.out _ _ F5.out (fun hHeld => ?_)
     clear hK K
     refine norm_ (a' := ?_) ?_ ?_
     rotate_left
     ·show Act.put _ (some 17) _ = _
      simp only [Act.put, List.setIfInBounds_toArray, List.set_cons_zero, List.set_cons_succ, i64_w, i32_w]
      rfl
     refine two_ (i := 3) (j := 8) (Ni := some 18) (Nj := some 6) (bits 13 527) (bits 13 775) rfl rfl rfl rfl (two_of HT_.out (by kernel_rfl)) (by decide) (by decide) (fun K hK => ?_) (fun K hK => ?_)
     ·refine goes_ Try.func51 (by kernel_rfl) rfl #[.agg #[.string x4, .string y4], .string xs17] (by rfl) rfl rfl (by (try simp only [List.map_toArray, List.map_cons, List.map_nil]); rfl) ?_
      with_reducible refine cl (spec_IntervalCut.M x4 y4 xs17 _) B fun w10 hb B => ?_
      replace F2 := bn F2 hb
      replace F3 := bn F3 hb
      replace F5 := bn F5 hb
      replace F7 := bn F7 hb
      replace HI := hib HI hb
      clear hb
      refine ⟨_, rfl, ?_⟩
      refine hK.out _ _ F5.out (fun hHeld => ?_)
      clear hK K
      refine norm_ (a' := ?_) ?_ ?_
      rotate_left
      ·show Act.put _ (some 18) _ = _
       simp only [Act.put, List.setIfInBounds_toArray, List.set_cons_zero, List.set_cons_succ, i64_w, i32_w]
       rfl
      refine pu (i := 4) (N := some 14) (v := ?_) (bits 13 543) rfl rfl (any_of HT_.out (by kernel_rfl)) (fun _ _ _ h => h) (by kernel_rfl) ?_ ?_; rotate_left; (intro w'; go_simp; with_reducible rfl)
      refine pu (i := 5) (N := some 19) (v := ?_) (bits 13 575) rfl rfl (any_of HT_.out (by kernel_rfl)) (fun _ _ _ h => h) (by kernel_rfl) ?_ ?_; rotate_left; (intro w'; go_simp; with_reducible rfl)
      refine pu (i := 6) (N := some 20) (v := ?_) (bits 13 639) rfl rfl (any_of HT_.out (by kernel_rfl)) (fun _ _ _ h => h) (by kernel_rfl) ?_ ?_; rotate_left; (intro w'; go_simp; with_reducible rfl)
      refine pu (i := 7) (N := some 21) (v := ?_) (bits 13 767) rfl rfl (any_of HT_.out (by kernel_rfl)) (fun _ _ _ h => h) (by kernel_rfl) ?_ ?_; rotate_left; (intro w'; go_simp; with_reducible rfl)
      refine norm_ (a' := ?_) ?_ ?_
      rotate_left
      ·simp only [Act.put, List.setIfInBounds_toArray, List.set_cons_zero, List.set_cons_succ, i64_w, i32_w]
       rfl
      refine one_ (i := 8) (N := some 6) (bits 13 1023) rfl rfl (one_of HT_.out (by kernel_rfl)) (by decide) (fun K hK => ?_)
      refine bxs (cs := #[.string (⟨#[]⟩ : ByteArray), .string (⟨#[]⟩ : ByteArray)]) (t := 30) (by rfl) rfl ?hr B (fun g6 w11 hb B F6 L6 E6 => ?_)
      (case hr => first | (go_simp; done) | (go_simp; rfl))
      have N2_6 := ne1 E6 F2
      have N3_6 := ne1 E6 F3
      have N5_6 := ne1 E6 F5
      have N7_6 := ne1 E6 F7
      replace F2 := bn F2 hb
      replace F3 := bn F3 hb
      replace F5 := bn F5 hb
      replace F7 := bn F7 hb
      replace HI := hib HI hb
      clear hb E6
      refine hK.out _ _ F5.out (fun hHeld => ?_)
      clear hK K
      refine norm_ (a' := ?_) ?_ ?_
      rotate_left
      ·show Act.put _ (some 6) _ = _
       simp only [Act.put, List.setIfInBounds_toArray, List.set_cons_zero, List.set_cons_succ, i64_w, i32_w]
       rfl
      refine norm_ (a' := _) ?_ (J ⟨g6, g7, ps17, xs17⟩ _ ⟨B, F2, F3, F5, F6, L6, F7, L7, N2_6, N3_6, N5_6, N2_7, N3_7, N5_7, ⟨N7_6.out.symm⟩, HI, (by omega)⟩)
      simp only [putAll, Act.put, List.setIfInBounds_toArray, List.set_cons_zero, List.set_cons_succ]
      try rfl
     ·refine bxs (cs := #[.string (⟨#[]⟩ : ByteArray), .string (⟨#[]⟩ : ByteArray)]) (t := 30) (by rfl) rfl ?hr B (fun g6 w10 hb B F6 L6 E6 => ?_)
      (case hr => first | (go_simp; done) | (go_simp; rfl))
      have N2_6 := ne1 E6 F2
      have N3_6 := ne1 E6 F3
      have N5_6 := ne1 E6 F5
      have N7_6 := ne1 E6 F7
      replace F2 := bn F2 hb
      replace F3 := bn F3 hb
      replace F5 := bn F5 hb
      replace F7 := bn F7 hb
      replace HI := hib HI hb
      clear hb E6
      refine hK.out _ _ F5.out (fun hHeld => ?_)
      clear hK K
      refine norm_ (a' := ?_) ?_ ?_
      rotate_left
      ·show Act.put _ (some 6) _ = _
       simp only [Act.put, List.setIfInBounds_toArray, List.set_cons_zero, List.set_cons_succ, i64_w, i32_w]
       rfl
      refine one_ (i := 3) (N := some 18) (bits 13 783) rfl rfl (one_of HT_.out (by kernel_rfl)) (by decide) (fun K hK => ?_)
      refine goes_ Try.func51 (by kernel_rfl) rfl #[.agg #[.string x4, .string y4], .string xs17] (by rfl) rfl rfl (by (try simp only [List.map_toArray, List.map_cons, List.map_nil]); rfl) ?_
      with_reducible refine cl (spec_IntervalCut.M x4 y4 xs17 _) B fun w11 hb B => ?_
      replace F2 := bn F2 hb
      replace F3 := bn F3 hb
      replace F5 := bn F5 hb
      replace F7 := bn F7 hb
      replace F6 := bn F6 hb
      replace HI := hib HI hb
      clear hb
      refine ⟨_, rfl, ?_⟩
      refine hK.out _ _ F5.out (fun hHeld => ?_)
      clear hK K
      refine norm_ (a' := ?_) ?_ ?_
      rotate_left
      ·show Act.put _ (some 18) _ = _
       simp only [Act.put, List.setIfInBounds_toArray, List.set_cons_zero, List.set_cons_succ, i64_w, i32_w]
       rfl
      refine pu (i := 4) (N := some 14) (v := ?_) (bits 13 799) rfl rfl (any_of HT_.out (by kernel_rfl)) (fun _ _ _ h => h) (by kernel_rfl) ?_ ?_; rotate_left; (intro w'; go_simp; with_reducible rfl)
      refine pu (i := 5) (N := some 19) (v := ?_) (bits 13 831) rfl rfl (any_of HT_.out (by kernel_rfl)) (fun _ _ _ h => h) (by kernel_rfl) ?_ ?_; rotate_left; (intro w'; go_simp; with_reducible rfl)
      refine pu (i := 6) (N := some 20) (v := ?_) (bits 13 895) rfl rfl (any_of HT_.out (by kernel_rfl)) (fun _ _ _ h => h) (by kernel_rfl) ?_ ?_; rotate_left; (intro w'; go_simp; with_reducible rfl)
      refine pu (i := 7) (N := some 21) (v := ?_) (bits 13 1023) rfl rfl (any_of HT_.out (by kernel_rfl)) (fun _ _ _ h => h) (by kernel_rfl) ?_ ?_; rotate_left; (intro w'; go_simp; with_reducible rfl)
      refine norm_ (a' := ?_) ?_ ?_
      rotate_left
      ·simp only [Act.put, List.setIfInBounds_toArray, List.set_cons_zero, List.set_cons_succ, i64_w, i32_w]
       rfl
      refine norm_ (a' := _) ?_ (J ⟨g6, g7, ps17, xs17⟩ _ ⟨B, F2, F3, F5, F6, L6, F7, L7, N2_6, N3_6, N5_6, N2_7, N3_7, N5_7, ⟨N7_6.out.symm⟩, HI, (by omega)⟩)
      simp only [putAll, Act.put, List.setIfInBounds_toArray, List.set_cons_zero, List.set_cons_succ]
      try rfl
    ·refine bxs (cs := #[.string (⟨#[]⟩ : ByteArray), .string (⟨#[]⟩ : ByteArray)]) (t := 30) (by rfl) rfl ?hr B (fun g6 w9 hb B F6 L6 E6 => ?_)
     (case hr => first | (go_simp; done) | (go_simp; rfl))
     have N2_6 := ne1 E6 F2
     have N3_6 := ne1 E6 F3
     have N5_6 := ne1 E6 F5
     have N7_6 := ne1 E6 F7
     replace F2 := bn F2 hb
     replace F3 := bn F3 hb
     replace F5 := bn F5 hb
     replace F7 := bn F7 hb
     replace HI := hib HI hb
     clear hb E6
     refine hK.out _ _ F5.out (fun hHeld => ?_)
     clear hK K
     refine norm_ (a' := ?_) ?_ ?_
     rotate_left
     ·show Act.put _ (some 6) _ = _
      simp only [Act.put, List.setIfInBounds_toArray, List.set_cons_zero, List.set_cons_succ, i64_w, i32_w]
      rfl
     refine one_ (i := 2) (N := some 17) (bits 13 775) rfl rfl (one_of HT_.out (by kernel_rfl)) (by decide) (fun K hK => ?_)
     refine goes_ Try.func78 (by kernel_rfl) rfl #[.pointer (some ⟨g, 0, none⟩), .int .i64 (0)] (by rfl) rfl rfl (by (try simp only [List.map_toArray, List.map_cons, List.map_nil]); rfl) ?_
     (with_reducible refine cg1 (spec_l20Key.D 0 (by omega) w _ g bs p4 HI.out B.out HC.out (by omega) (by omega)) fun xs17 ps17 hxs17 hps17 w10 hk B HI2 => ?_)
     replace F2 := bkr F2 HI (by decide) hk
     replace F3 := bkr F3 HI (by decide) hk
     replace F5 := bkr F5 HI (by decide) hk
     replace F7 := bkr F7 HI (by decide) hk
     replace F6 := bkr F6 HI (by decide) hk
     replace HI := HI2
     clear hk
     refine ⟨_, rfl, ?_⟩
     refine hK.out _ _ F5.out (fun hHeld => ?_)
     clear hK K
     refine norm_ (a' := ?_) ?_ ?_
     rotate_left
     ·show Act.put _ (some 17) _ = _
      simp only [Act.put, List.setIfInBounds_toArray, List.set_cons_zero, List.set_cons_succ, i64_w, i32_w]
      rfl
     refine one_ (i := 3) (N := some 18) (bits 13 783) rfl rfl (one_of HT_.out (by kernel_rfl)) (by decide) (fun K hK => ?_)
     refine goes_ Try.func51 (by kernel_rfl) rfl #[.agg #[.string x4, .string y4], .string xs17] (by rfl) rfl rfl (by (try simp only [List.map_toArray, List.map_cons, List.map_nil]); rfl) ?_
     with_reducible refine cl (spec_IntervalCut.M x4 y4 xs17 _) B fun w11 hb B => ?_
     replace F2 := bn F2 hb
     replace F3 := bn F3 hb
     replace F5 := bn F5 hb
     replace F7 := bn F7 hb
     replace F6 := bn F6 hb
     replace HI := hib HI hb
     clear hb
     refine ⟨_, rfl, ?_⟩
     refine hK.out _ _ F5.out (fun hHeld => ?_)
     clear hK K
     refine norm_ (a' := ?_) ?_ ?_
     rotate_left
     ·show Act.put _ (some 18) _ = _
      simp only [Act.put, List.setIfInBounds_toArray, List.set_cons_zero, List.set_cons_succ, i64_w, i32_w]
      rfl
     refine pu (i := 4) (N := some 14) (v := ?_) (bits 13 799) rfl rfl (any_of HT_.out (by kernel_rfl)) (fun _ _ _ h => h) (by kernel_rfl) ?_ ?_; rotate_left; (intro w'; go_simp; with_reducible rfl)
     refine pu (i := 5) (N := some 19) (v := ?_) (bits 13 831) rfl rfl (any_of HT_.out (by kernel_rfl)) (fun _ _ _ h => h) (by kernel_rfl) ?_ ?_; rotate_left; (intro w'; go_simp; with_reducible rfl)
     refine pu (i := 6) (N := some 20) (v := ?_) (bits 13 895) rfl rfl (any_of HT_.out (by kernel_rfl)) (fun _ _ _ h => h) (by kernel_rfl) ?_ ?_; rotate_left; (intro w'; go_simp; with_reducible rfl)
     refine pu (i := 7) (N := some 21) (v := ?_) (bits 13 1023) rfl rfl (any_of HT_.out (by kernel_rfl)) (fun _ _ _ h => h) (by kernel_rfl) ?_ ?_; rotate_left; (intro w'; go_simp; with_reducible rfl)
     refine norm_ (a' := ?_) ?_ ?_
     rotate_left
     ·simp only [Act.put, List.setIfInBounds_toArray, List.set_cons_zero, List.set_cons_succ, i64_w, i32_w]
      rfl
     refine norm_ (a' := _) ?_ (J ⟨g6, g7, ps17, xs17⟩ _ ⟨B, F2, F3, F5, F6, L6, F7, L7, N2_6, N3_6, N5_6, N2_7, N3_7, N5_7, ⟨N7_6.out.symm⟩, HI, (by omega)⟩)
     simp only [putAll, Act.put, List.setIfInBounds_toArray, List.set_cons_zero, List.set_cons_succ]
     try rfl
  rintro ⟨g6, g7, ps17, xs17⟩ w12 ⟨B, F2, F3, F5, F6, L6, F7, L7, N2_6, N3_6, N5_6, N2_7, N3_7, N5_7, N6_7, HI, hpj3⟩
  refine norm_ (a' := ?_) ?_ ?_
  rotate_left
  ·simp only [putAll, Act.put, List.setIfInBounds_toArray, List.set_cons_zero, List.set_cons_succ]
   rfl
  refine one_ (i := 10) (N := none) (bits 13 2047) rfl rfl (one_of HT_.out (by kernel_rfl)) (by decide) (fun K hK => ?_)
  obtain ⟨y0, y1⟩ := cs2 F6
  have z0 := fz F6 0
  have z1 := fz F6 1
  refine sxs (g := g6) 0 [.string (cutV x4 y4 xs17).1, .string (cutV x4 y4 xs17).2.1] [.string (cutV x4 y4 xs17).1, .string (cutV x4 y4 xs17).2.1] (by rfl) rfl ?hr B F6 L6 rfl (Nat.le_of_ble_eq_true rfl) (fun w13 hk B G => ?_)
  (case hr => first | (go_simp; done) | (go_simp; rfl))
  replace F2 := bk F2 hk N2_6.out
  replace F3 := bk F3 hk N3_6.out
  replace F5 := bk F5 hk N5_6.out
  replace F7 := bk F7 hk N6_7.out.symm
  replace HI := his HI F6 (by decide) hk
  replace F6 := G
  clear hk y0 z0 y1 z1
  refine hK.out _ _ F5.out (fun hHeld => ?_)
  clear hK K
  refine one_ (i := 11) (N := none) (bits 13 4095) rfl rfl (one_of HT_.out (by kernel_rfl)) (by decide) (fun K hK => ?_)
  obtain ⟨y0, y1⟩ := cs2 F7
  have z0 := fz F7 0
  have z1 := fz F7 1
  refine sxs (g := g7) 0 [.string (cutV x4 y4 xs17).2.2.1, .string (cutV x4 y4 xs17).2.2.2.1] [.string (cutV x4 y4 xs17).2.2.1, .string (cutV x4 y4 xs17).2.2.2.1] (by rfl) rfl ?hr B F7 L7 rfl (Nat.le_of_ble_eq_true rfl) (fun w14 hk B G => ?_)
  (case hr => first | (go_simp; done) | (go_simp; rfl))
  replace F2 := bk F2 hk N2_7.out
  replace F3 := bk F3 hk N3_7.out
  replace F5 := bk F5 hk N5_7.out
  replace F6 := bk F6 hk N6_7.out
  replace HI := his HI F7 (by decide) hk
  replace F7 := G
  clear hk y0 z0 y1 z1
  refine hK.out _ _ F5.out (fun hHeld => ?_)
  clear hK K
  refine pu (i := 12) (N := some 8) (v := ?_) (bits 13 8191) rfl rfl (any_of HT_.out (by kernel_rfl)) (fun _ _ _ h => h) (by kernel_rfl) ?_ ?_; rotate_left; (intro w'; go_simp; with_reducible rfl)
  refine norm_ (a' := ?_) ?_ ?_
  rotate_left
  ·simp only [Act.put, List.setIfInBounds_toArray, List.set_cons_zero, List.set_cons_succ, i64_w, i32_w]
   rfl
  refine done_ (done_of HT_.out (by kernel_rfl)) ?_
  obtain ⟨c6_0, c6_1⟩ := cs2 F6
  obtain ⟨c7_0, c7_1⟩ := cs2 F7)
 all_goals go_wp2_with (first
  | (go_at_call 71; (with_reducible refine cgs (spec_l20Sealed.D (cutV x4 y4 xs17).1 (cutV x4 y4 xs17).2.1 (⟨#[]⟩ : ByteArray) 9 (by omega) w _ g bs ps17 HI.out B.out HC.out (by omega) (by omega)) fun a101 b101 t101 c101 zP101 zS101 AP101 kP101 AS101 kS101 p101 hx101 hp101 w101 hk B HI2 RP101 QP101 RS101 QS101 => ?_); have DP101_S101 := Aside0.mk (dty RP101 RS101 (by decide)); replace F2 := bkr F2 HI (by decide) hk; replace F3 := bkr F3 HI (by decide) hk; replace F7 := bkr F7 HI (by decide) hk; replace HI := HI2; clear hk QP101 QS101; clear c7_0 c7_1; obtain ⟨c7_0, c7_1⟩ := cs2 F7; skip)
  | ((with_reducible refine gate_dst (N := 9) rfl ?_); refine bx ?hg (N := 9) ?hd (cs := #[.string (⟨#[]⟩ : ByteArray), .string (⟨#[]⟩ : ByteArray), .slice none 0 0, .slice none 0 0, .bool false, .string (⟨#[]⟩ : ByteArray)]) (t := 34) ?hr B ?_; (case hd => rfl); (case hg => rfl); (case hr => first | (go_simp; done) | (go_simp; rfl)); intro g9 w102 hb B F9 L9 E9; have N2_9 := ne1 E9 F2; have N3_9 := ne1 E9 F3; have N7_9 := ne1 E9 F7; replace F2 := bn F2 hb; replace F3 := bn F3 hb; replace F7 := bn F7 hb; replace RP101 := rn RP101 hb; replace RS101 := rn RS101 hb; replace HI := hib HI hb; clear c7_0 c7_1; obtain ⟨c7_0, c7_1⟩ := cs2 F7; obtain ⟨c9_0, c9_1, c9_2, c9_3, c9_4, c9_5⟩ := cs6 F9; clear hb E9)
  | ((with_reducible refine gate_store (t := 34) (p := 9) rfl ?_); obtain ⟨y0, y1, y2, y3, y4, y5⟩ := cs6 F9; have z0 := fz F9 0; have z1 := fz F9 1; have z2 := fz F9 2; have z3 := fz F9 3; have z4 := fz F9 4; have z5 := fz F9 5; refine sx (t := 34) (t' := 34) (p := 9) (v := ?vo103) ?hg ?ho ?hn 0 [.string a101, .string b101, .slice AP101 zP101.length kP101, .slice AS101 zS101.length kS101, .bool t101, .string c101] [.string a101, .string b101, .slice AP101 zP101.length kP101, .slice AS101 zS101.length kS101, .bool t101, .string c101] ?hr B F9 L9 rfl (Nat.le_of_ble_eq_true rfl) ?_; (case ho => rfl); (case hg => rfl); (case hn => rfl); (case hr => first | (go_simp; done) | (go_simp; rfl)); intro w103 hk B G; replace F2 := bk F2 hk N2_9.out; replace F3 := bk F3 hk N3_9.out; replace F7 := bk F7 hk N7_9.out; replace RP101 := rk RP101 F9 (by decide) hk; replace RS101 := rk RS101 F9 (by decide) hk; replace HI := his HI F9 (by decide) hk; replace F9 := G; clear c7_0 c7_1; obtain ⟨c7_0, c7_1⟩ := cs2 F7; clear c9_0 c9_1 c9_2 c9_3 c9_4 c9_5; obtain ⟨c9_0, c9_1, c9_2, c9_3, c9_4, c9_5⟩ := cs6 F9; clear hk y0 z0 y1 z1 y2 z2 y3 z3 y4 z4 y5 z5)
  | ((with_reducible refine gate_store (t := 30) (p := 6) rfl ?_); obtain ⟨y0, y1⟩ := cs2 F6; have z0 := fz F6 0; have z1 := fz F6 1; refine sx (t := 30) (t' := 30) (p := 6) (v := ?vo201) ?hg ?ho ?hn 0 [.string (⟨#[]⟩ : ByteArray), .string (⟨#[99]⟩ : ByteArray)] [.string (⟨#[]⟩ : ByteArray), .string (⟨#[99]⟩ : ByteArray)] ?hr B F6 L6 rfl (Nat.le_of_ble_eq_true rfl) ?_; (case ho => rfl); (case hg => rfl); (case hn => rfl); (case hr => first | (go_simp; done) | (go_simp; rfl)); intro w201 hk B G; replace F2 := bk F2 hk N2_6.out; replace F3 := bk F3 hk N3_6.out; replace F7 := bk F7 hk N6_7.out.symm; replace HI := his HI F6 (by decide) hk; replace F6 := G; clear c6_0 c6_1; obtain ⟨c6_0, c6_1⟩ := cs2 F6; clear c7_0 c7_1; obtain ⟨c7_0, c7_1⟩ := cs2 F7; clear hk y0 z0 y1 z1)
  | ((with_reducible refine gate_dst (N := 25) rfl ?_); refine lt Kd.string 9 ?hg (N := 25) ?hd ([((⟨#[99]⟩ : ByteArray)), ((⟨#[100]⟩ : ByteArray))] : List ByteArray) [.string (⟨#[99]⟩ : ByteArray), .string (⟨#[100]⟩ : ByteArray)] ?hr (Reps.one (show Kd.M Kd.string _ _ _ ((⟨#[99]⟩ : ByteArray)) [.string (⟨#[99]⟩ : ByteArray)] from rfl) (Reps.one (show Kd.M Kd.string _ _ _ ((⟨#[100]⟩ : ByteArray)) [.string (⟨#[100]⟩ : ByteArray)] from rfl) (Reps.none _ _))) (by simp) B ?_; (case hd => rfl); (case hg => rfl); (case hr => first | (go_simp; done) | (go_simp; rfl)); intro z25 hz25 AL25 kL25 w202 hb B RL25 QL25; replace F2 := bn F2 hb; replace F3 := bn F3 hb; replace F6 := bn F6 hb; replace F7 := bn F7 hb; replace HI := hib HI hb; clear c6_0 c6_1; obtain ⟨c6_0, c6_1⟩ := cs2 F6; clear c7_0 c7_1; obtain ⟨c7_0, c7_1⟩ := cs2 F7; clear hb QL25)
  | (go_at_call 79; (with_reducible refine cg1 (spec_l20Rd_pick.D 5 w _ g bs ps17 HI.out B.out HC.out (by omega) (by omega)) fun x203 p203 hx203 hp203 w203 hk B HI2 => ?_); replace F2 := bkr F2 HI (by decide) hk; replace F3 := bkr F3 HI (by decide) hk; replace F6 := bkr F6 HI (by decide) hk; replace F7 := bkr F7 HI (by decide) hk; replace RL25 := rkr RL25 HI (by decide) hk; replace HI := HI2; clear hk; clear c6_0 c6_1; obtain ⟨c6_0, c6_1⟩ := cs2 F6; clear c7_0 c7_1; obtain ⟨c7_0, c7_1⟩ := cs2 F7; skip; obtain ⟨i27, hi27⟩ : ∃ i : Int, Int.tdiv x203 4 = i := ⟨_, rfl⟩; have hb27 := pick_div hx203.1 (hx203.2.1 (by omega)); rw [hi27] at hb27; have hv27 : IntKind.i64.wrap i27 = i27 := (i64_w _).trans (w64 (by omega) (by omega)); have hv28 : wrap64 i27 = i27 := (w64 (by omega) (by omega)); have hl27 : i27 < (z25.length : Int) := (by rw [← hz25]; have := hb27.2; simpa using this); obtain ⟨ad27, hA27, y27⟩ := Kd.at_string (rc RL25) i27 hb27.1 hl27; have hj27 := hb27.1; generalize rdOf ByteArray.empty z25 i27 = s27 at *; cases hA27; have j27 := eq_true hj27; have k27 := eq_true hl27)
  | ((with_reducible refine gate_store (t := 30) (p := 7) rfl ?_); obtain ⟨y0, y1⟩ := cs2 F7; have z0 := fz F7 0; have z1 := fz F7 1; refine sx (t := 30) (t' := 30) (p := 7) (v := ?vo204) ?hg ?ho ?hn 0 [.string s27, .string (⟨#[]⟩ : ByteArray)] [.string s27, .string (⟨#[]⟩ : ByteArray)] ?hr B F7 L7 rfl (Nat.le_of_ble_eq_true rfl) ?_; (case ho => rfl); (case hg => rfl); (case hn => rfl); (case hr => first | (go_simp; done) | (go_simp; rfl)); intro w204 hk B G; replace F2 := bk F2 hk N2_7.out; replace F3 := bk F3 hk N3_7.out; replace F6 := bk F6 hk N6_7.out; replace RL25 := rk RL25 F7 (by decide) hk; replace HI := his HI F7 (by decide) hk; replace F7 := G; clear c6_0 c6_1; obtain ⟨c6_0, c6_1⟩ := cs2 F6; clear c7_0 c7_1; obtain ⟨c7_0, c7_1⟩ := cs2 F7; clear hk y0 z0 y1 z1)
  | (go_at_call 71; (with_reducible refine cgs (spec_l20Sealed.D (⟨#[]⟩ : ByteArray) (⟨#[99]⟩ : ByteArray) (⟨#[]⟩ : ByteArray) 9 (by omega) w _ g bs p203 HI.out B.out HC.out (by omega) (by omega)) fun a205 b205 t205 c205 zP205 zS205 AP205 kP205 AS205 kS205 p205 hx205 hp205 w205 hk B HI2 RP205 QP205 RS205 QS205 => ?_); have DP205_S205 := Aside0.mk (dty RP205 RS205 (by decide)); replace F2 := bkr F2 HI (by decide) hk; replace F3 := bkr F3 HI (by decide) hk; replace F7 := bkr F7 HI (by decide) hk; replace HI := HI2; clear hk QP205 QS205; clear c7_0 c7_1; obtain ⟨c7_0, c7_1⟩ := cs2 F7; skip)
  | ((with_reducible refine gate_dst (N := 9) rfl ?_); refine bx ?hg (N := 9) ?hd (cs := #[.string (⟨#[]⟩ : ByteArray), .string (⟨#[]⟩ : ByteArray), .slice none 0 0, .slice none 0 0, .bool false, .string (⟨#[]⟩ : ByteArray)]) (t := 34) ?hr B ?_; (case hd => rfl); (case hg => rfl); (case hr => first | (go_simp; done) | (go_simp; rfl)); intro g9 w206 hb B F9 L9 E9; have N2_9 := ne1 E9 F2; have N3_9 := ne1 E9 F3; have N7_9 := ne1 E9 F7; replace F2 := bn F2 hb; replace F3 := bn F3 hb; replace F7 := bn F7 hb; replace RP205 := rn RP205 hb; replace RS205 := rn RS205 hb; replace HI := hib HI hb; clear c7_0 c7_1; obtain ⟨c7_0, c7_1⟩ := cs2 F7; obtain ⟨c9_0, c9_1, c9_2, c9_3, c9_4, c9_5⟩ := cs6 F9; clear hb E9)
  | ((with_reducible refine gate_store (t := 34) (p := 9) rfl ?_); obtain ⟨y0, y1, y2, y3, y4, y5⟩ := cs6 F9; have z0 := fz F9 0; have z1 := fz F9 1; have z2 := fz F9 2; have z3 := fz F9 3; have z4 := fz F9 4; have z5 := fz F9 5; refine sx (t := 34) (t' := 34) (p := 9) (v := ?vo207) ?hg ?ho ?hn 0 [.string a205, .string b205, .slice AP205 zP205.length kP205, .slice AS205 zS205.length kS205, .bool t205, .string c205] [.string a205, .string b205, .slice AP205 zP205.length kP205, .slice AS205 zS205.length kS205, .bool t205, .string c205] ?hr B F9 L9 rfl (Nat.le_of_ble_eq_true rfl) ?_; (case ho => rfl); (case hg => rfl); (case hn => rfl); (case hr => first | (go_simp; done) | (go_simp; rfl)); intro w207 hk B G; replace F2 := bk F2 hk N2_9.out; replace F3 := bk F3 hk N3_9.out; replace F7 := bk F7 hk N7_9.out; replace RP205 := rk RP205 F9 (by decide) hk; replace RS205 := rk RS205 F9 (by decide) hk; replace HI := his HI F9 (by decide) hk; replace F9 := G; clear c7_0 c7_1; obtain ⟨c7_0, c7_1⟩ := cs2 F7; clear c9_0 c9_1 c9_2 c9_3 c9_4 c9_5; obtain ⟨c9_0, c9_1, c9_2, c9_3, c9_4, c9_5⟩ := cs6 F9; clear hk y0 z0 y1 z1 y2 z2 y3 z3 y4 z4 y5 z5))
 ·try go_wp2
  all_goals (
   refine rg (n := 6) (S := fun W => W.heap[g9]? = some (.cells #[.string a205, .string b205, .slice AP205 zP205.length kP205, .slice AS205 zS205.length kS205, .bool t205, .string c205] 34 (0, 0)) ∧ W.heap[g7]? = some (.cells #[.string s27, .string (⟨#[]⟩ : ByteArray)] 30 (0, 0))) (ds := []) #[false, false, false, false, false, false] (by kernel_rfl) rfl rfl ⟨F9.out, F7.out⟩ id B (fun w401 hb B hHeld => ?_)
   refine with_tabW spec_DrawStateJoin.tab8 spec_DrawStateJoin.bits8 (fun HT_ HW_ => ?_)
   replace F2 := bn F2 hb
   replace F3 := bn F3 hb
   replace F7 := bn F7 hb
   replace F9 := bn F9 hb
   replace RP205 := rn RP205 hb
   replace RS205 := rn RS205 hb
   replace HI := hib HI hb
   clear hb
   refine ta (i := 0) (N := some 35) (v := ?_) (bits 6 1) rfl rfl (take_ofW HT_.out HW_.out (by kernel_rfl)) (fun _ _ _ h => h) (by kernel_rfl) hHeld ?_ ?_; rotate_left; (intro w' hS; obtain ⟨s0, s1⟩ := hS; obtain ⟨q0, q1, q2, q3, q4, q5⟩ := cs6 (Aside0.mk s0); go_simp; with_reducible rfl)
   refine pu (i := 1) (N := some 36) (v := ?_) (bits 6 3) rfl rfl (any_of HT_.out (by kernel_rfl)) (fun _ _ _ h => h) (by kernel_rfl) ?_ ?_; rotate_left; (intro w'; go_simp; with_reducible rfl)
   refine ta (i := 2) (N := some 37) (v := ?_) (bits 6 7) rfl rfl (take_ofW HT_.out HW_.out (by kernel_rfl)) (fun _ _ _ h => h) (by kernel_rfl) hHeld ?_ ?_; rotate_left; (intro w' hS; obtain ⟨s0, s1⟩ := hS; obtain ⟨q0, q1⟩ := cs2 (Aside0.mk s1); go_simp; with_reducible rfl)
   refine norm_ (a' := ?_) ?_ ?_
   rotate_left
   ·simp only [Act.put, List.setIfInBounds_toArray, List.set_cons_zero, List.set_cons_succ, i64_w, i32_w]
    rfl
   refine one_ (i := 3) (N := some 38) (bits 6 15) rfl rfl (one_of HT_.out (by kernel_rfl)) (by decide) (fun K hK => ?_)
   refine goes_ Try.func71 (by kernel_rfl) rfl #[.pointer (some ⟨g, 0, none⟩), .agg #[.string s27, .string (⟨#[]⟩ : ByteArray)], .string (⟨#[]⟩ : ByteArray), .int .i64 (9)] (by rfl) rfl rfl (by (try simp only [List.map_toArray, List.map_cons, List.map_nil]); rfl) ?_
   (with_reducible refine cgs (spec_l20Sealed.D s27 (⟨#[]⟩ : ByteArray) (⟨#[]⟩ : ByteArray) 9 (by omega) w _ g bs p205 HI.out B.out HC.out (by omega) (by omega)) fun a402 b402 t402 c402 zP402 zS402 AP402 kP402 AS402 kS402 p402 hx402 hp402 w402 hk B HI2 RP402 QP402 RS402 QS402 => ?_)
   have DP205_P402 := fr QP402 RP205
   have DS205_P402 := fr QP402 RS205
   have DP205_S402 := fr QS402 RP205
   have DS205_S402 := fr QS402 RS205
   have DP402_S402 := Aside0.mk (dty RP402 RS402 (by decide))
   replace F2 := bkr F2 HI (by decide) hk
   replace F3 := bkr F3 HI (by decide) hk
   replace F7 := bkr F7 HI (by decide) hk
   replace F9 := bkr F9 HI (by decide) hk
   replace RP205 := rkr RP205 HI (by decide) hk
   replace RS205 := rkr RS205 HI (by decide) hk
   replace HI := HI2
   clear hk QP402 QS402
   refine ⟨_, rfl, ?_⟩
   refine hK.out _ _ ⟨F9.out, F7.out⟩ (fun hHeld => ?_)
   clear hK K
   refine norm_ (a' := ?_) ?_ ?_
   rotate_left
   ·show Act.put _ (some 38) _ = _
    simp only [Act.put, List.setIfInBounds_toArray, List.set_cons_zero, List.set_cons_succ, i64_w, i32_w]
    rfl
   refine one_ (i := 4) (N := none) (bits 6 31) rfl rfl (one_of HT_.out (by kernel_rfl)) (by decide) (fun K hK => ?_)
   obtain ⟨y0, y1, y2, y3, y4, y5⟩ := cs6 F2
   have z0 := fz F2 0
   have z1 := fz F2 1
   have z2 := fz F2 2
   have z3 := fz F2 3
   have z4 := fz F2 4
   have z5 := fz F2 5
   refine sxs (g := g2) 0 [.string a205, .string b205, .slice AP205 zP205.length kP205, .slice AS205 zS205.length kS205, .bool t205, .string c205] [.string a205, .string b205, .slice AP205 zP205.length kP205, .slice AS205 zS205.length kS205, .bool t205, .string c205] (by rfl) rfl ?hr B F2 L2 rfl (Nat.le_of_ble_eq_true rfl) (fun w403 hk B G => ?_)
   (case hr => first | (go_simp; done) | (go_simp; rfl))
   replace F3 := bk F3 hk N2_3.out.symm
   replace F7 := bk F7 hk N2_7.out.symm
   replace F9 := bk F9 hk N2_9.out.symm
   replace RP205 := rk RP205 F2 (by decide) hk
   replace RS205 := rk RS205 F2 (by decide) hk
   replace RP402 := rk RP402 F2 (by decide) hk
   replace RS402 := rk RS402 F2 (by decide) hk
   replace HI := his HI F2 (by decide) hk
   replace F2 := G
   clear hk y0 z0 y1 z1 y2 z2 y3 z3 y4 z4 y5 z5
   refine hK.out _ _ ⟨F9.out, F7.out⟩ (fun hHeld => ?_)
   clear hK K
   refine one_ (i := 5) (N := none) (bits 6 63) rfl rfl (one_of HT_.out (by kernel_rfl)) (by decide) (fun K hK => ?_)
   obtain ⟨y0, y1, y2, y3, y4, y5⟩ := cs6 F3
   have z0 := fz F3 0
   have z1 := fz F3 1
   have z2 := fz F3 2
   have z3 := fz F3 3
   have z4 := fz F3 4
   have z5 := fz F3 5
   refine sxs (g := g3) 0 [.string a402, .string b402, .slice AP402 zP402.length kP402, .slice AS402 zS402.length kS402, .bool t402, .string c402] [.string a402, .string b402, .slice AP402 zP402.length kP402, .slice AS402 zS402.length kS402, .bool t402, .string c402] (by rfl) rfl ?hr B F3 L3 rfl (Nat.le_of_ble_eq_true rfl) (fun w404 hk B G => ?_)
   (case hr => first | (go_simp; done) | (go_simp; rfl))
   replace F2 := bk F2 hk N2_3.out
   replace F7 := bk F7 hk N3_7.out.symm
   replace F9 := bk F9 hk N3_9.out.symm
   replace RP205 := rk RP205 F3 (by decide) hk
   replace RS205 := rk RS205 F3 (by decide) hk
   replace RP402 := rk RP402 F3 (by decide) hk
   replace RS402 := rk RS402 F3 (by decide) hk
   replace HI := his HI F3 (by decide) hk
   replace F3 := G
   clear hk y0 z0 y1 z1 y2 z2 y3 z3 y4 z4 y5 z5
   refine hK.out _ _ ⟨F9.out, F7.out⟩ (fun hHeld => ?_)
   clear hK K
   refine done_ (done_of HT_.out (by kernel_rfl)) ?_)
  all_goals try go_wp2
  try (refine bodyPost_ret (results_list (rs := [.cell 2 34, .cell 3 34]) rfl (by simp) (.cell g2 34 _ (0, 0) _ rfl F2.out hu rfl (by kernel_rfl) (.cell g3 34 _ (0, 0) _ rfl F3.out hu rfl (by kernel_rfl) .nil))) rfl ?_)
  exact ⟨_, _, _, _, _, _, _, _, _, _, _, _, _, _, _, _, rfl, ⟨⟨hx205.1, hx205.2⟩, hx402.1, hx402.2⟩, ⟨RP205.out, RS205.out⟩, ⟨RP402.out, RS402.out⟩, B.out⟩
 ·try go_wp2
  all_goals (
   refine rg (n := 6) (S := fun W => W.heap[g9]? = some (.cells #[.string a101, .string b101, .slice AP101 zP101.length kP101, .slice AS101 zS101.length kS101, .bool t101, .string c101] 34 (0, 0)) ∧ W.heap[g7]? = some (.cells #[.string (cutV x4 y4 xs17).2.2.1, .string (cutV x4 y4 xs17).2.2.2.1] 30 (0, 0))) (ds := []) #[false, false, false, false, false, false] (by kernel_rfl) rfl rfl ⟨F9.out, F7.out⟩ id B (fun w301 hb B hHeld => ?_)
   refine with_tabW spec_DrawStateJoin.tab8 spec_DrawStateJoin.bits8 (fun HT_ HW_ => ?_)
   replace F2 := bn F2 hb
   replace F3 := bn F3 hb
   replace F7 := bn F7 hb
   replace F9 := bn F9 hb
   replace RP101 := rn RP101 hb
   replace RS101 := rn RS101 hb
   replace HI := hib HI hb
   clear hb
   refine ta (i := 0) (N := some 35) (v := ?_) (bits 6 1) rfl rfl (take_ofW HT_.out HW_.out (by kernel_rfl)) (fun _ _ _ h => h) (by kernel_rfl) hHeld ?_ ?_; rotate_left; (intro w' hS; obtain ⟨s0, s1⟩ := hS; obtain ⟨q0, q1, q2, q3, q4, q5⟩ := cs6 (Aside0.mk s0); go_simp; with_reducible rfl)
   refine pu (i := 1) (N := some 36) (v := ?_) (bits 6 3) rfl rfl (any_of HT_.out (by kernel_rfl)) (fun _ _ _ h => h) (by kernel_rfl) ?_ ?_; rotate_left; (intro w'; go_simp; with_reducible rfl)
   refine ta (i := 2) (N := some 37) (v := ?_) (bits 6 7) rfl rfl (take_ofW HT_.out HW_.out (by kernel_rfl)) (fun _ _ _ h => h) (by kernel_rfl) hHeld ?_ ?_; rotate_left; (intro w' hS; obtain ⟨s0, s1⟩ := hS; obtain ⟨q0, q1⟩ := cs2 (Aside0.mk s1); go_simp; with_reducible rfl)
   refine norm_ (a' := ?_) ?_ ?_
   rotate_left
   ·simp only [Act.put, List.setIfInBounds_toArray, List.set_cons_zero, List.set_cons_succ, i64_w, i32_w]
    rfl
   refine one_ (i := 3) (N := some 38) (bits 6 15) rfl rfl (one_of HT_.out (by kernel_rfl)) (by decide) (fun K hK => ?_)
   refine goes_ Try.func71 (by kernel_rfl) rfl #[.pointer (some ⟨g, 0, none⟩), .agg #[.string (cutV x4 y4 xs17).2.2.1, .string (cutV x4 y4 xs17).2.2.2.1], .string (⟨#[]⟩ : ByteArray), .int .i64 (9)] (by rfl) rfl rfl (by (try simp only [List.map_toArray, List.map_cons, List.map_nil]); rfl) ?_
   (with_reducible refine cgs (spec_l20Sealed.D (cutV x4 y4 xs17).2.2.1 (cutV x4 y4 xs17).2.2.2.1 (⟨#[]⟩ : ByteArray) 9 (by omega) w _ g bs p101 HI.out B.out HC.out (by omega) (by omega)) fun a302 b302 t302 c302 zP302 zS302 AP302 kP302 AS302 kS302 p302 hx302 hp302 w302 hk B HI2 RP302 QP302 RS302 QS302 => ?_)
   have DP101_P302 := fr QP302 RP101
   have DS101_P302 := fr QP302 RS101
   have DP101_S302 := fr QS302 RP101
   have DS101_S302 := fr QS302 RS101
   have DP302_S302 := Aside0.mk (dty RP302 RS302 (by decide))
   replace F2 := bkr F2 HI (by decide) hk
   replace F3 := bkr F3 HI (by decide) hk
   replace F7 := bkr F7 HI (by decide) hk
   replace F9 := bkr F9 HI (by decide) hk
   replace RP101 := rkr RP101 HI (by decide) hk
   replace RS101 := rkr RS101 HI (by decide) hk
   replace HI := HI2
   clear hk QP302 QS302
   refine ⟨_, rfl, ?_⟩
   refine hK.out _ _ ⟨F9.out, F7.out⟩ (fun hHeld => ?_)
   clear hK K
   refine norm_ (a' := ?_) ?_ ?_
   rotate_left
   ·show Act.put _ (some 38) _ = _
    simp only [Act.put, List.setIfInBounds_toArray, List.set_cons_zero, List.set_cons_succ, i64_w, i32_w]
    rfl
   refine one_ (i := 4) (N := none) (bits 6 31) rfl rfl (one_of HT_.out (by kernel_rfl)) (by decide) (fun K hK => ?_)
   obtain ⟨y0, y1, y2, y3, y4, y5⟩ := cs6 F2
   have z0 := fz F2 0
   have z1 := fz F2 1
   have z2 := fz F2 2
   have z3 := fz F2 3
   have z4 := fz F2 4
   have z5 := fz F2 5
   refine sxs (g := g2) 0 [.string a101, .string b101, .slice AP101 zP101.length kP101, .slice AS101 zS101.length kS101, .bool t101, .string c101] [.string a101, .string b101, .slice AP101 zP101.length kP101, .slice AS101 zS101.length kS101, .bool t101, .string c101] (by rfl) rfl ?hr B F2 L2 rfl (Nat.le_of_ble_eq_true rfl) (fun w303 hk B G => ?_)
   (case hr => first | (go_simp; done) | (go_simp; rfl))
   replace F3 := bk F3 hk N2_3.out.symm
   replace F7 := bk F7 hk N2_7.out.symm
   replace F9 := bk F9 hk N2_9.out.symm
   replace RP101 := rk RP101 F2 (by decide) hk
   replace RS101 := rk RS101 F2 (by decide) hk
   replace RP302 := rk RP302 F2 (by decide) hk
   replace RS302 := rk RS302 F2 (by decide) hk
   replace HI := his HI F2 (by decide) hk
   replace F2 := G
   clear hk y0 z0 y1 z1 y2 z2 y3 z3 y4 z4 y5 z5
   refine hK.out _ _ ⟨F9.out, F7.out⟩ (fun hHeld => ?_)
   clear hK K
   refine one_ (i := 5) (N := none) (bits 6 63) rfl rfl (one_of HT_.out (by kernel_rfl)) (by decide) (fun K hK => ?_)
   obtain ⟨y0, y1, y2, y3, y4, y5⟩ := cs6 F3
   have z0 := fz F3 0
   have z1 := fz F3 1
   have z2 := fz F3 2
   have z3 := fz F3 3
   have z4 := fz F3 4
   have z5 := fz F3 5
   refine sxs (g := g3) 0 [.string a302, .string b302, .slice AP302 zP302.length kP302, .slice AS302 zS302.length kS302, .bool t302, .string c302] [.string a302, .string b302, .slice AP302 zP302.length kP302, .slice AS302 zS302.length kS302, .bool t302, .string c302] (by rfl) rfl ?hr B F3 L3 rfl (Nat.le_of_ble_eq_true rfl) (fun w304 hk B G => ?_)
   (case hr => first | (go_simp; done) | (go_simp; rfl))
   replace F2 := bk F2 hk N2_3.out
   replace F7 := bk F7 hk N3_7.out.symm
   replace F9 := bk F9 hk N3_9.out.symm
   replace RP101 := rk RP101 F3 (by decide) hk
   replace RS101 := rk RS101 F3 (by decide) hk
   replace RP302 := rk RP302 F3 (by decide) hk
   replace RS302 := rk RS302 F3 (by decide) hk
   replace HI := his HI F3 (by decide) hk
   replace F3 := G
   clear hk y0 z0 y1 z1 y2 z2 y3 z3 y4 z4 y5 z5
   refine hK.out _ _ ⟨F9.out, F7.out⟩ (fun hHeld => ?_)
   clear hK K
   refine done_ (done_of HT_.out (by kernel_rfl)) ?_)
  all_goals try go_wp2
  try (refine bodyPost_ret (results_list (rs := [.cell 2 34, .cell 3 34]) rfl (by simp) (.cell g2 34 _ (0, 0) _ rfl F2.out hu rfl (by kernel_rfl) (.cell g3 34 _ (0, 0) _ rfl F3.out hu rfl (by kernel_rfl) .nil))) rfl ?_)
  exact ⟨_, _, _, _, _, _, _, _, _, _, _, _, _, _, _, _, rfl, ⟨⟨hx101.1, hx101.2⟩, hx302.1, hx302.2⟩, ⟨RP101.out, RS101.out⟩, ⟨RP302.out, RS302.out⟩, B.out⟩

theorem cs_bad {s : SM} (h : cutOk s = false) : csM s = (SM.zero, SM.zero, false) := if_neg (by rw [h]; simp)

def cmpS (x y : ByteArray) : Int := if ltB x y = true then -1 else if ltB y x = true then 1 else 0
theorem cmp_isNaNs.calls (x : ByteArray) (w : World) : Calls Try.prog 119 #[.string x] w fun e w' => e = .returned (.bool false) ∧ Below w.heap.size w w' := by
  go_enter Try.func119, Try.ntmps119
  go_wp2
  go_ret
  exact ⟨by simp, Below.refl _ _⟩
theorem cmp_Compares.calls (x y : ByteArray) (w : World) : Calls Try.prog 105 #[.string x, .string y] w fun e w' => e = .returned (.int .i64 (cmpS x y)) ∧ Below w.heap.size w w' := by
  unfold cmpS ltB
  cases h1 : Op.bytesLess x.toList y.toList with
  | true =>
    rw [if_pos rfl]
    go_enter Try.func105, Try.ntmps105
    go_wp2_with (first
      | (go_at_call 119; (with_reducible refine (cmp_isNaNs.calls x w).mono ?_); rintro e w1 ⟨rfl, hb⟩; have B1 := Aside0.mk hb; clear hb)
      | (go_at_call 119; (with_reducible refine (cmp_isNaNs.calls y w1).mono ?_); rintro e w2 ⟨rfl, hb⟩; have B2 := Aside0.mk (below_step B1.out hb); clear hb))
    go_ret
    exact ⟨rfl, B2.out⟩
  | false =>
    rw [if_neg (by simp)]
    cases h2 : Op.bytesLess y.toList x.toList with
    | true =>
      rw [if_pos rfl]
      go_enter Try.func105, Try.ntmps105
      go_wp2_with (first
        | (go_at_call 119; (with_reducible refine (cmp_isNaNs.calls x w).mono ?_); rintro e w1 ⟨rfl, hb⟩; have B1 := Aside0.mk hb; clear hb)
        | (go_at_call 119; (with_reducible refine (cmp_isNaNs.calls y w1).mono ?_); rintro e w2 ⟨rfl, hb⟩; have B2 := Aside0.mk (below_step B1.out hb); clear hb))
      go_ret
      exact ⟨rfl, B2.out⟩
    | false =>
      rw [if_neg (by simp)]
      go_enter Try.func105, Try.ntmps105
      go_wp2_with (first
        | (go_at_call 119; (with_reducible refine (cmp_isNaNs.calls x w).mono ?_); rintro e w1 ⟨rfl, hb⟩; have B1 := Aside0.mk hb; clear hb)
        | (go_at_call 119; (with_reducible refine (cmp_isNaNs.calls y w1).mono ?_); rintro e w2 ⟨rfl, hb⟩; have B2 := Aside0.mk (below_step B1.out hb); clear hb))
      go_ret
      exact ⟨rfl, B2.out⟩

theorem impl_pairPlace1.calls (s : S61) (c : ByteArray) (w : World) : Calls Try.prog 104 #[.agg #[.string s.f0, .int .i64 s.f1], .string c] w fun e w' => e = .returned (.int .i64 (cmpS s.f0 c)) ∧ Below w.heap.size w w' := by
  have hu := Try.underlying61
  go_enter Try.func104, Try.ntmps104
  go_wp2_with (first
    | ((with_reducible refine gate_dst (N := 2) rfl ?_); refine box_event ?hg (N := 2) ?hd (cs := #[.string s.f0, .int .i64 s.f1]) (t := 61) ?hr ?_; (case hd => rfl); (case hg => rfl); (case hr => first | (go_simp; done) | (go_simp; rfl)); intro g hg w1 hc hb; have B1 := Aside0.mk hb; have c0 : w1.cell? ⟨g, 0, none⟩ = some (.string s.f0) := (blk_cell hc 0).trans rfl; clear hc hb hg)
    | (go_at_call 105; (with_reducible refine (cmp_Compares.calls s.f0 c w1).mono ?_); rintro e w2 ⟨rfl, hb⟩; have B2 := Aside0.mk (below_step B1.out hb); clear hb))
  go_ret
  exact ⟨rfl, B2.out⟩

theorem cmpS_neg (x c : ByteArray) : decide (cmpS x c < 0) = ltB x c := by
  unfold cmpS
  cases h : ltB x c with
  | true => rfl
  | false => cases ltB c x <;> rfl
theorem cmpS_zero (x c : ByteArray) : (cmpS x c == 0) = decide (x = c) := by
  have ht := less_total x.toList c.toList
  unfold cmpS ltB
  by_cases e : x = c
  · subst e
    have hs : Op.bytesLess x.toList x.toList = false := by simpa using ht
    rw [hs, decide_eq_true rfl]
    rfl
  · rw [decide_eq_false e]
    have hne : (x.toList == c.toList) = false := beq_eq_false_iff_ne.mpr fun q => e (ByteArray.ext (Array.toList_inj.mp (by rw [← Lib.toList_data, ← Lib.toList_data]; exact q)))
    rw [hne, Bool.or_false] at ht
    rw [ht]
    cases Op.bytesLess c.toList x.toList <;> rfl
def hitP (l : List S61) (c : ByteArray) : Bool := decide (placeP l c l.length 0 l.length < l.length) && decide ((rd_T61 l ((placeP l c l.length 0 l.length : Nat) : Int)).f0 = c)

theorem slices_BinarySearchP.calls (A0 : Option Addr) (c0 : Nat) (l : List S61) (c : ByteArray) (w : World) (hr0 : Kd.C k61 w A0 l.length l) (hc0 : l.length ≤ c0) (hsz : l.length < 4611686018427387904) :
    Calls Try.prog 103 #[.slice A0 l.length c0, .string c, .func (.func 104) #[] #[]] w fun e w' =>
      e = .returned (.tuple #[.int .i64 ((placeP l c l.length 0 l.length : Nat) : Int), .bool (hitP l c)]) ∧ Below w.heap.size w w' := by
  have HR0 := Aside0.mk hr0
  clear hr0
  have hu := Try.underlying61
  generalize hR : placeP l c l.length 0 l.length = R
  have HT := Aside0.mk (show hitP l c = (decide (R < l.length) && decide ((rd_T61 l ((R : Nat) : Int)).f0 = c)) by unfold hitP; rw [hR])
  have PR := Aside0.mk hR
  clear hR
  go_enter Try.func103, Try.ntmps103
  go_wp2
  go_loopg [9, 10] l.length (fun kx s9 s10 wr => ∃ lo hi : Nat, s9 = .int .i64 lo ∧ s10 = .int .i64 hi ∧ lo ≤ hi ∧ hi ≤ l.length ∧ hi - lo ≤ kx ∧ Aside0 (Below w.heap.size w wr) ∧ Aside0 (placeP l c kx lo hi = R))
  case atStart => exact ⟨0, l.length, rfl, rfl, Nat.zero_le _, Nat.le_refl _, by omega, ⟨Below.refl _ _⟩, PR⟩
  case round =>
    clear PR
    obtain ⟨lo, hi, rfl, rfl, hlh, hin, hg, BW, PW⟩ := hrel
    by_cases hlt : lo < hi
    · obtain ⟨d, rfl⟩ : ∃ d, gk = d + 1 := ⟨gk - 1, by omega⟩
      have hp := PW.out
      simp only [placeP] at hp
      rw [if_pos hlt] at hp
      obtain ⟨ad, hA, x0, x1⟩ := at_T61 (Kd.C_below HR0.out BW.out) (((lo + hi) / 2 : Nat) : Int) (by omega) (by omega)
      subst hA
      generalize hy : rd_T61 l (((lo + hi) / 2 : Nat) : Int) = y at x0 x1 hp
      rw [Int.toNat_natCast] at x0 x1
      clear hy
      by_cases hyx : ltB y.f0 c = true
      · rw [if_pos hyx] at hp
        have P2 := Aside0.mk hp
        have dc : decide (cmpS y.f0 c < 0) = true := (cmpS_neg _ _).trans hyx
        clear PW hp hyx
        go_wp2_with (go_at_call 104; (with_reducible refine (impl_pairPlace1.calls y c wr).mono ?_); rintro e w1 ⟨rfl, hb⟩; have B1 := Aside0.mk (below_step BW.out hb); clear hb)
        go_roundg d
        case measure => omega
        case rel => exact ⟨(lo + hi) / 2 + 1, hi, by rw [show ((lo : Int) + (hi : Int)) / 2 + 1 = (((lo + hi) / 2 + 1 : Nat) : Int) by omega], rfl, by omega, hin, by omega, B1, P2⟩
      · rw [if_neg hyx] at hp
        have P2 := Aside0.mk hp
        have dc : decide (cmpS y.f0 c < 0) = false := (cmpS_neg _ _).trans (Bool.eq_false_iff.mpr hyx)
        clear PW hp hyx
        go_wp2_with (go_at_call 104; (with_reducible refine (impl_pairPlace1.calls y c wr).mono ?_); rintro e w1 ⟨rfl, hb⟩; have B1 := Aside0.mk (below_step BW.out hb); clear hb)
        go_roundg d
        case measure => omega
        case rel => exact ⟨lo, (lo + hi) / 2, rfl, by rw [show ((lo : Int) + (hi : Int)) / 2 = (((lo + hi) / 2 : Nat) : Int) by omega], by omega, by omega, by omega, B1, P2⟩
    · obtain rfl : R = lo := by
        rw [← PW.out]
        cases gk with
        | zero => rfl
        | succ d => simp only [placeP]; rw [if_neg hlt]
      by_cases hn : R < l.length
      · obtain ⟨ad, hA, x0, x1⟩ := at_T61 (Kd.C_below HR0.out BW.out) (R : Int) (by omega) (by omega)
        subst hA
        generalize hy : rd_T61 l (R : Int) = y at x0 x1 HT
        rw [Int.toNat_natCast] at x0 x1
        clear hy PW
        go_wp2_with (go_at_call 104; (with_reducible refine (impl_pairPlace1.calls y c wr).mono ?_); rintro e w1 ⟨rfl, hb⟩; have B1 := Aside0.mk (below_step BW.out hb); clear hb)
        go_ret2
        refine ⟨?_, B1.out⟩
        rw [HT.out, decide_eq_true hn, ← cmpS_zero]
        rfl
      · clear PW
        go_wp2
        go_ret2
        refine ⟨?_, BW.out⟩
        rw [HT.out, decide_eq_false hn]
        rfl

theorem impl_pairPlace.calls0 (A0 : Option Addr) (c0 : Nat) (l : List S61) (c : ByteArray) (w : World) (hr0 : Kd.C k61 w A0 l.length l) (hc0 : l.length ≤ c0) (hsz : l.length < 4611686018427387904) :
    Calls Try.prog 72 #[.slice A0 l.length c0, .string c] w fun e w' => e = .returned (.tuple #[.int .i64 ((placeP l c l.length 0 l.length : Nat) : Int), .bool (hitP l c)]) ∧ Below w.heap.size w w' := by
  have h := slices_BinarySearchP.calls A0 c0 l c w hr0 hc0 hsz
  go_enter Try.func72, Try.ntmps72
  go_wp2_with (go_at_call 103; (with_reducible refine h.mono ?_); rintro e w1 ⟨rfl, hb⟩; have B1 := Aside0.mk hb; clear hb)
  go_ret2
  exact ⟨rfl, B1.out⟩
theorem impl_pairPlace.M (A0 : Option Addr) (c0 : Nat) (l : List S61) (c : ByteArray) (w : World) (hr0 : Kd.C k61 w A0 l.length l) (hc0 : l.length ≤ c0) (hv : prB l = true) :
    Calls Try.prog 72 #[.slice A0 l.length c0, .string c] w fun e w' => e = .returned (.tuple #[.int .i64 ((atP l c : Nat) : Int), .bool (hitM l c)]) ∧ Below w.heap.size w w' := by
  have h := impl_pairPlace.calls0 A0 c0 l c w hr0 hc0 (by have := prB_len hv; omega)
  unfold hitP at h
  rw [placeP_at hv] at h
  exact h

theorem impl_PairsIn.M (A0 : Option Addr) (c0 : Nat) (l : List S61) (a b : ByteArray) (w : World) (hr0 : Kd.C k61 w A0 l.length l) (hc0 : l.length ≤ c0) : Calls Try.prog 29 #[.slice A0 l.length c0, .agg #[.string a, .string b]] w fun e w' => ∃ v0, e = .returned v0 ∧ Kd.R k61 61 w' w.heap.size (fun _ => True) v0 (inM l a b) ∧ Below w.heap.size w w' := by
 have B := Aside0.mk (Below.refl w.heap.size w)
 have hu := Try.underlying30
 have HR0 := Aside0.mk hr0
 have HC0 := Aside0.mk hc0
 have L63 := Aside0.mk hr0.2.1
 clear hr0
 obtain ⟨i0, hif, _, hsz0, _⟩ := info_parts info61
 by_cases hvv : (prB l && ivB a b) = true
 ·rw [Bool.and_eq_true] at hvv
  obtain ⟨hv, hi⟩ := hvv
  have h48 := prB_len hv
  have hin := in_slice hv hi
  have hle := at_hi (l := l) hi
  have hhl := hiP_le l b
  have hal := atP_le l a
  have hlen : (inM l a b).length = hiP l b - atP l a := by rw [← hin, List.length_drop, List.length_take, Nat.min_eq_left hhl]
  have hin48 : (inM l a b).length ≤ 1000000 := by omega
  have hcc : (inM l a b).length ≤ c0 - atP l a := by omega
  by_cases hb : b.toList = ([] : List UInt8)
  ·have hh : hiP l b = l.length := if_pos hb
   have hbb : (b.toList == ([] : List UInt8)) = true := by simp [hb]
   have hcut := cut_mid (P := Try.prog) 31 61 .i64 .i64 Try.underlying31 hif 2 hsz0 A0 l.length c0 ((atP l a : Nat) : Int) ((l.length : Int)) (by omega) (by omega) (by omega) hc0
   rw [Int.toNat_natCast, show ((l.length : Int)).toNat - atP l a = (inM l a b).length by omega] at hcut
   generalize hA2 : (if c0 = atP l a then A0 else A0.map (·.add (atP l a * 2))) = A2 at hcut
   have C2 := Aside0.mk (fun {W : World} (h : Kd.C k61 W A0 l.length l) => show Kd.C k61 W A2 (inM l a b).length (inM l a b) from by
    have h1 := Kd.C_take h (m := hiP l b) (by omega)
    have h2 := Kd.C_drop h1 (m := atP l a) (c := c0) (by rw [List.length_take]; omega) (by rw [List.length_take]; omega)
    rw [hin] at h2
    rw [← hA2]
    exact h2)
   clear hA2 hif hsz0 hc0 hin hlen hh

   go_enter Try.func29, Try.ntmps29
   go_wp2_with (first
    | ((with_reducible refine gate_dst (N := 3) rfl ?_); refine bx ?hg (N := 3) ?hd (cs := #[.string a, .string b]) (t := 30) ?hr B ?_; (case hd => rfl); (case hg => rfl); (case hr => first | (go_simp; done) | (go_simp; rfl)); intro g3 w1 hb B F3 L3 E3; obtain ⟨c3_0, c3_1⟩ := cs2 F3; clear hb E3)
    | (go_at_call 56; with_reducible refine cl (impl_PairsValid.M _ _ l _ (cb HR0 B)) B fun w2 hb B => ?_; replace F3 := bn F3 hb; clear c3_0 c3_1; obtain ⟨c3_0, c3_1⟩ := cs2 F3; clear hb)
    | (go_at_call 55; with_reducible refine cl (impl_IntervalValid.M a b _) B fun w3 hb B => ?_; replace F3 := bn F3 hb; clear c3_0 c3_1; obtain ⟨c3_0, c3_1⟩ := cs2 F3; clear hb)
    | (go_at_call 72; with_reducible refine cl (impl_pairPlace.M _ _ l a _ (cb HR0 B) HC0.out hv) B fun w4 hb B => ?_; replace F3 := bn F3 hb; clear c3_0 c3_1; obtain ⟨c3_0, c3_1⟩ := cs2 F3; clear hb)
    | (go_at_call 73; with_reducible refine cr (impl_copyOfPair.M _ _ (inM l a b) _ (C2.out (cb HR0 B)) hcc hin48) B fun AC5 kC5 w5 hb B RC5 QC5 => ?_; replace F3 := bn F3 hb; clear QC5; clear hb))
   go_ret
   exact ⟨_, rfl, RC5.out, B.out⟩
  ·have hh : hiP l b = atP l b := if_neg hb
   have hbb : (b.toList == ([] : List UInt8)) = false := by simp [hb]
   have hcut := cut_mid (P := Try.prog) 31 61 .i64 .i64 Try.underlying31 hif 2 hsz0 A0 l.length c0 ((atP l a : Nat) : Int) (((atP l b : Nat) : Int)) (by omega) (by omega) (by omega) hc0
   rw [Int.toNat_natCast, show (((atP l b : Nat) : Int)).toNat - atP l a = (inM l a b).length by omega] at hcut
   generalize hA2 : (if c0 = atP l a then A0 else A0.map (·.add (atP l a * 2))) = A2 at hcut
   have C2 := Aside0.mk (fun {W : World} (h : Kd.C k61 W A0 l.length l) => show Kd.C k61 W A2 (inM l a b).length (inM l a b) from by
    have h1 := Kd.C_take h (m := hiP l b) (by omega)
    have h2 := Kd.C_drop h1 (m := atP l a) (c := c0) (by rw [List.length_take]; omega) (by rw [List.length_take]; omega)
    rw [hin] at h2
    rw [← hA2]
    exact h2)
   clear hA2 hif hsz0 hc0 hin hlen hh

   go_enter Try.func29, Try.ntmps29
   go_wp2_with (first
    | ((with_reducible refine gate_dst (N := 3) rfl ?_); refine bx ?hg (N := 3) ?hd (cs := #[.string a, .string b]) (t := 30) ?hr B ?_; (case hd => rfl); (case hg => rfl); (case hr => first | (go_simp; done) | (go_simp; rfl)); intro g3 w1 hb B F3 L3 E3; obtain ⟨c3_0, c3_1⟩ := cs2 F3; clear hb E3)
    | (go_at_call 56; with_reducible refine cl (impl_PairsValid.M _ _ l _ (cb HR0 B)) B fun w2 hb B => ?_; replace F3 := bn F3 hb; clear c3_0 c3_1; obtain ⟨c3_0, c3_1⟩ := cs2 F3; clear hb)
    | (go_at_call 55; with_reducible refine cl (impl_IntervalValid.M a b _) B fun w3 hb B => ?_; replace F3 := bn F3 hb; clear c3_0 c3_1; obtain ⟨c3_0, c3_1⟩ := cs2 F3; clear hb)
    | (go_at_call 72; with_reducible refine cl (impl_pairPlace.M _ _ l a _ (cb HR0 B) HC0.out hv) B fun w4 hb B => ?_; replace F3 := bn F3 hb; clear c3_0 c3_1; obtain ⟨c3_0, c3_1⟩ := cs2 F3; clear hb)
    | (go_at_call 72; with_reducible refine cl (impl_pairPlace.M _ _ l b _ (cb HR0 B) HC0.out hv) B fun w5 hb B => ?_; replace F3 := bn F3 hb; clear hb)
    | (go_at_call 73; with_reducible refine cr (impl_copyOfPair.M _ _ (inM l a b) _ (C2.out (cb HR0 B)) hcc hin48) B fun AC6 kC6 w6 hb B RC6 QC6 => ?_; replace F3 := bn F3 hb; clear QC6; clear hb))
   go_ret
   exact ⟨_, rfl, RC6.out, B.out⟩
 ·have hM : inM l a b = [] := if_neg hvv
  rw [hM]
  have hvn : prB l = false ∨ ivB a b = false := by grind
  clear hif hsz0 hc0
  go_enter Try.func29, Try.ntmps29
  go_wp2_with (first
   | ((with_reducible refine gate_dst (N := 3) rfl ?_); refine bx ?hg (N := 3) ?hd (cs := #[.string a, .string b]) (t := 30) ?hr B ?_; (case hd => rfl); (case hg => rfl); (case hr => first | (go_simp; done) | (go_simp; rfl)); intro g3 w1 hb B F3 L3 E3; obtain ⟨c3_0, c3_1⟩ := cs2 F3; clear hb E3)
   | (go_at_call 56; with_reducible refine cl (impl_PairsValid.M _ _ l _ (cb HR0 B)) B fun w2 hb B => ?_; replace F3 := bn F3 hb; clear c3_0 c3_1; obtain ⟨c3_0, c3_1⟩ := cs2 F3; clear hb)
   | (go_at_call 55; with_reducible refine cl (impl_IntervalValid.M a b _) B fun w3 hb B => ?_; replace F3 := bn F3 hb; clear hb))
  all_goals first
   | (go_ret; exact ⟨_, rfl, Kd.R_nil _ _ _ _ _, B.out⟩)
   | (exfalso; grind)

def impl_statePart.T1 : Bool × List (List Nat × List Nat) := (true, [([], []), ([], []), ([1], [1]), ([], []), ([2, 3], [2, 3]), ([], []), ([5], [5]), ([6, 4], [6]), ([0, 4, 7], [0, 4, 7]), ([8, 7, 0, 1, 2, 3, 4, 5, 6, 7, 8], [8])])
def impl_statePart.B1 : List Nat := [0, 0, 2, 0, 14, 0, 32, 126, 255, 511]
theorem impl_statePart.tab1 : rtab .any (opsOf Try.f75 1) = impl_statePart.T1 := by kernel_rfl
theorem impl_statePart.bits1 : waitsOk impl_statePart.T1.2 impl_statePart.B1 = true := by kernel_rfl
theorem impl_statePart.M (a b : ByteArray) (AP : Option Addr) (cP : Nat) (ps : List S61) (AS : Option Addr) (cS : Nat) (ss : List S100) (t : Bool) (c : ByteArray) (d f : ByteArray) (w : World) (hrp : Kd.C k61 w AP ps.length ps) (hrs : Kd.C k100 w AS ss.length ss) (hcp : ps.length ≤ cP) (hcs : ss.length ≤ cS) (hsl : ss.length ≤ 1000000) : Calls Try.prog 75 #[.agg #[.string a, .string b, .slice AP ps.length cP, .slice AS ss.length cS, .bool t, .string c], .agg #[.string d, .string f]] w fun e w' => ∃ v2 v3, e = .returned (.agg #[.string d, .string f, v2, v3, .bool false, .string (⟨#[]⟩ : ByteArray)]) ∧ Kd.R k61 61 w' w.heap.size (fun _ => True) v2 (inM ps d f) ∧ Kd.R k100 100 w' w.heap.size (fun _ => True) v3 ss ∧ Below w.heap.size w w' := by
 have B := Aside0.mk (Below.refl w.heap.size w)
 have hu := Try.underlying34
 have hu2 := Try.underlying30
 have HRP := Aside0.mk hrp
 have HRS := Aside0.mk hrs
 have HCP := Aside0.mk hcp
 have HCS := Aside0.mk hcs
 clear hrp hrs hcp hcs
 go_enter Try.func75, Try.ntmps75
 go_wp2_with (first
  | ((with_reducible refine gate_dst (N := 2) rfl ?_); refine bx ?hg (N := 2) ?hd (cs := #[.string a, .string b, .slice AP ps.length cP, .slice AS ss.length cS, .bool t, .string c]) (t := 34) ?hr B ?_; (case hd => rfl); (case hg => rfl); (case hr => first | (go_simp; done) | (go_simp; rfl)); intro g2 w1 hb B F2 L2 E2; obtain ⟨c2_0, c2_1, c2_2, c2_3, c2_4, c2_5⟩ := cs6 F2; clear hb E2)
  | ((with_reducible refine gate_dst (N := 3) rfl ?_); refine bx ?hg (N := 3) ?hd (cs := #[.string d, .string f]) (t := 30) ?hr B ?_; (case hd => rfl); (case hg => rfl); (case hr => first | (go_simp; done) | (go_simp; rfl)); intro g3 w2 hb B F3 L3 E3; replace F2 := bn F2 hb; clear c2_0 c2_1 c2_2 c2_3 c2_4 c2_5; obtain ⟨c2_0, c2_1, c2_2, c2_3, c2_4, c2_5⟩ := cs6 F2; obtain ⟨c3_0, c3_1⟩ := cs2 F3; clear hb E3)
  | ((with_reducible refine gate_dst (N := 4) rfl ?_); refine bx ?hg (N := 4) ?hd (cs := #[.string (⟨#[]⟩ : ByteArray), .string (⟨#[]⟩ : ByteArray), .slice none 0 0, .slice none 0 0, .bool false, .string (⟨#[]⟩ : ByteArray)]) (t := 34) ?hr B ?_; (case hd => rfl); (case hg => rfl); (case hr => first | (go_simp; done) | (go_simp; rfl)); intro g4 w3 hb B F4 L4 E4; have N2_4 := ne1 E4 F2; have N3_4 := ne1 E4 F3; replace F2 := bn F2 hb; replace F3 := bn F3 hb; clear c2_0 c2_1 c2_2 c2_3 c2_4 c2_5; obtain ⟨c2_0, c2_1, c2_2, c2_3, c2_4, c2_5⟩ := cs6 F2; clear c3_0 c3_1; obtain ⟨c3_0, c3_1⟩ := cs2 F3; clear hb E4))
 all_goals (
  refine rg (n := 10) (S := fun W => W.heap[g3]? = some (.cells #[.string d, .string f] 30 (0, 0)) ∧ W.heap[g2]? = some (.cells #[.string a, .string b, .slice AP ps.length cP, .slice AS ss.length cS, .bool t, .string c] 34 (0, 0))) (ds := []) #[false, false, false, false, false, false, false, false, false, false] (by kernel_rfl) rfl rfl ⟨F3.out, F2.out⟩ id B (fun w4 hb B hHeld => ?_)
  refine with_tabW impl_statePart.tab1 impl_statePart.bits1 (fun HT_ HW_ => ?_)
  replace F2 := bn F2 hb
  replace F3 := bn F3 hb
  replace F4 := bn F4 hb
  clear hb
  refine ta (i := 0) (N := some 5) (v := ?_) (bits 10 1) rfl rfl (take_ofW HT_.out HW_.out (by kernel_rfl)) (fun _ _ _ h => h) (by kernel_rfl) hHeld ?_ ?_; rotate_left; (intro w' hS; obtain ⟨s0, s1⟩ := hS; obtain ⟨q0, q1⟩ := cs2 (Aside0.mk s0); go_simp; with_reducible rfl)
  refine pu (i := 1) (N := some 6) (v := ?_) (bits 10 3) rfl rfl (any_of HT_.out (by kernel_rfl)) (fun _ _ _ h => h) (by kernel_rfl) ?_ ?_; rotate_left; (intro w'; go_simp; with_reducible rfl)
  refine ta (i := 2) (N := some 7) (v := ?_) (bits 10 7) rfl rfl (take_ofW HT_.out HW_.out (by kernel_rfl)) (fun _ _ _ h => h) (by kernel_rfl) hHeld ?_ ?_; rotate_left; (intro w' hS; obtain ⟨s0, s1⟩ := hS; obtain ⟨q0, q1, q2, q3, q4, q5⟩ := cs6 (Aside0.mk s1); go_simp; with_reducible rfl)
  refine ta (i := 3) (N := some 8) (v := ?_) (bits 10 15) rfl rfl (take_ofW HT_.out HW_.out (by kernel_rfl)) (fun _ _ _ h => h) (by kernel_rfl) hHeld ?_ ?_; rotate_left; (intro w' hS; obtain ⟨s0, s1⟩ := hS; obtain ⟨q0, q1⟩ := cs2 (Aside0.mk s0); go_simp; with_reducible rfl)
  refine pu (i := 5) (N := some 10) (v := ?_) (bits 10 47) rfl rfl (any_of HT_.out (by kernel_rfl)) (fun _ _ _ h => h) (by kernel_rfl) ?_ ?_; rotate_left; (intro w'; go_simp; with_reducible rfl)
  refine ta (i := 6) (N := some 11) (v := ?_) (bits 10 111) rfl rfl (take_ofW HT_.out HW_.out (by kernel_rfl)) (fun _ _ _ h => h) (by kernel_rfl) hHeld ?_ ?_; rotate_left; (intro w' hS; obtain ⟨s0, s1⟩ := hS; obtain ⟨q0, q1, q2, q3, q4, q5⟩ := cs6 (Aside0.mk s1); go_simp; with_reducible rfl)
  refine norm_ (a' := ?_) ?_ ?_
  rotate_left
  ·simp only [Act.put, List.setIfInBounds_toArray, List.set_cons_zero, List.set_cons_succ, i64_w, i32_w]
   rfl
  refine one_ (i := 4) (N := some 9) (bits 10 127) rfl rfl (one_of HT_.out (by kernel_rfl)) (by decide) (fun K hK => ?_)
  refine goes_ Try.func29 (by kernel_rfl) rfl #[.slice AP ps.length cP, .agg #[.string d, .string f]] (by rfl) rfl rfl (by (try simp only [List.map_toArray, List.map_cons, List.map_nil]); rfl) ?_
  with_reducible refine cr (impl_PairsIn.M _ _ ps d f _ (cb HRP B) HCP.out) B fun AI5 kI5 w5 hb B RI5 QI5 => ?_
  replace F2 := bn F2 hb
  replace F3 := bn F3 hb
  replace F4 := bn F4 hb
  clear hb
  refine ⟨_, rfl, ?_⟩
  refine hK.out _ _ ⟨F3.out, F2.out⟩ (fun hHeld => ?_)
  clear hK K
  refine norm_ (a' := ?_) ?_ ?_
  rotate_left
  ·show Act.put _ (some 9) _ = _
   simp only [Act.put, List.setIfInBounds_toArray, List.set_cons_zero, List.set_cons_succ, i64_w, i32_w]
   rfl
  clear QI5
  refine one_ (i := 7) (N := some 12) (bits 10 255) rfl rfl (one_of HT_.out (by kernel_rfl)) (by decide) (fun K hK => ?_)
  refine goes_ Try.func107 (by kernel_rfl) rfl #[.slice AS ss.length cS] (by rfl) rfl rfl (by (try simp only [List.map_toArray, List.map_cons, List.map_nil]); rfl) ?_
  with_reducible refine cr (impl_copyOfSession.M _ _ ss _ (cb HRS B) HCS.out (by omega)) B fun AC6 kC6 w6 hb B RC6 QC6 => ?_
  replace F2 := bn F2 hb
  replace F3 := bn F3 hb
  replace F4 := bn F4 hb
  replace RI5 := rn RI5 hb
  clear hb
  refine ⟨_, rfl, ?_⟩
  refine hK.out _ _ ⟨F3.out, F2.out⟩ (fun hHeld => ?_)
  clear hK K
  refine norm_ (a' := ?_) ?_ ?_
  rotate_left
  ·show Act.put _ (some 12) _ = _
   simp only [Act.put, List.setIfInBounds_toArray, List.set_cons_zero, List.set_cons_succ, i64_w, i32_w]
   rfl
  clear QC6
  refine pu (i := 8) (N := some 13) (v := ?_) (bits 10 511) rfl rfl (any_of HT_.out (by kernel_rfl)) (fun _ _ _ h => h) (by kernel_rfl) ?_ ?_; rotate_left; (intro w'; go_simp; with_reducible rfl)
  refine norm_ (a' := ?_) ?_ ?_
  rotate_left
  ·simp only [Act.put, List.setIfInBounds_toArray, List.set_cons_zero, List.set_cons_succ, i64_w, i32_w]
   rfl
  refine one_ (i := 9) (N := none) (bits 10 1023) rfl rfl (one_of HT_.out (by kernel_rfl)) (by decide) (fun K hK => ?_)
  obtain ⟨y0, y1, y2, y3, y4, y5⟩ := cs6 F4
  have z0 := fz F4 0
  have z1 := fz F4 1
  have z2 := fz F4 2
  have z3 := fz F4 3
  have z4 := fz F4 4
  have z5 := fz F4 5
  refine sxs (g := g4) 0 [.string d, .string f, .slice AI5 (inM ps d f).length kI5, .slice AC6 ss.length kC6, .bool false, .string (⟨#[]⟩ : ByteArray)] [.string d, .string f, .slice AI5 (inM ps d f).length kI5, .slice AC6 ss.length kC6, .bool false, .string (⟨#[]⟩ : ByteArray)] (by rfl) rfl ?hr B F4 L4 rfl (Nat.le_of_ble_eq_true rfl) (fun w7 hk B G => ?_)
  (case hr => first | (go_simp; done) | (go_simp; rfl))
  replace F2 := bk F2 hk N2_4.out
  replace F3 := bk F3 hk N3_4.out
  replace RI5 := rk RI5 F4 (by decide) hk
  replace RC6 := rk RC6 F4 (by decide) hk
  replace F4 := G
  clear hk y0 z0 y1 z1 y2 z2 y3 z3 y4 z4 y5 z5
  refine hK.out _ _ ⟨F3.out, F2.out⟩ (fun hHeld => ?_)
  clear hK K
  refine done_ (done_of HT_.out (by kernel_rfl)) ?_)
 all_goals try go_wp2
 refine bodyPost_ret (results_single rfl (.cell g4 34 _ (0, 0) _ rfl F4.out hu rfl (by kernel_rfl) .nil)) rfl ?_
 exact ⟨_, _, rfl, RI5.out, RC6.out, B.out⟩

theorem spec_IntervalCut.Mt (a b c : ByteArray) (hi : cutB a b c = true) (w : World) : Calls Try.prog 51 #[.agg #[.string a, .string b], .string c] w fun e w' => e = .returned (.tuple #[.agg #[.string a, .string c], .agg #[.string c, .string b], .bool true]) ∧ Below w.heap.size w w' := by
 have h := spec_IntervalCut.M a b c w
 unfold cutV at h
 rw [hi] at h
 exact h
theorem spec_IntervalCut.Mf (a b c : ByteArray) (hi : cutB a b c = false) (w : World) : Calls Try.prog 51 #[.agg #[.string a, .string b], .string c] w fun e w' => e = .returned (.tuple #[.agg #[.string (⟨#[]⟩ : ByteArray), .string (⟨#[]⟩ : ByteArray)], .agg #[.string (⟨#[]⟩ : ByteArray), .string (⟨#[]⟩ : ByteArray)], .bool false]) ∧ Below w.heap.size w w' := by
 have h := spec_IntervalCut.M a b c w
 unfold cutV at h
 rw [hi] at h
 exact h
theorem impl_IntervalCut.Mt (a b c : ByteArray) (hi : cutB a b c = true) (w : World) : Calls Try.prog 59 #[.agg #[.string a, .string b], .string c] w fun e w' => e = .returned (.tuple #[.agg #[.string a, .string c], .agg #[.string c, .string b], .bool true]) ∧ Below w.heap.size w w' := by
 have h := impl_IntervalCut.M a b c w
 unfold cutV at h
 rw [hi] at h
 exact h
theorem impl_IntervalCut.Mf (a b c : ByteArray) (hi : cutB a b c = false) (w : World) : Calls Try.prog 59 #[.agg #[.string a, .string b], .string c] w fun e w' => e = .returned (.tuple #[.agg #[.string (⟨#[]⟩ : ByteArray), .string (⟨#[]⟩ : ByteArray)], .agg #[.string (⟨#[]⟩ : ByteArray), .string (⟨#[]⟩ : ByteArray)], .bool false]) ∧ Below w.heap.size w w' := by
 have h := impl_IntervalCut.M a b c w
 unfold cutV at h
 rw [hi] at h
 exact h

def impl_StateCut.T6 : Bool × List (List Nat × List Nat) := (true, [([], []), ([], []), ([0, 1], [0, 1]), ([], []), ([], []), ([3, 4, 2], [3, 4]), ([2, 5, 0, 1, 2], [2]), ([5, 6, 0, 1, 2, 3, 4, 5, 6], [5]), ([7, 0, 1, 2, 3, 4, 5, 6, 7], [])])
def impl_StateCut.B6 : List Nat := [0, 0, 3, 0, 0, 31, 63, 127, 255]
theorem impl_StateCut.tab6 : rtab .any (opsOf Try.f31 6) = impl_StateCut.T6 := by kernel_rfl
theorem impl_StateCut.bits6 : waitsOk impl_StateCut.T6.2 impl_StateCut.B6 = true := by kernel_rfl
theorem impl_StateCut.Mt (a b : ByteArray) (AP : Option Addr) (cP : Nat) (ps : List S61) (AS : Option Addr) (cS : Nat) (ss : List S100) (c : ByteArray) (w : World) (hrp : Kd.C k61 w AP ps.length ps) (hrs : Kd.C k100 w AS ss.length ss) (hcp : ps.length ≤ cP) (hcs : ss.length ≤ cS) (hs : stB a b ps ss true c = true) (hcut : cutB a b c = true) : Calls Try.prog 31 #[.agg #[.string a, .string b, .slice AP ps.length cP, .slice AS ss.length cS, .bool true, .string c]] w fun e w' => ∃ v2 v3 v4 v5, e = .returned (.tuple #[.agg #[.string (csM ⟨a, b, ps, ss, true, c⟩).1.a, .string (csM ⟨a, b, ps, ss, true, c⟩).1.b, v2, v3, .bool (csM ⟨a, b, ps, ss, true, c⟩).1.t, .string (csM ⟨a, b, ps, ss, true, c⟩).1.c], .agg #[.string (csM ⟨a, b, ps, ss, true, c⟩).2.1.a, .string (csM ⟨a, b, ps, ss, true, c⟩).2.1.b, v4, v5, .bool (csM ⟨a, b, ps, ss, true, c⟩).2.1.t, .string (csM ⟨a, b, ps, ss, true, c⟩).2.1.c], .bool (csM ⟨a, b, ps, ss, true, c⟩).2.2]) ∧ Kd.R k61 61 w' w.heap.size (fun _ => True) v2 (csM ⟨a, b, ps, ss, true, c⟩).1.ps ∧ Kd.R k100 100 w' w.heap.size (fun _ => True) v3 (csM ⟨a, b, ps, ss, true, c⟩).1.ss ∧ Kd.R k61 61 w' w.heap.size (fun _ => True) v4 (csM ⟨a, b, ps, ss, true, c⟩).2.1.ps ∧ Kd.R k100 100 w' w.heap.size (fun _ => True) v5 (csM ⟨a, b, ps, ss, true, c⟩).2.1.ss ∧ (∀ k_, v4.ownBlock = some k_ → v2.ownBlock = some k_ → False) ∧ (∀ k_, v5.ownBlock = some k_ → v3.ownBlock = some k_ → False) ∧ Below w.heap.size w w' := by
 have B := Aside0.mk (Below.refl w.heap.size w)
 have hu := Try.underlying34
 have hu2 := Try.underlying30
 have HRP := Aside0.mk hrp
 have HRS := Aside0.mk hrs
 have HCP := Aside0.mk hcp
 have HCS := Aside0.mk hcs
 clear hrp hrs hcp hcs
 have hsl : ss.length ≤ 1000000 := by
  have := sesB_len (stB_parts.mp hs).2.2.1
  omega
 have hce : (c.toList == ([] : List UInt8)) = false := by have := keyB_ne (cutB_parts hcut).2.1; simp [this]
 rw [show csM ⟨a, b, ps, ss, true, c⟩ = (⟨a, c, inM ps a c, ss, false, ⟨#[]⟩⟩, ⟨c, b, inM ps c b, ss, false, ⟨#[]⟩⟩, true) from if_pos (by unfold cutOk SM.ok; rw [hs, hcut]; rfl)]
 go_enter Try.func31, Try.ntmps31
 go_wp2_with (first
  | ((with_reducible refine gate_dst (N := 1) rfl ?_); refine bx ?hg (N := 1) ?hd (cs := #[.string a, .string b, .slice AP ps.length cP, .slice AS ss.length cS, .bool true, .string c]) (t := 34) ?hr B ?_; (case hd => rfl); (case hg => rfl); (case hr => first | (go_simp; done) | (go_simp; rfl)); intro g1 w1 hb B F1 L1 E1; obtain ⟨c1_0, c1_1, c1_2, c1_3, c1_4, c1_5⟩ := cs6 F1; clear hb E1)
  | ((with_reducible refine gate_dst (N := 2) rfl ?_); refine bx ?hg (N := 2) ?hd (cs := #[.string (⟨#[]⟩ : ByteArray), .string (⟨#[]⟩ : ByteArray), .slice none 0 0, .slice none 0 0, .bool false, .string (⟨#[]⟩ : ByteArray)]) (t := 34) ?hr B ?_; (case hd => rfl); (case hg => rfl); (case hr => first | (go_simp; done) | (go_simp; rfl)); intro g2 w2 hb B F2 L2 E2; have N1_2 := ne1 E2 F1; replace F1 := bn F1 hb; clear c1_0 c1_1 c1_2 c1_3 c1_4 c1_5; obtain ⟨c1_0, c1_1, c1_2, c1_3, c1_4, c1_5⟩ := cs6 F1; clear hb E2)
  | ((with_reducible refine gate_dst (N := 3) rfl ?_); refine bx ?hg (N := 3) ?hd (cs := #[.string (⟨#[]⟩ : ByteArray), .string (⟨#[]⟩ : ByteArray), .slice none 0 0, .slice none 0 0, .bool false, .string (⟨#[]⟩ : ByteArray)]) (t := 34) ?hr B ?_; (case hd => rfl); (case hg => rfl); (case hr => first | (go_simp; done) | (go_simp; rfl)); intro g3 w3 hb B F3 L3 E3; have N1_3 := ne1 E3 F1; have N2_3 := ne1 E3 F2; replace F1 := bn F1 hb; replace F2 := bn F2 hb; clear c1_0 c1_1 c1_2 c1_3 c1_4 c1_5; obtain ⟨c1_0, c1_1, c1_2, c1_3, c1_4, c1_5⟩ := cs6 F1; clear hb E3)
  | (go_at_call 14; with_reducible refine cl (impl_StateValid.M a b _ _ ps _ _ ss true c _ (cb HRP B) (cb HRS B)) B fun w4 hb B => ?_; replace F1 := bn F1 hb; replace F2 := bn F2 hb; replace F3 := bn F3 hb; clear c1_0 c1_1 c1_2 c1_3 c1_4 c1_5; obtain ⟨c1_0, c1_1, c1_2, c1_3, c1_4, c1_5⟩ := cs6 F1; clear hb)
  | (go_at_call 59; with_reducible refine cl (impl_IntervalCut.Mt a b c hcut _) B fun w5 hb B => ?_; replace F1 := bn F1 hb; replace F2 := bn F2 hb; replace F3 := bn F3 hb; clear c1_0 c1_1 c1_2 c1_3 c1_4 c1_5; obtain ⟨c1_0, c1_1, c1_2, c1_3, c1_4, c1_5⟩ := cs6 F1; clear hb)
  | ((with_reducible refine gate_dst (N := 5) rfl ?_); refine bx ?hg (N := 5) ?hd (cs := #[.string (⟨#[]⟩ : ByteArray), .string (⟨#[]⟩ : ByteArray)]) (t := 30) ?hr B ?_; (case hd => rfl); (case hg => rfl); (case hr => first | (go_simp; done) | (go_simp; rfl)); intro g5 w6 hb B F5 L5 E5; have N1_5 := ne1 E5 F1; have N2_5 := ne1 E5 F2; have N3_5 := ne1 E5 F3; replace F1 := bn F1 hb; replace F2 := bn F2 hb; replace F3 := bn F3 hb; clear c1_0 c1_1 c1_2 c1_3 c1_4 c1_5; obtain ⟨c1_0, c1_1, c1_2, c1_3, c1_4, c1_5⟩ := cs6 F1; obtain ⟨c5_0, c5_1⟩ := cs2 F5; clear hb E5)
  | ((with_reducible refine gate_dst (N := 6) rfl ?_); refine bx ?hg (N := 6) ?hd (cs := #[.string (⟨#[]⟩ : ByteArray), .string (⟨#[]⟩ : ByteArray)]) (t := 30) ?hr B ?_; (case hd => rfl); (case hg => rfl); (case hr => first | (go_simp; done) | (go_simp; rfl)); intro g6 w7 hb B F6 L6 E6; have N1_6 := ne1 E6 F1; have N2_6 := ne1 E6 F2; have N3_6 := ne1 E6 F3; have N5_6 := ne1 E6 F5; replace F1 := bn F1 hb; replace F2 := bn F2 hb; replace F3 := bn F3 hb; replace F5 := bn F5 hb; clear c1_0 c1_1 c1_2 c1_3 c1_4 c1_5; obtain ⟨c1_0, c1_1, c1_2, c1_3, c1_4, c1_5⟩ := cs6 F1; clear c5_0 c5_1; obtain ⟨c5_0, c5_1⟩ := cs2 F5; obtain ⟨c6_0, c6_1⟩ := cs2 F6; clear hb E6)
  | ((with_reducible refine gate_store (t := 30) (p := 5) rfl ?_); obtain ⟨y0, y1⟩ := cs2 F5; have z0 := fz F5 0; have z1 := fz F5 1; refine sx (t := 30) (t' := 30) (p := 5) (v := ?vo8) ?hg ?ho ?hn 0 [.string a, .string c] [.string a, .string c] ?hr B F5 L5 rfl (Nat.le_of_ble_eq_true rfl) ?_; (case ho => rfl); (case hg => rfl); (case hn => rfl); (case hr => first | (go_simp; done) | (go_simp; rfl)); intro w8 hk B G; replace F1 := bk F1 hk N1_5.out; replace F2 := bk F2 hk N2_5.out; replace F3 := bk F3 hk N3_5.out; replace F6 := bk F6 hk N5_6.out.symm; replace F5 := G; clear c1_0 c1_1 c1_2 c1_3 c1_4 c1_5; obtain ⟨c1_0, c1_1, c1_2, c1_3, c1_4, c1_5⟩ := cs6 F1; clear c5_0 c5_1; obtain ⟨c5_0, c5_1⟩ := cs2 F5; clear c6_0 c6_1; obtain ⟨c6_0, c6_1⟩ := cs2 F6; clear hk y0 z0 y1 z1)
  | ((with_reducible refine gate_store (t := 30) (p := 6) rfl ?_); obtain ⟨y0, y1⟩ := cs2 F6; have z0 := fz F6 0; have z1 := fz F6 1; refine sx (t := 30) (t' := 30) (p := 6) (v := ?vo9) ?hg ?ho ?hn 0 [.string c, .string b] [.string c, .string b] ?hr B F6 L6 rfl (Nat.le_of_ble_eq_true rfl) ?_; (case ho => rfl); (case hg => rfl); (case hn => rfl); (case hr => first | (go_simp; done) | (go_simp; rfl)); intro w9 hk B G; replace F1 := bk F1 hk N1_6.out; replace F2 := bk F2 hk N2_6.out; replace F3 := bk F3 hk N3_6.out; replace F5 := bk F5 hk N5_6.out; replace F6 := G; clear c1_0 c1_1 c1_2 c1_3 c1_4 c1_5; obtain ⟨c1_0, c1_1, c1_2, c1_3, c1_4, c1_5⟩ := cs6 F1; clear c5_0 c5_1; obtain ⟨c5_0, c5_1⟩ := cs2 F5; clear c6_0 c6_1; obtain ⟨c6_0, c6_1⟩ := cs2 F6; clear hk y0 z0 y1 z1))
 all_goals (
  refine rg (n := 9) (S := fun W => W.heap[g1]? = some (.cells #[.string a, .string b, .slice AP ps.length cP, .slice AS ss.length cS, .bool true, .string c] 34 (0, 0)) ∧ W.heap[g5]? = some (.cells #[.string a, .string c] 30 (0, 0)) ∧ W.heap[g6]? = some (.cells #[.string c, .string b] 30 (0, 0))) (ds := []) #[false, false, false, false, false, false, false, false, false] (by kernel_rfl) rfl rfl ⟨F1.out, F5.out, F6.out⟩ id B (fun w10 hb B hHeld => ?_)
  refine with_tabW impl_StateCut.tab6 impl_StateCut.bits6 (fun HT_ HW_ => ?_)
  replace F1 := bn F1 hb
  replace F2 := bn F2 hb
  replace F3 := bn F3 hb
  replace F5 := bn F5 hb
  replace F6 := bn F6 hb
  clear hb
  refine ta (i := 0) (N := some 36) (v := ?_) (bits 9 1) rfl rfl (take_ofW HT_.out HW_.out (by kernel_rfl)) (fun _ _ _ h => h) (by kernel_rfl) hHeld ?_ ?_; rotate_left; (intro w' hS; obtain ⟨s0, s1, s2⟩ := hS; obtain ⟨q0, q1, q2, q3, q4, q5⟩ := cs6 (Aside0.mk s0); go_simp; with_reducible rfl)
  refine ta (i := 1) (N := some 37) (v := ?_) (bits 9 3) rfl rfl (take_ofW HT_.out HW_.out (by kernel_rfl)) (fun _ _ _ h => h) (by kernel_rfl) hHeld ?_ ?_; rotate_left; (intro w' hS; obtain ⟨s0, s1, s2⟩ := hS; obtain ⟨q0, q1⟩ := cs2 (Aside0.mk s1); go_simp; with_reducible rfl)
  refine ta (i := 3) (N := some 39) (v := ?_) (bits 9 11) rfl rfl (take_ofW HT_.out HW_.out (by kernel_rfl)) (fun _ _ _ h => h) (by kernel_rfl) hHeld ?_ ?_; rotate_left; (intro w' hS; obtain ⟨s0, s1, s2⟩ := hS; obtain ⟨q0, q1, q2, q3, q4, q5⟩ := cs6 (Aside0.mk s0); go_simp; with_reducible rfl)
  refine ta (i := 4) (N := some 40) (v := ?_) (bits 9 27) rfl rfl (take_ofW HT_.out HW_.out (by kernel_rfl)) (fun _ _ _ h => h) (by kernel_rfl) hHeld ?_ ?_; rotate_left; (intro w' hS; obtain ⟨s0, s1, s2⟩ := hS; obtain ⟨q0, q1⟩ := cs2 (Aside0.mk s2); go_simp; with_reducible rfl)
  refine norm_ (a' := ?_) ?_ ?_
  rotate_left
  ·simp only [Act.put, List.setIfInBounds_toArray, List.set_cons_zero, List.set_cons_succ, i64_w, i32_w]
   rfl
  refine one_ (i := 2) (N := some 38) (bits 9 31) rfl rfl (one_of HT_.out (by kernel_rfl)) (by decide) (fun K hK => ?_)
  refine goes_ Try.func75 (by kernel_rfl) rfl #[.agg #[.string a, .string b, .slice AP ps.length cP, .slice AS ss.length cS, .bool true, .string c], .agg #[.string a, .string c]] (by rfl) rfl rfl (by (try simp only [List.map_toArray, List.map_cons, List.map_nil]); rfl) ?_
  with_reducible refine c2r (impl_statePart.M a b _ _ ps _ _ ss true c a c _ (cb HRP B) (cb HRS B) HCP.out HCS.out hsl) B fun AP11 kP11 AS11 kS11 w11 hb B RP11 QP11 RS11 QS11 => ?_
  replace F1 := bn F1 hb
  replace F2 := bn F2 hb
  replace F3 := bn F3 hb
  replace F5 := bn F5 hb
  replace F6 := bn F6 hb
  clear hb
  refine ⟨_, rfl, ?_⟩
  refine hK.out _ _ ⟨F1.out, F5.out, F6.out⟩ (fun hHeld => ?_)
  clear hK K
  refine norm_ (a' := ?_) ?_ ?_
  rotate_left
  ·show Act.put _ (some 38) _ = _
   simp only [Act.put, List.setIfInBounds_toArray, List.set_cons_zero, List.set_cons_succ, i64_w, i32_w]
   rfl
  clear QP11 QS11
  refine one_ (i := 5) (N := some 41) (bits 9 63) rfl rfl (one_of HT_.out (by kernel_rfl)) (by decide) (fun K hK => ?_)
  refine goes_ Try.func75 (by kernel_rfl) rfl #[.agg #[.string a, .string b, .slice AP ps.length cP, .slice AS ss.length cS, .bool true, .string c], .agg #[.string c, .string b]] (by rfl) rfl rfl (by (try simp only [List.map_toArray, List.map_cons, List.map_nil]); rfl) ?_
  with_reducible refine c2r (impl_statePart.M a b _ _ ps _ _ ss true c c b _ (cb HRP B) (cb HRS B) HCP.out HCS.out hsl) B fun AP12 kP12 AS12 kS12 w12 hb B RP12 QP12 RS12 QS12 => ?_
  have DP11_P12 := fr QP12 RP11
  have DS11_P12 := fr QP12 RS11
  have DP11_S12 := fr QS12 RP11
  have DS11_S12 := fr QS12 RS11
  replace F1 := bn F1 hb
  replace F2 := bn F2 hb
  replace F3 := bn F3 hb
  replace F5 := bn F5 hb
  replace F6 := bn F6 hb
  replace RP11 := rn RP11 hb
  replace RS11 := rn RS11 hb
  clear hb
  refine ⟨_, rfl, ?_⟩
  refine hK.out _ _ ⟨F1.out, F5.out, F6.out⟩ (fun hHeld => ?_)
  clear hK K
  refine norm_ (a' := ?_) ?_ ?_
  rotate_left
  ·show Act.put _ (some 41) _ = _
   simp only [Act.put, List.setIfInBounds_toArray, List.set_cons_zero, List.set_cons_succ, i64_w, i32_w]
   rfl
  clear QP12 QS12
  refine one_ (i := 6) (N := none) (bits 9 127) rfl rfl (one_of HT_.out (by kernel_rfl)) (by decide) (fun K hK => ?_)
  obtain ⟨y0, y1, y2, y3, y4, y5⟩ := cs6 F2
  have z0 := fz F2 0
  have z1 := fz F2 1
  have z2 := fz F2 2
  have z3 := fz F2 3
  have z4 := fz F2 4
  have z5 := fz F2 5
  refine sxs (g := g2) 0 [.string a, .string c, .slice AP11 (inM ps a c).length kP11, .slice AS11 ss.length kS11, .bool false, .string (⟨#[]⟩ : ByteArray)] [.string a, .string c, .slice AP11 (inM ps a c).length kP11, .slice AS11 ss.length kS11, .bool false, .string (⟨#[]⟩ : ByteArray)] (by rfl) rfl ?hr B F2 L2 rfl (Nat.le_of_ble_eq_true rfl) (fun w13 hk B G => ?_)
  (case hr => first | (go_simp; done) | (go_simp; rfl))
  replace F1 := bk F1 hk N1_2.out
  replace F3 := bk F3 hk N2_3.out.symm
  replace F5 := bk F5 hk N2_5.out.symm
  replace F6 := bk F6 hk N2_6.out.symm
  replace RP11 := rk RP11 F2 (by decide) hk
  replace RS11 := rk RS11 F2 (by decide) hk
  replace RP12 := rk RP12 F2 (by decide) hk
  replace RS12 := rk RS12 F2 (by decide) hk
  replace F2 := G
  clear hk y0 z0 y1 z1 y2 z2 y3 z3 y4 z4 y5 z5
  refine hK.out _ _ ⟨F1.out, F5.out, F6.out⟩ (fun hHeld => ?_)
  clear hK K
  refine one_ (i := 7) (N := none) (bits 9 255) rfl rfl (one_of HT_.out (by kernel_rfl)) (by decide) (fun K hK => ?_)
  obtain ⟨y0, y1, y2, y3, y4, y5⟩ := cs6 F3
  have z0 := fz F3 0
  have z1 := fz F3 1
  have z2 := fz F3 2
  have z3 := fz F3 3
  have z4 := fz F3 4
  have z5 := fz F3 5
  refine sxs (g := g3) 0 [.string c, .string b, .slice AP12 (inM ps c b).length kP12, .slice AS12 ss.length kS12, .bool false, .string (⟨#[]⟩ : ByteArray)] [.string c, .string b, .slice AP12 (inM ps c b).length kP12, .slice AS12 ss.length kS12, .bool false, .string (⟨#[]⟩ : ByteArray)] (by rfl) rfl ?hr B F3 L3 rfl (Nat.le_of_ble_eq_true rfl) (fun w14 hk B G => ?_)
  (case hr => first | (go_simp; done) | (go_simp; rfl))
  replace F1 := bk F1 hk N1_3.out
  replace F2 := bk F2 hk N2_3.out
  replace F5 := bk F5 hk N3_5.out.symm
  replace F6 := bk F6 hk N3_6.out.symm
  replace RP11 := rk RP11 F3 (by decide) hk
  replace RS11 := rk RS11 F3 (by decide) hk
  replace RP12 := rk RP12 F3 (by decide) hk
  replace RS12 := rk RS12 F3 (by decide) hk
  replace F3 := G
  clear hk y0 z0 y1 z1 y2 z2 y3 z3 y4 z4 y5 z5
  refine hK.out _ _ ⟨F1.out, F5.out, F6.out⟩ (fun hHeld => ?_)
  clear hK K
  refine pu (i := 8) (N := some 4) (v := ?_) (bits 9 511) rfl rfl (any_of HT_.out (by kernel_rfl)) (fun _ _ _ h => h) (by kernel_rfl) ?_ ?_; rotate_left; (intro w'; go_simp; with_reducible rfl)
  refine norm_ (a' := ?_) ?_ ?_
  rotate_left
  ·simp only [Act.put, List.setIfInBounds_toArray, List.set_cons_zero, List.set_cons_succ, i64_w, i32_w]
   rfl
  refine done_ (done_of HT_.out (by kernel_rfl)) ?_)
 all_goals try go_wp2
 refine bodyPost_ret (results_list (rs := [.cell 2 34, .cell 3 34, .tmp 4]) rfl (by simp) (.cell g2 34 _ (0, 0) _ rfl F2.out hu rfl (by kernel_rfl) (.cell g3 34 _ (0, 0) _ rfl F3.out hu rfl (by kernel_rfl) (.tmp .nil)))) rfl ?_
 exact ⟨_, _, _, _, rfl, RP11.out, RS11.out, RP12.out, RS12.out, DP11_P12.out, DS11_S12.out, B.out⟩
theorem impl_StateCut.M (a b : ByteArray) (AP : Option Addr) (cP : Nat) (ps : List S61) (AS : Option Addr) (cS : Nat) (ss : List S100) (t : Bool) (c : ByteArray) (w : World) (hrp : Kd.C k61 w AP ps.length ps) (hrs : Kd.C k100 w AS ss.length ss) (hcp : ps.length ≤ cP) (hcs : ss.length ≤ cS) : Calls Try.prog 31 #[.agg #[.string a, .string b, .slice AP ps.length cP, .slice AS ss.length cS, .bool t, .string c]] w fun e w' => ∃ v2 v3 v4 v5, e = .returned (.tuple #[.agg #[.string (csM ⟨a, b, ps, ss, t, c⟩).1.a, .string (csM ⟨a, b, ps, ss, t, c⟩).1.b, v2, v3, .bool (csM ⟨a, b, ps, ss, t, c⟩).1.t, .string (csM ⟨a, b, ps, ss, t, c⟩).1.c], .agg #[.string (csM ⟨a, b, ps, ss, t, c⟩).2.1.a, .string (csM ⟨a, b, ps, ss, t, c⟩).2.1.b, v4, v5, .bool (csM ⟨a, b, ps, ss, t, c⟩).2.1.t, .string (csM ⟨a, b, ps, ss, t, c⟩).2.1.c], .bool (csM ⟨a, b, ps, ss, t, c⟩).2.2]) ∧ Kd.R k61 61 w' w.heap.size (fun _ => True) v2 (csM ⟨a, b, ps, ss, t, c⟩).1.ps ∧ Kd.R k100 100 w' w.heap.size (fun _ => True) v3 (csM ⟨a, b, ps, ss, t, c⟩).1.ss ∧ Kd.R k61 61 w' w.heap.size (fun _ => True) v4 (csM ⟨a, b, ps, ss, t, c⟩).2.1.ps ∧ Kd.R k100 100 w' w.heap.size (fun _ => True) v5 (csM ⟨a, b, ps, ss, t, c⟩).2.1.ss ∧ (∀ k_, v4.ownBlock = some k_ → v2.ownBlock = some k_ → False) ∧ (∀ k_, v5.ownBlock = some k_ → v3.ownBlock = some k_ → False) ∧ Below w.heap.size w w' := by
 have B := Aside0.mk (Below.refl w.heap.size w)
 cases hs : stB a b ps ss t c with
 | false =>
  rw [cs_bad (show cutOk ⟨a, b, ps, ss, t, c⟩ = false by unfold cutOk SM.ok; rw [hs]; rfl)]
  have hu := Try.underlying34
  have hu2 := Try.underlying30
  have HRP := Aside0.mk hrp
  have HRS := Aside0.mk hrs
  have HCP := Aside0.mk hcp
  have HCS := Aside0.mk hcs
  clear hrp hrs hcp hcs
  go_enter Try.func31, Try.ntmps31
  go_wp2_with (first
   | ((with_reducible refine gate_dst (N := 1) rfl ?_); refine bx ?hg (N := 1) ?hd (cs := #[.string a, .string b, .slice AP ps.length cP, .slice AS ss.length cS, .bool t, .string c]) (t := 34) ?hr B ?_; (case hd => rfl); (case hg => rfl); (case hr => first | (go_simp; done) | (go_simp; rfl)); intro g1 w1001 hb B F1 L1 E1; obtain ⟨c1_0, c1_1, c1_2, c1_3, c1_4, c1_5⟩ := cs6 F1; clear hb E1)
   | ((with_reducible refine gate_dst (N := 2) rfl ?_); refine bx ?hg (N := 2) ?hd (cs := #[.string (⟨#[]⟩ : ByteArray), .string (⟨#[]⟩ : ByteArray), .slice none 0 0, .slice none 0 0, .bool false, .string (⟨#[]⟩ : ByteArray)]) (t := 34) ?hr B ?_; (case hd => rfl); (case hg => rfl); (case hr => first | (go_simp; done) | (go_simp; rfl)); intro g2 w1002 hb B F2 L2 E2; have N1_2 := ne1 E2 F1; replace F1 := bn F1 hb; clear c1_0 c1_1 c1_2 c1_3 c1_4 c1_5; obtain ⟨c1_0, c1_1, c1_2, c1_3, c1_4, c1_5⟩ := cs6 F1; clear hb E2)
   | ((with_reducible refine gate_dst (N := 3) rfl ?_); refine bx ?hg (N := 3) ?hd (cs := #[.string (⟨#[]⟩ : ByteArray), .string (⟨#[]⟩ : ByteArray), .slice none 0 0, .slice none 0 0, .bool false, .string (⟨#[]⟩ : ByteArray)]) (t := 34) ?hr B ?_; (case hd => rfl); (case hg => rfl); (case hr => first | (go_simp; done) | (go_simp; rfl)); intro g3 w1003 hb B F3 L3 E3; have N1_3 := ne1 E3 F1; have N2_3 := ne1 E3 F2; replace F1 := bn F1 hb; replace F2 := bn F2 hb; clear c1_0 c1_1 c1_2 c1_3 c1_4 c1_5; obtain ⟨c1_0, c1_1, c1_2, c1_3, c1_4, c1_5⟩ := cs6 F1; clear hb E3)
   | (go_at_call 14; with_reducible refine cl (impl_StateValid.M a b _ _ ps _ _ ss t c _ (cb HRP B) (cb HRS B)) B fun w1004 hb B => ?_; replace F1 := bn F1 hb; replace F2 := bn F2 hb; replace F3 := bn F3 hb; clear c1_0 c1_1 c1_2 c1_3 c1_4 c1_5; obtain ⟨c1_0, c1_1, c1_2, c1_3, c1_4, c1_5⟩ := cs6 F1; clear hb)
   | ((with_reducible refine gate_store (t := 34) (p := 2) rfl ?_); obtain ⟨y0, y1, y2, y3, y4, y5⟩ := cs6 F2; have z0 := fz F2 0; have z1 := fz F2 1; have z2 := fz F2 2; have z3 := fz F2 3; have z4 := fz F2 4; have z5 := fz F2 5; refine sx (t := 34) (t' := 34) (p := 2) (v := ?vo1005) ?hg ?ho ?hn 0 [.string (⟨#[]⟩ : ByteArray), .string (⟨#[]⟩ : ByteArray), .slice none 0 0, .slice none 0 0, .bool false, .string (⟨#[]⟩ : ByteArray)] [.string (⟨#[]⟩ : ByteArray), .string (⟨#[]⟩ : ByteArray), .slice none 0 0, .slice none 0 0, .bool false, .string (⟨#[]⟩ : ByteArray)] ?hr B F2 L2 rfl (Nat.le_of_ble_eq_true rfl) ?_; (case ho => rfl); (case hg => rfl); (case hn => rfl); (case hr => first | (go_simp; done) | (go_simp; rfl)); intro w1005 hk B G; replace F1 := bk F1 hk N1_2.out; replace F3 := bk F3 hk N2_3.out.symm; replace F2 := G; clear hk y0 z0 y1 z1 y2 z2 y3 z3 y4 z4 y5 z5)
   | ((with_reducible refine gate_store (t := 34) (p := 3) rfl ?_); obtain ⟨y0, y1, y2, y3, y4, y5⟩ := cs6 F3; have z0 := fz F3 0; have z1 := fz F3 1; have z2 := fz F3 2; have z3 := fz F3 3; have z4 := fz F3 4; have z5 := fz F3 5; refine sx (t := 34) (t' := 34) (p := 3) (v := ?vo1006) ?hg ?ho ?hn 0 [.string (⟨#[]⟩ : ByteArray), .string (⟨#[]⟩ : ByteArray), .slice none 0 0, .slice none 0 0, .bool false, .string (⟨#[]⟩ : ByteArray)] [.string (⟨#[]⟩ : ByteArray), .string (⟨#[]⟩ : ByteArray), .slice none 0 0, .slice none 0 0, .bool false, .string (⟨#[]⟩ : ByteArray)] ?hr B F3 L3 rfl (Nat.le_of_ble_eq_true rfl) ?_; (case ho => rfl); (case hg => rfl); (case hn => rfl); (case hr => first | (go_simp; done) | (go_simp; rfl)); intro w1006 hk B G; replace F1 := bk F1 hk N1_3.out; replace F2 := bk F2 hk N2_3.out; replace F3 := G; clear hk y0 z0 y1 z1 y2 z2 y3 z3 y4 z4 y5 z5))
  all_goals (refine bodyPost_ret (results_list (rs := [.cell 2 34, .cell 3 34, .tmp 4]) rfl (by simp) (.cell g2 34 _ (0, 0) _ rfl F2.out hu rfl (by kernel_rfl) (.cell g3 34 _ (0, 0) _ rfl F3.out hu rfl (by kernel_rfl) (.tmp .nil)))) rfl ?_; exact ⟨_, _, _, _, rfl, Kd.R_nil _ _ _ _ _, Kd.R_nil _ _ _ _ _, Kd.R_nil _ _ _ _ _, Kd.R_nil _ _ _ _ _, (fun _ h => nomatch h), (fun _ h => nomatch h), B.out⟩)
 | true =>
  cases t with
  | false =>
   rw [cs_bad (show cutOk ⟨a, b, ps, ss, false, c⟩ = false by unfold cutOk SM.ok; rw [hs]; rfl)]
   have hu := Try.underlying34
   have hu2 := Try.underlying30
   have HRP := Aside0.mk hrp
   have HRS := Aside0.mk hrs
   have HCP := Aside0.mk hcp
   have HCS := Aside0.mk hcs
   clear hrp hrs hcp hcs
   go_enter Try.func31, Try.ntmps31
   go_wp2_with (first
    | ((with_reducible refine gate_dst (N := 1) rfl ?_); refine bx ?hg (N := 1) ?hd (cs := #[.string a, .string b, .slice AP ps.length cP, .slice AS ss.length cS, .bool false, .string c]) (t := 34) ?hr B ?_; (case hd => rfl); (case hg => rfl); (case hr => first | (go_simp; done) | (go_simp; rfl)); intro g1 w2001 hb B F1 L1 E1; obtain ⟨c1_0, c1_1, c1_2, c1_3, c1_4, c1_5⟩ := cs6 F1; clear hb E1)
    | ((with_reducible refine gate_dst (N := 2) rfl ?_); refine bx ?hg (N := 2) ?hd (cs := #[.string (⟨#[]⟩ : ByteArray), .string (⟨#[]⟩ : ByteArray), .slice none 0 0, .slice none 0 0, .bool false, .string (⟨#[]⟩ : ByteArray)]) (t := 34) ?hr B ?_; (case hd => rfl); (case hg => rfl); (case hr => first | (go_simp; done) | (go_simp; rfl)); intro g2 w2002 hb B F2 L2 E2; have N1_2 := ne1 E2 F1; replace F1 := bn F1 hb; clear c1_0 c1_1 c1_2 c1_3 c1_4 c1_5; obtain ⟨c1_0, c1_1, c1_2, c1_3, c1_4, c1_5⟩ := cs6 F1; clear hb E2)
    | ((with_reducible refine gate_dst (N := 3) rfl ?_); refine bx ?hg (N := 3) ?hd (cs := #[.string (⟨#[]⟩ : ByteArray), .string (⟨#[]⟩ : ByteArray), .slice none 0 0, .slice none 0 0, .bool false, .string (⟨#[]⟩ : ByteArray)]) (t := 34) ?hr B ?_; (case hd => rfl); (case hg => rfl); (case hr => first | (go_simp; done) | (go_simp; rfl)); intro g3 w2003 hb B F3 L3 E3; have N1_3 := ne1 E3 F1; have N2_3 := ne1 E3 F2; replace F1 := bn F1 hb; replace F2 := bn F2 hb; clear c1_0 c1_1 c1_2 c1_3 c1_4 c1_5; obtain ⟨c1_0, c1_1, c1_2, c1_3, c1_4, c1_5⟩ := cs6 F1; clear hb E3)
    | (go_at_call 14; with_reducible refine cl (impl_StateValid.M a b _ _ ps _ _ ss false c _ (cb HRP B) (cb HRS B)) B fun w2004 hb B => ?_; replace F1 := bn F1 hb; replace F2 := bn F2 hb; replace F3 := bn F3 hb; clear c1_0 c1_1 c1_2 c1_3 c1_4 c1_5; obtain ⟨c1_0, c1_1, c1_2, c1_3, c1_4, c1_5⟩ := cs6 F1; clear hb)
    | ((with_reducible refine gate_store (t := 34) (p := 2) rfl ?_); obtain ⟨y0, y1, y2, y3, y4, y5⟩ := cs6 F2; have z0 := fz F2 0; have z1 := fz F2 1; have z2 := fz F2 2; have z3 := fz F2 3; have z4 := fz F2 4; have z5 := fz F2 5; refine sx (t := 34) (t' := 34) (p := 2) (v := ?vo2005) ?hg ?ho ?hn 0 [.string (⟨#[]⟩ : ByteArray), .string (⟨#[]⟩ : ByteArray), .slice none 0 0, .slice none 0 0, .bool false, .string (⟨#[]⟩ : ByteArray)] [.string (⟨#[]⟩ : ByteArray), .string (⟨#[]⟩ : ByteArray), .slice none 0 0, .slice none 0 0, .bool false, .string (⟨#[]⟩ : ByteArray)] ?hr B F2 L2 rfl (Nat.le_of_ble_eq_true rfl) ?_; (case ho => rfl); (case hg => rfl); (case hn => rfl); (case hr => first | (go_simp; done) | (go_simp; rfl)); intro w2005 hk B G; replace F1 := bk F1 hk N1_2.out; replace F3 := bk F3 hk N2_3.out.symm; replace F2 := G; clear hk y0 z0 y1 z1 y2 z2 y3 z3 y4 z4 y5 z5)
    | ((with_reducible refine gate_store (t := 34) (p := 3) rfl ?_); obtain ⟨y0, y1, y2, y3, y4, y5⟩ := cs6 F3; have z0 := fz F3 0; have z1 := fz F3 1; have z2 := fz F3 2; have z3 := fz F3 3; have z4 := fz F3 4; have z5 := fz F3 5; refine sx (t := 34) (t' := 34) (p := 3) (v := ?vo2006) ?hg ?ho ?hn 0 [.string (⟨#[]⟩ : ByteArray), .string (⟨#[]⟩ : ByteArray), .slice none 0 0, .slice none 0 0, .bool false, .string (⟨#[]⟩ : ByteArray)] [.string (⟨#[]⟩ : ByteArray), .string (⟨#[]⟩ : ByteArray), .slice none 0 0, .slice none 0 0, .bool false, .string (⟨#[]⟩ : ByteArray)] ?hr B F3 L3 rfl (Nat.le_of_ble_eq_true rfl) ?_; (case ho => rfl); (case hg => rfl); (case hn => rfl); (case hr => first | (go_simp; done) | (go_simp; rfl)); intro w2006 hk B G; replace F1 := bk F1 hk N1_3.out; replace F2 := bk F2 hk N2_3.out; replace F3 := G; clear hk y0 z0 y1 z1 y2 z2 y3 z3 y4 z4 y5 z5))
   all_goals (refine bodyPost_ret (results_list (rs := [.cell 2 34, .cell 3 34, .tmp 4]) rfl (by simp) (.cell g2 34 _ (0, 0) _ rfl F2.out hu rfl (by kernel_rfl) (.cell g3 34 _ (0, 0) _ rfl F3.out hu rfl (by kernel_rfl) (.tmp .nil)))) rfl ?_; exact ⟨_, _, _, _, rfl, Kd.R_nil _ _ _ _ _, Kd.R_nil _ _ _ _ _, Kd.R_nil _ _ _ _ _, Kd.R_nil _ _ _ _ _, (fun _ h => nomatch h), (fun _ h => nomatch h), B.out⟩)
  | true =>
   cases hcut : cutB a b c with
   | true => exact impl_StateCut.Mt a b AP cP ps AS cS ss c w hrp hrs hcp hcs hs hcut
   | false =>
    rw [cs_bad (show cutOk ⟨a, b, ps, ss, true, c⟩ = false by unfold cutOk SM.ok; rw [hs, hcut]; rfl)]
    have hu := Try.underlying34
    have hu2 := Try.underlying30
    have HRP := Aside0.mk hrp
    have HRS := Aside0.mk hrs
    have HCP := Aside0.mk hcp
    have HCS := Aside0.mk hcs
    clear hrp hrs hcp hcs
    go_enter Try.func31, Try.ntmps31
    go_wp2_with (first
     | ((with_reducible refine gate_dst (N := 1) rfl ?_); refine bx ?hg (N := 1) ?hd (cs := #[.string a, .string b, .slice AP ps.length cP, .slice AS ss.length cS, .bool true, .string c]) (t := 34) ?hr B ?_; (case hd => rfl); (case hg => rfl); (case hr => first | (go_simp; done) | (go_simp; rfl)); intro g1 w3001 hb B F1 L1 E1; obtain ⟨c1_0, c1_1, c1_2, c1_3, c1_4, c1_5⟩ := cs6 F1; clear hb E1)
     | ((with_reducible refine gate_dst (N := 2) rfl ?_); refine bx ?hg (N := 2) ?hd (cs := #[.string (⟨#[]⟩ : ByteArray), .string (⟨#[]⟩ : ByteArray), .slice none 0 0, .slice none 0 0, .bool false, .string (⟨#[]⟩ : ByteArray)]) (t := 34) ?hr B ?_; (case hd => rfl); (case hg => rfl); (case hr => first | (go_simp; done) | (go_simp; rfl)); intro g2 w3002 hb B F2 L2 E2; have N1_2 := ne1 E2 F1; replace F1 := bn F1 hb; clear c1_0 c1_1 c1_2 c1_3 c1_4 c1_5; obtain ⟨c1_0, c1_1, c1_2, c1_3, c1_4, c1_5⟩ := cs6 F1; clear hb E2)
     | ((with_reducible refine gate_dst (N := 3) rfl ?_); refine bx ?hg (N := 3) ?hd (cs := #[.string (⟨#[]⟩ : ByteArray), .string (⟨#[]⟩ : ByteArray), .slice none 0 0, .slice none 0 0, .bool false, .string (⟨#[]⟩ : ByteArray)]) (t := 34) ?hr B ?_; (case hd => rfl); (case hg => rfl); (case hr => first | (go_simp; done) | (go_simp; rfl)); intro g3 w3003 hb B F3 L3 E3; have N1_3 := ne1 E3 F1; have N2_3 := ne1 E3 F2; replace F1 := bn F1 hb; replace F2 := bn F2 hb; clear c1_0 c1_1 c1_2 c1_3 c1_4 c1_5; obtain ⟨c1_0, c1_1, c1_2, c1_3, c1_4, c1_5⟩ := cs6 F1; clear hb E3)
     | (go_at_call 14; with_reducible refine cl (impl_StateValid.M a b _ _ ps _ _ ss true c _ (cb HRP B) (cb HRS B)) B fun w3004 hb B => ?_; replace F1 := bn F1 hb; replace F2 := bn F2 hb; replace F3 := bn F3 hb; clear c1_0 c1_1 c1_2 c1_3 c1_4 c1_5; obtain ⟨c1_0, c1_1, c1_2, c1_3, c1_4, c1_5⟩ := cs6 F1; clear hb)
     | ((with_reducible refine gate_store (t := 34) (p := 2) rfl ?_); obtain ⟨y0, y1, y2, y3, y4, y5⟩ := cs6 F2; have z0 := fz F2 0; have z1 := fz F2 1; have z2 := fz F2 2; have z3 := fz F2 3; have z4 := fz F2 4; have z5 := fz F2 5; refine sx (t := 34) (t' := 34) (p := 2) (v := ?vo3005) ?hg ?ho ?hn 0 [.string (⟨#[]⟩ : ByteArray), .string (⟨#[]⟩ : ByteArray), .slice none 0 0, .slice none 0 0, .bool false, .string (⟨#[]⟩ : ByteArray)] [.string (⟨#[]⟩ : ByteArray), .string (⟨#[]⟩ : ByteArray), .slice none 0 0, .slice none 0 0, .bool false, .string (⟨#[]⟩ : ByteArray)] ?hr B F2 L2 rfl (Nat.le_of_ble_eq_true rfl) ?_; (case ho => rfl); (case hg => rfl); (case hn => rfl); (case hr => first | (go_simp; done) | (go_simp; rfl)); intro w3005 hk B G; replace F1 := bk F1 hk N1_2.out; replace F3 := bk F3 hk N2_3.out.symm; replace F2 := G; clear c1_0 c1_1 c1_2 c1_3 c1_4 c1_5; obtain ⟨c1_0, c1_1, c1_2, c1_3, c1_4, c1_5⟩ := cs6 F1; clear hk y0 z0 y1 z1 y2 z2 y3 z3 y4 z4 y5 z5)
     | ((with_reducible refine gate_store (t := 34) (p := 3) rfl ?_); obtain ⟨y0, y1, y2, y3, y4, y5⟩ := cs6 F3; have z0 := fz F3 0; have z1 := fz F3 1; have z2 := fz F3 2; have z3 := fz F3 3; have z4 := fz F3 4; have z5 := fz F3 5; refine sx (t := 34) (t' := 34) (p := 3) (v := ?vo3006) ?hg ?ho ?hn 0 [.string (⟨#[]⟩ : ByteArray), .string (⟨#[]⟩ : ByteArray), .slice none 0 0, .slice none 0 0, .bool false, .string (⟨#[]⟩ : ByteArray)] [.string (⟨#[]⟩ : ByteArray), .string (⟨#[]⟩ : ByteArray), .slice none 0 0, .slice none 0 0, .bool false, .string (⟨#[]⟩ : ByteArray)] ?hr B F3 L3 rfl (Nat.le_of_ble_eq_true rfl) ?_; (case ho => rfl); (case hg => rfl); (case hn => rfl); (case hr => first | (go_simp; done) | (go_simp; rfl)); intro w3006 hk B G; replace F1 := bk F1 hk N1_3.out; replace F2 := bk F2 hk N2_3.out; replace F3 := G; clear c1_0 c1_1 c1_2 c1_3 c1_4 c1_5; obtain ⟨c1_0, c1_1, c1_2, c1_3, c1_4, c1_5⟩ := cs6 F1; clear hk y0 z0 y1 z1 y2 z2 y3 z3 y4 z4 y5 z5)
     | (go_at_call 59; with_reducible refine cl (impl_IntervalCut.Mf a b c hcut _) B fun w3007 hb B => ?_; replace F1 := bn F1 hb; replace F2 := bn F2 hb; replace F3 := bn F3 hb; clear hb)
     | ((with_reducible refine gate_dst (N := 5) rfl ?_); refine bx ?hg (N := 5) ?hd (cs := #[.string (⟨#[]⟩ : ByteArray), .string (⟨#[]⟩ : ByteArray)]) (t := 30) ?hr B ?_; (case hd => rfl); (case hg => rfl); (case hr => first | (go_simp; done) | (go_simp; rfl)); intro g5 w3008 hb B F5 L5 E5; have N1_5 := ne1 E5 F1; have N2_5 := ne1 E5 F2; have N3_5 := ne1 E5 F3; replace F1 := bn F1 hb; replace F2 := bn F2 hb; replace F3 := bn F3 hb; clear hb E5)
     | ((with_reducible refine gate_dst (N := 6) rfl ?_); refine bx ?hg (N := 6) ?hd (cs := #[.string (⟨#[]⟩ : ByteArray), .string (⟨#[]⟩ : ByteArray)]) (t := 30) ?hr B ?_; (case hd => rfl); (case hg => rfl); (case hr => first | (go_simp; done) | (go_simp; rfl)); intro g6 w3009 hb B F6 L6 E6; have N1_6 := ne1 E6 F1; have N2_6 := ne1 E6 F2; have N3_6 := ne1 E6 F3; have N5_6 := ne1 E6 F5; replace F1 := bn F1 hb; replace F2 := bn F2 hb; replace F3 := bn F3 hb; replace F5 := bn F5 hb; clear hb E6)
     | ((with_reducible refine gate_store (t := 30) (p := 5) rfl ?_); obtain ⟨y0, y1⟩ := cs2 F5; have z0 := fz F5 0; have z1 := fz F5 1; refine sx (t := 30) (t' := 30) (p := 5) (v := ?vo3010) ?hg ?ho ?hn 0 [.string (⟨#[]⟩ : ByteArray), .string (⟨#[]⟩ : ByteArray)] [.string (⟨#[]⟩ : ByteArray), .string (⟨#[]⟩ : ByteArray)] ?hr B F5 L5 rfl (Nat.le_of_ble_eq_true rfl) ?_; (case ho => rfl); (case hg => rfl); (case hn => rfl); (case hr => first | (go_simp; done) | (go_simp; rfl)); intro w3010 hk B G; replace F1 := bk F1 hk N1_5.out; replace F2 := bk F2 hk N2_5.out; replace F3 := bk F3 hk N3_5.out; replace F6 := bk F6 hk N5_6.out.symm; replace F5 := G; clear hk y0 z0 y1 z1)
     | ((with_reducible refine gate_store (t := 30) (p := 6) rfl ?_); obtain ⟨y0, y1⟩ := cs2 F6; have z0 := fz F6 0; have z1 := fz F6 1; refine sx (t := 30) (t' := 30) (p := 6) (v := ?vo3011) ?hg ?ho ?hn 0 [.string (⟨#[]⟩ : ByteArray), .string (⟨#[]⟩ : ByteArray)] [.string (⟨#[]⟩ : ByteArray), .string (⟨#[]⟩ : ByteArray)] ?hr B F6 L6 rfl (Nat.le_of_ble_eq_true rfl) ?_; (case ho => rfl); (case hg => rfl); (case hn => rfl); (case hr => first | (go_simp; done) | (go_simp; rfl)); intro w3011 hk B G; replace F1 := bk F1 hk N1_6.out; replace F2 := bk F2 hk N2_6.out; replace F3 := bk F3 hk N3_6.out; replace F6 := G; clear hk y0 z0 y1 z1)
     | ((with_reducible refine gate_store (t := 34) (p := 2) rfl ?_); obtain ⟨y0, y1, y2, y3, y4, y5⟩ := cs6 F2; have z0 := fz F2 0; have z1 := fz F2 1; have z2 := fz F2 2; have z3 := fz F2 3; have z4 := fz F2 4; have z5 := fz F2 5; refine sx (t := 34) (t' := 34) (p := 2) (v := ?vo3012) ?hg ?ho ?hn 0 [.string (⟨#[]⟩ : ByteArray), .string (⟨#[]⟩ : ByteArray), .slice none 0 0, .slice none 0 0, .bool false, .string (⟨#[]⟩ : ByteArray)] [.string (⟨#[]⟩ : ByteArray), .string (⟨#[]⟩ : ByteArray), .slice none 0 0, .slice none 0 0, .bool false, .string (⟨#[]⟩ : ByteArray)] ?hr B F2 L2 rfl (Nat.le_of_ble_eq_true rfl) ?_; (case ho => rfl); (case hg => rfl); (case hn => rfl); (case hr => first | (go_simp; done) | (go_simp; rfl)); intro w3012 hk B G; replace F1 := bk F1 hk N1_2.out; replace F3 := bk F3 hk N2_3.out.symm; replace F2 := G; clear hk y0 z0 y1 z1 y2 z2 y3 z3 y4 z4 y5 z5)
     | ((with_reducible refine gate_store (t := 34) (p := 3) rfl ?_); obtain ⟨y0, y1, y2, y3, y4, y5⟩ := cs6 F3; have z0 := fz F3 0; have z1 := fz F3 1; have z2 := fz F3 2; have z3 := fz F3 3; have z4 := fz F3 4; have z5 := fz F3 5; refine sx (t := 34) (t' := 34) (p := 3) (v := ?vo3013) ?hg ?ho ?hn 0 [.string (⟨#[]⟩ : ByteArray), .string (⟨#[]⟩ : ByteArray), .slice none 0 0, .slice none 0 0, .bool false, .string (⟨#[]⟩ : ByteArray)] [.string (⟨#[]⟩ : ByteArray), .string (⟨#[]⟩ : ByteArray), .slice none 0 0, .slice none 0 0, .bool false, .string (⟨#[]⟩ : ByteArray)] ?hr B F3 L3 rfl (Nat.le_of_ble_eq_true rfl) ?_; (case ho => rfl); (case hg => rfl); (case hn => rfl); (case hr => first | (go_simp; done) | (go_simp; rfl)); intro w3013 hk B G; replace F1 := bk F1 hk N1_3.out; replace F2 := bk F2 hk N2_3.out; replace F3 := G; clear hk y0 z0 y1 z1 y2 z2 y3 z3 y4 z4 y5 z5))
    all_goals (refine bodyPost_ret (results_list (rs := [.cell 2 34, .cell 3 34, .tmp 4]) rfl (by simp) (.cell g2 34 _ (0, 0) _ rfl F2.out hu rfl (by kernel_rfl) (.cell g3 34 _ (0, 0) _ rfl F3.out hu rfl (by kernel_rfl) (.tmp .nil)))) rfl ?_; exact ⟨_, _, _, _, rfl, Kd.R_nil _ _ _ _ _, Kd.R_nil _ _ _ _ _, Kd.R_nil _ _ _ _ _, Kd.R_nil _ _ _ _ _, (fun _ h => nomatch h), (fun _ h => nomatch h), B.out⟩)
theorem impl_StateCut.Mr (a b : ByteArray) (AP : Option Addr) (cP : Nat) (ps : List S61) (AS : Option Addr) (cS : Nat) (ss : List S100) (t : Bool) (c : ByteArray) (xa xb : ByteArray) (xp : List S61) (xs : List S100) (xt : Bool) (xc ya yb : ByteArray) (yp : List S61) (ys : List S100) (yt : Bool) (yc : ByteArray) (ok : Bool) (hm : csM ⟨a, b, ps, ss, t, c⟩ = (⟨xa, xb, xp, xs, xt, xc⟩, ⟨ya, yb, yp, ys, yt, yc⟩, ok)) (w : World) (hrp : Kd.C k61 w AP ps.length ps) (hrs : Kd.C k100 w AS ss.length ss) (hcp : ps.length ≤ cP) (hcs : ss.length ≤ cS) : Calls Try.prog 31 #[.agg #[.string a, .string b, .slice AP ps.length cP, .slice AS ss.length cS, .bool t, .string c]] w fun e w' => ∃ v2 v3 v4 v5, e = .returned (.tuple #[.agg #[.string xa, .string xb, v2, v3, .bool xt, .string xc], .agg #[.string ya, .string yb, v4, v5, .bool yt, .string yc], .bool ok]) ∧ Kd.R k61 61 w' w.heap.size (fun _ => True) v2 xp ∧ Kd.R k100 100 w' w.heap.size (fun _ => True) v3 xs ∧ Kd.R k61 61 w' w.heap.size (fun _ => True) v4 yp ∧ Kd.R k100 100 w' w.heap.size (fun _ => True) v5 ys ∧ (∀ k_, v4.ownBlock = some k_ → v2.ownBlock = some k_ → False) ∧ (∀ k_, v5.ownBlock = some k_ → v3.ownBlock = some k_ → False) ∧ Below w.heap.size w w' := by
 have h := impl_StateCut.M a b AP cP ps AS cS ss t c w hrp hrs hcp hcs
 rw [hm] at h
 exact h

end Go.Proofs.Ytenfiihcdhnamaa.PFnStateJoin
