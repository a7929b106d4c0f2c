/- Walks over models, part 0: base nums strs keys prsm place splace spairs rows sput sget. -/
import Derived.Test.YthfmpcaflplnbaaPFnApplyCommandx0
import Derived.Deep.RegionHeld3
import Derived.Lib.Strings
import Derived.Laws.BytesArg
namespace Go.Proofs.Ythfmpcaflplnbaa.PFnApplyCommand
open Go.RowKit Go.Proofs.YthfmpcaflplnbaaW.PrintWords Go.Proofs.YthfmpcaflplnbaaW.PrintLast Go.Proofs.YthfmpcaflplnbaaW.PrintMore
set_option linter.unusedVariables false
set_option linter.unusedSimpArgs false
set_option maxHeartbeats 4000000
set_option maxRecDepth 100000
def bits (n m : Nat) : Array Bool := ((List.range n).map fun i => m.testBit i).toArray
/-! Words: a call by its contract, boxes and rows carried on. -/
section
variable {P : Program} {F : FuncId} {args : Array Value} {w W W' : World} {v : Value} {Q : Ending → World → Prop}
theorem cl (c : Calls P F args W fun e w' => e = .returned v ∧ Below W.heap.size W w') (B : Aside0 (Below w.heap.size w W))
    (h : ∀ W', Below W.heap.size W W' → Aside0 (Below w.heap.size w W') → Q (.returned v) W') : Calls P F args W Q :=
  c.mono (by rintro e W' ⟨rfl, hb⟩; exact h W' hb ⟨below_step B.out hb⟩)
theorem cx {α : Type} {f : α → Value} {p : α → Prop} (c : Calls P F args W fun e w' => ∃ x, e = .returned (f x) ∧ p x ∧ Below W.heap.size W w') (B : Aside0 (Below w.heap.size w W))
    (h : ∀ x, p x → ∀ W', Below W.heap.size W W' → Aside0 (Below w.heap.size w W') → Q (.returned (f x)) W') : Calls P F args W Q :=
  c.mono (by rintro e W' ⟨x, rfl, hx, hb⟩; exact h x hx W' hb ⟨below_step B.out hb⟩)
theorem clv {v v' : Value} (c : Calls P F args W fun e w' => e = .returned v ∧ Below W.heap.size W w') (hv : v = v') : Calls P F args W fun e w' => e = .returned v' ∧ Below W.heap.size W w' := hv ▸ c
theorem drewB {v : Value} (c : Calls P F args W fun e w' => e = .returned v ∧ ∃ n, w' = W.drewN n) : Calls P F args W fun e w' => e = .returned v ∧ Below W.heap.size W w' :=
  c.mono (by rintro e W' ⟨rfl, n, rfl⟩; exact ⟨rfl, pw_below_drewN (Below.refl _ _) n⟩)
variable {α β : Type} {d : Kd α} {d' : Kd β} {e e' b : Nat} {xs : List α} {ys : List β} {f : Value → Value}
/-- what a row of a call's own is known by -/
def Ow (d : Kd α) (e : Nat) (W : World) (b : Nat) (v : Value) (xs : List α) : Prop := Kd.R d e W b (fun _ => True) v xs
/-- the row lies in a block that was not there before -/
def Fr (W : World) (v : Value) : Prop := ∀ k, v.ownBlock = some k → W.heap.size ≤ k
theorem cr (c : Calls P F args W fun r w' => ∃ v0, r = .returned (f v0) ∧ Kd.R d e w' W.heap.size (fun _ => True) v0 xs ∧ Below W.heap.size W w') (B : Aside0 (Below w.heap.size w W))
    (h : ∀ A kk W', Below W.heap.size W W' → Aside0 (Below w.heap.size w W') → Aside0 (Ow d e W' w.heap.size (.slice A xs.length kk) xs) → Aside0 (Fr W (.slice A xs.length kk)) → Q (.returned (f (.slice A xs.length kk))) W') : Calls P F args W Q :=
  c.mono (by
    rintro r W' ⟨v0, rfl, ho, hb⟩
    obtain ⟨A, kk, rfl⟩ := Kd.R_slice ho
    exact h A kk W' hb ⟨below_step B.out hb⟩ ⟨Kd.R_lower ho (below_size B.out)⟩ ⟨fun k hk => Kd.R_base ho k hk⟩)
theorem crz (c : Calls P F args W fun r w' => ∃ v0, r = .returned (f v0) ∧ Kd.R d e w' W.heap.size (fun _ => True) v0 xs ∧ Below W.heap.size W w') (B : Aside0 (Below w.heap.size w W))
    (h : ∀ zs, xs = zs → ∀ A kk W', Below W.heap.size W W' → Aside0 (Below w.heap.size w W') → Aside0 (Ow d e W' w.heap.size (.slice A zs.length kk) zs) → Aside0 (Fr W (.slice A zs.length kk)) → Q (.returned (f (.slice A zs.length kk))) W') : Calls P F args W Q := cr c B (h xs rfl)
theorem bn {g : Nat} {o : Obj} (F : Aside0 (W.heap[g]? = some o)) (hb : Below W.heap.size W W') : Aside0 (W'.heap[g]? = some o) := ⟨blk_below F.out hb⟩
theorem rn {v : Value} (R : Aside0 (Ow d e W b v xs)) (hb : Below W.heap.size W W') : Aside0 (Ow d e W' b v xs) := ⟨Kd.R_below R.out hb⟩
theorem rc {A : Option Addr} {n c : Nat} (R : Aside0 (Ow d e W b (.slice A n c) xs)) : Kd.C d W A xs.length xs := (Kd.R_reads' R.out).2.2
theorem rl {A : Option Addr} {c : Nat} (R : Aside0 (Ow d e W b (.slice A xs.length c) xs)) : xs.length ≤ c := (Kd.R_reads' R.out).2.1
theorem cb {A : Option Addr} {n : Nat} (H : Aside0 (Kd.C d w A n xs)) (B : Aside0 (Below w.heap.size w W)) : Kd.C d W A n xs := Kd.C_below H.out B.out
theorem cs1 {g t : Nat} {a : Value} (F : Aside0 (W.heap[g]? = some (.cells #[a] t (0, 0)))) : W.cell? ⟨g, 0, none⟩ = some a := (blk_cell F.out 0).trans rfl
theorem cs2 {g t : Nat} {a b : Value} (F : Aside0 (W.heap[g]? = some (.cells #[a, b] t (0, 0)))) : W.cell? ⟨g, 0, none⟩ = some a ∧ W.cell? ⟨g, 1, none⟩ = some b := ⟨(blk_cell F.out 0).trans rfl, (blk_cell F.out 1).trans rfl⟩
theorem cs3 {g t : Nat} {a b c : Value} (F : Aside0 (W.heap[g]? = some (.cells #[a, b, c] t (0, 0)))) : W.cell? ⟨g, 0, none⟩ = some a ∧ W.cell? ⟨g, 1, none⟩ = some b ∧ W.cell? ⟨g, 2, none⟩ = some c := ⟨(blk_cell F.out 0).trans rfl, (blk_cell F.out 1).trans rfl, (blk_cell F.out 2).trans rfl⟩
theorem cs4 {g t : Nat} {a b c d : Value} (F : Aside0 (W.heap[g]? = some (.cells #[a, b, c, d] t (0, 0)))) : W.cell? ⟨g, 0, none⟩ = some a ∧ W.cell? ⟨g, 1, none⟩ = some b ∧ W.cell? ⟨g, 2, none⟩ = some c ∧ W.cell? ⟨g, 3, none⟩ = some d := ⟨(blk_cell F.out 0).trans rfl, (blk_cell F.out 1).trans rfl, (blk_cell F.out 2).trans rfl, (blk_cell F.out 3).trans rfl⟩
theorem cs6 {g t : Nat} {a b c d x y : Value} (F : Aside0 (W.heap[g]? = some (.cells #[a, b, c, d, x, y] t (0, 0)))) : W.cell? ⟨g, 0, none⟩ = some a ∧ W.cell? ⟨g, 1, none⟩ = some b ∧ W.cell? ⟨g, 2, none⟩ = some c ∧ W.cell? ⟨g, 3, none⟩ = some d ∧ W.cell? ⟨g, 4, none⟩ = some x ∧ W.cell? ⟨g, 5, none⟩ = some y :=
  ⟨(blk_cell F.out 0).trans rfl, (blk_cell F.out 1).trans rfl, (blk_cell F.out 2).trans rfl, (blk_cell F.out 3).trans rfl, (blk_cell F.out 4).trans rfl, (blk_cell F.out 5).trans rfl⟩
theorem fz {g t : Nat} {cs : Array Value} (F : Aside0 (W.heap[g]? = some (.cells cs t (0, 0)))) (j : Nat) : W.frozen? ⟨g, j, none⟩ = false := blk_frozen F.out j
theorem sets_keep (g : Nat) : ∀ (vs : List Value) (j : Nat) (W1 : World), KeepBut W W1 g none → KeepBut W (W1.setCells g j vs) g none
  | [], _, _, h => h
  | v :: r, j, _, h => sets_keep g r (j + 1) _ (h.set_ j v)
theorem sets_below (g : Nat) (hg : w.heap.size ≤ g) : ∀ (vs : List Value) (j : Nat) (W1 : World), Below w.heap.size w W1 → Below w.heap.size w (W1.setCells g j vs)
  | [], _, _, h => h
  | _ :: r, j, _, h => sets_below g hg r (j + 1) _ (below_set h hg)
theorem sets_blk (g t : Nat) (s : List Value) : ∀ (vs l r : List Value) (W1 : World), r.length = vs.length → W1.heap[g]? = some (.cells (l ++ r ++ s).toArray t (0, 0)) → (W1.setCells g l.length vs).heap[g]? = some (.cells (l ++ vs ++ s).toArray t (0, 0))
  | [], l, r, _, hr, h => by
    obtain rfl : r = [] := List.eq_nil_of_length_eq_zero hr
    exact h
  | v :: vs, l, [], _, hr, h => by cases hr
  | v :: vs, l, x :: r, W1, hr, h => by
    have := sets_blk g t s vs (l ++ [v]) r (W1.setCell ⟨g, l.length, none⟩ v) (by simpa using hr) (by
      rw [blk_set h]
      simp)
    simpa [World.setCells] using this
theorem sets_blk' {g t : Nat} {cs : Array Value} (off : Nat) (ns vs : List Value) (hl : cs.toList.take off ++ ns ++ cs.toList.drop (off + ns.length) = vs) (hs : off + ns.length ≤ cs.size) (F : W.heap[g]? = some (.cells cs t (0, 0))) : (W.setCells g off ns).heap[g]? = some (.cells vs.toArray t (0, 0)) := by
  subst hl
  have h1 : (cs.toList.take off).length = off := by rw [List.length_take, Array.length_toList (xs := cs)]; omega
  have := sets_blk g t (cs.toList.drop (off + ns.length)) ns (cs.toList.take off) ((cs.toList.drop off).take ns.length) W (by rw [List.length_take, List.length_drop, Array.length_toList (xs := cs)]; omega) (by
    rw [F]
    congr 1
    congr 1
    rw [List.append_assoc, ← List.drop_drop, List.take_append_drop, List.take_append_drop])
  rwa [h1] at this
variable {ops ops' : Array Oper} {o : Oper} {rest : List Oper} {a : Act} {QE : Exit → Act → World → Prop}
theorem bx (hgd : o.guard = none) {N : Tmp} (hd : o.dst = some N) {cs : Array Value} {t : TypeId} (hrun : (execOp a.eval o).run P W = .ok (.value (.pointer (some ⟨W.heap.size, 0, none⟩))) (W.alloc (.cells cs t (0, 0))))
    (B : Aside0 (Below w.heap.size w W))
    (h : ∀ g w1, Below W.heap.size W w1 → Aside0 (Below w.heap.size w w1) → Aside0 (w1.heap[g]? = some (.cells cs t (0, 0))) → Aside0 (w.heap.size ≤ g) → Aside0 (g = W.heap.size) → wpList P ops QE rest (a.put o.dst (.pointer (some ⟨g, 0, none⟩))) w1) : wpList P ops QE (o :: rest) a W :=
  box_event hgd hd hrun fun g hg w1 hc hb => h g w1 hb ⟨below_step B.out hb⟩ ⟨hc⟩ ⟨hg ▸ below_size B.out⟩ ⟨hg⟩
theorem sx (hgd : o.guard = none) {t t' : TypeId} {p : Tmp} {v : Operand} (ho : o.op = .store t' (.tmp p) v) (hN : o.dst = none) {g : Nat} {cs : Array Value} (off : Nat) (ns vs : List Value) (hrun : (execOp a.eval o).run P W = .ok .skip (W.setCells g off ns))
    (B : Aside0 (Below w.heap.size w W)) (F : Aside0 (W.heap[g]? = some (.cells cs t (0, 0)))) (L : Aside0 (w.heap.size ≤ g)) (hl : cs.toList.take off ++ ns ++ cs.toList.drop (off + ns.length) = vs) (hs : off + ns.length ≤ cs.size)
    (h : ∀ w', KeepBut W w' g none → Aside0 (Below w.heap.size w w') → Aside0 (w'.heap[g]? = some (.cells vs.toArray t (0, 0))) → wpList P ops QE rest a w') : wpList P ops QE (o :: rest) a W :=
  store_event hgd ho hN hrun fun w' hw => by
    subst hw
    exact h _ (sets_keep g ns off W (KeepBut.refl _ _ _)) ⟨sets_below g L.out ns off W B.out⟩ ⟨sets_blk' off ns vs hl hs F.out⟩
theorem sxs {Kc : Act → World → Prop} {g t : Nat} {cs : Array Value} (off : Nat) (ns vs : List Value) (hw : Region.wanted o (yielded ops' a.tmps) = true) (hN : o.dst = none) (hrun : (execOp a.eval o).run P W = .ok .skip (W.setCells g off ns))
    (B : Aside0 (Below w.heap.size w W)) (F : Aside0 (W.heap[g]? = some (.cells cs t (0, 0)))) (L : Aside0 (w.heap.size ≤ g)) (hl : cs.toList.take off ++ ns ++ cs.toList.drop (off + ns.length) = vs) (hs : off + ns.length ≤ cs.size)
    (h : ∀ w', KeepBut W w' g none → Aside0 (Below w.heap.size w w') → Aside0 (w'.heap[g]? = some (.cells vs.toArray t (0, 0))) → Kc (a.put none undef) w') : if Region.wanted o (yielded ops' a.tmps) = true then Oper.wp P o a W Kc QE else Kc (a.put none undef) W := by
  rw [if_pos hw]
  unfold Oper.wp
  rw [hrun]
  show Kc (a.put o.dst undef) _
  rw [hN]
  exact h _ (sets_keep g ns off W (KeepBut.refl _ _ _)) ⟨sets_below g L.out ns off W B.out⟩ ⟨sets_blk' off ns vs hl hs F.out⟩
theorem rg {S : World → Prop} {ds : List Nat} {id n : Nat} (l : Array Bool) (hm : P.follows .mixedOrders = true) (hn : ops'.size = n) (hl : Array.replicate n false = l) (hS : S W) (hd : S W → S W.drew) (B : Aside0 (Below w.heap.size w W))
    (h : ∀ W', Below W.heap.size W W' → Aside0 (Below w.heap.size w W') → S W' → wpAnyLast P .any ops' QE S ds n l a W') : (Code.region id ops' true).wp P QE a W :=
  start_ l hm hn hl (hd hS) fun hH => h _ (below_drew1 (Below.refl _ _)) ⟨below_drew B.out⟩ hH
theorem sk {S : World → Prop} {md : Region.Mode} {ds : List Nat} {i : Nat} {N : Option Tmp} {oi : Oper} {fuel : Nat} {l : Array Bool} (l' : Array Bool) (hi : ops'[i]? = some oi) (hN : oi.dst = N) (hc : anyB md ops' l l' i = true)
    (hQ : ∀ c a w, QE (.panic c) (a.put oi.dst undef) w → QE (.panic c) a w) (hw : Region.wanted oi (yielded ops' a.tmps) = false) (h : wpAnyLast P md ops' QE S ds fuel l' (a.put N undef) W) : wpAnyLast P md ops' QE S ds (fuel + 1) l a W :=
  pure_ l' hi hN hc hQ (Or.inr ⟨hw, rfl⟩) rfl h
theorem pu {S : World → Prop} {md : Region.Mode} {ds : List Nat} {i : Nat} {N : Option Tmp} {oi : Oper} {v : Value} {fuel : Nat} {l : Array Bool} (l' : Array Bool) (hi : ops'[i]? = some oi) (hN : oi.dst = N) (hc : anyB md ops' l l' i = true)
    (hQ : ∀ c a w, QE (.panic c) (a.put oi.dst v) w → QE (.panic c) a w) (hw : Region.wanted oi (yielded ops' a.tmps) = true) (hy : ∀ w, (execOp a.eval oi).run P w = .ok (.value v) w) (h : wpAnyLast P md ops' QE S ds fuel l' (a.put N v) W) : wpAnyLast P md ops' QE S ds (fuel + 1) l a W :=
  pure_ l' hi hN hc hQ (Or.inl ⟨hw, hy⟩) rfl h
theorem ta {S : World → Prop} {md : Region.Mode} {ds : List Nat} {i : Nat} {N : Option Tmp} {oi : Oper} {v : Value} {fuel : Nat} {l : Array Bool} (l' : Array Bool) (hi : ops'[i]? = some oi) (hN : oi.dst = N) (hc : takeB md ops' ds l l' i = true)
    (hQ : ∀ c a w, QE (.panic c) (a.put oi.dst v) w → QE (.panic c) a w) (hw : Region.wanted oi (yielded ops' a.tmps) = true) (hS : S W) (hy : ∀ w, S w → (execOp a.eval oi).run P w = .ok (.value v) w) (h : wpAnyLast P md ops' QE S ds fuel l' (a.put N v) W) : wpAnyLast P md ops' QE S ds (fuel + 1) l a W :=
  take_ l' hi hN hc hQ (Or.inl ⟨hw, hy⟩) hS rfl h
theorem ne1 {g g' : Nat} {o : Obj} (E : Aside0 (g = W.heap.size)) (F : Aside0 (W.heap[g']? = some o)) : Aside0 (g' ≠ g) := ⟨Nat.ne_of_lt (E.out ▸ blk_lt F.out)⟩
theorem bk {g g' : Nat} {o : Obj} (F : Aside0 (W.heap[g']? = some o)) (hk : KeepBut W W' g none) (N : g' ≠ g) : Aside0 (W'.heap[g']? = some o) := ⟨hk.blk F.out N (by simp)⟩
theorem rk {v : Value} {g t : Nat} {cs : Array Value} (R : Aside0 (Ow d e W b v xs)) (F : Aside0 (W.heap[g]? = some (.cells cs t (0, 0)))) (ht : ∀ q, q ∈ e :: d.E → q ≠ t) (hk : KeepBut W W' g none) : Aside0 (Ow d e W' b v xs) :=
  ⟨Kd.R_mono (Kd.R_keep (Kd.R_types R.out F.out ht) hk (fun _ q => q.2)) (fun _ q => q.1)⟩
end

theorem w64 {x : Int} (h0 : -9223372036854775808 ≤ x) (h1 : x ≤ 9223372036854775807) : wrap64 x = x := by
  unfold wrap64
  omega
theorem rd_drop {xs : List Int} {j : Nat} (h : j < xs.length) : xs.drop j = rd xs (j : Int) :: xs.drop (j + 1) := by
  rw [List.drop_eq_getElem_cons h]
  simp [rd, List.getD_eq_getElem?_getD, List.getElem?_eq_getElem h]
theorem andF {c x r : Bool} (h : (c && x) = r) (hc : c = false) : Ending.returned (Value.bool false) = Ending.returned (.bool r) := by subst h; rw [hc]; rfl
theorem andT {c x r : Bool} (h : (c && x) = r) (hc : c = true) : x = r := by subst h; rw [hc]; rfl
theorem useEq {α : Type} {a b : α} {p : Prop} (h : a = b) (k : a = b → p) : p := k h

/-! Strings compared. -/
theorem less_total : ∀ x y : List UInt8, (Op.bytesLess x y || x == y) = !(Op.bytesLess y x)
  | [], [] => rfl
  | [], _ :: _ => rfl
  | _ :: _, [] => rfl
  | a :: x, b :: y => by
    have ih := less_total x y
    simp only [Op.bytesLess]
    by_cases h : a = b
    · subst h
      simpa using ih
    · have h2 : (a == b) = false := beq_eq_false_iff_ne.mpr h
      have h3 : (b == a) = false := beq_eq_false_iff_ne.mpr (Ne.symm h)
      have h4 : (a :: x == b :: y) = false := beq_eq_false_iff_ne.mpr fun q => h (List.cons.inj q).1
      rw [h2, h3, h4]
      simp only [Bool.false_and, Bool.or_false]
      by_cases hl : a < b
      · have : ¬ b < a := by rw [UInt8.lt_iff_toNat_lt] at *; omega
        simp [hl, this]
      · have : b < a := by
          rw [UInt8.lt_iff_toNat_lt] at *
          have : a.toNat ≠ b.toNat := fun q => h (UInt8.toNat_inj.mp q)
          omega
        simp [hl, this]
theorem leq_str (t : TypeId) (a b : ByteArray) : binOp .leq t (.string a) (.string b) = pure (.bool !(Op.bytesLess b.toList a.toList)) := by
  rw [← less_total]
  simp [binOp, Op.stringOp]
theorem geq_str (t : TypeId) (a b : ByteArray) : binOp .geq t (.string a) (.string b) = pure (.bool !(Op.bytesLess a.toList b.toList)) := by
  simp [binOp, Op.stringOp]
theorem gtr_str (t : TypeId) (a b : ByteArray) : binOp .gtr t (.string a) (.string b) = pure (.bool (Op.bytesLess b.toList a.toList)) := by
  have h : (!(Op.bytesLess a.toList b.toList || a.toList == b.toList)) = Op.bytesLess b.toList a.toList := by rw [less_total, Bool.not_not]
  rw [← h, Bool.not_or]
  simp [binOp, Op.stringOp]
attribute [local go_sem] leq_str geq_str gtr_str

/-! Keys. -/
theorem ba_toList (s : ByteArray) : s.toList = s.data.toList := Lib.toList_data s
theorem ba_inj {s t : ByteArray} (h : s.toList = t.toList) : s = t := by
  rw [ba_toList, ba_toList] at h
  cases s; cases t; simp only [ByteArray.mk.injEq]; exact Array.toList_inj.mp h
theorem str_beq (a b : ByteArray) : (a.toList == b.toList) = decide (a = b) := by
  by_cases h : a = b
  · subst h; simp
  · rw [decide_eq_false h]; exact beq_eq_false_iff_ne.mpr fun q => h (ba_inj q)
theorem nil_iff (s : ByteArray) : s.toList = ([] : List UInt8) ↔ s.size = 0 := by
  rw [ba_toList]
  refine ⟨fun h => ?_, fun h => ?_⟩
  · have := data_length s
    rw [h] at this
    exact this.symm
  · exact List.eq_nil_of_length_eq_zero (by rw [data_length]; exact h)
def lowB (x : Int) : Bool := decide (97 ≤ x) && decide (x ≤ 122)
def keyB (s : ByteArray) : Bool := decide (1 ≤ s.size) && decide (s.size ≤ 4) && (bytesOf s).all lowB
theorem bt_drop' {s : ByteArray} {j : Nat} (h : j < s.size) : (bytesOf s).drop j = bt s (j : Int) :: (bytesOf s).drop (j + 1) := by
  rw [rd_drop (by rw [bytesOf_length]; exact h), rd_bytesOf]
theorem bytesOf_tail (s : ByteArray) : bytesOf (s.extract 1 s.size) = (bytesOf s).drop 1 := by
  unfold bytesOf
  rw [← List.map_drop]
  refine congrArg _ ?_
  rw [ByteArray.data_extract, Array.toList_extract]
  rw [List.extract_eq_take_drop, List.take_of_length_le (by rw [List.length_drop, data_length]; omega)]
def l1B (n lo hi : Int) : Bool := decide (lo ≤ n) && decide (n ≤ hi)
theorem spec_l1In.M (n lo hi : Int) (w : World) : Calls Try.prog 74 #[.int .i64 n, .int .i64 lo, .int .i64 hi] w fun e w' => e = .returned (.bool (l1B n lo hi)) ∧ Below w.heap.size w w' := by
  go_enter Try.func74, Try.ntmps74
  go_wp2
  all_goals go_ret
  all_goals (refine ⟨?_, Below.refl _ _⟩; unfold l1B; simp_all; try omega)
theorem spec_KeyValid.M (a : ByteArray) (w : World) : Calls Try.prog 68 #[.string a] w fun e w' => e = .returned (.bool (keyB a)) ∧ Below w.heap.size w w' := by
  have B := Aside0.mk (Below.refl w.heap.size w)
  obtain ⟨r, hr⟩ : ∃ r, keyB a = r := ⟨_, rfl⟩
  rw [hr]
  unfold keyB at hr
  by_cases hs : 1 ≤ a.size ∧ a.size ≤ 4
  · have hl : l1B (a.size : Int) 1 4 = true := by unfold l1B; simp; omega
    have H := Aside0.mk (show ((bytesOf a).drop 0).all lowB = r by simpa [hs.1, hs.2] using hr)
    clear hr
    go_enter Try.func68, Try.ntmps68
    go_wp2_with (first
      | (go_at_call 74; with_reducible refine cl (clv (spec_l1In.M _ 1 4 _) (congrArg Value.bool hl)) B fun w1 hb B => ?_; clear hb))
    go_loopg [3] (a.size + 1) (fun kx v3 wr => ∃ j : Nat, v3 = .int .i64 (j : Int) ∧ j ≤ a.size ∧ a.size < j + kx ∧ Aside0 (Below w.heap.size w wr) ∧ Aside0 (((bytesOf a).drop j).all lowB = r))
    case atStart => exact ⟨0, rfl, by omega, by omega, B, H⟩
    case round =>
      clear H B
      obtain ⟨j, rfl, hj, hk, B, H⟩ := hrel
      have H := H.out
      by_cases hlt : j < a.size
      · have p := eq_true (show (0 : Int) ≤ (j : Int) by omega)
        have q := eq_true (show (j : Int) < (a.size : Int) by omega)
        have q' := decide_eq_true (show (j : Int) < (a.size : Int) by omega)
        have hx : ((a[j]'hlt).toNat : Int) = bt a (j : Int) := bt_at a (j : Int) (by rw [Int.toNat_natCast]; exact hlt)
        rw [bt_drop' hlt] at H
        simp only [List.all_cons] at H
        generalize bt a (j : Int) = x at *
        obtain ⟨d, rfl⟩ : ∃ d, gk = d + 1 := ⟨gk - 1, by omega⟩
        by_cases hx : lowB x = true
        · have H' := Aside0.mk (show ((bytesOf a).drop (j + 1)).all lowB = r by simpa [hx] using H)
          clear H
          unfold lowB at hx
          simp only [Bool.and_eq_true, decide_eq_true_eq] at hx
          have d1 : decide (x < 97) = false := decide_eq_false (by omega)
          have d2 : decide (122 < x) = false := decide_eq_false (by omega)
          go_wp2
          go_roundg d
          case measure => omega
          case rel => exact ⟨j + 1, congrArg (Value.int .i64) (Int.natCast_succ _).symm, by omega, by omega, B, H'⟩
        · have hr : r = false := by simpa [hx] using H.symm
          subst hr
          clear H
          unfold lowB at hx
          simp only [Bool.and_eq_true, decide_eq_true_eq] at hx
          by_cases h97 : x < 97
          · have d1 : decide (x < 97) = true := decide_eq_true h97
            go_wp2
            go_ret
            exact ⟨by simp, B.out⟩
          · have d1 : decide (x < 97) = false := decide_eq_false h97
            have d2 : decide (122 < x) = true := decide_eq_true (by omega)
            go_wp2
            go_ret
            exact ⟨by simp, B.out⟩
      · have q' := decide_eq_false (show ¬ (j : Int) < (a.size : Int) by omega)
        have hr : r = true := by
          rw [List.drop_of_length_le (by rw [bytesOf_length]; omega)] at H
          simpa using H.symm
        subst hr
        go_wp2
        go_ret
        exact ⟨by simp, B.out⟩
  · have hl : l1B (a.size : Int) 1 4 = false := by unfold l1B; simp; omega
    have hr : r = false := by
      rw [← hr, Bool.and_eq_false_iff, Bool.and_eq_false_iff, decide_eq_false_iff_not, decide_eq_false_iff_not]
      omega
    subst hr
    go_enter Try.func68, Try.ntmps68
    go_wp2_with (first
      | (go_at_call 74; with_reducible refine cl (clv (spec_l1In.M _ 1 4 _) (congrArg Value.bool hl)) B fun w1 hb B => ?_; clear hb))
    go_ret
    exact ⟨by simp, B.out⟩
theorem impl_lettersOnly.M : ∀ (n : Nat) (a : ByteArray) (w : World), a.size = n → Calls Try.prog 85 #[.string a] w fun e w' => e = .returned (.bool ((bytesOf a).all lowB)) ∧ Below w.heap.size w w'
  | 0, a, w, h => by
    have hn : a.toList = [] := (nil_iff a).mpr h
    go_enter Try.func85, Try.ntmps85
    go_wp2
    all_goals (first | go_ret | skip)
    all_goals (first | exact absurd hn (by assumption) | skip)
    refine ⟨?_, Below.refl _ _⟩
    have : bytesOf a = [] := List.eq_nil_of_length_eq_zero (by rw [bytesOf_length]; exact h)
    rw [this]
    rfl
  | n + 1, a, w, h => by
    have B := Aside0.mk (Below.refl w.heap.size w)
    have hn : ¬ a.toList = [] := fun q => by have := (nil_iff a).mp q; omega
    have IH := Aside0.mk (fun W => impl_lettersOnly.M n (a.extract 1 a.size) W (by simp [h]))
    have hb0 := bt_drop' (s := a) (j := 0) (by omega)
    have h0 : 0 < a.size := by omega
    have hx : ((a[0]'h0).toNat : Int) = bt a ((0 : Nat) : Int) := bt_at a 0 (by simp; omega)
    have p := eq_true (show (0 : Int) < (a.size : Int) by omega)
    have p1 := eq_true (show 0 < a.size by omega)
    have p2 := eq_true (show 1 ≤ a.size by omega)
    rw [List.drop_zero] at hb0
    rw [bytesOf_tail] at IH
    rw [hb0]
    simp only [List.all_cons]
    clear hb0
    rw [Nat.zero_add]
    generalize (List.drop 1 (bytesOf a)).all lowB = r at IH ⊢
    generalize bt a ((0 : Nat) : Int) = x at hx ⊢
    clear h
    go_enter Try.func85, Try.ntmps85
    go_wp2_with (first
      | (go_at_call 85; with_reducible refine cl (IH.out _) B fun w1 hb B => ?_; clear hb))
    all_goals go_ret
    all_goals (refine ⟨?_, B.out⟩; unfold lowB; simp_all; try omega)
theorem impl_KeyValid.M (a : ByteArray) (w : World) : Calls Try.prog 61 #[.string a] w fun e w' => e = .returned (.bool (keyB a)) ∧ Below w.heap.size w w' := by
  have B := Aside0.mk (Below.refl w.heap.size w)
  go_enter Try.func61, Try.ntmps61
  go_wp2_with (first
    | (go_at_call 85; with_reducible refine cl (impl_lettersOnly.M _ a _ rfl) B fun w1 hb B => ?_; clear hb))
  all_goals go_ret
  all_goals (refine ⟨?_, B.out⟩; unfold keyB; simp_all; try omega)

/-! The model of pairs. -/
def ltB (a b : ByteArray) : Bool := Op.bytesLess a.toList b.toList
def okP (p : S42) : Bool := keyB p.f0 && l1B p.f1 0 999
def aboveP (p : Option ByteArray) (c : ByteArray) : Bool := match p with
  | none => true
  | some q => ltB q c
def prG : Option ByteArray → List S42 → Bool
  | _, [] => true
  | p, s :: r => okP s && (aboveP p s.f0 && prG (some s.f0) r)
def prB (l : List S42) : Bool := decide (l.length ≤ 48) && prG none l
def prP (l : List S42) (j : Nat) : Option ByteArray := if j = 0 then none else some (l.getD (j - 1) z42).f0
theorem pr_nat {l : List S42} {j : Nat} (h : j < l.length) : rd_T42 l (j : Int) = l[j] := by
  simp [rd_T42, List.getD_eq_getElem?_getD, List.getElem?_eq_getElem h]
theorem pr_drop {l : List S42} {j : Nat} (h : j < l.length) : l.drop j = rd_T42 l (j : Int) :: l.drop (j + 1) := by
  rw [pr_nat h, List.drop_eq_getElem_cons h]
theorem pr_prev (l : List S42) (j : Nat) : prP l (j + 1) = some (rd_T42 l (j : Int)).f0 := by
  unfold prP rd_T42
  rw [if_neg (by omega), Int.toNat_natCast, Nat.add_sub_cancel]
theorem prB_len {l : List S42} (h : prB l = true) : l.length ≤ 48 := by
  unfold prB at h
  rw [Bool.and_eq_true, decide_eq_true_eq] at h
  exact h.1
def prJ (l : List S42) (j : Nat) : Bool := prG (prP l j) (l.drop j)
theorem prJ_end {l : List S42} {j : Nat} (h : ¬ j < l.length) : prJ l j = true := by
  unfold prJ
  rw [List.drop_of_length_le (by omega)]
  rfl
theorem prJ_step {l : List S42} {j : Nat} (h : j < l.length) :
    prJ l j = ((keyB (rd_T42 l (j : Int)).f0 && (l1B (rd_T42 l (j : Int)).f1 0 999 && (if j = 0 then true else ltB (rd_T42 l ((j - 1 : Nat) : Int)).f0 (rd_T42 l (j : Int)).f0))) && prJ l (j + 1)) := by
  unfold prJ
  rw [pr_drop h, pr_prev]
  simp only [prG]
  unfold okP
  by_cases hj : j = 0
  · subst hj
    simp [prP, aboveP, Bool.and_assoc]
  · obtain ⟨i, rfl⟩ : ∃ i, j = i + 1 := ⟨j - 1, by omega⟩
    rw [pr_prev, if_neg hj, Nat.add_sub_cancel]
    simp [aboveP, Bool.and_assoc]

/-! The place of a key among pairs in order. -/
theorem less_irr : ∀ x : List UInt8, Op.bytesLess x x = false
  | [] => rfl
  | a :: x => by simp [Op.bytesLess, less_irr x]
theorem less_trans : ∀ x y z : List UInt8, Op.bytesLess x y = true → Op.bytesLess y z = true → Op.bytesLess x z = true
  | [], [], _, h, _ => by cases h
  | [], _ :: _, [], _, h => by cases h
  | [], _ :: _, _ :: _, _, _ => rfl
  | _ :: _, [], _, h, _ => by cases h
  | _ :: _, _ :: _, [], _, h => by cases h
  | a :: x, b :: y, c :: z, h, k => by
    simp only [Op.bytesLess, Bool.or_eq_true, Bool.and_eq_true, decide_eq_true_eq, beq_iff_eq] at h k ⊢
    rcases h with h | ⟨h1, h2⟩
    · rcases k with k | ⟨k1, k2⟩
      · exact .inl (UInt8.lt_trans h k)
      · subst k1; exact .inl h
    · subst h1
      rcases k with k | ⟨k1, k2⟩
      · exact .inl k
      · exact .inr ⟨k1, less_trans x y z h2 k2⟩
theorem ltB_irr (a : ByteArray) : ltB a a = false := less_irr _
theorem ltB_trans {a b c : ByteArray} (h : ltB a b = true) (k : ltB b c = true) : ltB a c = true := less_trans _ _ _ h k
theorem ltB_tri {a b : ByteArray} (h : ltB a b = false) (k : ltB b a = false) : a = b := by
  have ht := less_total a.toList b.toList
  unfold ltB at h k
  rw [h, k] at ht
  exact ba_inj (by simpa using ht)
theorem ltB_le {a b c : ByteArray} (h : ltB a b = false) (k : ltB a c = true) : ltB b c = true := by
  cases hb : ltB b a with
  | true => exact ltB_trans hb k
  | false => rw [← ltB_tri h hb]; exact k
theorem prG_all (l : List S42) : ∀ q : ByteArray, prG (some q) l = true → ∀ x ∈ l, ltB q x.f0 = true := by
  induction l with
  | nil => intro q _ x hx; cases hx
  | cons s r ih =>
    intro q h x hx
    simp only [prG, Bool.and_eq_true] at h
    have h1 : ltB q s.f0 = true := h.2.1
    rcases List.mem_cons.mp hx with rfl | hx
    · exact h1
    · exact ltB_trans h1 (ih s.f0 h.2.2 x hx)
theorem prG_order (l : List S42) : ∀ p : Option ByteArray, prG p l = true → l.Pairwise (fun a b => ltB a.f0 b.f0 = true) := by
  induction l with
  | nil => intro p _; exact List.Pairwise.nil
  | cons s r ih =>
    intro p h
    simp only [prG, Bool.and_eq_true] at h
    exact List.Pairwise.cons (prG_all r s.f0 h.2.2) (ih _ h.2.2)
theorem prB_order {l : List S42} (h : prB l = true) : l.Pairwise (fun a b => ltB a.f0 b.f0 = true) := by
  unfold prB at h
  rw [Bool.and_eq_true] at h
  exact prG_order l none h.2
def placeP (l : List S42) (c : ByteArray) : Nat → Nat → Nat → Nat
  | 0, lo, _ => lo
  | d + 1, lo, hi => if lo < hi then (if ltB (rd_T42 l (((lo + hi) / 2 : Nat) : Int)).f0 c = true then placeP l c d ((lo + hi) / 2 + 1) hi else placeP l c d lo ((lo + hi) / 2)) else lo
def atP (l : List S42) (c : ByteArray) : Nat := (l.takeWhile fun p => ltB p.f0 c).length
theorem take_len {α : Type} {p : α → Bool} : ∀ (l : List α) (R : Nat), R ≤ l.length → (∀ i (h : i < l.length), i < R → p l[i] = true) → (∀ h : R < l.length, p l[R] = false) → (l.takeWhile p).length = R
  | [], R, h, _, _ => by simp at h; simp [h]
  | x :: r, 0, _, _, h => by
    have := h (by simp)
    simp only [List.getElem_cons_zero] at this
    simp [List.takeWhile_cons, this]
  | x :: r, R + 1, h, h1, h2 => by
    have h0 := h1 0 (by simp) (by omega)
    simp only [List.getElem_cons_zero] at h0
    rw [List.takeWhile_cons, if_pos h0, List.length_cons, take_len r R (by simpa using h) (fun i hi hR => by have := h1 (i + 1) (by simpa using hi) (by omega); simpa using this) (fun hR => by have := h2 (by simpa using hR); simpa using this)]
theorem atP_le (l : List S42) (c : ByteArray) : atP l c ≤ l.length := by
  unfold atP
  induction l with
  | nil => simp
  | cons x r ih =>
    rw [List.takeWhile_cons]
    split
    · rw [List.length_cons, List.length_cons]; omega
    · simp
theorem placeP_spec {l : List S42} (ho : l.Pairwise (fun a b => ltB a.f0 b.f0 = true)) (c : ByteArray) : ∀ (d lo hi : Nat), lo ≤ hi → hi ≤ l.length → hi - lo ≤ d →
    (∀ i (h : i < l.length), i < lo → ltB l[i].f0 c = true) → (∀ i (h : i < l.length), hi ≤ i → ltB l[i].f0 c = false) →
    placeP l c d lo hi ≤ l.length ∧ (∀ i (h : i < l.length), i < placeP l c d lo hi → ltB l[i].f0 c = true) ∧ (∀ i (h : i < l.length), placeP l c d lo hi ≤ i → ltB l[i].f0 c = false)
  | 0, lo, hi, h1, h2, h3, h4, h5 => by
    obtain rfl : lo = hi := by omega
    exact ⟨h2, h4, h5⟩
  | d + 1, lo, hi, h1, h2, h3, h4, h5 => by
    rw [placeP]
    by_cases hlt : lo < hi
    · rw [if_pos hlt]
      have hm : (lo + hi) / 2 < l.length := by omega
      rw [pr_nat hm]
      have hord : ∀ i j (hi : i < l.length) (hj : j < l.length), i < j → ltB l[i].f0 l[j].f0 = true := fun i j hi hj hij => List.pairwise_iff_getElem.mp ho i j hi hj hij
      by_cases hc : ltB (l[(lo + hi) / 2]'hm).f0 c = true
      · rw [if_pos hc]
        refine placeP_spec ho c d _ _ (by omega) h2 (by omega) (fun i hil hlo => ?_) h5
        rcases Nat.lt_or_eq_of_le (show i ≤ (lo + hi) / 2 by omega) with h | h
        · exact ltB_trans (hord i _ hil hm h) hc
        · subst h; exact hc
      · rw [if_neg hc]
        refine placeP_spec ho c d _ _ (by omega) (by omega) (by omega) h4 (fun i hil hlo => ?_)
        rcases Nat.lt_or_eq_of_le (show (lo + hi) / 2 ≤ i by omega) with h | h
        · cases hh : ltB l[i].f0 c with
          | false => rfl
          | true => exact absurd (ltB_trans (hord _ i hm hil h) hh) hc
        · subst h; exact Bool.eq_false_iff.mpr hc
    · rw [if_neg hlt]
      obtain rfl : lo = hi := by omega
      exact ⟨h2, h4, h5⟩
theorem placeP_at {l : List S42} (h : prB l = true) (c : ByteArray) : placeP l c l.length 0 l.length = atP l c := by
  obtain ⟨h1, h2, h3⟩ := placeP_spec (prB_order h) c l.length 0 l.length (Nat.zero_le _) (Nat.le_refl _) (by omega) (fun i _ hi => absurd hi (Nat.not_lt_zero _)) (fun i hil hi => by omega)
  exact (take_len l _ h1 h2 (fun h => h3 _ h (Nat.le_refl _))).symm
def hitM (l : List S42) (c : ByteArray) : Bool := decide (atP l c < l.length) && decide ((rd_T42 l ((atP l c : Nat) : Int)).f0 = c)
def getM (l : List S42) (c : ByteArray) : Int := if prB l && hitM l c then (rd_T42 l ((atP l c : Nat) : Int)).f1 else -1
def putM (l : List S42) (c : ByteArray) (v : Int) : List S42 × Bool :=
  if prB l && (keyB c && l1B v 0 999) then (if hitM l c then ((l.take (atP l c) ++ [⟨c, v⟩]) ++ l.drop (atP l c + 1), true) else if 48 ≤ l.length then (l, false) else ((l.take (atP l c) ++ [⟨c, v⟩]) ++ l.drop (atP l c), true)) else ([], false)
def dropM (l : List S42) (c : ByteArray) : List S42 × Bool :=
  if prB l then (if hitM l c then (l.take (atP l c) ++ l.drop (atP l c + 1), true) else (l, false)) else ([], false)
theorem hit_true {l : List S42} {c : ByteArray} (h : hitM l c = true) : atP l c < l.length ∧ (rd_T42 l ((atP l c : Nat) : Int)).f0 = c ∧ ((rd_T42 l ((atP l c : Nat) : Int)).f0.toList == c.toList) = true := by
  unfold hitM at h
  rw [Bool.and_eq_true, decide_eq_true_eq, decide_eq_true_eq] at h
  exact ⟨h.1, h.2, by rw [str_beq, decide_eq_true h.2]⟩
theorem hit_false {l : List S42} {c : ByteArray} (h : hitM l c = false) (hlt : atP l c < l.length) : ((rd_T42 l ((atP l c : Nat) : Int)).f0.toList == c.toList) = false := by
  unfold hitM at h
  rw [decide_eq_true hlt, Bool.true_and, decide_eq_false_iff_not] at h
  rw [str_beq, decide_eq_false h]

theorem atP_step {l : List S42} {j : Nat} {c : ByteArray} (h : ∀ i (hi : i < l.length), i < j → ltB l[i].f0 c = true) (hj : j ≤ l.length) (hs : ∀ hl : j < l.length, ltB l[j].f0 c = false) : atP l c = j := take_len l j hj h hs
theorem spec_l4Place.M (A0 : Option Addr) (c0 : Nat) (l : List S42) (c : ByteArray) (w : World) (hr0 : Kd.C k42 w A0 l.length l) : Calls Try.prog 75 #[.slice A0 l.length c0, .string c] w fun e w' => e = .returned (.int .i64 ((atP l c : Nat) : Int)) ∧ Below w.heap.size w w' := by
  have B := Aside0.mk (Below.refl w.heap.size w)
  have HR0 := Aside0.mk hr0
  have L63 := Aside0.mk hr0.2.1
  clear hr0
  go_enter Try.func75, Try.ntmps75
  go_wp2
  go_loopg [5] (l.length + 1) (fun kx v5 wr => ∃ j : Nat, v5 = .int .i64 (j : Int) ∧ j ≤ l.length ∧ l.length < j + kx ∧ Aside0 (Below w.heap.size w wr) ∧ Aside0 (∀ i (hi : i < l.length), i < j → ltB l[i].f0 c = true))
  case atStart => exact ⟨0, rfl, by omega, by omega, B, ⟨fun i _ h => absurd h (Nat.not_lt_zero _)⟩⟩
  case round =>
    clear B
    obtain ⟨j, rfl, hj, hk, B, H⟩ := hrel
    have h63 := L63.out
    by_cases hlt : j < l.length
    · obtain ⟨d, rfl⟩ : ∃ d, gk = d + 1 := ⟨gk - 1, by omega⟩
      have cj : decide ((j : Int) < (l.length : Int)) = true := decide_eq_true (by omega)
      obtain ⟨ad, hA, y0, y1⟩ := at_T42 (cb HR0 B) (j : Int) (by omega) (by omega)
      cases hA
      rw [Int.toNat_natCast] at y0 y1
      have j1 := eq_true (show (j : Int) < (l.length : Int) by omega)
      have j2 := eq_true hlt
      have hy : rd_T42 l (j : Int) = l[j] := pr_nat hlt
      generalize rd_T42 l (j : Int) = y at *
      have HY := Aside0.mk hy
      clear hy
      cases hb : Op.bytesLess y.f0.toList c.toList with
      | true =>
        go_wp2
        go_roundg d
        case measure => omega
        case rel => exact ⟨j + 1, congrArg (Value.int .i64) (Int.natCast_succ _).symm, by omega, by omega, B, ⟨fun i hi h => by
          rcases Nat.lt_or_eq_of_le (show i ≤ j by omega) with h' | h'
          · exact H.out i hi h'
          · subst h'; rw [← HY.out]; exact hb⟩⟩
      | false =>
        have hr := atP_step H.out hj (fun _ => by rw [← HY.out]; exact hb)
        go_wp2
        go_ret
        exact ⟨by rw [hr]; rfl, B.out⟩
    · have cj : decide ((j : Int) < (l.length : Int)) = false := decide_eq_false (by omega)
      have hr := atP_step H.out hj (fun h => absurd h hlt)
      go_wp2
      go_ret
      exact ⟨by rw [hr]; rfl, B.out⟩

def spec_PairsValid.T6 : Bool × List (List Nat × List Nat) := (true, [([], []), ([], []), ([0, 1], [0, 1]), ([2], [2]), ([3], [3]), ([4], [4]), ([5], [5]), ([6, 5], [6]), ([7], [7]), ([7], [7]), ([8, 9, 7], [7, 8, 9]), ([10, 7], [7, 10]), ([11, 7], [7, 11]), ([12, 7, 7], [7, 12]), ([13, 7], [7, 13]), ([7, 14], [7, 14]), ([15, 13], [15]), ([16], [16]), ([17, 16], [16, 17]), ([18, 16, 16], [16, 18]), ([19], [19]), ([19], [19]), ([20, 21, 19], [19, 20, 21]), ([22, 19], [19, 22]), ([23, 19], [19, 23]), ([19], [19]), ([19], [19]), ([26, 19], [19, 26]), ([25, 27, 19], [19, 25, 27]), ([28, 19], [19, 28]), ([29, 19], [19, 29]), ([24, 30, 19], [19, 24, 30]), ([19, 31, 16], [16, 19, 31]), ([16, 32], [16, 32])])
def spec_PairsValid.B6 : List Nat := [0, 0, 3, 7, 15, 31, 63, 127, 255, 255, 1023, 2047, 4095, 8191, 16383, 32767, 65535, 131071, 262143, 524287, 1048575, 1048575, 4194303, 8388607, 16777215, 1048575, 1048575, 68157439, 235929599, 504365055, 1041235967, 2147483647, 4294967295, 8589934591]
theorem spec_PairsValid.tab6 : rtab .any (opsOf Try.f41 6) = spec_PairsValid.T6 := by kernel_rfl
theorem spec_PairsValid.bits6 : waitsOk spec_PairsValid.T6.2 spec_PairsValid.B6 = true := by kernel_rfl
theorem spec_PairsValid.M (A0 : Option Addr) (c0 : Nat) (l : List S42) (w : World) (hr0 : Kd.C k42 w A0 l.length l) : Calls Try.prog 41 #[.slice A0 l.length c0] w fun e w' => e = .returned (.bool (prB l)) ∧ Below w.heap.size w w' := by
  have hu := Try.underlying42
  have B := Aside0.mk (Below.refl w.heap.size w)
  have HR0 := Aside0.mk hr0
  clear hr0
  obtain ⟨r, hr⟩ : ∃ r, prB l = r := ⟨_, rfl⟩
  rw [hr]
  unfold prB at hr
  by_cases hl : l.length ≤ 48
  · have H := Aside0.mk (show prJ l 0 = r by unfold prJ prP; simpa [hl] using hr)
    have cl0 : decide (48 < (l.length : Int)) = false := decide_eq_false (by omega)
    have L48 := Aside0.mk (show l.length ≤ 4611686018427387904 by omega)
    clear hl hr
    go_enter Try.func41, Try.ntmps41
    go_wp2
    go_loopg [3] (l.length + 1) (fun kx v3 wr => ∃ j : Nat, v3 = .int .i64 (j : Int) ∧ j ≤ l.length ∧ l.length < j + kx ∧ Aside0 (Below w.heap.size w wr) ∧ Aside0 (prJ l j = r))
    case atStart => exact ⟨0, rfl, by omega, by omega, B, H⟩
    case round =>
      clear H B
      obtain ⟨j, rfl, hj, hk, B, H⟩ := hrel
      by_cases hlt : j < l.length
      · have HS := Aside0.mk ((prJ_step hlt).symm.trans H.out)
        clear H
        obtain ⟨d, rfl⟩ : ∃ d, gk = d + 1 := ⟨gk - 1, by omega⟩
        have h48 := L48.out
        have cj : decide ((j : Int) < (l.length : Int)) = true := decide_eq_true (by omega)
        obtain ⟨ad, hA, y0, y1⟩ := at_T42 (cb HR0 B) (j : Int) (by omega) (by omega)
        cases hA
        rw [Int.toNat_natCast] at y0 y1
        have j1 := eq_true (show (j : Int) < (l.length : Int) by omega)
        have j2 := eq_true hlt
        generalize hy : rd_T42 l (j : Int) = y at *
        try go_wp2
        all_goals try (go_ret; exact ⟨andF HS.out (by grind [l1B, ltB]), B.out⟩)
        all_goals (
          refine rg (n := 34) (S := fun W => Kd.C k42 W (some ad) l.length l) (ds := []) #[false, false, false, false, false, false, false, false, false, false, false, false, false, false, false, false, false, false, false, false, false, false, false, false, false, false, false, false, false, false, false, false, false, false] (by kernel_rfl) rfl rfl (cb HR0 B) id B (fun w1 hb B hHeld => ?_)
          refine with_tabW spec_PairsValid.tab6 spec_PairsValid.bits6 (fun HT_ HW_ => ?_)
          clear hb
          refine pu (i := 0) (N := some 13) (v := ?_) (bits 34 1) rfl rfl (any_of HT_.out (by kernel_rfl)) (fun _ _ _ h => h) (by kernel_rfl) ?_ ?_; rotate_left; (intro w'; go_simp; with_reducible rfl)
          refine pu (i := 1) (N := some 14) (v := ?_) (bits 34 3) rfl rfl (any_of HT_.out (by kernel_rfl)) (fun _ _ _ h => h) (by kernel_rfl) ?_ ?_; rotate_left; (intro w'; go_simp; with_reducible rfl)
          refine pu (i := 2) (N := some 15) (v := ?_) (bits 34 7) rfl rfl (any_of HT_.out (by kernel_rfl)) (fun _ _ _ h => h) (by kernel_rfl) ?_ ?_; rotate_left; (intro w'; go_simp; with_reducible rfl)
          refine pu (i := 3) (N := some 16) (v := ?_) (bits 34 15) rfl rfl (any_of HT_.out (by kernel_rfl)) (fun _ _ _ h => h) (by kernel_rfl) ?_ ?_; rotate_left; (intro w'; go_simp; with_reducible rfl)
          refine ta (i := 4) (N := some 17) (v := ?_) (bits 34 31) rfl rfl (take_ofW HT_.out HW_.out (by kernel_rfl)) (fun _ _ _ h => h) (by kernel_rfl) hHeld ?_ ?_; rotate_left; (intro w' hS; have s0 := hS; obtain ⟨_, hA, q0, q1⟩ := at_T42 s0 (j : Int) (by omega) (by omega); cases hA; rw [Int.toNat_natCast] at q0 q1; rw [hy] at q0 q1; go_simp; with_reducible rfl)
          refine norm_ (a' := ?_) ?_ ?_
          rotate_left
          · simp only [Act.put, List.setIfInBounds_toArray, List.set_cons_zero, List.set_cons_succ, i64_w, i32_w]
            rfl
          refine one_ (i := 5) (N := some 18) (bits 34 63) rfl rfl (one_of HT_.out (by kernel_rfl)) (by decide) (fun K hK => ?_)
          rcases hq1 : (keyB y.f0) with _ | _
          · refine goes_ Try.func68 (by kernel_rfl) rfl #[.string y.f0] (by rfl) rfl rfl (by (try simp only [List.map_toArray, List.map_cons, List.map_nil]); rfl) ?_
            with_reducible refine cl (clv (spec_KeyValid.M y.f0 _) (congrArg Value.bool hq1)) B fun w2 hb B => ?_
            clear hb
            refine ⟨_, rfl, ?_⟩
            refine hK.out _ _ (cb HR0 B) (fun hHeld => ?_)
            clear hK K
            refine norm_ (a' := ?_) ?_ ?_
            rotate_left
            · show Act.put _ (some 18) _ = _
              simp only [Act.put, List.setIfInBounds_toArray, List.set_cons_zero, List.set_cons_succ, i64_w, i32_w]
              rfl
            refine pu (i := 6) (N := some 19) (v := ?_) (bits 34 127) rfl rfl (any_of HT_.out (by kernel_rfl)) (fun _ _ _ h => h) (by kernel_rfl) ?_ ?_; rotate_left; (intro w'; go_simp; with_reducible rfl)
            refine pu (i := 7) (N := some 20) (v := ?_) (bits 34 255) rfl rfl (any_of HT_.out (by kernel_rfl)) (fun _ _ _ h => h) (by kernel_rfl) ?_ ?_; rotate_left; (intro w'; go_simp; with_reducible rfl)
            refine sk (i := 8) (N := some 21) (bits 34 511) rfl rfl (any_of HT_.out (by kernel_rfl)) (fun _ _ _ h => h) (by kernel_rfl) ?_
            refine sk (i := 9) (N := some 22) (bits 34 1023) rfl rfl (any_of HT_.out (by kernel_rfl)) (fun _ _ _ h => h) (by kernel_rfl) ?_
            refine sk (i := 10) (N := some 23) (bits 34 2047) rfl rfl (any_of HT_.out (by kernel_rfl)) (fun _ _ _ h => h) (by kernel_rfl) ?_
            refine sk (i := 11) (N := some 24) (bits 34 4095) rfl rfl (any_of HT_.out (by kernel_rfl)) (fun _ _ _ h => h) (by kernel_rfl) ?_
            refine sk (i := 12) (N := some 25) (bits 34 8191) rfl rfl (any_of HT_.out (by kernel_rfl)) (fun _ _ _ h => h) (by kernel_rfl) ?_
            refine sk (i := 13) (N := some 26) (bits 34 16383) rfl rfl (any_of HT_.out (by kernel_rfl)) (fun _ _ _ h => h) (by kernel_rfl) ?_
            refine sk (i := 14) (N := some 27) (bits 34 32767) rfl rfl (any_of HT_.out (by kernel_rfl)) (fun _ _ _ h => h) (by kernel_rfl) ?_
            refine pu (i := 15) (N := some 28) (v := ?_) (bits 34 65535) rfl rfl (any_of HT_.out (by kernel_rfl)) (fun _ _ _ h => h) (by kernel_rfl) ?_ ?_; rotate_left; (intro w'; go_simp; with_reducible rfl)
            refine pu (i := 16) (N := some 29) (v := ?_) (bits 34 131071) rfl rfl (any_of HT_.out (by kernel_rfl)) (fun _ _ _ h => h) (by kernel_rfl) ?_ ?_; rotate_left; (intro w'; go_simp; with_reducible rfl)
            refine sk (i := 17) (N := some 30) (bits 34 262143) rfl rfl (any_of HT_.out (by kernel_rfl)) (fun _ _ _ h => h) (by kernel_rfl) ?_
            refine sk (i := 18) (N := some 31) (bits 34 524287) rfl rfl (any_of HT_.out (by kernel_rfl)) (fun _ _ _ h => h) (by kernel_rfl) ?_
            refine sk (i := 19) (N := some 32) (bits 34 1048575) rfl rfl (any_of HT_.out (by kernel_rfl)) (fun _ _ _ h => h) (by kernel_rfl) ?_
            refine sk (i := 20) (N := some 33) (bits 34 2097151) rfl rfl (any_of HT_.out (by kernel_rfl)) (fun _ _ _ h => h) (by kernel_rfl) ?_
            refine sk (i := 21) (N := some 34) (bits 34 4194303) rfl rfl (any_of HT_.out (by kernel_rfl)) (fun _ _ _ h => h) (by kernel_rfl) ?_
            refine sk (i := 22) (N := some 35) (bits 34 8388607) rfl rfl (any_of HT_.out (by kernel_rfl)) (fun _ _ _ h => h) (by kernel_rfl) ?_
            refine sk (i := 23) (N := some 36) (bits 34 16777215) rfl rfl (any_of HT_.out (by kernel_rfl)) (fun _ _ _ h => h) (by kernel_rfl) ?_
            refine sk (i := 24) (N := some 37) (bits 34 33554431) rfl rfl (any_of HT_.out (by kernel_rfl)) (fun _ _ _ h => h) (by kernel_rfl) ?_
            refine sk (i := 25) (N := some 38) (bits 34 67108863) rfl rfl (any_of HT_.out (by kernel_rfl)) (fun _ _ _ h => h) (by kernel_rfl) ?_
            refine sk (i := 26) (N := some 39) (bits 34 134217727) rfl rfl (any_of HT_.out (by kernel_rfl)) (fun _ _ _ h => h) (by kernel_rfl) ?_
            refine sk (i := 27) (N := some 40) (bits 34 268435455) rfl rfl (any_of HT_.out (by kernel_rfl)) (fun _ _ _ h => h) (by kernel_rfl) ?_
            refine sk (i := 28) (N := some 41) (bits 34 536870911) rfl rfl (any_of HT_.out (by kernel_rfl)) (fun _ _ _ h => h) (by kernel_rfl) ?_
            refine sk (i := 29) (N := some 42) (bits 34 1073741823) rfl rfl (any_of HT_.out (by kernel_rfl)) (fun _ _ _ h => h) (by kernel_rfl) ?_
            refine sk (i := 30) (N := some 43) (bits 34 2147483647) rfl rfl (any_of HT_.out (by kernel_rfl)) (fun _ _ _ h => h) (by kernel_rfl) ?_
            refine sk (i := 31) (N := some 44) (bits 34 4294967295) rfl rfl (any_of HT_.out (by kernel_rfl)) (fun _ _ _ h => h) (by kernel_rfl) ?_
            refine sk (i := 32) (N := some 45) (bits 34 8589934591) rfl rfl (any_of HT_.out (by kernel_rfl)) (fun _ _ _ h => h) (by kernel_rfl) ?_
            refine pu (i := 33) (N := some 46) (v := ?_) (bits 34 17179869183) rfl rfl (any_of HT_.out (by kernel_rfl)) (fun _ _ _ h => h) (by kernel_rfl) ?_ ?_; rotate_left; (intro w'; go_simp; with_reducible rfl)
            refine norm_ (a' := ?_) ?_ ?_
            rotate_left
            · simp only [Act.put, List.setIfInBounds_toArray, List.set_cons_zero, List.set_cons_succ, i64_w, i32_w]
              rfl
            refine done_ (done_of HT_.out (by kernel_rfl)) ?_
            try go_wp2
            all_goals first
              | (go_roundg d; (case measure => omega); (case rel => exact ⟨j + 1, congrArg (Value.int .i64) (Int.natCast_succ _).symm, by omega, by omega, B, ⟨andT HS.out (by grind [l1B, ltB])⟩⟩))
              | (go_ret; exact ⟨andF HS.out (by grind [l1B, ltB]), B.out⟩)
          · refine goes_ Try.func68 (by kernel_rfl) rfl #[.string y.f0] (by rfl) rfl rfl (by (try simp only [List.map_toArray, List.map_cons, List.map_nil]); rfl) ?_
            with_reducible refine cl (clv (spec_KeyValid.M y.f0 _) (congrArg Value.bool hq1)) B fun w2 hb B => ?_
            clear hb
            refine ⟨_, rfl, ?_⟩
            refine hK.out _ _ (cb HR0 B) (fun hHeld => ?_)
            clear hK K
            refine norm_ (a' := ?_) ?_ ?_
            rotate_left
            · show Act.put _ (some 18) _ = _
              simp only [Act.put, List.setIfInBounds_toArray, List.set_cons_zero, List.set_cons_succ, i64_w, i32_w]
              rfl
            refine pu (i := 6) (N := some 19) (v := ?_) (bits 34 127) rfl rfl (any_of HT_.out (by kernel_rfl)) (fun _ _ _ h => h) (by kernel_rfl) ?_ ?_; rotate_left; (intro w'; go_simp; with_reducible rfl)
            refine pu (i := 7) (N := some 20) (v := ?_) (bits 34 255) rfl rfl (any_of HT_.out (by kernel_rfl)) (fun _ _ _ h => h) (by kernel_rfl) ?_ ?_; rotate_left; (intro w'; go_simp; with_reducible rfl)
            refine pu (i := 8) (N := some 21) (v := ?_) (bits 34 511) rfl rfl (any_of HT_.out (by kernel_rfl)) (fun _ _ _ h => h) (by kernel_rfl) ?_ ?_; rotate_left; (intro w'; go_simp; with_reducible rfl)
            refine pu (i := 9) (N := some 22) (v := ?_) (bits 34 1023) rfl rfl (any_of HT_.out (by kernel_rfl)) (fun _ _ _ h => h) (by kernel_rfl) ?_ ?_; rotate_left; (intro w'; go_simp; with_reducible rfl)
            refine pu (i := 10) (N := some 23) (v := ?_) (bits 34 2047) rfl rfl (any_of HT_.out (by kernel_rfl)) (fun _ _ _ h => h) (by kernel_rfl) ?_ ?_; rotate_left; (intro w'; go_simp; with_reducible rfl)
            refine pu (i := 11) (N := some 24) (v := ?_) (bits 34 4095) rfl rfl (any_of HT_.out (by kernel_rfl)) (fun _ _ _ h => h) (by kernel_rfl) ?_ ?_; rotate_left; (intro w'; go_simp; with_reducible rfl)
            refine ta (i := 12) (N := some 25) (v := ?_) (bits 34 8191) rfl rfl (take_ofW HT_.out HW_.out (by kernel_rfl)) (fun _ _ _ h => h) (by kernel_rfl) hHeld ?_ ?_; rotate_left; (intro w' hS; have s0 := hS; obtain ⟨_, hA, q0, q1⟩ := at_T42 s0 (j : Int) (by omega) (by omega); cases hA; rw [Int.toNat_natCast] at q0 q1; rw [hy] at q0 q1; go_simp; with_reducible rfl)
            refine norm_ (a' := ?_) ?_ ?_
            rotate_left
            · simp only [Act.put, List.setIfInBounds_toArray, List.set_cons_zero, List.set_cons_succ, i64_w, i32_w]
              rfl
            refine one_ (i := 13) (N := some 26) (bits 34 16383) rfl rfl (one_of HT_.out (by kernel_rfl)) (by decide) (fun K hK => ?_)
            rcases hq2 : (l1B y.f1 0 999) with _ | _
            · refine goes_ Try.func74 (by kernel_rfl) rfl #[.int .i64 (y.f1), .int .i64 (0), .int .i64 (999)] (by rfl) rfl rfl (by (try simp only [List.map_toArray, List.map_cons, List.map_nil]); rfl) ?_
              with_reducible refine cl (clv (spec_l1In.M y.f1 0 999 _) (congrArg Value.bool hq2)) B fun w3 hb B => ?_
              clear hb
              refine ⟨_, rfl, ?_⟩
              refine hK.out _ _ (cb HR0 B) (fun hHeld => ?_)
              clear hK K
              refine norm_ (a' := ?_) ?_ ?_
              rotate_left
              · show Act.put _ (some 26) _ = _
                simp only [Act.put, List.setIfInBounds_toArray, List.set_cons_zero, List.set_cons_succ, i64_w, i32_w]
                rfl
              refine pu (i := 14) (N := some 27) (v := ?_) (bits 34 32767) rfl rfl (any_of HT_.out (by kernel_rfl)) (fun _ _ _ h => h) (by kernel_rfl) ?_ ?_; rotate_left; (intro w'; go_simp; with_reducible rfl)
              refine pu (i := 15) (N := some 28) (v := ?_) (bits 34 65535) rfl rfl (any_of HT_.out (by kernel_rfl)) (fun _ _ _ h => h) (by kernel_rfl) ?_ ?_; rotate_left; (intro w'; go_simp; with_reducible rfl)
              refine pu (i := 16) (N := some 29) (v := ?_) (bits 34 131071) rfl rfl (any_of HT_.out (by kernel_rfl)) (fun _ _ _ h => h) (by kernel_rfl) ?_ ?_; rotate_left; (intro w'; go_simp; with_reducible rfl)
              refine sk (i := 17) (N := some 30) (bits 34 262143) rfl rfl (any_of HT_.out (by kernel_rfl)) (fun _ _ _ h => h) (by kernel_rfl) ?_
              refine sk (i := 18) (N := some 31) (bits 34 524287) rfl rfl (any_of HT_.out (by kernel_rfl)) (fun _ _ _ h => h) (by kernel_rfl) ?_
              refine sk (i := 19) (N := some 32) (bits 34 1048575) rfl rfl (any_of HT_.out (by kernel_rfl)) (fun _ _ _ h => h) (by kernel_rfl) ?_
              refine sk (i := 20) (N := some 33) (bits 34 2097151) rfl rfl (any_of HT_.out (by kernel_rfl)) (fun _ _ _ h => h) (by kernel_rfl) ?_
              refine sk (i := 21) (N := some 34) (bits 34 4194303) rfl rfl (any_of HT_.out (by kernel_rfl)) (fun _ _ _ h => h) (by kernel_rfl) ?_
              refine sk (i := 22) (N := some 35) (bits 34 8388607) rfl rfl (any_of HT_.out (by kernel_rfl)) (fun _ _ _ h => h) (by kernel_rfl) ?_
              refine sk (i := 23) (N := some 36) (bits 34 16777215) rfl rfl (any_of HT_.out (by kernel_rfl)) (fun _ _ _ h => h) (by kernel_rfl) ?_
              refine sk (i := 24) (N := some 37) (bits 34 33554431) rfl rfl (any_of HT_.out (by kernel_rfl)) (fun _ _ _ h => h) (by kernel_rfl) ?_
              refine sk (i := 25) (N := some 38) (bits 34 67108863) rfl rfl (any_of HT_.out (by kernel_rfl)) (fun _ _ _ h => h) (by kernel_rfl) ?_
              refine sk (i := 26) (N := some 39) (bits 34 134217727) rfl rfl (any_of HT_.out (by kernel_rfl)) (fun _ _ _ h => h) (by kernel_rfl) ?_
              refine sk (i := 27) (N := some 40) (bits 34 268435455) rfl rfl (any_of HT_.out (by kernel_rfl)) (fun _ _ _ h => h) (by kernel_rfl) ?_
              refine sk (i := 28) (N := some 41) (bits 34 536870911) rfl rfl (any_of HT_.out (by kernel_rfl)) (fun _ _ _ h => h) (by kernel_rfl) ?_
              refine sk (i := 29) (N := some 42) (bits 34 1073741823) rfl rfl (any_of HT_.out (by kernel_rfl)) (fun _ _ _ h => h) (by kernel_rfl) ?_
              refine sk (i := 30) (N := some 43) (bits 34 2147483647) rfl rfl (any_of HT_.out (by kernel_rfl)) (fun _ _ _ h => h) (by kernel_rfl) ?_
              refine sk (i := 31) (N := some 44) (bits 34 4294967295) rfl rfl (any_of HT_.out (by kernel_rfl)) (fun _ _ _ h => h) (by kernel_rfl) ?_
              refine sk (i := 32) (N := some 45) (bits 34 8589934591) rfl rfl (any_of HT_.out (by kernel_rfl)) (fun _ _ _ h => h) (by kernel_rfl) ?_
              refine pu (i := 33) (N := some 46) (v := ?_) (bits 34 17179869183) rfl rfl (any_of HT_.out (by kernel_rfl)) (fun _ _ _ h => h) (by kernel_rfl) ?_ ?_; rotate_left; (intro w'; go_simp; with_reducible rfl)
              refine norm_ (a' := ?_) ?_ ?_
              rotate_left
              · simp only [Act.put, List.setIfInBounds_toArray, List.set_cons_zero, List.set_cons_succ, i64_w, i32_w]
                rfl
              refine done_ (done_of HT_.out (by kernel_rfl)) ?_
              try go_wp2
              all_goals first
                | (go_roundg d; (case measure => omega); (case rel => exact ⟨j + 1, congrArg (Value.int .i64) (Int.natCast_succ _).symm, by omega, by omega, B, ⟨andT HS.out (by grind [l1B, ltB])⟩⟩))
                | (go_ret; exact ⟨andF HS.out (by grind [l1B, ltB]), B.out⟩)
            · refine goes_ Try.func74 (by kernel_rfl) rfl #[.int .i64 (y.f1), .int .i64 (0), .int .i64 (999)] (by rfl) rfl rfl (by (try simp only [List.map_toArray, List.map_cons, List.map_nil]); rfl) ?_
              with_reducible refine cl (clv (spec_l1In.M y.f1 0 999 _) (congrArg Value.bool hq2)) B fun w3 hb B => ?_
              clear hb
              refine ⟨_, rfl, ?_⟩
              refine hK.out _ _ (cb HR0 B) (fun hHeld => ?_)
              clear hK K
              refine norm_ (a' := ?_) ?_ ?_
              rotate_left
              · show Act.put _ (some 26) _ = _
                simp only [Act.put, List.setIfInBounds_toArray, List.set_cons_zero, List.set_cons_succ, i64_w, i32_w]
                rfl
              refine pu (i := 14) (N := some 27) (v := ?_) (bits 34 32767) rfl rfl (any_of HT_.out (by kernel_rfl)) (fun _ _ _ h => h) (by kernel_rfl) ?_ ?_; rotate_left; (intro w'; go_simp; with_reducible rfl)
              refine pu (i := 15) (N := some 28) (v := ?_) (bits 34 65535) rfl rfl (any_of HT_.out (by kernel_rfl)) (fun _ _ _ h => h) (by kernel_rfl) ?_ ?_; rotate_left; (intro w'; go_simp; with_reducible rfl)
              refine pu (i := 16) (N := some 29) (v := ?_) (bits 34 131071) rfl rfl (any_of HT_.out (by kernel_rfl)) (fun _ _ _ h => h) (by kernel_rfl) ?_ ?_; rotate_left; (intro w'; go_simp; with_reducible rfl)
              refine pu (i := 17) (N := some 30) (v := ?_) (bits 34 262143) rfl rfl (any_of HT_.out (by kernel_rfl)) (fun _ _ _ h => h) (by kernel_rfl) ?_ ?_; rotate_left; (intro w'; go_simp; with_reducible rfl)
              by_cases hz : j = 0
              · rw [if_pos hz] at HS
                have dz : decide (0 < (j : Int)) = false := decide_eq_false (by omega)
                have dz2 : decide (0 < j) = false := decide_eq_false (by omega)
                clear hz
                refine pu (i := 18) (N := some 31) (v := ?_) (bits 34 524287) rfl rfl (any_of HT_.out (by kernel_rfl)) (fun _ _ _ h => h) (by kernel_rfl) ?_ ?_; rotate_left; (intro w'; go_simp; with_reducible rfl)
                refine pu (i := 19) (N := some 32) (v := ?_) (bits 34 1048575) rfl rfl (any_of HT_.out (by kernel_rfl)) (fun _ _ _ h => h) (by kernel_rfl) ?_ ?_; rotate_left; (intro w'; go_simp; with_reducible rfl)
                refine sk (i := 20) (N := some 33) (bits 34 2097151) rfl rfl (any_of HT_.out (by kernel_rfl)) (fun _ _ _ h => h) (by kernel_rfl) ?_
                refine sk (i := 21) (N := some 34) (bits 34 4194303) rfl rfl (any_of HT_.out (by kernel_rfl)) (fun _ _ _ h => h) (by kernel_rfl) ?_
                refine sk (i := 22) (N := some 35) (bits 34 8388607) rfl rfl (any_of HT_.out (by kernel_rfl)) (fun _ _ _ h => h) (by kernel_rfl) ?_
                refine sk (i := 23) (N := some 36) (bits 34 16777215) rfl rfl (any_of HT_.out (by kernel_rfl)) (fun _ _ _ h => h) (by kernel_rfl) ?_
                refine sk (i := 24) (N := some 37) (bits 34 33554431) rfl rfl (any_of HT_.out (by kernel_rfl)) (fun _ _ _ h => h) (by kernel_rfl) ?_
                refine sk (i := 25) (N := some 38) (bits 34 67108863) rfl rfl (any_of HT_.out (by kernel_rfl)) (fun _ _ _ h => h) (by kernel_rfl) ?_
                refine sk (i := 26) (N := some 39) (bits 34 134217727) rfl rfl (any_of HT_.out (by kernel_rfl)) (fun _ _ _ h => h) (by kernel_rfl) ?_
                refine sk (i := 27) (N := some 40) (bits 34 268435455) rfl rfl (any_of HT_.out (by kernel_rfl)) (fun _ _ _ h => h) (by kernel_rfl) ?_
                refine sk (i := 28) (N := some 41) (bits 34 536870911) rfl rfl (any_of HT_.out (by kernel_rfl)) (fun _ _ _ h => h) (by kernel_rfl) ?_
                refine sk (i := 29) (N := some 42) (bits 34 1073741823) rfl rfl (any_of HT_.out (by kernel_rfl)) (fun _ _ _ h => h) (by kernel_rfl) ?_
                refine sk (i := 30) (N := some 43) (bits 34 2147483647) rfl rfl (any_of HT_.out (by kernel_rfl)) (fun _ _ _ h => h) (by kernel_rfl) ?_
                refine sk (i := 31) (N := some 44) (bits 34 4294967295) rfl rfl (any_of HT_.out (by kernel_rfl)) (fun _ _ _ h => h) (by kernel_rfl) ?_
                refine pu (i := 32) (N := some 45) (v := ?_) (bits 34 8589934591) rfl rfl (any_of HT_.out (by kernel_rfl)) (fun _ _ _ h => h) (by kernel_rfl) ?_ ?_; rotate_left; (intro w'; go_simp; with_reducible rfl)
                refine pu (i := 33) (N := some 46) (v := ?_) (bits 34 17179869183) rfl rfl (any_of HT_.out (by kernel_rfl)) (fun _ _ _ h => h) (by kernel_rfl) ?_ ?_; rotate_left; (intro w'; go_simp; with_reducible rfl)
                refine norm_ (a' := ?_) ?_ ?_
                rotate_left
                · simp only [Act.put, List.setIfInBounds_toArray, List.set_cons_zero, List.set_cons_succ, i64_w, i32_w]
                  rfl
                refine done_ (done_of HT_.out (by kernel_rfl)) ?_
                try go_wp2
                all_goals first
                  | (go_roundg d; (case measure => omega); (case rel => exact ⟨j + 1, congrArg (Value.int .i64) (Int.natCast_succ _).symm, by omega, by omega, B, ⟨andT HS.out (by grind [l1B, ltB])⟩⟩))
                  | (go_ret; exact ⟨andF HS.out (by grind [l1B, ltB]), B.out⟩)
              · rw [if_neg hz] at HS
                have dz : decide (0 < (j : Int)) = true := decide_eq_true (by omega)
                have dz2 : decide (0 < j) = true := decide_eq_true (by omega)
                obtain ⟨i, hi⟩ : ∃ i, j - 1 = i := ⟨_, rfl⟩
                rw [hi] at HS
                have WI := Aside0.mk (show (j : Int) - 1 = (i : Int) by omega)
                have hij : i < l.length := by omega
                have IW := Aside0.mk (show wrap64 (i : Int) = (i : Int) by unfold wrap64; omega)
                have i1 := eq_true (show (i : Int) < (l.length : Int) by omega)
                have i2 := eq_true hij
                generalize hx : rd_T42 l (i : Int) = x at HS
                clear hz hi
                refine pu (i := 18) (N := some 31) (v := ?_) (bits 34 524287) rfl rfl (any_of HT_.out (by kernel_rfl)) (fun _ _ _ h => h) (by kernel_rfl) ?_ ?_; rotate_left; (intro w'; go_simp; with_reducible rfl)
                refine pu (i := 19) (N := some 32) (v := ?_) (bits 34 1048575) rfl rfl (any_of HT_.out (by kernel_rfl)) (fun _ _ _ h => h) (by kernel_rfl) ?_ ?_; rotate_left; (intro w'; go_simp; with_reducible rfl)
                refine pu (i := 20) (N := some 33) (v := ?_) (bits 34 2097151) rfl rfl (any_of HT_.out (by kernel_rfl)) (fun _ _ _ h => h) (by kernel_rfl) ?_ ?_; rotate_left; (intro w'; go_simp; with_reducible rfl)
                refine pu (i := 21) (N := some 34) (v := ?_) (bits 34 4194303) rfl rfl (any_of HT_.out (by kernel_rfl)) (fun _ _ _ h => h) (by kernel_rfl) ?_ ?_; rotate_left; (intro w'; go_simp; with_reducible rfl)
                refine pu (i := 22) (N := some 35) (v := ?_) (bits 34 8388607) rfl rfl (any_of HT_.out (by kernel_rfl)) (fun _ _ _ h => h) (by kernel_rfl) ?_ ?_; rotate_left; (intro w'; go_simp; with_reducible rfl)
                refine pu (i := 23) (N := some 36) (v := ?_) (bits 34 16777215) rfl rfl (any_of HT_.out (by kernel_rfl)) (fun _ _ _ h => h) (by kernel_rfl) ?_ ?_; rotate_left; (intro w'; go_simp; with_reducible rfl)
                refine ta (i := 24) (N := some 37) (v := ?_) (bits 34 33554431) rfl rfl (take_ofW HT_.out HW_.out (by kernel_rfl)) (fun _ _ _ h => h) (by kernel_rfl) hHeld ?_ ?_; rotate_left; (intro w' hS; have s0 := hS; obtain ⟨_, hA, q0, q1⟩ := at_T42 s0 (j : Int) (by omega) (by omega); cases hA; rw [Int.toNat_natCast] at q0 q1; rw [hy] at q0 q1; go_simp; with_reducible rfl)
                refine pu (i := 25) (N := some 38) (v := ?_) (bits 34 67108863) rfl rfl (any_of HT_.out (by kernel_rfl)) (fun _ _ _ h => h) (by kernel_rfl) ?_ ?_; rotate_left; (intro w'; go_simp; with_reducible rfl)
                refine pu (i := 26) (N := some 39) (v := ?_) (bits 34 134217727) rfl rfl (any_of HT_.out (by kernel_rfl)) (fun _ _ _ h => h) (by kernel_rfl) ?_ ?_; rotate_left; (intro w'; go_simp; with_reducible rfl)
                refine pu (i := 27) (N := some 40) (v := .int .i64 ((i : Int))) (bits 34 268435455) rfl rfl (any_of HT_.out (by kernel_rfl)) (fun _ _ _ h => h) (by kernel_rfl) ?_ ?_; (intro w'; go_simp; rw [WI.out]; exact (i64_w _).trans IW.out)
                refine pu (i := 28) (N := some 41) (v := ?_) (bits 34 536870911) rfl rfl (any_of HT_.out (by kernel_rfl)) (fun _ _ _ h => h) (by kernel_rfl) ?_ ?_; rotate_left; (intro w'; go_simp; with_reducible rfl)
                refine pu (i := 29) (N := some 42) (v := ?_) (bits 34 1073741823) rfl rfl (any_of HT_.out (by kernel_rfl)) (fun _ _ _ h => h) (by kernel_rfl) ?_ ?_; rotate_left; (intro w'; go_simp; with_reducible rfl)
                refine ta (i := 30) (N := some 43) (v := ?_) (bits 34 2147483647) rfl rfl (take_ofW HT_.out HW_.out (by kernel_rfl)) (fun _ _ _ h => h) (by kernel_rfl) hHeld ?_ ?_; rotate_left; (intro w' hS; have s0 := hS; obtain ⟨_, hA, q0, q1⟩ := at_T42 s0 (i : Int) (by omega) (by omega); cases hA; rw [Int.toNat_natCast] at q0 q1; rw [hx] at q0 q1; go_simp; with_reducible rfl)
                refine pu (i := 31) (N := some 44) (v := ?_) (bits 34 4294967295) rfl rfl (any_of HT_.out (by kernel_rfl)) (fun _ _ _ h => h) (by kernel_rfl) ?_ ?_; rotate_left; (intro w'; go_simp; with_reducible rfl)
                refine pu (i := 32) (N := some 45) (v := ?_) (bits 34 8589934591) rfl rfl (any_of HT_.out (by kernel_rfl)) (fun _ _ _ h => h) (by kernel_rfl) ?_ ?_; rotate_left; (intro w'; go_simp; with_reducible rfl)
                refine pu (i := 33) (N := some 46) (v := ?_) (bits 34 17179869183) rfl rfl (any_of HT_.out (by kernel_rfl)) (fun _ _ _ h => h) (by kernel_rfl) ?_ ?_; rotate_left; (intro w'; go_simp; with_reducible rfl)
                refine norm_ (a' := ?_) ?_ ?_
                rotate_left
                · simp only [Act.put, List.setIfInBounds_toArray, List.set_cons_zero, List.set_cons_succ, i64_w, i32_w]
                  rfl
                refine done_ (done_of HT_.out (by kernel_rfl)) ?_
                try go_wp2
                all_goals first
                  | (go_roundg d; (case measure => omega); (case rel => exact ⟨j + 1, congrArg (Value.int .i64) (Int.natCast_succ _).symm, by omega, by omega, B, ⟨andT HS.out (by grind [l1B, ltB])⟩⟩))
                  | (go_ret; exact ⟨andF HS.out (by grind [l1B, ltB]), B.out⟩))
        all_goals try go_wp2
        all_goals try (go_ret; exact ⟨andF HS.out (by grind [l1B, ltB]), B.out⟩)
      · have cj : decide ((j : Int) < (l.length : Int)) = false := decide_eq_false (by omega)
        have hr : r = true := by rw [← H.out]; exact prJ_end hlt
        subst hr
        go_wp2
        go_ret
        exact ⟨rfl, B.out⟩
  · have cl0 : decide (48 < (l.length : Int)) = true := decide_eq_true (by omega)
    have hr : r = false := by rw [← hr, decide_eq_false hl]; rfl
    subst hr
    go_enter Try.func41, Try.ntmps41
    go_wp2
    go_ret
    exact ⟨rfl, B.out⟩

/-! Rows that are made and written. -/
section
variable {P : Program} {w W W' : World} {α β : Type} {d : Kd α} {e b : Nat} {xs : List α}
variable {ops ops' : Array Oper} {o : Oper} {rest : List Oper} {a : Act} {QE : Exit → Act → World → Prop}
theorem mkr (d : Kd α) (e : Nat) (hgd : o.guard = none) {N : Tmp} (hd : o.dst = some N) (t : TypeId) (x y : Operand) (ho : o.op = .makeSlice t x y) (n : Nat) (hx : a.eval x = .int .i64 (n : Int)) (hy : a.eval y = .int .i64 (n : Int))
    (ht : P.underlying t = some (.slice e)) (z : Value) (bytes : Nat) (hinfo : (P.info? e).map (fun i => (i.zero, i.size, i.bytes)) = some (some z, d.sz, bytes)) (hz : z.cells.size = d.sz) (hs0 : 0 < d.sz) (hb0 : 0 < bytes)
    (z0 : α) (hzero : d.M W W.heap.size (fun _ => True) z0 z.cells.toList) (hl : n * bytes ≤ 281474976710656) (B : Aside0 (Below w.heap.size w W))
    (h : ∀ A kk w1, Below W.heap.size W w1 → Aside0 (Below w.heap.size w w1) → Aside0 (Ow d e w1 w.heap.size (.slice A n kk) (List.replicate n z0)) → Aside0 (Fr W (.slice A n kk)) → wpList P ops QE rest (a.put o.dst (.slice A n kk)) w1) : wpList P ops QE (o :: rest) a W :=
  Kd.R_make d W.heap.size e hgd hd t x y ho n hx hy ht z bytes hinfo hz hs0 hb0 z0 hzero (fun _ h => h) trivial (Int.natCast_nonneg n) (by rwa [Int.toNat_natCast]) (Below.refl _ _) (Nat.le_refl _) fun v1 w1 hR hb hg hnew => by
    rw [Int.toNat_natCast] at hR
    obtain ⟨A, kk, hv⟩ := Kd.R_slice hR
    rw [List.length_replicate] at hv
    subst hv
    exact h A kk w1 hb ⟨below_step B.out hb⟩ ⟨Kd.R_lower hR (below_size B.out)⟩ ⟨fun k hk => Kd.R_base hR k hk⟩
theorem fr {v v' : Value} {β : Type} {d' : Kd β} {e' : Nat} {ys : List β} (q : Aside0 (Fr W v)) (R : Aside0 (Ow d' e' W b v' ys)) : Aside0 (∀ k, v.ownBlock = some k → v'.ownBlock = some k → False) := ⟨fun k h1 h2 => by
  have := q.out k h1
  have := Kd.R_lt R.out k h2
  omega⟩
/-- the form of a row that is not empty -/
theorem rform {A : Option Addr} {n c : Nat} (R : Aside0 (Ow d e W b (.slice A n c) xs)) (hp : 0 < xs.length) : ∃ g, A = some ⟨g, 0, none⟩ ∧ b ≤ g := by
  obtain ⟨g, cap, hv, hb, _⟩ := Kd.R_form R.out hp
  cases hv
  exact ⟨g, rfl, hb⟩
/-- the cells of an element -/
theorem rcells {g n c : Nat} (z : α) (R : Aside0 (Ow d e W b (.slice (some ⟨g, 0, none⟩) n c) xs)) (i : Nat) (hi : i < n) : ∃ cs, cs.length = d.sz ∧ d.M W b (fun k => True ∧ k ≠ g) (xs.getD i z) cs ∧ (∀ j u, cs[j]? = some u → W.cell? ⟨g, i * d.sz + j, none⟩ = some u) ∧ ∀ j, W.frozen? ⟨g, i * d.sz + j, none⟩ = false := by
  have := Kd.R_elem R.out z (i : Int) (Int.natCast_nonneg i) (by omega)
  rwa [Int.toNat_natCast] at this
theorem es {g n c : Nat} {t : TypeId} {p : Tmp} {v : Operand} (hgd : o.guard = none) (ho : o.op = .store t (.tmp p) v) (hN : o.dst = none) (i off : Nat) (seg : List Value) (x' : α) (hrun : (execOp a.eval o).run P W = .ok .skip (W.setCells g (i * d.sz + off) seg))
    (R : Aside0 (Ow d e W b (.slice (some ⟨g, 0, none⟩) n c) xs)) (hi : i < n) {cs : List Value} (hcl : cs.length = d.sz) (hcc : ∀ j u, cs[j]? = some u → W.cell? ⟨g, i * d.sz + j, none⟩ = some u) (hj : off + seg.length ≤ d.sz)
    (hM : d.M W b (fun _ => False) x' (cs.take off ++ seg ++ cs.drop (off + seg.length))) (B : Aside0 (Below w.heap.size w W)) (hb : w.heap.size ≤ g)
    (h : ∀ w', W.grownBy w' (some g) → Aside0 (Below w.heap.size w w') → Aside0 (Ow d e w' b (.slice (some ⟨g, 0, none⟩) n c) (xs.set i x')) → wpList P ops QE rest a w') : wpList P ops QE (o :: rest) a W :=
  store_event hgd ho hN hrun fun w' hw => by
    have hP := Kd.R_seg R.out (i : Int) (Int.natCast_nonneg i) (by omega) (c := cs) (seg := seg) (j := off) (x' := x') (okp := fun _ => False) hcl (by rw [Int.toNat_natCast]; exact hcc) hj hM (fun _ hk => hk.elim)
    rw [Int.toNat_natCast] at hP
    subst hw
    refine h _ hP.2 ⟨pw_below_grown B.out (some g) (below_size B.out) hP.2 (fun k hk => ?_)⟩ ⟨hP.1⟩
    cases hk
    exact hb
theorem bg {g : Nat} {ob : Obj} {row : Option Nat} (F : Aside0 (W.heap[g]? = some ob)) (hg : W.grownBy W' row) (hne : some g ≠ row) : Aside0 (W'.heap[g]? = some ob) := ⟨blk_grown F.out hg hne⟩
theorem fill_set {f : α → β} {z : β} {l : List α} {j : Nat} (h : j < l.length) : ((l.take j).map f ++ List.replicate (l.length - j) z).set j (f l[j]) = (l.take (j + 1)).map f ++ List.replicate (l.length - (j + 1)) z := by
  have h1 : ((l.take j).map f).length = j := by rw [List.length_map, List.length_take]; omega
  rw [List.set_append_right _ _ (by omega), h1, Nat.sub_self, show l.length - j = (l.length - (j + 1)) + 1 by omega, List.replicate_succ, List.set_cons_zero, List.take_succ_eq_append_getElem h, List.map_append, List.append_assoc]
  rfl
theorem fill_end {f : α → β} {z : β} {l : List α} {j : Nat} (h : ¬ j < l.length) : (l.take j).map f ++ List.replicate (l.length - j) z = l.map f := by
  rw [List.take_of_length_le (by omega), show l.length - j = 0 by omega]
  simp
end
section
variable {P : Program} {w W W' : World} {α β : Type} {d : Kd α} {e b : Nat} {xs : List α}
variable {ops ops' : Array Oper} {o : Oper} {rest : List Oper} {a : Act} {QE : Exit → Act → World → Prop}
/-- a literal of records -/
theorem lt (d : Kd α) (e : Nat) (hgd : o.guard = none) {N : Tmp} (hd : o.dst = some N) (xs : List α) (inner : List Value) (hrun : (execOp a.eval o).run P W = .ok (.value (.slice (some ⟨W.heap.size, 0, none⟩) xs.length xs.length)) (W.alloc (.cells inner.toArray e)))
    (hp : Reps (d.M W W.heap.size (fun _ => True)) d.sz xs inner) (hm : xs.length ≤ 9223372036854775807) (B : Aside0 (Below w.heap.size w W))
    (h : ∀ zs, xs = zs → ∀ A kk w1, Below W.heap.size W w1 → Aside0 (Below w.heap.size w w1) → Aside0 (Ow d e w1 w.heap.size (.slice A zs.length kk) zs) → Aside0 (Fr W (.slice A zs.length kk)) → wpList P ops QE rest (a.put o.dst (.slice A zs.length kk)) w1) : wpList P ops QE (o :: rest) a W :=
  Kd.R_lit d (w0 := W) W.heap.size e hgd hd hrun hp (fun _ h => h) trivial (Below.refl _ _) (Nat.le_refl _) hm fun v1 w1 hR hb hg hnew => by
    obtain ⟨A, kk, rfl⟩ := Kd.R_slice hR
    exact h xs rfl A kk w1 hb ⟨below_step B.out hb⟩ ⟨Kd.R_lower hR (below_size B.out)⟩ ⟨fun k hk => Kd.R_base hR k hk⟩
/-- a row is put behind a row of the walk's own -/
theorem apx (d : Kd α) (e : Nat) (hgd : o.guard = none) (s x : Operand) (t : TypeId) (z : Value) (bytes : Nat) (ho : o.op = .call { callee := .builtin .append, args := #[s, x], argTypes := #[t, t] })
    (ht : P.underlying t = some (.slice e)) (hinfo : (P.info? e).map (fun i => (i.zero, i.size, i.bytes)) = some (some z, d.sz, bytes)) (hz : z.cells.size = d.sz) (hs0 : 0 < d.sz) (hb0 : 0 < bytes)
    {v : Value} {ys : List α} {A : Option Addr} {m c : Nat} (hs : a.eval s = v) (hx : a.eval x = .slice A m c) (R : Aside0 (Ow d e W w.heap.size v xs)) (C : d.C W A m ys) (hKM : ∀ x cs, d.K W x cs → d.M W w.heap.size (fun _ => False) x cs)
    (hl : (xs.length + m) * bytes ≤ 140737488355328) (B : Aside0 (Below w.heap.size w W))
    (h : ∀ zs, xs ++ ys = zs → ∀ A' kk w1, W.grownBy w1 v.ownBlock → Aside0 (Below w.heap.size w w1) → Aside0 (Ow d e w1 w.heap.size (.slice A' zs.length kk) zs) → Aside0 ((Value.slice A' zs.length kk).ownBlock = v.ownBlock ∨ ∃ b, (Value.slice A' zs.length kk).ownBlock = some b ∧ W.heap.size ≤ b) → wpList P ops QE rest (a.put o.dst (.slice A' zs.length kk)) w1) : wpList P ops QE (o :: rest) a W :=
  Kd.R_append_rows d (w0 := w) w.heap.size hgd s x t e z bytes ho ht hinfo hz hs0 hb0 v xs ys A m c (fun _ => True) (fun _ => False) hs hx R.out C hKM (fun _ h => h.elim) (fun _ _ => trivial) B.out (below_size B.out) hl fun v1 w1 hR hb hg hat => by
    obtain ⟨A', kk, rfl⟩ := Kd.R_slice hR
    exact h _ rfl A' kk w1 hg ⟨hb⟩ ⟨hR⟩ ⟨hat⟩
/-- what lies elsewhere stays when a row grows -/
theorem bga {g t : Nat} {cs : Array Value} {v : Value} (F : Aside0 (W.heap[g]? = some (.cells cs t (0, 0)))) (hg : W.grownBy W' v.ownBlock) (R : Aside0 (Ow d e W b v xs)) (ht : e ≠ t) : Aside0 (W'.heap[g]? = some (.cells cs t (0, 0))) := ⟨blk_grown F.out hg (Kd.R_ne R.out F.out ht)⟩
theorem rga {d' : Kd β} {e' b' : Nat} {v v' : Value} {ys : List β} (R' : Aside0 (Ow d' e' W b' v' ys)) (hE : d'.E = []) (hg : W.grownBy W' v.ownBlock) (ne : ∀ k, v'.ownBlock = some k → v.ownBlock = some k → False) : Aside0 (Ow d' e' W' b' v' ys) :=
  ⟨Kd.R_mono (Kd.R_grown (Kd.R_tight hE R'.out) hg (fun k h1 h2 => ne k h1.symm h2.symm)) (fun _ _ => trivial)⟩
theorem dty {d' : Kd β} {e' b' : Nat} {v v' : Value} {ys : List β} (R : Aside0 (Ow d e W b v xs)) (R' : Aside0 (Ow d' e' W b' v' ys)) (h : e ≠ e') : ∀ k, v'.ownBlock = some k → v.ownBlock = some k → False := fun k h1 h2 => by
  obtain ⟨_, o1⟩ := Kd.R_own R.out
  obtain ⟨_, o2⟩ := Kd.R_own R'.out
  obtain ⟨c1, t1⟩ := own_typed o1 k h2
  obtain ⟨c2, t2⟩ := own_typed o2 k h1
  rw [t1] at t2
  cases t2
  exact h rfl
theorem nilC (d : Kd α) (W : World) : Kd.C d W none ([] : List α).length [] := ⟨rfl, by simp, fun h => absurd h (Nat.lt_irrefl 0)⟩
end
/-- a row that grew lies apart from the others still -/
theorem dap {W : World} {v v1 v' : Value} {β : Type} {d' : Kd β} {e' b' : Nat} {ys : List β} (hat : Aside0 (v1.ownBlock = v.ownBlock ∨ ∃ b, v1.ownBlock = some b ∧ W.heap.size ≤ b)) (D : Aside0 (∀ k, v.ownBlock = some k → v'.ownBlock = some k → False)) (R : Aside0 (Ow d' e' W b' v' ys)) : Aside0 (∀ k, v1.ownBlock = some k → v'.ownBlock = some k → False) := ⟨fun k h1 h2 => by
  rcases hat.out with h | ⟨b, h, hb⟩
  · exact D.out k (h ▸ h1) h2
  · rw [h] at h1
    cases h1
    have := Kd.R_lt R.out k h2
    omega⟩
theorem dap0 {W : World} {v1 v' : Value} {β : Type} {d' : Kd β} {e' b' : Nat} {ys : List β} (hat : Aside0 (v1.ownBlock = (Value.slice none 0 0).ownBlock ∨ ∃ b, v1.ownBlock = some b ∧ W.heap.size ≤ b)) (R : Aside0 (Ow d' e' W b' v' ys)) : Aside0 (∀ k, v1.ownBlock = some k → v'.ownBlock = some k → False) := ⟨fun k h1 h2 => by
  rcases hat.out with h | ⟨b, h, hb⟩
  · rw [h] at h1
    cases h1
  · rw [h] at h1
    cases h1
    have := Kd.R_lt R.out k h2
    omega⟩
theorem dnB {P : Program} {F : FuncId} {args : Array Value} {W : World} {v : Value} (c : Calls P F args W fun e w' => e = .returned v ∧ Drawn0 W w') : Calls P F args W fun e w' => e = .returned v ∧ Below W.heap.size W w' :=
  c.mono (by rintro e W' ⟨h1, h2⟩; exact ⟨h1, h2.below⟩)

theorem spec_PairPut.M (A0 : Option Addr) (c0 : Nat) (l : List S42) (c : ByteArray) (v : Int) (w : World) (hr0 : Kd.C k42 w A0 l.length l) (hc0 : l.length ≤ c0) : Calls Try.prog 45 #[.slice A0 l.length c0, .string c, .int .i64 v] w fun e w' => ∃ v0, e = .returned (.tuple #[v0, .bool (putM l c v).2]) ∧ Kd.R k42 42 w' w.heap.size (fun _ => True) v0 (putM l c v).1 ∧ Below w.heap.size w w' := by
  have B := Aside0.mk (Below.refl w.heap.size w)
  have hu := Try.underlying42
  have HR0 := Aside0.mk hr0
  have HC0 := Aside0.mk hc0
  have L63 := Aside0.mk hr0.2.1
  clear hr0
  obtain ⟨i0, hif, _, hsz0, _⟩ := info_parts info42
  by_cases hvv : (prB l && (keyB c && l1B v 0 999)) = true
  · have hu0 : putM l c v = if hitM l c then ((l.take (atP l c) ++ [⟨c, v⟩]) ++ l.drop (atP l c + 1), true) else if 48 ≤ l.length then (l, false) else ((l.take (atP l c) ++ [⟨c, v⟩]) ++ l.drop (atP l c), true) := if_pos hvv
    simp only [Bool.and_eq_true] at hvv
    obtain ⟨hv, hkv, hlv⟩ := hvv
    have h48 := prB_len hv
    have hat := atP_le l c
    cases hh : hitM l c with
    | true =>
      clear hif hsz0 hc0
      have hlt2 : decide (((atP l c : Nat) : Int) < (l.length : Int)) = true := decide_eq_true (by have := hit_true hh; omega)
      obtain ⟨hlt, hf0, hf⟩ := hit_true hh
      have j1 := eq_true (show ((atP l c : Nat) : Int) < (l.length : Int) by omega)
      have j2 := eq_true hlt
      have hM : putM l c v = ((l.take (atP l c) ++ [⟨c, v⟩]) ++ l.drop (atP l c + 1), true) := by rw [hu0, if_pos hh]
      go_enter Try.func45, Try.ntmps45
      go_wp2_with (first
        | ((with_reducible refine gate_dst (N := 10) rfl ?_); refine lt k42 42 ?hg (N := 10) ?hd ([] : List S42) [] ?hr (Reps.none _ _) (by simp) B ?_; (case hd => rfl); (case hg => rfl); (case hr => first | (go_simp; done) | (go_simp; rfl)); intro z10 hz10 AL10 kL10 w1 hb B RL10 QL10; clear hb QL10)
        | (go_at_call 41; with_reducible refine cl (spec_PairsValid.M _ _ l _ (cb HR0 B)) B fun w2 hb B => ?_; replace RL10 := rn RL10 hb; clear hb)
        | (go_at_call 68; with_reducible refine cl (spec_KeyValid.M c _) B fun w3 hb B => ?_; replace RL10 := rn RL10 hb; clear hb)
        | (go_at_call 74; with_reducible refine cl (spec_l1In.M v 0 999 _) B fun w4 hb B => ?_; replace RL10 := rn RL10 hb; clear hb)
        | (go_at_call 75; with_reducible refine cl (spec_l4Place.M _ _ l c _ (cb HR0 B)) B fun w5 hb B => ?_; replace RL10 := rn RL10 hb; clear hb; (obtain ⟨ad, hA, y0, y1⟩ := at_T42 (cb HR0 B) ((atP l c : Nat) : Int) (Int.natCast_nonneg _) (Int.ofNat_lt.mpr hlt); cases hA; rw [Int.toNat_natCast] at y0 y1))
        | ((with_reducible refine gate_builtin (b := .append) (xs := #[.tmp 41, .tmp 42]) rfl ?_); at_builtin; refine apx k42 42 rfl (.tmp 41) (.tmp 42) 27 (.agg #[.string (⟨#[]⟩ : ByteArray), .int .i64 (0)]) 24 rfl Try.underlying27 info42 rfl (by decide) (by omega) rfl rfl RL10 (cb HR0 B) (fun x cs h => by rw [k42_open h]; exact k42_mkM _ _ _ x) (by rw [← hz10]; simp only [List.length_append, List.length_nil, List.length_cons, List.length_take, List.length_drop]; omega) B ?_; intro z43 hz43 AL43 kL43 w6 hg B RL43 hat; clear hg hat; (obtain ⟨g0, hA0, hg0⟩ := rform RL43 (by rw [← hz43, ← hz10, List.nil_append]; omega); subst hA0; have HLT : atP l c < z43.length := (by rw [← hz43, ← hz10, List.nil_append]; exact hlt); obtain ⟨cs, hcl, hMM, hcc, hfz⟩ := rcells z42 RL43 (atP l c) HLT; have hsz : k42.sz = 2 := rfl; obtain ⟨u0, hu0⟩ : ∃ u, cs[1]? = some u := ⟨_, List.getElem?_eq_getElem (by rw [hcl]; decide)⟩; have q0 := hcc 1 u0 hu0; have q1 := hfz 1; rw [hsz] at q0 q1; have j3 := eq_true (show ((atP l c : Nat) : Int) < (z43.length : Int) by omega); have j4 := eq_true HLT))
        | ((with_reducible refine gate_store (t := 3) (p := 48) rfl ?_); refine es (t := 3) (p := 48) (v := ?vo7) ?hg ?ho ?hn (atP l c) 1 [.int .i64 (v)] ⟨(z43.getD (atP l c) z42).f0, v⟩ ?hr RL43 HLT hcl hcc (Nat.le_of_ble_eq_true rfl) (by rw [k42_openM hMM]; exact k42_mkM _ _ _ _) B hg0 ?_; (case ho => rfl); (case hg => rfl); (case hn => rfl); (case hr => first | (go_simp; done) | (go_simp; rfl)); intro w7 hgr B RL43; clear hgr))
      go_ret2; have hZ : z43.set (atP l c) ⟨(z43.getD (atP l c) z42).f0, v⟩ = (l.take (atP l c) ++ [⟨c, v⟩]) ++ l.drop (atP l c + 1) := (by rw [← hz43, ← hz10, List.nil_append, show (l.getD (atP l c) z42).f0 = c from hf0, List.set_eq_take_append_cons_drop, if_pos hlt]; simp); exact ⟨_, by rw [hM]; rfl, by rw [hM, ← hZ]; exact RL43.out, B.out⟩
    | false =>
      by_cases h8 : 48 ≤ l.length
      · have d8 : decide ((48 : Int) ≤ (l.length : Int)) = true := decide_eq_true (by omega)
        have d9 := eq_true h8
        clear hif hsz0 hc0
        have hM : putM l c v = (l, false) := by rw [hu0, if_neg (by rw [hh]; simp), if_pos h8]
        by_cases hlt : atP l c < l.length
        · skip
          have hf := hit_false hh hlt
          have j1 := eq_true (show ((atP l c : Nat) : Int) < (l.length : Int) by omega)
          have j2 := eq_true hlt
          have hlt2 : decide (((atP l c : Nat) : Int) < (l.length : Int)) = true := decide_eq_true (by omega)
          go_enter Try.func45, Try.ntmps45
          go_wp2_with (first
            | ((with_reducible refine gate_dst (N := 10) rfl ?_); refine lt k42 42 ?hg (N := 10) ?hd ([] : List S42) [] ?hr (Reps.none _ _) (by simp) B ?_; (case hd => rfl); (case hg => rfl); (case hr => first | (go_simp; done) | (go_simp; rfl)); intro z10 hz10 AL10 kL10 w1 hb B RL10 QL10; clear hb QL10)
            | (go_at_call 41; with_reducible refine cl (spec_PairsValid.M _ _ l _ (cb HR0 B)) B fun w2 hb B => ?_; replace RL10 := rn RL10 hb; clear hb)
            | (go_at_call 68; with_reducible refine cl (spec_KeyValid.M c _) B fun w3 hb B => ?_; replace RL10 := rn RL10 hb; clear hb)
            | (go_at_call 74; with_reducible refine cl (spec_l1In.M v 0 999 _) B fun w4 hb B => ?_; replace RL10 := rn RL10 hb; clear hb)
            | (go_at_call 75; with_reducible refine cl (spec_l4Place.M _ _ l c _ (cb HR0 B)) B fun w5 hb B => ?_; replace RL10 := rn RL10 hb; clear hb; (obtain ⟨ad, hA, y0, y1⟩ := at_T42 (cb HR0 B) ((atP l c : Nat) : Int) (Int.natCast_nonneg _) (Int.ofNat_lt.mpr hlt); cases hA; rw [Int.toNat_natCast] at y0 y1))
            | ((with_reducible refine gate_builtin (b := .append) (xs := #[.tmp 53, .tmp 54]) rfl ?_); at_builtin; refine apx k42 42 rfl (.tmp 53) (.tmp 54) 27 (.agg #[.string (⟨#[]⟩ : ByteArray), .int .i64 (0)]) 24 rfl Try.underlying27 info42 rfl (by decide) (by omega) rfl rfl RL10 (cb HR0 B) (fun x cs h => by rw [k42_open h]; exact k42_mkM _ _ _ x) (by rw [← hz10]; simp only [List.length_append, List.length_nil, List.length_cons, List.length_take, List.length_drop]; omega) B ?_; intro z55 hz55 AL55 kL55 w6 hg B RL55 hat; clear hg hat))
          go_ret2; have hZ : z55 = l := (by rw [← hz55, ← hz10]; try simp); exact ⟨_, by rw [hM]; rfl, by rw [hM, ← hZ]; exact RL55.out, B.out⟩
        · skip
          have hlt2 : decide (((atP l c : Nat) : Int) < (l.length : Int)) = false := decide_eq_false (by omega)
          go_enter Try.func45, Try.ntmps45
          go_wp2_with (first
            | ((with_reducible refine gate_dst (N := 10) rfl ?_); refine lt k42 42 ?hg (N := 10) ?hd ([] : List S42) [] ?hr (Reps.none _ _) (by simp) B ?_; (case hd => rfl); (case hg => rfl); (case hr => first | (go_simp; done) | (go_simp; rfl)); intro z10 hz10 AL10 kL10 w1 hb B RL10 QL10; clear hb QL10)
            | (go_at_call 41; with_reducible refine cl (spec_PairsValid.M _ _ l _ (cb HR0 B)) B fun w2 hb B => ?_; replace RL10 := rn RL10 hb; clear hb)
            | (go_at_call 68; with_reducible refine cl (spec_KeyValid.M c _) B fun w3 hb B => ?_; replace RL10 := rn RL10 hb; clear hb)
            | (go_at_call 74; with_reducible refine cl (spec_l1In.M v 0 999 _) B fun w4 hb B => ?_; replace RL10 := rn RL10 hb; clear hb)
            | (go_at_call 75; with_reducible refine cl (spec_l4Place.M _ _ l c _ (cb HR0 B)) B fun w5 hb B => ?_; replace RL10 := rn RL10 hb; clear hb)
            | ((with_reducible refine gate_builtin (b := .append) (xs := #[.tmp 53, .tmp 54]) rfl ?_); at_builtin; refine apx k42 42 rfl (.tmp 53) (.tmp 54) 27 (.agg #[.string (⟨#[]⟩ : ByteArray), .int .i64 (0)]) 24 rfl Try.underlying27 info42 rfl (by decide) (by omega) rfl rfl RL10 (cb HR0 B) (fun x cs h => by rw [k42_open h]; exact k42_mkM _ _ _ x) (by rw [← hz10]; simp only [List.length_append, List.length_nil, List.length_cons, List.length_take, List.length_drop]; omega) B ?_; intro z55 hz55 AL55 kL55 w6 hg B RL55 hat; clear hg hat))
          go_ret2; have hZ : z55 = l := (by rw [← hz55, ← hz10]; try simp); exact ⟨_, by rw [hM]; rfl, by rw [hM, ← hZ]; exact RL55.out, B.out⟩
      · have d8 : decide ((48 : Int) ≤ (l.length : Int)) = false := decide_eq_false (by omega)
        have d9 := eq_false h8
        have hcut1 := cut_to (P := Try.prog) 27 42 .i64 Try.underlying27 hif A0 l.length c0 ((atP l c : Nat) : Int) (by omega) (by omega) hc0
        rw [Int.toNat_natCast] at hcut1
        have C1 := Aside0.mk (fun {W : World} (h : Kd.C k42 W A0 l.length l) => show Kd.C k42 W A0 (atP l c) (l.take (atP l c)) from by
          have := Kd.C_take h (m := atP l c) (by omega)
          rwa [List.length_take, Nat.min_eq_left (by omega)] at this)
        have hcut2 := cut_from (P := Try.prog) 27 42 .i64 Try.underlying27 hif 2 hsz0 A0 l.length c0 (((atP l c : Nat) : Int)) (by omega) (by omega)
        rw [show (((atP l c : Nat) : Int)).toNat = atP l c by omega] at hcut2
        obtain ⟨A2, hA2⟩ : ∃ A2, A2 = (if c0 = atP l c then A0 else A0.map (·.add ((atP l c) * 2))) := ⟨_, rfl⟩
        rw [← hA2] at hcut2
        have C2 := Aside0.mk (fun {W : World} (h : Kd.C k42 W A0 l.length l) => show Kd.C k42 W A2 (l.length - (atP l c)) (l.drop (atP l c)) from by
          have := Kd.C_drop h (m := atP l c) (c := c0) (by omega) hc0
          rw [List.length_drop] at this
          rw [hA2]
          exact this)
        clear hA2
        clear hif hsz0 hc0
        have hM : putM l c v = ((l.take (atP l c) ++ [⟨c, v⟩]) ++ l.drop (atP l c), true) := by rw [hu0, if_neg (by rw [hh]; simp), if_neg h8]
        by_cases hlt : atP l c < l.length
        · skip
          have hf := hit_false hh hlt
          have j1 := eq_true (show ((atP l c : Nat) : Int) < (l.length : Int) by omega)
          have j2 := eq_true hlt
          have hlt2 : decide (((atP l c : Nat) : Int) < (l.length : Int)) = true := decide_eq_true (by omega)
          go_enter Try.func45, Try.ntmps45
          go_wp2_with (first
            | ((with_reducible refine gate_dst (N := 10) rfl ?_); refine lt k42 42 ?hg (N := 10) ?hd ([] : List S42) [] ?hr (Reps.none _ _) (by simp) B ?_; (case hd => rfl); (case hg => rfl); (case hr => first | (go_simp; done) | (go_simp; rfl)); intro z10 hz10 AL10 kL10 w1 hb B RL10 QL10; clear hb QL10)
            | (go_at_call 41; with_reducible refine cl (spec_PairsValid.M _ _ l _ (cb HR0 B)) B fun w2 hb B => ?_; replace RL10 := rn RL10 hb; clear hb)
            | (go_at_call 68; with_reducible refine cl (spec_KeyValid.M c _) B fun w3 hb B => ?_; replace RL10 := rn RL10 hb; clear hb)
            | (go_at_call 74; with_reducible refine cl (spec_l1In.M v 0 999 _) B fun w4 hb B => ?_; replace RL10 := rn RL10 hb; clear hb)
            | (go_at_call 75; with_reducible refine cl (spec_l4Place.M _ _ l c _ (cb HR0 B)) B fun w5 hb B => ?_; replace RL10 := rn RL10 hb; clear hb; (obtain ⟨ad, hA, y0, y1⟩ := at_T42 (cb HR0 B) ((atP l c : Nat) : Int) (Int.natCast_nonneg _) (Int.ofNat_lt.mpr hlt); cases hA; rw [Int.toNat_natCast] at y0 y1))
            | ((with_reducible refine gate_builtin (b := .append) (xs := #[.tmp 56, .tmp 59]) rfl ?_); at_builtin; refine apx k42 42 rfl (.tmp 56) (.tmp 59) 27 (.agg #[.string (⟨#[]⟩ : ByteArray), .int .i64 (0)]) 24 rfl Try.underlying27 info42 rfl (by decide) (by omega) rfl rfl RL10 (C1.out (cb HR0 B)) (fun x cs h => by rw [k42_open h]; exact k42_mkM _ _ _ x) (by rw [← hz10]; simp only [List.length_append, List.length_nil, List.length_cons, List.length_take, List.length_drop]; omega) B ?_; intro z60 hz60 AL60 kL60 w6 hg B RL60 hat; clear hg hat)
            | ((with_reducible refine gate_dst (N := 65) rfl ?_); refine lt k42 42 ?hg (N := 65) ?hd ([⟨c, v⟩] : List S42) [.string c, .int .i64 (v)] ?hr (Reps.c2 (k42_mkM _ _ _ ⟨c, v⟩) (Reps.none _ _)) (by simp) B ?_; (case hd => rfl); (case hg => rfl); (case hr => first | (go_simp; done) | (go_simp; rfl)); intro z65 hz65 AL65 kL65 w7 hb B RL65 QL65; replace RL60 := rn RL60 hb; clear hb QL65)
            | ((with_reducible refine gate_builtin (b := .append) (xs := #[.tmp 61, .tmp 65]) rfl ?_); at_builtin; refine apx k42 42 rfl (.tmp 61) (.tmp 65) 27 (.agg #[.string (⟨#[]⟩ : ByteArray), .int .i64 (0)]) 24 rfl Try.underlying27 info42 rfl (by decide) (by omega) rfl rfl RL60 (rc RL65) (fun x cs h => by rw [k42_open h]; exact k42_mkM _ _ _ x) (by rw [← hz65, ← hz60, ← hz10]; simp only [List.length_append, List.length_nil, List.length_cons, List.length_take, List.length_drop]; omega) B ?_; intro z66 hz66 AL66 kL66 w8 hg B RL66 hat; clear hg hat)
            | ((with_reducible refine gate_builtin (b := .append) (xs := #[.tmp 67, .tmp 70]) rfl ?_); at_builtin; refine apx k42 42 rfl (.tmp 67) (.tmp 70) 27 (.agg #[.string (⟨#[]⟩ : ByteArray), .int .i64 (0)]) 24 rfl Try.underlying27 info42 rfl (by decide) (by omega) rfl rfl RL66 (C2.out (cb HR0 B)) (fun x cs h => by rw [k42_open h]; exact k42_mkM _ _ _ x) (by rw [← hz66, ← hz65, ← hz60, ← hz10]; simp only [List.length_append, List.length_nil, List.length_cons, List.length_take, List.length_drop]; omega) B ?_; intro z71 hz71 AL71 kL71 w9 hg B RL71 hat; clear hg hat))
          go_ret2; have hZ : z71 = (l.take (atP l c) ++ [⟨c, v⟩]) ++ l.drop (atP l c) := (by rw [← hz71, ← hz66, ← hz65, ← hz60, ← hz10]; try simp); exact ⟨_, by rw [hM]; rfl, by rw [hM, ← hZ]; exact RL71.out, B.out⟩
        · skip
          have hlt2 : decide (((atP l c : Nat) : Int) < (l.length : Int)) = false := decide_eq_false (by omega)
          go_enter Try.func45, Try.ntmps45
          go_wp2_with (first
            | ((with_reducible refine gate_dst (N := 10) rfl ?_); refine lt k42 42 ?hg (N := 10) ?hd ([] : List S42) [] ?hr (Reps.none _ _) (by simp) B ?_; (case hd => rfl); (case hg => rfl); (case hr => first | (go_simp; done) | (go_simp; rfl)); intro z10 hz10 AL10 kL10 w1 hb B RL10 QL10; clear hb QL10)
            | (go_at_call 41; with_reducible refine cl (spec_PairsValid.M _ _ l _ (cb HR0 B)) B fun w2 hb B => ?_; replace RL10 := rn RL10 hb; clear hb)
            | (go_at_call 68; with_reducible refine cl (spec_KeyValid.M c _) B fun w3 hb B => ?_; replace RL10 := rn RL10 hb; clear hb)
            | (go_at_call 74; with_reducible refine cl (spec_l1In.M v 0 999 _) B fun w4 hb B => ?_; replace RL10 := rn RL10 hb; clear hb)
            | (go_at_call 75; with_reducible refine cl (spec_l4Place.M _ _ l c _ (cb HR0 B)) B fun w5 hb B => ?_; replace RL10 := rn RL10 hb; clear hb)
            | ((with_reducible refine gate_builtin (b := .append) (xs := #[.tmp 56, .tmp 59]) rfl ?_); at_builtin; refine apx k42 42 rfl (.tmp 56) (.tmp 59) 27 (.agg #[.string (⟨#[]⟩ : ByteArray), .int .i64 (0)]) 24 rfl Try.underlying27 info42 rfl (by decide) (by omega) rfl rfl RL10 (C1.out (cb HR0 B)) (fun x cs h => by rw [k42_open h]; exact k42_mkM _ _ _ x) (by rw [← hz10]; simp only [List.length_append, List.length_nil, List.length_cons, List.length_take, List.length_drop]; omega) B ?_; intro z60 hz60 AL60 kL60 w6 hg B RL60 hat; clear hg hat)
            | ((with_reducible refine gate_dst (N := 65) rfl ?_); refine lt k42 42 ?hg (N := 65) ?hd ([⟨c, v⟩] : List S42) [.string c, .int .i64 (v)] ?hr (Reps.c2 (k42_mkM _ _ _ ⟨c, v⟩) (Reps.none _ _)) (by simp) B ?_; (case hd => rfl); (case hg => rfl); (case hr => first | (go_simp; done) | (go_simp; rfl)); intro z65 hz65 AL65 kL65 w7 hb B RL65 QL65; replace RL60 := rn RL60 hb; clear hb QL65)
            | ((with_reducible refine gate_builtin (b := .append) (xs := #[.tmp 61, .tmp 65]) rfl ?_); at_builtin; refine apx k42 42 rfl (.tmp 61) (.tmp 65) 27 (.agg #[.string (⟨#[]⟩ : ByteArray), .int .i64 (0)]) 24 rfl Try.underlying27 info42 rfl (by decide) (by omega) rfl rfl RL60 (rc RL65) (fun x cs h => by rw [k42_open h]; exact k42_mkM _ _ _ x) (by rw [← hz65, ← hz60, ← hz10]; simp only [List.length_append, List.length_nil, List.length_cons, List.length_take, List.length_drop]; omega) B ?_; intro z66 hz66 AL66 kL66 w8 hg B RL66 hat; clear hg hat)
            | ((with_reducible refine gate_builtin (b := .append) (xs := #[.tmp 67, .tmp 70]) rfl ?_); at_builtin; refine apx k42 42 rfl (.tmp 67) (.tmp 70) 27 (.agg #[.string (⟨#[]⟩ : ByteArray), .int .i64 (0)]) 24 rfl Try.underlying27 info42 rfl (by decide) (by omega) rfl rfl RL66 (C2.out (cb HR0 B)) (fun x cs h => by rw [k42_open h]; exact k42_mkM _ _ _ x) (by rw [← hz66, ← hz65, ← hz60, ← hz10]; simp only [List.length_append, List.length_nil, List.length_cons, List.length_take, List.length_drop]; omega) B ?_; intro z71 hz71 AL71 kL71 w9 hg B RL71 hat; clear hg hat))
          go_ret2; have hZ : z71 = (l.take (atP l c) ++ [⟨c, v⟩]) ++ l.drop (atP l c) := (by rw [← hz71, ← hz66, ← hz65, ← hz60, ← hz10]; try simp); exact ⟨_, by rw [hM]; rfl, by rw [hM, ← hZ]; exact RL71.out, B.out⟩
  · have hM : putM l c v = ([], false) := if_neg hvv
    have hvn : prB l = false ∨ keyB c = false ∨ l1B v 0 999 = false := by grind
    clear hif hsz0 hc0
    go_enter Try.func45, Try.ntmps45
    go_wp2_with (first
      | ((with_reducible refine gate_dst (N := 10) rfl ?_); refine lt k42 42 ?hg (N := 10) ?hd ([] : List S42) [] ?hr (Reps.none _ _) (by simp) B ?_; (case hd => rfl); (case hg => rfl); (case hr => first | (go_simp; done) | (go_simp; rfl)); intro z10 hz10 AL10 kL10 w1 hb B RL10 QL10; clear hb QL10)
      | (go_at_call 41; with_reducible refine cl (spec_PairsValid.M _ _ l _ (cb HR0 B)) B fun w2 hb B => ?_; replace RL10 := rn RL10 hb; clear hb)
      | (go_at_call 68; with_reducible refine cl (spec_KeyValid.M c _) B fun w3 hb B => ?_; replace RL10 := rn RL10 hb; clear hb)
      | (go_at_call 74; with_reducible refine cl (spec_l1In.M v 0 999 _) B fun w4 hb B => ?_; replace RL10 := rn RL10 hb; clear hb))
    all_goals first
      | (go_ret2; have hZ : z10 = [] := (by rw [← hz10]; try simp); exact ⟨_, by rw [hM]; rfl, by rw [hM, ← hZ]; exact RL10.out, B.out⟩)
      | (exfalso; grind)

theorem spec_PairGet.M (A0 : Option Addr) (c0 : Nat) (l : List S42) (c : ByteArray) (w : World) (hr0 : Kd.C k42 w A0 l.length l) (hc0 : l.length ≤ c0) : Calls Try.prog 43 #[.slice A0 l.length c0, .string c] w fun e w' => e = .returned (.int .i64 (getM l c)) ∧ Below w.heap.size w w' := by
  have B := Aside0.mk (Below.refl w.heap.size w)
  have hu := Try.underlying42
  have HR0 := Aside0.mk hr0
  have HC0 := Aside0.mk hc0
  have L63 := Aside0.mk hr0.2.1
  clear hr0 hc0
  by_cases hv : prB l = true
  · have h48 := prB_len hv
    cases hh : hitM l c with
    | true =>
      obtain ⟨hlt, hf0, hf⟩ := hit_true hh
      have j1 := eq_true (show ((atP l c : Nat) : Int) < (l.length : Int) by omega)
      have j2 := eq_true hlt
      have hne : (((atP l c : Nat) : Int) == (l.length : Int)) = false := by simp; omega
      have hlt2 : decide (((atP l c : Nat) : Int) < (l.length : Int)) = true := decide_eq_true (by omega)
      go_enter Try.func43, Try.ntmps43
      go_wp2_with (first
        | (go_at_call 75; with_reducible refine cl (spec_l4Place.M _ _ l c _ (cb HR0 B)) B fun w1 hb B => ?_; clear hb)
        | (go_at_call 41; with_reducible refine cl (spec_PairsValid.M _ _ l _ (cb HR0 B)) B fun w2 hb B => ?_; clear hb; (obtain ⟨ad, hA, y0, y1⟩ := at_T42 (cb HR0 B) ((atP l c : Nat) : Int) (Int.natCast_nonneg _) (Int.ofNat_lt.mpr hlt); cases hA; rw [Int.toNat_natCast] at y0 y1)))
      all_goals (go_ret; exact ⟨by simp [getM, *], B.out⟩)
    | false =>
      by_cases hlt : atP l c < l.length
      · have hf := hit_false hh hlt
        have j1 := eq_true (show ((atP l c : Nat) : Int) < (l.length : Int) by omega)
        have j2 := eq_true hlt
        have hne : (((atP l c : Nat) : Int) == (l.length : Int)) = false := by simp; omega
        have hlt2 : decide (((atP l c : Nat) : Int) < (l.length : Int)) = true := decide_eq_true (by omega)
        go_enter Try.func43, Try.ntmps43
        go_wp2_with (first
          | (go_at_call 75; with_reducible refine cl (spec_l4Place.M _ _ l c _ (cb HR0 B)) B fun w1 hb B => ?_; clear hb)
          | (go_at_call 41; with_reducible refine cl (spec_PairsValid.M _ _ l _ (cb HR0 B)) B fun w2 hb B => ?_; clear hb; (obtain ⟨ad, hA, y0, y1⟩ := at_T42 (cb HR0 B) ((atP l c : Nat) : Int) (Int.natCast_nonneg _) (Int.ofNat_lt.mpr hlt); cases hA; rw [Int.toNat_natCast] at y0 y1)))
        all_goals (go_ret; exact ⟨by simp [getM, *], B.out⟩)
      · have hne : atP l c = l.length := by have := atP_le l c; omega
        go_enter Try.func43, Try.ntmps43
        go_wp2_with (first
          | (go_at_call 75; with_reducible refine cl (spec_l4Place.M _ _ l c _ (cb HR0 B)) B fun w1 hb B => ?_; clear hb)
          | (go_at_call 41; with_reducible refine cl (spec_PairsValid.M _ _ l _ (cb HR0 B)) B fun w2 hb B => ?_; clear hb))
        all_goals (go_ret; exact ⟨by simp [getM, *], B.out⟩)
  · replace hv := Bool.eq_false_iff.mpr hv
    go_enter Try.func43, Try.ntmps43
    go_wp2_with (first
      | (go_at_call 75; with_reducible refine cl (spec_l4Place.M _ _ l c _ (cb HR0 B)) B fun w1 hb B => ?_; clear hb)
      | (go_at_call 41; with_reducible refine cl (spec_PairsValid.M _ _ l _ (cb HR0 B)) B fun w2 hb B => ?_; clear hb))
    all_goals (go_ret; exact ⟨by simp [getM, *], B.out⟩)

end Go.Proofs.Ythfmpcaflplnbaa.PFnApplyCommand
