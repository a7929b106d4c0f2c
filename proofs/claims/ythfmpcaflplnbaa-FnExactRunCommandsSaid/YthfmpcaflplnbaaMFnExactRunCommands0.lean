/- Walks over models, part 0: base nums strs keys cmdm prsm place apm runm splace spairs sget rows sdrop sput scmd sapply srun ipplace keyval ipairs iget mkcap copyP replP idrop iput icmd iapply irun szst tost eqst markp markc marki lawFnExactRunCommands. -/
import Derived.Test.YthfmpcaflplnbaaPFnExactRunCommandsx0
import Derived.Deep.RegionHeld3
import Derived.Lib.Strings
import Derived.Laws.BytesArg
import Derived.Test.YthfmpcaflplnbaaPFnExactRunCommandsx8
import Derived.Test.YthfmpcaflplnbaaPFnExactRunCommandsx9
import Derived.Test.YthfmpcaflplnbaaPFnExactRunCommandsx41
import Derived.Test.YthfmpcaflplnbaaPFnExactRunCommandsx42
import Derived.Test.YthfmpcaflplnbaaPFnExactRunCommandsx43
import Derived.Test.YthfmpcaflplnbaaPFnExactRunCommandsx38
namespace Go.Proofs.Ythfmpcaflplnbaa.PFnExactRunCommands
open Go.RowKit Go.Proofs.YthfmpcaflplnbaaW.PrintWords Go.Proofs.YthfmpcaflplnbaaW.PrintLast Go.Proofs.YthfmpcaflplnbaaW.PrintMore
set_option linter.unusedVariables false
set_option linter.unusedSimpArgs false
set_option maxHeartbeats 4000000
set_option maxRecDepth 100000
def bits (n m : Nat) : Array Bool := ((List.range n).map fun i => m.testBit i).toArray
/-! Words: a call by its contract, boxes and rows carried on. -/
section
variable {P : Program} {F : FuncId} {args : Array Value} {w W W' : World} {v : Value} {Q : Ending → World → Prop}
theorem cl (c : Calls P F args W fun e w' => e = .returned v ∧ Below W.heap.size W w') (B : Aside0 (Below w.heap.size w W))
    (h : ∀ W', Below W.heap.size W W' → Aside0 (Below w.heap.size w W') → Q (.returned v) W') : Calls P F args W Q :=
  c.mono (by rintro e W' ⟨rfl, hb⟩; exact h W' hb ⟨below_step B.out hb⟩)
theorem cx {α : Type} {f : α → Value} {p : α → Prop} (c : Calls P F args W fun e w' => ∃ x, e = .returned (f x) ∧ p x ∧ Below W.heap.size W w') (B : Aside0 (Below w.heap.size w W))
    (h : ∀ x, p x → ∀ W', Below W.heap.size W W' → Aside0 (Below w.heap.size w W') → Q (.returned (f x)) W') : Calls P F args W Q :=
  c.mono (by rintro e W' ⟨x, rfl, hx, hb⟩; exact h x hx W' hb ⟨below_step B.out hb⟩)
theorem clv {v v' : Value} (c : Calls P F args W fun e w' => e = .returned v ∧ Below W.heap.size W w') (hv : v = v') : Calls P F args W fun e w' => e = .returned v' ∧ Below W.heap.size W w' := hv ▸ c
theorem drewB {v : Value} (c : Calls P F args W fun e w' => e = .returned v ∧ ∃ n, w' = W.drewN n) : Calls P F args W fun e w' => e = .returned v ∧ Below W.heap.size W w' :=
  c.mono (by rintro e W' ⟨rfl, n, rfl⟩; exact ⟨rfl, pw_below_drewN (Below.refl _ _) n⟩)
variable {α β : Type} {d : Kd α} {d' : Kd β} {e e' b : Nat} {xs : List α} {ys : List β} {f : Value → Value}
/-- what a row of a call's own is known by -/
def Ow (d : Kd α) (e : Nat) (W : World) (b : Nat) (v : Value) (xs : List α) : Prop := Kd.R d e W b (fun _ => True) v xs
/-- the row lies in a block that was not there before -/
def Fr (W : World) (v : Value) : Prop := ∀ k, v.ownBlock = some k → W.heap.size ≤ k
theorem cr (c : Calls P F args W fun r w' => ∃ v0, r = .returned (f v0) ∧ Kd.R d e w' W.heap.size (fun _ => True) v0 xs ∧ Below W.heap.size W w') (B : Aside0 (Below w.heap.size w W))
    (h : ∀ A kk W', Below W.heap.size W W' → Aside0 (Below w.heap.size w W') → Aside0 (Ow d e W' w.heap.size (.slice A xs.length kk) xs) → Aside0 (Fr W (.slice A xs.length kk)) → Q (.returned (f (.slice A xs.length kk))) W') : Calls P F args W Q :=
  c.mono (by
    rintro r W' ⟨v0, rfl, ho, hb⟩
    obtain ⟨A, kk, rfl⟩ := Kd.R_slice ho
    exact h A kk W' hb ⟨below_step B.out hb⟩ ⟨Kd.R_lower ho (below_size B.out)⟩ ⟨fun k hk => Kd.R_base ho k hk⟩)
theorem crz (c : Calls P F args W fun r w' => ∃ v0, r = .returned (f v0) ∧ Kd.R d e w' W.heap.size (fun _ => True) v0 xs ∧ Below W.heap.size W w') (B : Aside0 (Below w.heap.size w W))
    (h : ∀ zs, xs = zs → ∀ A kk W', Below W.heap.size W W' → Aside0 (Below w.heap.size w W') → Aside0 (Ow d e W' w.heap.size (.slice A zs.length kk) zs) → Aside0 (Fr W (.slice A zs.length kk)) → Q (.returned (f (.slice A zs.length kk))) W') : Calls P F args W Q := cr c B (h xs rfl)
theorem bn {g : Nat} {o : Obj} (F : Aside0 (W.heap[g]? = some o)) (hb : Below W.heap.size W W') : Aside0 (W'.heap[g]? = some o) := ⟨blk_below F.out hb⟩
theorem rn {v : Value} (R : Aside0 (Ow d e W b v xs)) (hb : Below W.heap.size W W') : Aside0 (Ow d e W' b v xs) := ⟨Kd.R_below R.out hb⟩
theorem rc {A : Option Addr} {n c : Nat} (R : Aside0 (Ow d e W b (.slice A n c) xs)) : Kd.C d W A xs.length xs := (Kd.R_reads' R.out).2.2
theorem rl {A : Option Addr} {c : Nat} (R : Aside0 (Ow d e W b (.slice A xs.length c) xs)) : xs.length ≤ c := (Kd.R_reads' R.out).2.1
theorem cb {A : Option Addr} {n : Nat} (H : Aside0 (Kd.C d w A n xs)) (B : Aside0 (Below w.heap.size w W)) : Kd.C d W A n xs := Kd.C_below H.out B.out
theorem cs1 {g t : Nat} {a : Value} (F : Aside0 (W.heap[g]? = some (.cells #[a] t (0, 0)))) : W.cell? ⟨g, 0, none⟩ = some a := (blk_cell F.out 0).trans rfl
theorem cs2 {g t : Nat} {a b : Value} (F : Aside0 (W.heap[g]? = some (.cells #[a, b] t (0, 0)))) : W.cell? ⟨g, 0, none⟩ = some a ∧ W.cell? ⟨g, 1, none⟩ = some b := ⟨(blk_cell F.out 0).trans rfl, (blk_cell F.out 1).trans rfl⟩
theorem cs3 {g t : Nat} {a b c : Value} (F : Aside0 (W.heap[g]? = some (.cells #[a, b, c] t (0, 0)))) : W.cell? ⟨g, 0, none⟩ = some a ∧ W.cell? ⟨g, 1, none⟩ = some b ∧ W.cell? ⟨g, 2, none⟩ = some c := ⟨(blk_cell F.out 0).trans rfl, (blk_cell F.out 1).trans rfl, (blk_cell F.out 2).trans rfl⟩
theorem cs4 {g t : Nat} {a b c d : Value} (F : Aside0 (W.heap[g]? = some (.cells #[a, b, c, d] t (0, 0)))) : W.cell? ⟨g, 0, none⟩ = some a ∧ W.cell? ⟨g, 1, none⟩ = some b ∧ W.cell? ⟨g, 2, none⟩ = some c ∧ W.cell? ⟨g, 3, none⟩ = some d := ⟨(blk_cell F.out 0).trans rfl, (blk_cell F.out 1).trans rfl, (blk_cell F.out 2).trans rfl, (blk_cell F.out 3).trans rfl⟩
theorem cs6 {g t : Nat} {a b c d x y : Value} (F : Aside0 (W.heap[g]? = some (.cells #[a, b, c, d, x, y] t (0, 0)))) : W.cell? ⟨g, 0, none⟩ = some a ∧ W.cell? ⟨g, 1, none⟩ = some b ∧ W.cell? ⟨g, 2, none⟩ = some c ∧ W.cell? ⟨g, 3, none⟩ = some d ∧ W.cell? ⟨g, 4, none⟩ = some x ∧ W.cell? ⟨g, 5, none⟩ = some y :=
  ⟨(blk_cell F.out 0).trans rfl, (blk_cell F.out 1).trans rfl, (blk_cell F.out 2).trans rfl, (blk_cell F.out 3).trans rfl, (blk_cell F.out 4).trans rfl, (blk_cell F.out 5).trans rfl⟩
theorem fz {g t : Nat} {cs : Array Value} (F : Aside0 (W.heap[g]? = some (.cells cs t (0, 0)))) (j : Nat) : W.frozen? ⟨g, j, none⟩ = false := blk_frozen F.out j
theorem sets_keep (g : Nat) : ∀ (vs : List Value) (j : Nat) (W1 : World), KeepBut W W1 g none → KeepBut W (W1.setCells g j vs) g none
  | [], _, _, h => h
  | v :: r, j, _, h => sets_keep g r (j + 1) _ (h.set_ j v)
theorem sets_below (g : Nat) (hg : w.heap.size ≤ g) : ∀ (vs : List Value) (j : Nat) (W1 : World), Below w.heap.size w W1 → Below w.heap.size w (W1.setCells g j vs)
  | [], _, _, h => h
  | _ :: r, j, _, h => sets_below g hg r (j + 1) _ (below_set h hg)
theorem sets_blk (g t : Nat) (s : List Value) : ∀ (vs l r : List Value) (W1 : World), r.length = vs.length → W1.heap[g]? = some (.cells (l ++ r ++ s).toArray t (0, 0)) → (W1.setCells g l.length vs).heap[g]? = some (.cells (l ++ vs ++ s).toArray t (0, 0))
  | [], l, r, _, hr, h => by
    obtain rfl : r = [] := List.eq_nil_of_length_eq_zero hr
    exact h
  | v :: vs, l, [], _, hr, h => by cases hr
  | v :: vs, l, x :: r, W1, hr, h => by
    have := sets_blk g t s vs (l ++ [v]) r (W1.setCell ⟨g, l.length, none⟩ v) (by simpa using hr) (by
      rw [blk_set h]
      simp)
    simpa [World.setCells] using this
theorem sets_blk' {g t : Nat} {cs : Array Value} (off : Nat) (ns vs : List Value) (hl : cs.toList.take off ++ ns ++ cs.toList.drop (off + ns.length) = vs) (hs : off + ns.length ≤ cs.size) (F : W.heap[g]? = some (.cells cs t (0, 0))) : (W.setCells g off ns).heap[g]? = some (.cells vs.toArray t (0, 0)) := by
  subst hl
  have h1 : (cs.toList.take off).length = off := by rw [List.length_take, Array.length_toList (xs := cs)]; omega
  have := sets_blk g t (cs.toList.drop (off + ns.length)) ns (cs.toList.take off) ((cs.toList.drop off).take ns.length) W (by rw [List.length_take, List.length_drop, Array.length_toList (xs := cs)]; omega) (by
    rw [F]
    congr 1
    congr 1
    rw [List.append_assoc, ← List.drop_drop, List.take_append_drop, List.take_append_drop])
  rwa [h1] at this
variable {ops ops' : Array Oper} {o : Oper} {rest : List Oper} {a : Act} {QE : Exit → Act → World → Prop}
theorem bx (hgd : o.guard = none) {N : Tmp} (hd : o.dst = some N) {cs : Array Value} {t : TypeId} (hrun : (execOp a.eval o).run P W = .ok (.value (.pointer (some ⟨W.heap.size, 0, none⟩))) (W.alloc (.cells cs t (0, 0))))
    (B : Aside0 (Below w.heap.size w W))
    (h : ∀ g w1, Below W.heap.size W w1 → Aside0 (Below w.heap.size w w1) → Aside0 (w1.heap[g]? = some (.cells cs t (0, 0))) → Aside0 (w.heap.size ≤ g) → Aside0 (g = W.heap.size) → wpList P ops QE rest (a.put o.dst (.pointer (some ⟨g, 0, none⟩))) w1) : wpList P ops QE (o :: rest) a W :=
  box_event hgd hd hrun fun g hg w1 hc hb => h g w1 hb ⟨below_step B.out hb⟩ ⟨hc⟩ ⟨hg ▸ below_size B.out⟩ ⟨hg⟩
theorem sx (hgd : o.guard = none) {t t' : TypeId} {p : Tmp} {v : Operand} (ho : o.op = .store t' (.tmp p) v) (hN : o.dst = none) {g : Nat} {cs : Array Value} (off : Nat) (ns vs : List Value) (hrun : (execOp a.eval o).run P W = .ok .skip (W.setCells g off ns))
    (B : Aside0 (Below w.heap.size w W)) (F : Aside0 (W.heap[g]? = some (.cells cs t (0, 0)))) (L : Aside0 (w.heap.size ≤ g)) (hl : cs.toList.take off ++ ns ++ cs.toList.drop (off + ns.length) = vs) (hs : off + ns.length ≤ cs.size)
    (h : ∀ w', KeepBut W w' g none → Aside0 (Below w.heap.size w w') → Aside0 (w'.heap[g]? = some (.cells vs.toArray t (0, 0))) → wpList P ops QE rest a w') : wpList P ops QE (o :: rest) a W :=
  store_event hgd ho hN hrun fun w' hw => by
    subst hw
    exact h _ (sets_keep g ns off W (KeepBut.refl _ _ _)) ⟨sets_below g L.out ns off W B.out⟩ ⟨sets_blk' off ns vs hl hs F.out⟩
theorem sxs {Kc : Act → World → Prop} {g t : Nat} {cs : Array Value} (off : Nat) (ns vs : List Value) (hw : Region.wanted o (yielded ops' a.tmps) = true) (hN : o.dst = none) (hrun : (execOp a.eval o).run P W = .ok .skip (W.setCells g off ns))
    (B : Aside0 (Below w.heap.size w W)) (F : Aside0 (W.heap[g]? = some (.cells cs t (0, 0)))) (L : Aside0 (w.heap.size ≤ g)) (hl : cs.toList.take off ++ ns ++ cs.toList.drop (off + ns.length) = vs) (hs : off + ns.length ≤ cs.size)
    (h : ∀ w', KeepBut W w' g none → Aside0 (Below w.heap.size w w') → Aside0 (w'.heap[g]? = some (.cells vs.toArray t (0, 0))) → Kc (a.put none undef) w') : if Region.wanted o (yielded ops' a.tmps) = true then Oper.wp P o a W Kc QE else Kc (a.put none undef) W := by
  rw [if_pos hw]
  unfold Oper.wp
  rw [hrun]
  show Kc (a.put o.dst undef) _
  rw [hN]
  exact h _ (sets_keep g ns off W (KeepBut.refl _ _ _)) ⟨sets_below g L.out ns off W B.out⟩ ⟨sets_blk' off ns vs hl hs F.out⟩
theorem rg {S : World → Prop} {ds : List Nat} {id n : Nat} (l : Array Bool) (hm : P.follows .mixedOrders = true) (hn : ops'.size = n) (hl : Array.replicate n false = l) (hS : S W) (hd : S W → S W.drew) (B : Aside0 (Below w.heap.size w W))
    (h : ∀ W', Below W.heap.size W W' → Aside0 (Below w.heap.size w W') → S W' → wpAnyLast P .any ops' QE S ds n l a W') : (Code.region id ops' true).wp P QE a W :=
  start_ l hm hn hl (hd hS) fun hH => h _ (below_drew1 (Below.refl _ _)) ⟨below_drew B.out⟩ hH
theorem sk {S : World → Prop} {md : Region.Mode} {ds : List Nat} {i : Nat} {N : Option Tmp} {oi : Oper} {fuel : Nat} {l : Array Bool} (l' : Array Bool) (hi : ops'[i]? = some oi) (hN : oi.dst = N) (hc : anyB md ops' l l' i = true)
    (hQ : ∀ c a w, QE (.panic c) (a.put oi.dst undef) w → QE (.panic c) a w) (hw : Region.wanted oi (yielded ops' a.tmps) = false) (h : wpAnyLast P md ops' QE S ds fuel l' (a.put N undef) W) : wpAnyLast P md ops' QE S ds (fuel + 1) l a W :=
  pure_ l' hi hN hc hQ (Or.inr ⟨hw, rfl⟩) rfl h
theorem pu {S : World → Prop} {md : Region.Mode} {ds : List Nat} {i : Nat} {N : Option Tmp} {oi : Oper} {v : Value} {fuel : Nat} {l : Array Bool} (l' : Array Bool) (hi : ops'[i]? = some oi) (hN : oi.dst = N) (hc : anyB md ops' l l' i = true)
    (hQ : ∀ c a w, QE (.panic c) (a.put oi.dst v) w → QE (.panic c) a w) (hw : Region.wanted oi (yielded ops' a.tmps) = true) (hy : ∀ w, (execOp a.eval oi).run P w = .ok (.value v) w) (h : wpAnyLast P md ops' QE S ds fuel l' (a.put N v) W) : wpAnyLast P md ops' QE S ds (fuel + 1) l a W :=
  pure_ l' hi hN hc hQ (Or.inl ⟨hw, hy⟩) rfl h
theorem ta {S : World → Prop} {md : Region.Mode} {ds : List Nat} {i : Nat} {N : Option Tmp} {oi : Oper} {v : Value} {fuel : Nat} {l : Array Bool} (l' : Array Bool) (hi : ops'[i]? = some oi) (hN : oi.dst = N) (hc : takeB md ops' ds l l' i = true)
    (hQ : ∀ c a w, QE (.panic c) (a.put oi.dst v) w → QE (.panic c) a w) (hw : Region.wanted oi (yielded ops' a.tmps) = true) (hS : S W) (hy : ∀ w, S w → (execOp a.eval oi).run P w = .ok (.value v) w) (h : wpAnyLast P md ops' QE S ds fuel l' (a.put N v) W) : wpAnyLast P md ops' QE S ds (fuel + 1) l a W :=
  take_ l' hi hN hc hQ (Or.inl ⟨hw, hy⟩) hS rfl h
theorem ne1 {g g' : Nat} {o : Obj} (E : Aside0 (g = W.heap.size)) (F : Aside0 (W.heap[g']? = some o)) : Aside0 (g' ≠ g) := ⟨Nat.ne_of_lt (E.out ▸ blk_lt F.out)⟩
theorem bk {g g' : Nat} {o : Obj} (F : Aside0 (W.heap[g']? = some o)) (hk : KeepBut W W' g none) (N : g' ≠ g) : Aside0 (W'.heap[g']? = some o) := ⟨hk.blk F.out N (by simp)⟩
theorem rk {v : Value} {g t : Nat} {cs : Array Value} (R : Aside0 (Ow d e W b v xs)) (F : Aside0 (W.heap[g]? = some (.cells cs t (0, 0)))) (ht : ∀ q, q ∈ e :: d.E → q ≠ t) (hk : KeepBut W W' g none) : Aside0 (Ow d e W' b v xs) :=
  ⟨Kd.R_mono (Kd.R_keep (Kd.R_types R.out F.out ht) hk (fun _ q => q.2)) (fun _ q => q.1)⟩
end

theorem w64 {x : Int} (h0 : -9223372036854775808 ≤ x) (h1 : x ≤ 9223372036854775807) : wrap64 x = x := by
  unfold wrap64
  omega
theorem rd_drop {xs : List Int} {j : Nat} (h : j < xs.length) : xs.drop j = rd xs (j : Int) :: xs.drop (j + 1) := by
  rw [List.drop_eq_getElem_cons h]
  simp [rd, List.getD_eq_getElem?_getD, List.getElem?_eq_getElem h]
theorem andF {c x r : Bool} (h : (c && x) = r) (hc : c = false) : Ending.returned (Value.bool false) = Ending.returned (.bool r) := by subst h; rw [hc]; rfl
theorem andT {c x r : Bool} (h : (c && x) = r) (hc : c = true) : x = r := by subst h; rw [hc]; rfl

/-! Strings compared. -/
theorem less_total : ∀ x y : List UInt8, (Op.bytesLess x y || x == y) = !(Op.bytesLess y x)
  | [], [] => rfl
  | [], _ :: _ => rfl
  | _ :: _, [] => rfl
  | a :: x, b :: y => by
    have ih := less_total x y
    simp only [Op.bytesLess]
    by_cases h : a = b
    · subst h
      simpa using ih
    · have h2 : (a == b) = false := beq_eq_false_iff_ne.mpr h
      have h3 : (b == a) = false := beq_eq_false_iff_ne.mpr (Ne.symm h)
      have h4 : (a :: x == b :: y) = false := beq_eq_false_iff_ne.mpr fun q => h (List.cons.inj q).1
      rw [h2, h3, h4]
      simp only [Bool.false_and, Bool.or_false]
      by_cases hl : a < b
      · have : ¬ b < a := by rw [UInt8.lt_iff_toNat_lt] at *; omega
        simp [hl, this]
      · have : b < a := by
          rw [UInt8.lt_iff_toNat_lt] at *
          have : a.toNat ≠ b.toNat := fun q => h (UInt8.toNat_inj.mp q)
          omega
        simp [hl, this]
theorem leq_str (t : TypeId) (a b : ByteArray) : binOp .leq t (.string a) (.string b) = pure (.bool !(Op.bytesLess b.toList a.toList)) := by
  rw [← less_total]
  simp [binOp, Op.stringOp]
theorem geq_str (t : TypeId) (a b : ByteArray) : binOp .geq t (.string a) (.string b) = pure (.bool !(Op.bytesLess a.toList b.toList)) := by
  simp [binOp, Op.stringOp]
theorem gtr_str (t : TypeId) (a b : ByteArray) : binOp .gtr t (.string a) (.string b) = pure (.bool (Op.bytesLess b.toList a.toList)) := by
  have h : (!(Op.bytesLess a.toList b.toList || a.toList == b.toList)) = Op.bytesLess b.toList a.toList := by rw [less_total, Bool.not_not]
  rw [← h, Bool.not_or]
  simp [binOp, Op.stringOp]
attribute [local go_sem] leq_str geq_str gtr_str

/-! Keys. -/
theorem ba_toList (s : ByteArray) : s.toList = s.data.toList := Lib.toList_data s
theorem ba_inj {s t : ByteArray} (h : s.toList = t.toList) : s = t := by
  rw [ba_toList, ba_toList] at h
  cases s; cases t; simp only [ByteArray.mk.injEq]; exact Array.toList_inj.mp h
theorem nil_iff (s : ByteArray) : s.toList = ([] : List UInt8) ↔ s.size = 0 := by
  rw [ba_toList]
  refine ⟨fun h => ?_, fun h => ?_⟩
  · have := data_length s
    rw [h] at this
    exact this.symm
  · exact List.eq_nil_of_length_eq_zero (by rw [data_length]; exact h)
def lowB (x : Int) : Bool := decide (97 ≤ x) && decide (x ≤ 122)
def keyB (s : ByteArray) : Bool := decide (1 ≤ s.size) && decide (s.size ≤ 4) && (bytesOf s).all lowB
theorem bt_drop' {s : ByteArray} {j : Nat} (h : j < s.size) : (bytesOf s).drop j = bt s (j : Int) :: (bytesOf s).drop (j + 1) := by
  rw [rd_drop (by rw [bytesOf_length]; exact h), rd_bytesOf]
theorem bytesOf_tail (s : ByteArray) : bytesOf (s.extract 1 s.size) = (bytesOf s).drop 1 := by
  unfold bytesOf
  rw [← List.map_drop]
  refine congrArg _ ?_
  rw [ByteArray.data_extract, Array.toList_extract]
  rw [List.extract_eq_take_drop, List.take_of_length_le (by rw [List.length_drop, data_length]; omega)]
def l1B (n lo hi : Int) : Bool := decide (lo ≤ n) && decide (n ≤ hi)
theorem spec_l1In.M (n lo hi : Int) (w : World) : Calls Try.prog 74 #[.int .i64 n, .int .i64 lo, .int .i64 hi] w fun e w' => e = .returned (.bool (l1B n lo hi)) ∧ Below w.heap.size w w' := by
  go_enter Try.func74, Try.ntmps74
  go_wp2
  all_goals go_ret
  all_goals (refine ⟨?_, Below.refl _ _⟩; unfold l1B; simp_all; try omega)
theorem spec_KeyValid.M (a : ByteArray) (w : World) : Calls Try.prog 68 #[.string a] w fun e w' => e = .returned (.bool (keyB a)) ∧ Below w.heap.size w w' := by
  have B := Aside0.mk (Below.refl w.heap.size w)
  obtain ⟨r, hr⟩ : ∃ r, keyB a = r := ⟨_, rfl⟩
  rw [hr]
  unfold keyB at hr
  by_cases hs : 1 ≤ a.size ∧ a.size ≤ 4
  · have hl : l1B (a.size : Int) 1 4 = true := by unfold l1B; simp; omega
    have H := Aside0.mk (show ((bytesOf a).drop 0).all lowB = r by simpa [hs.1, hs.2] using hr)
    clear hr
    go_enter Try.func68, Try.ntmps68
    go_wp2_with (first
      | (go_at_call 74; with_reducible refine cl (clv (spec_l1In.M _ 1 4 _) (congrArg Value.bool hl)) B fun w1 hb B => ?_; clear hb))
    go_loopg [3] (a.size + 1) (fun kx v3 wr => ∃ j : Nat, v3 = .int .i64 (j : Int) ∧ j ≤ a.size ∧ a.size < j + kx ∧ Aside0 (Below w.heap.size w wr) ∧ Aside0 (((bytesOf a).drop j).all lowB = r))
    case atStart => exact ⟨0, rfl, by omega, by omega, B, H⟩
    case round =>
      clear H B
      obtain ⟨j, rfl, hj, hk, B, H⟩ := hrel
      have H := H.out
      by_cases hlt : j < a.size
      · have p := eq_true (show (0 : Int) ≤ (j : Int) by omega)
        have q := eq_true (show (j : Int) < (a.size : Int) by omega)
        have q' := decide_eq_true (show (j : Int) < (a.size : Int) by omega)
        have hx : ((a[j]'hlt).toNat : Int) = bt a (j : Int) := bt_at a (j : Int) (by rw [Int.toNat_natCast]; exact hlt)
        rw [bt_drop' hlt] at H
        simp only [List.all_cons] at H
        generalize bt a (j : Int) = x at *
        obtain ⟨d, rfl⟩ : ∃ d, gk = d + 1 := ⟨gk - 1, by omega⟩
        by_cases hx : lowB x = true
        · have H' := Aside0.mk (show ((bytesOf a).drop (j + 1)).all lowB = r by simpa [hx] using H)
          clear H
          unfold lowB at hx
          simp only [Bool.and_eq_true, decide_eq_true_eq] at hx
          have d1 : decide (x < 97) = false := decide_eq_false (by omega)
          have d2 : decide (122 < x) = false := decide_eq_false (by omega)
          go_wp2
          go_roundg d
          case measure => omega
          case rel => exact ⟨j + 1, congrArg (Value.int .i64) (Int.natCast_succ _).symm, by omega, by omega, B, H'⟩
        · have hr : r = false := by simpa [hx] using H.symm
          subst hr
          clear H
          unfold lowB at hx
          simp only [Bool.and_eq_true, decide_eq_true_eq] at hx
          by_cases h97 : x < 97
          · have d1 : decide (x < 97) = true := decide_eq_true h97
            go_wp2
            go_ret
            exact ⟨by simp, B.out⟩
          · have d1 : decide (x < 97) = false := decide_eq_false h97
            have d2 : decide (122 < x) = true := decide_eq_true (by omega)
            go_wp2
            go_ret
            exact ⟨by simp, B.out⟩
      · have q' := decide_eq_false (show ¬ (j : Int) < (a.size : Int) by omega)
        have hr : r = true := by
          rw [List.drop_of_length_le (by rw [bytesOf_length]; omega)] at H
          simpa using H.symm
        subst hr
        go_wp2
        go_ret
        exact ⟨by simp, B.out⟩
  · have hl : l1B (a.size : Int) 1 4 = false := by unfold l1B; simp; omega
    have hr : r = false := by
      rw [← hr, Bool.and_eq_false_iff, Bool.and_eq_false_iff, decide_eq_false_iff_not, decide_eq_false_iff_not]
      omega
    subst hr
    go_enter Try.func68, Try.ntmps68
    go_wp2_with (first
      | (go_at_call 74; with_reducible refine cl (clv (spec_l1In.M _ 1 4 _) (congrArg Value.bool hl)) B fun w1 hb B => ?_; clear hb))
    go_ret
    exact ⟨by simp, B.out⟩
theorem impl_lettersOnly.M : ∀ (n : Nat) (a : ByteArray) (w : World), a.size = n → Calls Try.prog 85 #[.string a] w fun e w' => e = .returned (.bool ((bytesOf a).all lowB)) ∧ Below w.heap.size w w'
  | 0, a, w, h => by
    have hn : a.toList = [] := (nil_iff a).mpr h
    go_enter Try.func85, Try.ntmps85
    go_wp2
    all_goals (first | go_ret | skip)
    all_goals (first | exact absurd hn (by assumption) | skip)
    refine ⟨?_, Below.refl _ _⟩
    have : bytesOf a = [] := List.eq_nil_of_length_eq_zero (by rw [bytesOf_length]; exact h)
    rw [this]
    rfl
  | n + 1, a, w, h => by
    have B := Aside0.mk (Below.refl w.heap.size w)
    have hn : ¬ a.toList = [] := fun q => by have := (nil_iff a).mp q; omega
    have IH := Aside0.mk (fun W => impl_lettersOnly.M n (a.extract 1 a.size) W (by simp [h]))
    have hb0 := bt_drop' (s := a) (j := 0) (by omega)
    have h0 : 0 < a.size := by omega
    have hx : ((a[0]'h0).toNat : Int) = bt a ((0 : Nat) : Int) := bt_at a 0 (by simp; omega)
    have p := eq_true (show (0 : Int) < (a.size : Int) by omega)
    have p1 := eq_true (show 0 < a.size by omega)
    have p2 := eq_true (show 1 ≤ a.size by omega)
    rw [List.drop_zero] at hb0
    rw [bytesOf_tail] at IH
    rw [hb0]
    simp only [List.all_cons]
    clear hb0
    rw [Nat.zero_add]
    generalize (List.drop 1 (bytesOf a)).all lowB = r at IH ⊢
    generalize bt a ((0 : Nat) : Int) = x at hx ⊢
    clear h
    go_enter Try.func85, Try.ntmps85
    go_wp2_with (first
      | (go_at_call 85; with_reducible refine cl (IH.out _) B fun w1 hb B => ?_; clear hb))
    all_goals go_ret
    all_goals (refine ⟨?_, B.out⟩; unfold lowB; simp_all; try omega)
theorem impl_KeyValid.M (a : ByteArray) (w : World) : Calls Try.prog 61 #[.string a] w fun e w' => e = .returned (.bool (keyB a)) ∧ Below w.heap.size w w' := by
  have B := Aside0.mk (Below.refl w.heap.size w)
  go_enter Try.func61, Try.ntmps61
  go_wp2_with (first
    | (go_at_call 85; with_reducible refine cl (impl_lettersOnly.M _ a _ rfl) B fun w1 hb B => ?_; clear hb))
  all_goals go_ret
  all_goals (refine ⟨?_, B.out⟩; unfold keyB; simp_all; try omega)

/-! The model of commands. -/
def cmdB (k : Int) (key : ByteArray) (v o : Int) : Bool :=
  (keyB key || (decide (k = 5) && decide (key.toList = ([] : List UInt8)))) &&
  (if k = 2 then l1B v 0 999 && decide (o = 0) else if k = 4 then l1B v 0 999 && l1B o (-1) 999 else decide (1 ≤ k ∧ k ≤ 5) && (decide (v = 0) && decide (o = 0)))

/-! The model of pairs. -/
def ltB (a b : ByteArray) : Bool := Op.bytesLess a.toList b.toList
def okP (p : S42) : Bool := keyB p.f0 && l1B p.f1 0 999
def aboveP (p : Option ByteArray) (c : ByteArray) : Bool := match p with
  | none => true
  | some q => ltB q c
def prG : Option ByteArray → List S42 → Bool
  | _, [] => true
  | p, s :: r => okP s && (aboveP p s.f0 && prG (some s.f0) r)
def prB (l : List S42) : Bool := decide (l.length ≤ 48) && prG none l
def prP (l : List S42) (j : Nat) : Option ByteArray := if j = 0 then none else some (l.getD (j - 1) z42).f0
theorem pr_nat {l : List S42} {j : Nat} (h : j < l.length) : rd_T42 l (j : Int) = l[j] := by
  simp [rd_T42, List.getD_eq_getElem?_getD, List.getElem?_eq_getElem h]
theorem pr_drop {l : List S42} {j : Nat} (h : j < l.length) : l.drop j = rd_T42 l (j : Int) :: l.drop (j + 1) := by
  rw [pr_nat h, List.drop_eq_getElem_cons h]
theorem pr_prev (l : List S42) (j : Nat) : prP l (j + 1) = some (rd_T42 l (j : Int)).f0 := by
  unfold prP rd_T42
  rw [if_neg (by omega), Int.toNat_natCast, Nat.add_sub_cancel]
theorem prB_len {l : List S42} (h : prB l = true) : l.length ≤ 48 := by
  unfold prB at h
  rw [Bool.and_eq_true, decide_eq_true_eq] at h
  exact h.1
def prJ (l : List S42) (j : Nat) : Bool := prG (prP l j) (l.drop j)
theorem prJ_end {l : List S42} {j : Nat} (h : ¬ j < l.length) : prJ l j = true := by
  unfold prJ
  rw [List.drop_of_length_le (by omega)]
  rfl
theorem prJ_step {l : List S42} {j : Nat} (h : j < l.length) :
    prJ l j = ((keyB (rd_T42 l (j : Int)).f0 && (l1B (rd_T42 l (j : Int)).f1 0 999 && (if j = 0 then true else ltB (rd_T42 l ((j - 1 : Nat) : Int)).f0 (rd_T42 l (j : Int)).f0))) && prJ l (j + 1)) := by
  unfold prJ
  rw [pr_drop h, pr_prev]
  simp only [prG]
  unfold okP
  by_cases hj : j = 0
  · subst hj
    simp [prP, aboveP, Bool.and_assoc]
  · obtain ⟨i, rfl⟩ : ∃ i, j = i + 1 := ⟨j - 1, by omega⟩
    rw [pr_prev, if_neg hj, Nat.add_sub_cancel]
    simp [aboveP, Bool.and_assoc]

/-! The place of a key among pairs in order. -/
theorem less_irr : ∀ x : List UInt8, Op.bytesLess x x = false
  | [] => rfl
  | a :: x => by simp [Op.bytesLess, less_irr x]
theorem less_trans : ∀ x y z : List UInt8, Op.bytesLess x y = true → Op.bytesLess y z = true → Op.bytesLess x z = true
  | [], [], _, h, _ => by cases h
  | [], _ :: _, [], _, h => by cases h
  | [], _ :: _, _ :: _, _, _ => rfl
  | _ :: _, [], _, h, _ => by cases h
  | _ :: _, _ :: _, [], _, h => by cases h
  | a :: x, b :: y, c :: z, h, k => by
    simp only [Op.bytesLess, Bool.or_eq_true, Bool.and_eq_true, decide_eq_true_eq, beq_iff_eq] at h k ⊢
    rcases h with h | ⟨h1, h2⟩
    · rcases k with k | ⟨k1, k2⟩
      · exact .inl (UInt8.lt_trans h k)
      · subst k1; exact .inl h
    · subst h1
      rcases k with k | ⟨k1, k2⟩
      · exact .inl k
      · exact .inr ⟨k1, less_trans x y z h2 k2⟩
theorem ltB_irr (a : ByteArray) : ltB a a = false := less_irr _
theorem ltB_trans {a b c : ByteArray} (h : ltB a b = true) (k : ltB b c = true) : ltB a c = true := less_trans _ _ _ h k
theorem ltB_tri {a b : ByteArray} (h : ltB a b = false) (k : ltB b a = false) : a = b := by
  have ht := less_total a.toList b.toList
  unfold ltB at h k
  rw [h, k] at ht
  exact ba_inj (by simpa using ht)
theorem ltB_le {a b c : ByteArray} (h : ltB a b = false) (k : ltB a c = true) : ltB b c = true := by
  cases hb : ltB b a with
  | true => exact ltB_trans hb k
  | false => rw [← ltB_tri h hb]; exact k
theorem prG_all (l : List S42) : ∀ q : ByteArray, prG (some q) l = true → ∀ x ∈ l, ltB q x.f0 = true := by
  induction l with
  | nil => intro q _ x hx; cases hx
  | cons s r ih =>
    intro q h x hx
    simp only [prG, Bool.and_eq_true] at h
    have h1 : ltB q s.f0 = true := h.2.1
    rcases List.mem_cons.mp hx with rfl | hx
    · exact h1
    · exact ltB_trans h1 (ih s.f0 h.2.2 x hx)
theorem prG_order (l : List S42) : ∀ p : Option ByteArray, prG p l = true → l.Pairwise (fun a b => ltB a.f0 b.f0 = true) := by
  induction l with
  | nil => intro p _; exact List.Pairwise.nil
  | cons s r ih =>
    intro p h
    simp only [prG, Bool.and_eq_true] at h
    exact List.Pairwise.cons (prG_all r s.f0 h.2.2) (ih _ h.2.2)
theorem prB_order {l : List S42} (h : prB l = true) : l.Pairwise (fun a b => ltB a.f0 b.f0 = true) := by
  unfold prB at h
  rw [Bool.and_eq_true] at h
  exact prG_order l none h.2
def placeP (l : List S42) (c : ByteArray) : Nat → Nat → Nat → Nat
  | 0, lo, _ => lo
  | d + 1, lo, hi => if lo < hi then (if ltB (rd_T42 l (((lo + hi) / 2 : Nat) : Int)).f0 c = true then placeP l c d ((lo + hi) / 2 + 1) hi else placeP l c d lo ((lo + hi) / 2)) else lo
def atP (l : List S42) (c : ByteArray) : Nat := (l.takeWhile fun p => ltB p.f0 c).length
theorem take_len {α : Type} {p : α → Bool} : ∀ (l : List α) (R : Nat), R ≤ l.length → (∀ i (h : i < l.length), i < R → p l[i] = true) → (∀ h : R < l.length, p l[R] = false) → (l.takeWhile p).length = R
  | [], R, h, _, _ => by simp at h; simp [h]
  | x :: r, 0, _, _, h => by
    have := h (by simp)
    simp only [List.getElem_cons_zero] at this
    simp [List.takeWhile_cons, this]
  | x :: r, R + 1, h, h1, h2 => by
    have h0 := h1 0 (by simp) (by omega)
    simp only [List.getElem_cons_zero] at h0
    rw [List.takeWhile_cons, if_pos h0, List.length_cons, take_len r R (by simpa using h) (fun i hi hR => by have := h1 (i + 1) (by simpa using hi) (by omega); simpa using this) (fun hR => by have := h2 (by simpa using hR); simpa using this)]
theorem atP_le (l : List S42) (c : ByteArray) : atP l c ≤ l.length := by
  unfold atP
  induction l with
  | nil => simp
  | cons x r ih =>
    rw [List.takeWhile_cons]
    split
    · rw [List.length_cons, List.length_cons]; omega
    · simp
theorem placeP_spec {l : List S42} (ho : l.Pairwise (fun a b => ltB a.f0 b.f0 = true)) (c : ByteArray) : ∀ (d lo hi : Nat), lo ≤ hi → hi ≤ l.length → hi - lo ≤ d →
    (∀ i (h : i < l.length), i < lo → ltB l[i].f0 c = true) → (∀ i (h : i < l.length), hi ≤ i → ltB l[i].f0 c = false) →
    placeP l c d lo hi ≤ l.length ∧ (∀ i (h : i < l.length), i < placeP l c d lo hi → ltB l[i].f0 c = true) ∧ (∀ i (h : i < l.length), placeP l c d lo hi ≤ i → ltB l[i].f0 c = false)
  | 0, lo, hi, h1, h2, h3, h4, h5 => by
    obtain rfl : lo = hi := by omega
    exact ⟨h2, h4, h5⟩
  | d + 1, lo, hi, h1, h2, h3, h4, h5 => by
    rw [placeP]
    by_cases hlt : lo < hi
    · rw [if_pos hlt]
      have hm : (lo + hi) / 2 < l.length := by omega
      rw [pr_nat hm]
      have hord : ∀ i j (hi : i < l.length) (hj : j < l.length), i < j → ltB l[i].f0 l[j].f0 = true := fun i j hi hj hij => List.pairwise_iff_getElem.mp ho i j hi hj hij
      by_cases hc : ltB (l[(lo + hi) / 2]'hm).f0 c = true
      · rw [if_pos hc]
        refine placeP_spec ho c d _ _ (by omega) h2 (by omega) (fun i hil hlo => ?_) h5
        rcases Nat.lt_or_eq_of_le (show i ≤ (lo + hi) / 2 by omega) with h | h
        · exact ltB_trans (hord i _ hil hm h) hc
        · subst h; exact hc
      · rw [if_neg hc]
        refine placeP_spec ho c d _ _ (by omega) (by omega) (by omega) h4 (fun i hil hlo => ?_)
        rcases Nat.lt_or_eq_of_le (show (lo + hi) / 2 ≤ i by omega) with h | h
        · cases hh : ltB l[i].f0 c with
          | false => rfl
          | true => exact absurd (ltB_trans (hord _ i hm hil h) hh) hc
        · subst h; exact Bool.eq_false_iff.mpr hc
    · rw [if_neg hlt]
      obtain rfl : lo = hi := by omega
      exact ⟨h2, h4, h5⟩
theorem placeP_at {l : List S42} (h : prB l = true) (c : ByteArray) : placeP l c l.length 0 l.length = atP l c := by
  obtain ⟨h1, h2, h3⟩ := placeP_spec (prB_order h) c l.length 0 l.length (Nat.zero_le _) (Nat.le_refl _) (by omega) (fun i _ hi => absurd hi (Nat.not_lt_zero _)) (fun i hil hi => by omega)
  exact (take_len l _ h1 h2 (fun h => h3 _ h (Nat.le_refl _))).symm
def hitM (l : List S42) (c : ByteArray) : Bool := decide (atP l c < l.length) && decide ((rd_T42 l ((atP l c : Nat) : Int)).f0 = c)
def getM (l : List S42) (c : ByteArray) : Int := if prB l && hitM l c then (rd_T42 l ((atP l c : Nat) : Int)).f1 else -1
def putM (l : List S42) (c : ByteArray) (v : Int) : List S42 × Bool :=
  if prB l && (keyB c && l1B v 0 999) then (if hitM l c then ((l.take (atP l c) ++ [⟨c, v⟩]) ++ l.drop (atP l c + 1), true) else if 48 ≤ l.length then (l, false) else ((l.take (atP l c) ++ [⟨c, v⟩]) ++ l.drop (atP l c), true)) else ([], false)
def dropM (l : List S42) (c : ByteArray) : List S42 × Bool :=
  if prB l then (if hitM l c then (l.take (atP l c) ++ l.drop (atP l c + 1), true) else (l, false)) else ([], false)
theorem str_beq (a b : ByteArray) : (a.toList == b.toList) = decide (a = b) := by
  by_cases h : a = b
  · subst h; simp
  · rw [decide_eq_false h]; exact beq_eq_false_iff_ne.mpr fun q => h (ba_inj q)
theorem hit_true {l : List S42} {c : ByteArray} (h : hitM l c = true) : atP l c < l.length ∧ (rd_T42 l ((atP l c : Nat) : Int)).f0 = c ∧ ((rd_T42 l ((atP l c : Nat) : Int)).f0.toList == c.toList) = true := by
  unfold hitM at h
  rw [Bool.and_eq_true, decide_eq_true_eq, decide_eq_true_eq] at h
  exact ⟨h.1, h.2, by rw [str_beq, decide_eq_true h.2]⟩
theorem hit_false {l : List S42} {c : ByteArray} (h : hitM l c = false) (hlt : atP l c < l.length) : ((rd_T42 l ((atP l c : Nat) : Int)).f0.toList == c.toList) = false := by
  unfold hitM at h
  rw [decide_eq_true hlt, Bool.true_and, decide_eq_false_iff_not] at h
  rw [str_beq, decide_eq_false h]

/-! The model of a command carried out. -/
def apM (l : List S42) (k : Int) (x : ByteArray) (v o : Int) : List S42 × Int :=
  if prB l = true ∧ cmdB k x v o = true ∧ k ≠ 5 then
    (if k = 3 then ((dropM l x).1, getM l x)
     else if k = 1 ∨ (k = 4 ∧ o ≠ getM l x) then (l, getM l x)
     else if getM l x = -1 ∧ 8 ≤ l.length then (l, -2)
     else ((putM l x v).1, getM l x))
  else ([], -3)
theorem prG_val (l : List S42) : ∀ p : Option ByteArray, prG p l = true → ∀ x ∈ l, 0 ≤ x.f1 ∧ x.f1 ≤ 999 := by
  induction l with
  | nil => intro p _ x hx; cases hx
  | cons s r ih =>
    intro p h x hx
    simp only [prG, Bool.and_eq_true] at h
    rcases List.mem_cons.mp hx with rfl | hx
    · have h1 := h.1
      unfold okP at h1
      rw [Bool.and_eq_true] at h1
      have h2 := h1.2
      simp only [l1B, Bool.and_eq_true, decide_eq_true_eq] at h2
      omega
    · exact ih _ h.2.2 x hx
theorem getM_bound (l : List S42) (c : ByteArray) : -1 ≤ getM l c ∧ getM l c ≤ 999 := by
  unfold getM
  split
  · rename_i h
    rw [Bool.and_eq_true] at h
    obtain ⟨hv, hh⟩ := h
    obtain ⟨hlt, -, -⟩ := hit_true hh
    have hp := hv
    unfold prB at hp
    rw [Bool.and_eq_true] at hp
    have := prG_val l none hp.2 (rd_T42 l ((atP l c : Nat) : Int)) (by rw [pr_nat hlt]; exact List.getElem_mem _)
    omega
  · omega
theorem useEq {α : Type} {a b : α} {p : Prop} (h : a = b) (k : a = b → p) : p := k h
theorem dropM_len (l : List S42) (c : ByteArray) : (dropM l c).1.length ≤ l.length := by
  unfold dropM
  split
  · split
    · simp only [List.length_append, List.length_take, List.length_drop]; omega
    · exact Nat.le_refl _
  · simp
theorem putM_len (l : List S42) (c : ByteArray) (v : Int) : (putM l c v).1.length ≤ l.length + 1 := by
  unfold putM
  have hat := atP_le l c
  split
  · split
    · simp only [List.length_append, List.length_take, List.length_drop, List.length_cons, List.length_nil]; omega
    · split
      · simp only; omega
      · simp only [List.length_append, List.length_take, List.length_drop, List.length_cons, List.length_nil]; omega
  · simp
theorem apM_len (l : List S42) (k : Int) (x : ByteArray) (v o : Int) : (apM l k x v o).1.length ≤ l.length + 1 := by
  unfold apM
  have h1 := dropM_len l x
  have h2 := putM_len l x v
  split
  · split
    · simp only; omega
    · split
      · simp only; omega
      · split
        · simp only; omega
        · simp only; omega
  · simp

/-! The model of commands carried out one after the other. -/
def kC (c : S31) : Bool := cmdB c.f0 c.f1 c.f2 c.f3 && !decide (c.f0 = 5)
def stepR (a : List S42 × List Int) (c : S31) : List S42 × List Int := ((apM a.1 c.f0 c.f1 c.f2 c.f3).1, a.2 ++ [(apM a.1 c.f0 c.f1 c.f2 c.f3).2])
def runM (ps : List S42) (cs : List S31) : List S42 × List Int :=
  if prB ps && (decide (cs.length ≤ 20) && cs.all kC) then cs.foldl stepR (ps, []) else ([], [])
theorem cm_nat {l : List S31} {j : Nat} (h : j < l.length) : rd_T31 l (j : Int) = l[j] := by
  simp [rd_T31, List.getD_eq_getElem?_getD, List.getElem?_eq_getElem h]
theorem cm_drop {l : List S31} {j : Nat} (h : j < l.length) : l.drop j = rd_T31 l (j : Int) :: l.drop (j + 1) := by
  rw [cm_nat h, List.drop_eq_getElem_cons h]
theorem c2r {P : Program} {F : FuncId} {args : Array Value} {w W : World} {Q : Ending → World → Prop} {α β : Type} {d : Kd α} {d' : Kd β} {e e' : Nat} {xs : List α} {ys : List β} {f : Value → Value → Value} (c : Calls P F args W fun r w' => ∃ v1 v2, r = .returned (f v1 v2) ∧ Kd.R d e w' W.heap.size (fun _ => True) v1 xs ∧ Kd.R d' e' w' W.heap.size (fun _ => True) v2 ys ∧ Below W.heap.size W w') (B : Aside0 (Below w.heap.size w W))
    (h : ∀ A kk A' kk' W', Below W.heap.size W W' → Aside0 (Below w.heap.size w W') → Aside0 (Ow d e W' w.heap.size (.slice A xs.length kk) xs) → Aside0 (Fr W (.slice A xs.length kk)) → Aside0 (Ow d' e' W' w.heap.size (.slice A' ys.length kk') ys) → Aside0 (Fr W (.slice A' ys.length kk')) → Q (.returned (f (.slice A xs.length kk) (.slice A' ys.length kk'))) W') : Calls P F args W Q :=
  c.mono (by
    rintro r W' ⟨v1, v2, rfl, ho, ho', hb⟩
    obtain ⟨A, kk, rfl⟩ := Kd.R_slice ho
    obtain ⟨A', kk', rfl⟩ := Kd.R_slice ho'
    exact h A kk A' kk' W' hb ⟨below_step B.out hb⟩ ⟨Kd.R_lower ho (below_size B.out)⟩ ⟨fun k hk => Kd.R_base ho k hk⟩ ⟨Kd.R_lower ho' (below_size B.out)⟩ ⟨fun k hk => Kd.R_base ho' k hk⟩)
theorem foldR_len (cs : List S31) : ∀ a : List S42 × List Int, (cs.foldl stepR a).1.length ≤ a.1.length + cs.length ∧ (cs.foldl stepR a).2.length = a.2.length + cs.length := by
  induction cs with
  | nil => intro a; exact ⟨Nat.le_refl _, rfl⟩
  | cons c r ih =>
    intro a
    have h := ih (stepR a c)
    have h1 := apM_len a.1 c.f0 c.f1 c.f2 c.f3
    rw [List.foldl_cons, List.length_cons]
    have e1 : (stepR a c).1 = (apM a.1 c.f0 c.f1 c.f2 c.f3).1 := rfl
    have e2 : (stepR a c).2.length = a.2.length + 1 := by unfold stepR; simp
    rw [e1, e2] at h
    omega
theorem runM_len (ps : List S42) (cs : List S31) : (runM ps cs).1.length ≤ ps.length + cs.length ∧ (runM ps cs).2.length ≤ cs.length := by
  unfold runM
  split
  · have h := foldR_len cs (ps, [])
    simp only [List.length_nil, Nat.zero_add] at h
    omega
  · simp

theorem atP_step {l : List S42} {j : Nat} {c : ByteArray} (h : ∀ i (hi : i < l.length), i < j → ltB l[i].f0 c = true) (hj : j ≤ l.length) (hs : ∀ hl : j < l.length, ltB l[j].f0 c = false) : atP l c = j := take_len l j hj h hs
theorem spec_l4Place.M (A0 : Option Addr) (c0 : Nat) (l : List S42) (c : ByteArray) (w : World) (hr0 : Kd.C k42 w A0 l.length l) : Calls Try.prog 75 #[.slice A0 l.length c0, .string c] w fun e w' => e = .returned (.int .i64 ((atP l c : Nat) : Int)) ∧ Below w.heap.size w w' := by
  have B := Aside0.mk (Below.refl w.heap.size w)
  have HR0 := Aside0.mk hr0
  have L63 := Aside0.mk hr0.2.1
  clear hr0
  go_enter Try.func75, Try.ntmps75
  go_wp2
  go_loopg [5] (l.length + 1) (fun kx v5 wr => ∃ j : Nat, v5 = .int .i64 (j : Int) ∧ j ≤ l.length ∧ l.length < j + kx ∧ Aside0 (Below w.heap.size w wr) ∧ Aside0 (∀ i (hi : i < l.length), i < j → ltB l[i].f0 c = true))
  case atStart => exact ⟨0, rfl, by omega, by omega, B, ⟨fun i _ h => absurd h (Nat.not_lt_zero _)⟩⟩
  case round =>
    clear B
    obtain ⟨j, rfl, hj, hk, B, H⟩ := hrel
    have h63 := L63.out
    by_cases hlt : j < l.length
    · obtain ⟨d, rfl⟩ : ∃ d, gk = d + 1 := ⟨gk - 1, by omega⟩
      have cj : decide ((j : Int) < (l.length : Int)) = true := decide_eq_true (by omega)
      obtain ⟨ad, hA, y0, y1⟩ := at_T42 (cb HR0 B) (j : Int) (by omega) (by omega)
      cases hA
      rw [Int.toNat_natCast] at y0 y1
      have j1 := eq_true (show (j : Int) < (l.length : Int) by omega)
      have j2 := eq_true hlt
      have hy : rd_T42 l (j : Int) = l[j] := pr_nat hlt
      generalize rd_T42 l (j : Int) = y at *
      have HY := Aside0.mk hy
      clear hy
      cases hb : Op.bytesLess y.f0.toList c.toList with
      | true =>
        go_wp2
        go_roundg d
        case measure => omega
        case rel => exact ⟨j + 1, congrArg (Value.int .i64) (Int.natCast_succ _).symm, by omega, by omega, B, ⟨fun i hi h => by
          rcases Nat.lt_or_eq_of_le (show i ≤ j by omega) with h' | h'
          · exact H.out i hi h'
          · subst h'; rw [← HY.out]; exact hb⟩⟩
      | false =>
        have hr := atP_step H.out hj (fun _ => by rw [← HY.out]; exact hb)
        go_wp2
        go_ret
        exact ⟨by rw [hr]; rfl, B.out⟩
    · have cj : decide ((j : Int) < (l.length : Int)) = false := decide_eq_false (by omega)
      have hr := atP_step H.out hj (fun h => absurd h hlt)
      go_wp2
      go_ret
      exact ⟨by rw [hr]; rfl, B.out⟩

def spec_PairsValid.T6 : Bool × List (List Nat × List Nat) := (true, [([], []), ([], []), ([0, 1], [0, 1]), ([2], [2]), ([3], [3]), ([4], [4]), ([5], [5]), ([6, 5], [6]), ([7], [7]), ([7], [7]), ([8, 9, 7], [7, 8, 9]), ([10, 7], [7, 10]), ([11, 7], [7, 11]), ([12, 7, 7], [7, 12]), ([13, 7], [7, 13]), ([7, 14], [7, 14]), ([15, 13], [15]), ([16], [16]), ([17, 16], [16, 17]), ([18, 16, 16], [16, 18]), ([19], [19]), ([19], [19]), ([20, 21, 19], [19, 20, 21]), ([22, 19], [19, 22]), ([23, 19], [19, 23]), ([19], [19]), ([19], [19]), ([26, 19], [19, 26]), ([25, 27, 19], [19, 25, 27]), ([28, 19], [19, 28]), ([29, 19], [19, 29]), ([24, 30, 19], [19, 24, 30]), ([19, 31, 16], [16, 19, 31]), ([16, 32], [16, 32])])
def spec_PairsValid.B6 : List Nat := [0, 0, 3, 7, 15, 31, 63, 127, 255, 255, 1023, 2047, 4095, 8191, 16383, 32767, 65535, 131071, 262143, 524287, 1048575, 1048575, 4194303, 8388607, 16777215, 1048575, 1048575, 68157439, 235929599, 504365055, 1041235967, 2147483647, 4294967295, 8589934591]
theorem spec_PairsValid.tab6 : rtab .any (opsOf Try.f41 6) = spec_PairsValid.T6 := by kernel_rfl
theorem spec_PairsValid.bits6 : waitsOk spec_PairsValid.T6.2 spec_PairsValid.B6 = true := by kernel_rfl
theorem spec_PairsValid.M (A0 : Option Addr) (c0 : Nat) (l : List S42) (w : World) (hr0 : Kd.C k42 w A0 l.length l) : Calls Try.prog 41 #[.slice A0 l.length c0] w fun e w' => e = .returned (.bool (prB l)) ∧ Below w.heap.size w w' := by
  have hu := Try.underlying42
  have B := Aside0.mk (Below.refl w.heap.size w)
  have HR0 := Aside0.mk hr0
  clear hr0
  obtain ⟨r, hr⟩ : ∃ r, prB l = r := ⟨_, rfl⟩
  rw [hr]
  unfold prB at hr
  by_cases hl : l.length ≤ 48
  · have H := Aside0.mk (show prJ l 0 = r by unfold prJ prP; simpa [hl] using hr)
    have cl0 : decide (48 < (l.length : Int)) = false := decide_eq_false (by omega)
    have L48 := Aside0.mk (show l.length ≤ 4611686018427387904 by omega)
    clear hl hr
    go_enter Try.func41, Try.ntmps41
    go_wp2
    go_loopg [3] (l.length + 1) (fun kx v3 wr => ∃ j : Nat, v3 = .int .i64 (j : Int) ∧ j ≤ l.length ∧ l.length < j + kx ∧ Aside0 (Below w.heap.size w wr) ∧ Aside0 (prJ l j = r))
    case atStart => exact ⟨0, rfl, by omega, by omega, B, H⟩
    case round =>
      clear H B
      obtain ⟨j, rfl, hj, hk, B, H⟩ := hrel
      by_cases hlt : j < l.length
      · have HS := Aside0.mk ((prJ_step hlt).symm.trans H.out)
        clear H
        obtain ⟨d, rfl⟩ : ∃ d, gk = d + 1 := ⟨gk - 1, by omega⟩
        have h48 := L48.out
        have cj : decide ((j : Int) < (l.length : Int)) = true := decide_eq_true (by omega)
        obtain ⟨ad, hA, y0, y1⟩ := at_T42 (cb HR0 B) (j : Int) (by omega) (by omega)
        cases hA
        rw [Int.toNat_natCast] at y0 y1
        have j1 := eq_true (show (j : Int) < (l.length : Int) by omega)
        have j2 := eq_true hlt
        generalize hy : rd_T42 l (j : Int) = y at *
        try go_wp2
        all_goals try (go_ret; exact ⟨andF HS.out (by grind [l1B, ltB]), B.out⟩)
        all_goals (
          refine rg (n := 34) (S := fun W => Kd.C k42 W (some ad) l.length l) (ds := []) #[false, false, false, false, false, false, false, false, false, false, false, false, false, false, false, false, false, false, false, false, false, false, false, false, false, false, false, false, false, false, false, false, false, false] (by kernel_rfl) rfl rfl (cb HR0 B) id B (fun w1 hb B hHeld => ?_)
          refine with_tabW spec_PairsValid.tab6 spec_PairsValid.bits6 (fun HT_ HW_ => ?_)
          clear hb
          refine pu (i := 0) (N := some 13) (v := ?_) (bits 34 1) rfl rfl (any_of HT_.out (by kernel_rfl)) (fun _ _ _ h => h) (by kernel_rfl) ?_ ?_; rotate_left; (intro w'; go_simp; with_reducible rfl)
          refine pu (i := 1) (N := some 14) (v := ?_) (bits 34 3) rfl rfl (any_of HT_.out (by kernel_rfl)) (fun _ _ _ h => h) (by kernel_rfl) ?_ ?_; rotate_left; (intro w'; go_simp; with_reducible rfl)
          refine pu (i := 2) (N := some 15) (v := ?_) (bits 34 7) rfl rfl (any_of HT_.out (by kernel_rfl)) (fun _ _ _ h => h) (by kernel_rfl) ?_ ?_; rotate_left; (intro w'; go_simp; with_reducible rfl)
          refine pu (i := 3) (N := some 16) (v := ?_) (bits 34 15) rfl rfl (any_of HT_.out (by kernel_rfl)) (fun _ _ _ h => h) (by kernel_rfl) ?_ ?_; rotate_left; (intro w'; go_simp; with_reducible rfl)
          refine ta (i := 4) (N := some 17) (v := ?_) (bits 34 31) rfl rfl (take_ofW HT_.out HW_.out (by kernel_rfl)) (fun _ _ _ h => h) (by kernel_rfl) hHeld ?_ ?_; rotate_left; (intro w' hS; have s0 := hS; obtain ⟨_, hA, q0, q1⟩ := at_T42 s0 (j : Int) (by omega) (by omega); cases hA; rw [Int.toNat_natCast] at q0 q1; rw [hy] at q0 q1; go_simp; with_reducible rfl)
          refine norm_ (a' := ?_) ?_ ?_
          rotate_left
          · simp only [Act.put, List.setIfInBounds_toArray, List.set_cons_zero, List.set_cons_succ, i64_w, i32_w]
            rfl
          refine one_ (i := 5) (N := some 18) (bits 34 63) rfl rfl (one_of HT_.out (by kernel_rfl)) (by decide) (fun K hK => ?_)
          rcases hq1 : (keyB y.f0) with _ | _
          · refine goes_ Try.func68 (by kernel_rfl) rfl #[.string y.f0] (by rfl) rfl rfl (by (try simp only [List.map_toArray, List.map_cons, List.map_nil]); rfl) ?_
            with_reducible refine cl (clv (spec_KeyValid.M y.f0 _) (congrArg Value.bool hq1)) B fun w2 hb B => ?_
            clear hb
            refine ⟨_, rfl, ?_⟩
            refine hK.out _ _ (cb HR0 B) (fun hHeld => ?_)
            clear hK K
            refine norm_ (a' := ?_) ?_ ?_
            rotate_left
            · show Act.put _ (some 18) _ = _
              simp only [Act.put, List.setIfInBounds_toArray, List.set_cons_zero, List.set_cons_succ, i64_w, i32_w]
              rfl
            refine pu (i := 6) (N := some 19) (v := ?_) (bits 34 127) rfl rfl (any_of HT_.out (by kernel_rfl)) (fun _ _ _ h => h) (by kernel_rfl) ?_ ?_; rotate_left; (intro w'; go_simp; with_reducible rfl)
            refine pu (i := 7) (N := some 20) (v := ?_) (bits 34 255) rfl rfl (any_of HT_.out (by kernel_rfl)) (fun _ _ _ h => h) (by kernel_rfl) ?_ ?_; rotate_left; (intro w'; go_simp; with_reducible rfl)
            refine sk (i := 8) (N := some 21) (bits 34 511) rfl rfl (any_of HT_.out (by kernel_rfl)) (fun _ _ _ h => h) (by kernel_rfl) ?_
            refine sk (i := 9) (N := some 22) (bits 34 1023) rfl rfl (any_of HT_.out (by kernel_rfl)) (fun _ _ _ h => h) (by kernel_rfl) ?_
            refine sk (i := 10) (N := some 23) (bits 34 2047) rfl rfl (any_of HT_.out (by kernel_rfl)) (fun _ _ _ h => h) (by kernel_rfl) ?_
            refine sk (i := 11) (N := some 24) (bits 34 4095) rfl rfl (any_of HT_.out (by kernel_rfl)) (fun _ _ _ h => h) (by kernel_rfl) ?_
            refine sk (i := 12) (N := some 25) (bits 34 8191) rfl rfl (any_of HT_.out (by kernel_rfl)) (fun _ _ _ h => h) (by kernel_rfl) ?_
            refine sk (i := 13) (N := some 26) (bits 34 16383) rfl rfl (any_of HT_.out (by kernel_rfl)) (fun _ _ _ h => h) (by kernel_rfl) ?_
            refine sk (i := 14) (N := some 27) (bits 34 32767) rfl rfl (any_of HT_.out (by kernel_rfl)) (fun _ _ _ h => h) (by kernel_rfl) ?_
            refine pu (i := 15) (N := some 28) (v := ?_) (bits 34 65535) rfl rfl (any_of HT_.out (by kernel_rfl)) (fun _ _ _ h => h) (by kernel_rfl) ?_ ?_; rotate_left; (intro w'; go_simp; with_reducible rfl)
            refine pu (i := 16) (N := some 29) (v := ?_) (bits 34 131071) rfl rfl (any_of HT_.out (by kernel_rfl)) (fun _ _ _ h => h) (by kernel_rfl) ?_ ?_; rotate_left; (intro w'; go_simp; with_reducible rfl)
            refine sk (i := 17) (N := some 30) (bits 34 262143) rfl rfl (any_of HT_.out (by kernel_rfl)) (fun _ _ _ h => h) (by kernel_rfl) ?_
            refine sk (i := 18) (N := some 31) (bits 34 524287) rfl rfl (any_of HT_.out (by kernel_rfl)) (fun _ _ _ h => h) (by kernel_rfl) ?_
            refine sk (i := 19) (N := some 32) (bits 34 1048575) rfl rfl (any_of HT_.out (by kernel_rfl)) (fun _ _ _ h => h) (by kernel_rfl) ?_
            refine sk (i := 20) (N := some 33) (bits 34 2097151) rfl rfl (any_of HT_.out (by kernel_rfl)) (fun _ _ _ h => h) (by kernel_rfl) ?_
            refine sk (i := 21) (N := some 34) (bits 34 4194303) rfl rfl (any_of HT_.out (by kernel_rfl)) (fun _ _ _ h => h) (by kernel_rfl) ?_
            refine sk (i := 22) (N := some 35) (bits 34 8388607) rfl rfl (any_of HT_.out (by kernel_rfl)) (fun _ _ _ h => h) (by kernel_rfl) ?_
            refine sk (i := 23) (N := some 36) (bits 34 16777215) rfl rfl (any_of HT_.out (by kernel_rfl)) (fun _ _ _ h => h) (by kernel_rfl) ?_
            refine sk (i := 24) (N := some 37) (bits 34 33554431) rfl rfl (any_of HT_.out (by kernel_rfl)) (fun _ _ _ h => h) (by kernel_rfl) ?_
            refine sk (i := 25) (N := some 38) (bits 34 67108863) rfl rfl (any_of HT_.out (by kernel_rfl)) (fun _ _ _ h => h) (by kernel_rfl) ?_
            refine sk (i := 26) (N := some 39) (bits 34 134217727) rfl rfl (any_of HT_.out (by kernel_rfl)) (fun _ _ _ h => h) (by kernel_rfl) ?_
            refine sk (i := 27) (N := some 40) (bits 34 268435455) rfl rfl (any_of HT_.out (by kernel_rfl)) (fun _ _ _ h => h) (by kernel_rfl) ?_
            refine sk (i := 28) (N := some 41) (bits 34 536870911) rfl rfl (any_of HT_.out (by kernel_rfl)) (fun _ _ _ h => h) (by kernel_rfl) ?_
            refine sk (i := 29) (N := some 42) (bits 34 1073741823) rfl rfl (any_of HT_.out (by kernel_rfl)) (fun _ _ _ h => h) (by kernel_rfl) ?_
            refine sk (i := 30) (N := some 43) (bits 34 2147483647) rfl rfl (any_of HT_.out (by kernel_rfl)) (fun _ _ _ h => h) (by kernel_rfl) ?_
            refine sk (i := 31) (N := some 44) (bits 34 4294967295) rfl rfl (any_of HT_.out (by kernel_rfl)) (fun _ _ _ h => h) (by kernel_rfl) ?_
            refine sk (i := 32) (N := some 45) (bits 34 8589934591) rfl rfl (any_of HT_.out (by kernel_rfl)) (fun _ _ _ h => h) (by kernel_rfl) ?_
            refine pu (i := 33) (N := some 46) (v := ?_) (bits 34 17179869183) rfl rfl (any_of HT_.out (by kernel_rfl)) (fun _ _ _ h => h) (by kernel_rfl) ?_ ?_; rotate_left; (intro w'; go_simp; with_reducible rfl)
            refine norm_ (a' := ?_) ?_ ?_
            rotate_left
            · simp only [Act.put, List.setIfInBounds_toArray, List.set_cons_zero, List.set_cons_succ, i64_w, i32_w]
              rfl
            refine done_ (done_of HT_.out (by kernel_rfl)) ?_
            try go_wp2
            all_goals first
              | (go_roundg d; (case measure => omega); (case rel => exact ⟨j + 1, congrArg (Value.int .i64) (Int.natCast_succ _).symm, by omega, by omega, B, ⟨andT HS.out (by grind [l1B, ltB])⟩⟩))
              | (go_ret; exact ⟨andF HS.out (by grind [l1B, ltB]), B.out⟩)
          · refine goes_ Try.func68 (by kernel_rfl) rfl #[.string y.f0] (by rfl) rfl rfl (by (try simp only [List.map_toArray, List.map_cons, List.map_nil]); rfl) ?_
            with_reducible refine cl (clv (spec_KeyValid.M y.f0 _) (congrArg Value.bool hq1)) B fun w2 hb B => ?_
            clear hb
            refine ⟨_, rfl, ?_⟩
            refine hK.out _ _ (cb HR0 B) (fun hHeld => ?_)
            clear hK K
            refine norm_ (a' := ?_) ?_ ?_
            rotate_left
            · show Act.put _ (some 18) _ = _
              simp only [Act.put, List.setIfInBounds_toArray, List.set_cons_zero, List.set_cons_succ, i64_w, i32_w]
              rfl
            refine pu (i := 6) (N := some 19) (v := ?_) (bits 34 127) rfl rfl (any_of HT_.out (by kernel_rfl)) (fun _ _ _ h => h) (by kernel_rfl) ?_ ?_; rotate_left; (intro w'; go_simp; with_reducible rfl)
            refine pu (i := 7) (N := some 20) (v := ?_) (bits 34 255) rfl rfl (any_of HT_.out (by kernel_rfl)) (fun _ _ _ h => h) (by kernel_rfl) ?_ ?_; rotate_left; (intro w'; go_simp; with_reducible rfl)
            refine pu (i := 8) (N := some 21) (v := ?_) (bits 34 511) rfl rfl (any_of HT_.out (by kernel_rfl)) (fun _ _ _ h => h) (by kernel_rfl) ?_ ?_; rotate_left; (intro w'; go_simp; with_reducible rfl)
            refine pu (i := 9) (N := some 22) (v := ?_) (bits 34 1023) rfl rfl (any_of HT_.out (by kernel_rfl)) (fun _ _ _ h => h) (by kernel_rfl) ?_ ?_; rotate_left; (intro w'; go_simp; with_reducible rfl)
            refine pu (i := 10) (N := some 23) (v := ?_) (bits 34 2047) rfl rfl (any_of HT_.out (by kernel_rfl)) (fun _ _ _ h => h) (by kernel_rfl) ?_ ?_; rotate_left; (intro w'; go_simp; with_reducible rfl)
            refine pu (i := 11) (N := some 24) (v := ?_) (bits 34 4095) rfl rfl (any_of HT_.out (by kernel_rfl)) (fun _ _ _ h => h) (by kernel_rfl) ?_ ?_; rotate_left; (intro w'; go_simp; with_reducible rfl)
            refine ta (i := 12) (N := some 25) (v := ?_) (bits 34 8191) rfl rfl (take_ofW HT_.out HW_.out (by kernel_rfl)) (fun _ _ _ h => h) (by kernel_rfl) hHeld ?_ ?_; rotate_left; (intro w' hS; have s0 := hS; obtain ⟨_, hA, q0, q1⟩ := at_T42 s0 (j : Int) (by omega) (by omega); cases hA; rw [Int.toNat_natCast] at q0 q1; rw [hy] at q0 q1; go_simp; with_reducible rfl)
            refine norm_ (a' := ?_) ?_ ?_
            rotate_left
            · simp only [Act.put, List.setIfInBounds_toArray, List.set_cons_zero, List.set_cons_succ, i64_w, i32_w]
              rfl
            refine one_ (i := 13) (N := some 26) (bits 34 16383) rfl rfl (one_of HT_.out (by kernel_rfl)) (by decide) (fun K hK => ?_)
            rcases hq2 : (l1B y.f1 0 999) with _ | _
            · refine goes_ Try.func74 (by kernel_rfl) rfl #[.int .i64 (y.f1), .int .i64 (0), .int .i64 (999)] (by rfl) rfl rfl (by (try simp only [List.map_toArray, List.map_cons, List.map_nil]); rfl) ?_
              with_reducible refine cl (clv (spec_l1In.M y.f1 0 999 _) (congrArg Value.bool hq2)) B fun w3 hb B => ?_
              clear hb
              refine ⟨_, rfl, ?_⟩
              refine hK.out _ _ (cb HR0 B) (fun hHeld => ?_)
              clear hK K
              refine norm_ (a' := ?_) ?_ ?_
              rotate_left
              · show Act.put _ (some 26) _ = _
                simp only [Act.put, List.setIfInBounds_toArray, List.set_cons_zero, List.set_cons_succ, i64_w, i32_w]
                rfl
              refine pu (i := 14) (N := some 27) (v := ?_) (bits 34 32767) rfl rfl (any_of HT_.out (by kernel_rfl)) (fun _ _ _ h => h) (by kernel_rfl) ?_ ?_; rotate_left; (intro w'; go_simp; with_reducible rfl)
              refine pu (i := 15) (N := some 28) (v := ?_) (bits 34 65535) rfl rfl (any_of HT_.out (by kernel_rfl)) (fun _ _ _ h => h) (by kernel_rfl) ?_ ?_; rotate_left; (intro w'; go_simp; with_reducible rfl)
              refine pu (i := 16) (N := some 29) (v := ?_) (bits 34 131071) rfl rfl (any_of HT_.out (by kernel_rfl)) (fun _ _ _ h => h) (by kernel_rfl) ?_ ?_; rotate_left; (intro w'; go_simp; with_reducible rfl)
              refine sk (i := 17) (N := some 30) (bits 34 262143) rfl rfl (any_of HT_.out (by kernel_rfl)) (fun _ _ _ h => h) (by kernel_rfl) ?_
              refine sk (i := 18) (N := some 31) (bits 34 524287) rfl rfl (any_of HT_.out (by kernel_rfl)) (fun _ _ _ h => h) (by kernel_rfl) ?_
              refine sk (i := 19) (N := some 32) (bits 34 1048575) rfl rfl (any_of HT_.out (by kernel_rfl)) (fun _ _ _ h => h) (by kernel_rfl) ?_
              refine sk (i := 20) (N := some 33) (bits 34 2097151) rfl rfl (any_of HT_.out (by kernel_rfl)) (fun _ _ _ h => h) (by kernel_rfl) ?_
              refine sk (i := 21) (N := some 34) (bits 34 4194303) rfl rfl (any_of HT_.out (by kernel_rfl)) (fun _ _ _ h => h) (by kernel_rfl) ?_
              refine sk (i := 22) (N := some 35) (bits 34 8388607) rfl rfl (any_of HT_.out (by kernel_rfl)) (fun _ _ _ h => h) (by kernel_rfl) ?_
              refine sk (i := 23) (N := some 36) (bits 34 16777215) rfl rfl (any_of HT_.out (by kernel_rfl)) (fun _ _ _ h => h) (by kernel_rfl) ?_
              refine sk (i := 24) (N := some 37) (bits 34 33554431) rfl rfl (any_of HT_.out (by kernel_rfl)) (fun _ _ _ h => h) (by kernel_rfl) ?_
              refine sk (i := 25) (N := some 38) (bits 34 67108863) rfl rfl (any_of HT_.out (by kernel_rfl)) (fun _ _ _ h => h) (by kernel_rfl) ?_
              refine sk (i := 26) (N := some 39) (bits 34 134217727) rfl rfl (any_of HT_.out (by kernel_rfl)) (fun _ _ _ h => h) (by kernel_rfl) ?_
              refine sk (i := 27) (N := some 40) (bits 34 268435455) rfl rfl (any_of HT_.out (by kernel_rfl)) (fun _ _ _ h => h) (by kernel_rfl) ?_
              refine sk (i := 28) (N := some 41) (bits 34 536870911) rfl rfl (any_of HT_.out (by kernel_rfl)) (fun _ _ _ h => h) (by kernel_rfl) ?_
              refine sk (i := 29) (N := some 42) (bits 34 1073741823) rfl rfl (any_of HT_.out (by kernel_rfl)) (fun _ _ _ h => h) (by kernel_rfl) ?_
              refine sk (i := 30) (N := some 43) (bits 34 2147483647) rfl rfl (any_of HT_.out (by kernel_rfl)) (fun _ _ _ h => h) (by kernel_rfl) ?_
              refine sk (i := 31) (N := some 44) (bits 34 4294967295) rfl rfl (any_of HT_.out (by kernel_rfl)) (fun _ _ _ h => h) (by kernel_rfl) ?_
              refine sk (i := 32) (N := some 45) (bits 34 8589934591) rfl rfl (any_of HT_.out (by kernel_rfl)) (fun _ _ _ h => h) (by kernel_rfl) ?_
              refine pu (i := 33) (N := some 46) (v := ?_) (bits 34 17179869183) rfl rfl (any_of HT_.out (by kernel_rfl)) (fun _ _ _ h => h) (by kernel_rfl) ?_ ?_; rotate_left; (intro w'; go_simp; with_reducible rfl)
              refine norm_ (a' := ?_) ?_ ?_
              rotate_left
              · simp only [Act.put, List.setIfInBounds_toArray, List.set_cons_zero, List.set_cons_succ, i64_w, i32_w]
                rfl
              refine done_ (done_of HT_.out (by kernel_rfl)) ?_
              try go_wp2
              all_goals first
                | (go_roundg d; (case measure => omega); (case rel => exact ⟨j + 1, congrArg (Value.int .i64) (Int.natCast_succ _).symm, by omega, by omega, B, ⟨andT HS.out (by grind [l1B, ltB])⟩⟩))
                | (go_ret; exact ⟨andF HS.out (by grind [l1B, ltB]), B.out⟩)
            · refine goes_ Try.func74 (by kernel_rfl) rfl #[.int .i64 (y.f1), .int .i64 (0), .int .i64 (999)] (by rfl) rfl rfl (by (try simp only [List.map_toArray, List.map_cons, List.map_nil]); rfl) ?_
              with_reducible refine cl (clv (spec_l1In.M y.f1 0 999 _) (congrArg Value.bool hq2)) B fun w3 hb B => ?_
              clear hb
              refine ⟨_, rfl, ?_⟩
              refine hK.out _ _ (cb HR0 B) (fun hHeld => ?_)
              clear hK K
              refine norm_ (a' := ?_) ?_ ?_
              rotate_left
              · show Act.put _ (some 26) _ = _
                simp only [Act.put, List.setIfInBounds_toArray, List.set_cons_zero, List.set_cons_succ, i64_w, i32_w]
                rfl
              refine pu (i := 14) (N := some 27) (v := ?_) (bits 34 32767) rfl rfl (any_of HT_.out (by kernel_rfl)) (fun _ _ _ h => h) (by kernel_rfl) ?_ ?_; rotate_left; (intro w'; go_simp; with_reducible rfl)
              refine pu (i := 15) (N := some 28) (v := ?_) (bits 34 65535) rfl rfl (any_of HT_.out (by kernel_rfl)) (fun _ _ _ h => h) (by kernel_rfl) ?_ ?_; rotate_left; (intro w'; go_simp; with_reducible rfl)
              refine pu (i := 16) (N := some 29) (v := ?_) (bits 34 131071) rfl rfl (any_of HT_.out (by kernel_rfl)) (fun _ _ _ h => h) (by kernel_rfl) ?_ ?_; rotate_left; (intro w'; go_simp; with_reducible rfl)
              refine pu (i := 17) (N := some 30) (v := ?_) (bits 34 262143) rfl rfl (any_of HT_.out (by kernel_rfl)) (fun _ _ _ h => h) (by kernel_rfl) ?_ ?_; rotate_left; (intro w'; go_simp; with_reducible rfl)
              by_cases hz : j = 0
              · rw [if_pos hz] at HS
                have dz : decide (0 < (j : Int)) = false := decide_eq_false (by omega)
                have dz2 : decide (0 < j) = false := decide_eq_false (by omega)
                clear hz
                refine pu (i := 18) (N := some 31) (v := ?_) (bits 34 524287) rfl rfl (any_of HT_.out (by kernel_rfl)) (fun _ _ _ h => h) (by kernel_rfl) ?_ ?_; rotate_left; (intro w'; go_simp; with_reducible rfl)
                refine pu (i := 19) (N := some 32) (v := ?_) (bits 34 1048575) rfl rfl (any_of HT_.out (by kernel_rfl)) (fun _ _ _ h => h) (by kernel_rfl) ?_ ?_; rotate_left; (intro w'; go_simp; with_reducible rfl)
                refine sk (i := 20) (N := some 33) (bits 34 2097151) rfl rfl (any_of HT_.out (by kernel_rfl)) (fun _ _ _ h => h) (by kernel_rfl) ?_
                refine sk (i := 21) (N := some 34) (bits 34 4194303) rfl rfl (any_of HT_.out (by kernel_rfl)) (fun _ _ _ h => h) (by kernel_rfl) ?_
                refine sk (i := 22) (N := some 35) (bits 34 8388607) rfl rfl (any_of HT_.out (by kernel_rfl)) (fun _ _ _ h => h) (by kernel_rfl) ?_
                refine sk (i := 23) (N := some 36) (bits 34 16777215) rfl rfl (any_of HT_.out (by kernel_rfl)) (fun _ _ _ h => h) (by kernel_rfl) ?_
                refine sk (i := 24) (N := some 37) (bits 34 33554431) rfl rfl (any_of HT_.out (by kernel_rfl)) (fun _ _ _ h => h) (by kernel_rfl) ?_
                refine sk (i := 25) (N := some 38) (bits 34 67108863) rfl rfl (any_of HT_.out (by kernel_rfl)) (fun _ _ _ h => h) (by kernel_rfl) ?_
                refine sk (i := 26) (N := some 39) (bits 34 134217727) rfl rfl (any_of HT_.out (by kernel_rfl)) (fun _ _ _ h => h) (by kernel_rfl) ?_
                refine sk (i := 27) (N := some 40) (bits 34 268435455) rfl rfl (any_of HT_.out (by kernel_rfl)) (fun _ _ _ h => h) (by kernel_rfl) ?_
                refine sk (i := 28) (N := some 41) (bits 34 536870911) rfl rfl (any_of HT_.out (by kernel_rfl)) (fun _ _ _ h => h) (by kernel_rfl) ?_
                refine sk (i := 29) (N := some 42) (bits 34 1073741823) rfl rfl (any_of HT_.out (by kernel_rfl)) (fun _ _ _ h => h) (by kernel_rfl) ?_
                refine sk (i := 30) (N := some 43) (bits 34 2147483647) rfl rfl (any_of HT_.out (by kernel_rfl)) (fun _ _ _ h => h) (by kernel_rfl) ?_
                refine sk (i := 31) (N := some 44) (bits 34 4294967295) rfl rfl (any_of HT_.out (by kernel_rfl)) (fun _ _ _ h => h) (by kernel_rfl) ?_
                refine pu (i := 32) (N := some 45) (v := ?_) (bits 34 8589934591) rfl rfl (any_of HT_.out (by kernel_rfl)) (fun _ _ _ h => h) (by kernel_rfl) ?_ ?_; rotate_left; (intro w'; go_simp; with_reducible rfl)
                refine pu (i := 33) (N := some 46) (v := ?_) (bits 34 17179869183) rfl rfl (any_of HT_.out (by kernel_rfl)) (fun _ _ _ h => h) (by kernel_rfl) ?_ ?_; rotate_left; (intro w'; go_simp; with_reducible rfl)
                refine norm_ (a' := ?_) ?_ ?_
                rotate_left
                · simp only [Act.put, List.setIfInBounds_toArray, List.set_cons_zero, List.set_cons_succ, i64_w, i32_w]
                  rfl
                refine done_ (done_of HT_.out (by kernel_rfl)) ?_
                try go_wp2
                all_goals first
                  | (go_roundg d; (case measure => omega); (case rel => exact ⟨j + 1, congrArg (Value.int .i64) (Int.natCast_succ _).symm, by omega, by omega, B, ⟨andT HS.out (by grind [l1B, ltB])⟩⟩))
                  | (go_ret; exact ⟨andF HS.out (by grind [l1B, ltB]), B.out⟩)
              · rw [if_neg hz] at HS
                have dz : decide (0 < (j : Int)) = true := decide_eq_true (by omega)
                have dz2 : decide (0 < j) = true := decide_eq_true (by omega)
                obtain ⟨i, hi⟩ : ∃ i, j - 1 = i := ⟨_, rfl⟩
                rw [hi] at HS
                have WI := Aside0.mk (show (j : Int) - 1 = (i : Int) by omega)
                have hij : i < l.length := by omega
                have IW := Aside0.mk (show wrap64 (i : Int) = (i : Int) by unfold wrap64; omega)
                have i1 := eq_true (show (i : Int) < (l.length : Int) by omega)
                have i2 := eq_true hij
                generalize hx : rd_T42 l (i : Int) = x at HS
                clear hz hi
                refine pu (i := 18) (N := some 31) (v := ?_) (bits 34 524287) rfl rfl (any_of HT_.out (by kernel_rfl)) (fun _ _ _ h => h) (by kernel_rfl) ?_ ?_; rotate_left; (intro w'; go_simp; with_reducible rfl)
                refine pu (i := 19) (N := some 32) (v := ?_) (bits 34 1048575) rfl rfl (any_of HT_.out (by kernel_rfl)) (fun _ _ _ h => h) (by kernel_rfl) ?_ ?_; rotate_left; (intro w'; go_simp; with_reducible rfl)
                refine pu (i := 20) (N := some 33) (v := ?_) (bits 34 2097151) rfl rfl (any_of HT_.out (by kernel_rfl)) (fun _ _ _ h => h) (by kernel_rfl) ?_ ?_; rotate_left; (intro w'; go_simp; with_reducible rfl)
                refine pu (i := 21) (N := some 34) (v := ?_) (bits 34 4194303) rfl rfl (any_of HT_.out (by kernel_rfl)) (fun _ _ _ h => h) (by kernel_rfl) ?_ ?_; rotate_left; (intro w'; go_simp; with_reducible rfl)
                refine pu (i := 22) (N := some 35) (v := ?_) (bits 34 8388607) rfl rfl (any_of HT_.out (by kernel_rfl)) (fun _ _ _ h => h) (by kernel_rfl) ?_ ?_; rotate_left; (intro w'; go_simp; with_reducible rfl)
                refine pu (i := 23) (N := some 36) (v := ?_) (bits 34 16777215) rfl rfl (any_of HT_.out (by kernel_rfl)) (fun _ _ _ h => h) (by kernel_rfl) ?_ ?_; rotate_left; (intro w'; go_simp; with_reducible rfl)
                refine ta (i := 24) (N := some 37) (v := ?_) (bits 34 33554431) rfl rfl (take_ofW HT_.out HW_.out (by kernel_rfl)) (fun _ _ _ h => h) (by kernel_rfl) hHeld ?_ ?_; rotate_left; (intro w' hS; have s0 := hS; obtain ⟨_, hA, q0, q1⟩ := at_T42 s0 (j : Int) (by omega) (by omega); cases hA; rw [Int.toNat_natCast] at q0 q1; rw [hy] at q0 q1; go_simp; with_reducible rfl)
                refine pu (i := 25) (N := some 38) (v := ?_) (bits 34 67108863) rfl rfl (any_of HT_.out (by kernel_rfl)) (fun _ _ _ h => h) (by kernel_rfl) ?_ ?_; rotate_left; (intro w'; go_simp; with_reducible rfl)
                refine pu (i := 26) (N := some 39) (v := ?_) (bits 34 134217727) rfl rfl (any_of HT_.out (by kernel_rfl)) (fun _ _ _ h => h) (by kernel_rfl) ?_ ?_; rotate_left; (intro w'; go_simp; with_reducible rfl)
                refine pu (i := 27) (N := some 40) (v := .int .i64 ((i : Int))) (bits 34 268435455) rfl rfl (any_of HT_.out (by kernel_rfl)) (fun _ _ _ h => h) (by kernel_rfl) ?_ ?_; (intro w'; go_simp; rw [WI.out]; exact (i64_w _).trans IW.out)
                refine pu (i := 28) (N := some 41) (v := ?_) (bits 34 536870911) rfl rfl (any_of HT_.out (by kernel_rfl)) (fun _ _ _ h => h) (by kernel_rfl) ?_ ?_; rotate_left; (intro w'; go_simp; with_reducible rfl)
                refine pu (i := 29) (N := some 42) (v := ?_) (bits 34 1073741823) rfl rfl (any_of HT_.out (by kernel_rfl)) (fun _ _ _ h => h) (by kernel_rfl) ?_ ?_; rotate_left; (intro w'; go_simp; with_reducible rfl)
                refine ta (i := 30) (N := some 43) (v := ?_) (bits 34 2147483647) rfl rfl (take_ofW HT_.out HW_.out (by kernel_rfl)) (fun _ _ _ h => h) (by kernel_rfl) hHeld ?_ ?_; rotate_left; (intro w' hS; have s0 := hS; obtain ⟨_, hA, q0, q1⟩ := at_T42 s0 (i : Int) (by omega) (by omega); cases hA; rw [Int.toNat_natCast] at q0 q1; rw [hx] at q0 q1; go_simp; with_reducible rfl)
                refine pu (i := 31) (N := some 44) (v := ?_) (bits 34 4294967295) rfl rfl (any_of HT_.out (by kernel_rfl)) (fun _ _ _ h => h) (by kernel_rfl) ?_ ?_; rotate_left; (intro w'; go_simp; with_reducible rfl)
                refine pu (i := 32) (N := some 45) (v := ?_) (bits 34 8589934591) rfl rfl (any_of HT_.out (by kernel_rfl)) (fun _ _ _ h => h) (by kernel_rfl) ?_ ?_; rotate_left; (intro w'; go_simp; with_reducible rfl)
                refine pu (i := 33) (N := some 46) (v := ?_) (bits 34 17179869183) rfl rfl (any_of HT_.out (by kernel_rfl)) (fun _ _ _ h => h) (by kernel_rfl) ?_ ?_; rotate_left; (intro w'; go_simp; with_reducible rfl)
                refine norm_ (a' := ?_) ?_ ?_
                rotate_left
                · simp only [Act.put, List.setIfInBounds_toArray, List.set_cons_zero, List.set_cons_succ, i64_w, i32_w]
                  rfl
                refine done_ (done_of HT_.out (by kernel_rfl)) ?_
                try go_wp2
                all_goals first
                  | (go_roundg d; (case measure => omega); (case rel => exact ⟨j + 1, congrArg (Value.int .i64) (Int.natCast_succ _).symm, by omega, by omega, B, ⟨andT HS.out (by grind [l1B, ltB])⟩⟩))
                  | (go_ret; exact ⟨andF HS.out (by grind [l1B, ltB]), B.out⟩))
        all_goals try go_wp2
        all_goals try (go_ret; exact ⟨andF HS.out (by grind [l1B, ltB]), B.out⟩)
      · have cj : decide ((j : Int) < (l.length : Int)) = false := decide_eq_false (by omega)
        have hr : r = true := by rw [← H.out]; exact prJ_end hlt
        subst hr
        go_wp2
        go_ret
        exact ⟨rfl, B.out⟩
  · have cl0 : decide (48 < (l.length : Int)) = true := decide_eq_true (by omega)
    have hr : r = false := by rw [← hr, decide_eq_false hl]; rfl
    subst hr
    go_enter Try.func41, Try.ntmps41
    go_wp2
    go_ret
    exact ⟨rfl, B.out⟩

theorem spec_PairGet.M (A0 : Option Addr) (c0 : Nat) (l : List S42) (c : ByteArray) (w : World) (hr0 : Kd.C k42 w A0 l.length l) (hc0 : l.length ≤ c0) : Calls Try.prog 43 #[.slice A0 l.length c0, .string c] w fun e w' => e = .returned (.int .i64 (getM l c)) ∧ Below w.heap.size w w' := by
  have B := Aside0.mk (Below.refl w.heap.size w)
  have hu := Try.underlying42
  have HR0 := Aside0.mk hr0
  have HC0 := Aside0.mk hc0
  have L63 := Aside0.mk hr0.2.1
  clear hr0 hc0
  by_cases hv : prB l = true
  · have h48 := prB_len hv
    cases hh : hitM l c with
    | true =>
      obtain ⟨hlt, hf0, hf⟩ := hit_true hh
      have j1 := eq_true (show ((atP l c : Nat) : Int) < (l.length : Int) by omega)
      have j2 := eq_true hlt
      have hne : (((atP l c : Nat) : Int) == (l.length : Int)) = false := by simp; omega
      have hlt2 : decide (((atP l c : Nat) : Int) < (l.length : Int)) = true := decide_eq_true (by omega)
      go_enter Try.func43, Try.ntmps43
      go_wp2_with (first
        | (go_at_call 75; with_reducible refine cl (spec_l4Place.M _ _ l c _ (cb HR0 B)) B fun w1 hb B => ?_; clear hb)
        | (go_at_call 41; with_reducible refine cl (spec_PairsValid.M _ _ l _ (cb HR0 B)) B fun w2 hb B => ?_; clear hb; (obtain ⟨ad, hA, y0, y1⟩ := at_T42 (cb HR0 B) ((atP l c : Nat) : Int) (Int.natCast_nonneg _) (Int.ofNat_lt.mpr hlt); cases hA; rw [Int.toNat_natCast] at y0 y1)))
      all_goals (go_ret; exact ⟨by simp [getM, *], B.out⟩)
    | false =>
      by_cases hlt : atP l c < l.length
      · have hf := hit_false hh hlt
        have j1 := eq_true (show ((atP l c : Nat) : Int) < (l.length : Int) by omega)
        have j2 := eq_true hlt
        have hne : (((atP l c : Nat) : Int) == (l.length : Int)) = false := by simp; omega
        have hlt2 : decide (((atP l c : Nat) : Int) < (l.length : Int)) = true := decide_eq_true (by omega)
        go_enter Try.func43, Try.ntmps43
        go_wp2_with (first
          | (go_at_call 75; with_reducible refine cl (spec_l4Place.M _ _ l c _ (cb HR0 B)) B fun w1 hb B => ?_; clear hb)
          | (go_at_call 41; with_reducible refine cl (spec_PairsValid.M _ _ l _ (cb HR0 B)) B fun w2 hb B => ?_; clear hb; (obtain ⟨ad, hA, y0, y1⟩ := at_T42 (cb HR0 B) ((atP l c : Nat) : Int) (Int.natCast_nonneg _) (Int.ofNat_lt.mpr hlt); cases hA; rw [Int.toNat_natCast] at y0 y1)))
        all_goals (go_ret; exact ⟨by simp [getM, *], B.out⟩)
      · have hne : atP l c = l.length := by have := atP_le l c; omega
        go_enter Try.func43, Try.ntmps43
        go_wp2_with (first
          | (go_at_call 75; with_reducible refine cl (spec_l4Place.M _ _ l c _ (cb HR0 B)) B fun w1 hb B => ?_; clear hb)
          | (go_at_call 41; with_reducible refine cl (spec_PairsValid.M _ _ l _ (cb HR0 B)) B fun w2 hb B => ?_; clear hb))
        all_goals (go_ret; exact ⟨by simp [getM, *], B.out⟩)
  · replace hv := Bool.eq_false_iff.mpr hv
    go_enter Try.func43, Try.ntmps43
    go_wp2_with (first
      | (go_at_call 75; with_reducible refine cl (spec_l4Place.M _ _ l c _ (cb HR0 B)) B fun w1 hb B => ?_; clear hb)
      | (go_at_call 41; with_reducible refine cl (spec_PairsValid.M _ _ l _ (cb HR0 B)) B fun w2 hb B => ?_; clear hb))
    all_goals (go_ret; exact ⟨by simp [getM, *], B.out⟩)

/-! Rows that are made and written. -/
section
variable {P : Program} {w W W' : World} {α β : Type} {d : Kd α} {e b : Nat} {xs : List α}
variable {ops ops' : Array Oper} {o : Oper} {rest : List Oper} {a : Act} {QE : Exit → Act → World → Prop}
theorem mkr (d : Kd α) (e : Nat) (hgd : o.guard = none) {N : Tmp} (hd : o.dst = some N) (t : TypeId) (x y : Operand) (ho : o.op = .makeSlice t x y) (n : Nat) (hx : a.eval x = .int .i64 (n : Int)) (hy : a.eval y = .int .i64 (n : Int))
    (ht : P.underlying t = some (.slice e)) (z : Value) (bytes : Nat) (hinfo : (P.info? e).map (fun i => (i.zero, i.size, i.bytes)) = some (some z, d.sz, bytes)) (hz : z.cells.size = d.sz) (hs0 : 0 < d.sz) (hb0 : 0 < bytes)
    (z0 : α) (hzero : d.M W W.heap.size (fun _ => True) z0 z.cells.toList) (hl : n * bytes ≤ 281474976710656) (B : Aside0 (Below w.heap.size w W))
    (h : ∀ A kk w1, Below W.heap.size W w1 → Aside0 (Below w.heap.size w w1) → Aside0 (Ow d e w1 w.heap.size (.slice A n kk) (List.replicate n z0)) → Aside0 (Fr W (.slice A n kk)) → wpList P ops QE rest (a.put o.dst (.slice A n kk)) w1) : wpList P ops QE (o :: rest) a W :=
  Kd.R_make d W.heap.size e hgd hd t x y ho n hx hy ht z bytes hinfo hz hs0 hb0 z0 hzero (fun _ h => h) trivial (Int.natCast_nonneg n) (by rwa [Int.toNat_natCast]) (Below.refl _ _) (Nat.le_refl _) fun v1 w1 hR hb hg hnew => by
    rw [Int.toNat_natCast] at hR
    obtain ⟨A, kk, hv⟩ := Kd.R_slice hR
    rw [List.length_replicate] at hv
    subst hv
    exact h A kk w1 hb ⟨below_step B.out hb⟩ ⟨Kd.R_lower hR (below_size B.out)⟩ ⟨fun k hk => Kd.R_base hR k hk⟩
theorem fr {v v' : Value} {β : Type} {d' : Kd β} {e' : Nat} {ys : List β} (q : Aside0 (Fr W v)) (R : Aside0 (Ow d' e' W b v' ys)) : Aside0 (∀ k, v.ownBlock = some k → v'.ownBlock = some k → False) := ⟨fun k h1 h2 => by
  have := q.out k h1
  have := Kd.R_lt R.out k h2
  omega⟩
/-- the form of a row that is not empty -/
theorem rform {A : Option Addr} {n c : Nat} (R : Aside0 (Ow d e W b (.slice A n c) xs)) (hp : 0 < xs.length) : ∃ g, A = some ⟨g, 0, none⟩ ∧ b ≤ g := by
  obtain ⟨g, cap, hv, hb, _⟩ := Kd.R_form R.out hp
  cases hv
  exact ⟨g, rfl, hb⟩
/-- the cells of an element -/
theorem rcells {g n c : Nat} (z : α) (R : Aside0 (Ow d e W b (.slice (some ⟨g, 0, none⟩) n c) xs)) (i : Nat) (hi : i < n) : ∃ cs, cs.length = d.sz ∧ d.M W b (fun k => True ∧ k ≠ g) (xs.getD i z) cs ∧ (∀ j u, cs[j]? = some u → W.cell? ⟨g, i * d.sz + j, none⟩ = some u) ∧ ∀ j, W.frozen? ⟨g, i * d.sz + j, none⟩ = false := by
  have := Kd.R_elem R.out z (i : Int) (Int.natCast_nonneg i) (by omega)
  rwa [Int.toNat_natCast] at this
theorem es {g n c : Nat} {t : TypeId} {p : Tmp} {v : Operand} (hgd : o.guard = none) (ho : o.op = .store t (.tmp p) v) (hN : o.dst = none) (i off : Nat) (seg : List Value) (x' : α) (hrun : (execOp a.eval o).run P W = .ok .skip (W.setCells g (i * d.sz + off) seg))
    (R : Aside0 (Ow d e W b (.slice (some ⟨g, 0, none⟩) n c) xs)) (hi : i < n) {cs : List Value} (hcl : cs.length = d.sz) (hcc : ∀ j u, cs[j]? = some u → W.cell? ⟨g, i * d.sz + j, none⟩ = some u) (hj : off + seg.length ≤ d.sz)
    (hM : d.M W b (fun _ => False) x' (cs.take off ++ seg ++ cs.drop (off + seg.length))) (B : Aside0 (Below w.heap.size w W)) (hb : w.heap.size ≤ g)
    (h : ∀ w', W.grownBy w' (some g) → Aside0 (Below w.heap.size w w') → Aside0 (Ow d e w' b (.slice (some ⟨g, 0, none⟩) n c) (xs.set i x')) → wpList P ops QE rest a w') : wpList P ops QE (o :: rest) a W :=
  store_event hgd ho hN hrun fun w' hw => by
    have hP := Kd.R_seg R.out (i : Int) (Int.natCast_nonneg i) (by omega) (c := cs) (seg := seg) (j := off) (x' := x') (okp := fun _ => False) hcl (by rw [Int.toNat_natCast]; exact hcc) hj hM (fun _ hk => hk.elim)
    rw [Int.toNat_natCast] at hP
    subst hw
    refine h _ hP.2 ⟨pw_below_grown B.out (some g) (below_size B.out) hP.2 (fun k hk => ?_)⟩ ⟨hP.1⟩
    cases hk
    exact hb
theorem bg {g : Nat} {ob : Obj} {row : Option Nat} (F : Aside0 (W.heap[g]? = some ob)) (hg : W.grownBy W' row) (hne : some g ≠ row) : Aside0 (W'.heap[g]? = some ob) := ⟨blk_grown F.out hg hne⟩
theorem fill_set {f : α → β} {z : β} {l : List α} {j : Nat} (h : j < l.length) : ((l.take j).map f ++ List.replicate (l.length - j) z).set j (f l[j]) = (l.take (j + 1)).map f ++ List.replicate (l.length - (j + 1)) z := by
  have h1 : ((l.take j).map f).length = j := by rw [List.length_map, List.length_take]; omega
  rw [List.set_append_right _ _ (by omega), h1, Nat.sub_self, show l.length - j = (l.length - (j + 1)) + 1 by omega, List.replicate_succ, List.set_cons_zero, List.take_succ_eq_append_getElem h, List.map_append, List.append_assoc]
  rfl
theorem fill_end {f : α → β} {z : β} {l : List α} {j : Nat} (h : ¬ j < l.length) : (l.take j).map f ++ List.replicate (l.length - j) z = l.map f := by
  rw [List.take_of_length_le (by omega), show l.length - j = 0 by omega]
  simp
end
section
variable {P : Program} {w W W' : World} {α β : Type} {d : Kd α} {e b : Nat} {xs : List α}
variable {ops ops' : Array Oper} {o : Oper} {rest : List Oper} {a : Act} {QE : Exit → Act → World → Prop}
/-- a literal of records -/
theorem lt (d : Kd α) (e : Nat) (hgd : o.guard = none) {N : Tmp} (hd : o.dst = some N) (xs : List α) (inner : List Value) (hrun : (execOp a.eval o).run P W = .ok (.value (.slice (some ⟨W.heap.size, 0, none⟩) xs.length xs.length)) (W.alloc (.cells inner.toArray e)))
    (hp : Reps (d.M W W.heap.size (fun _ => True)) d.sz xs inner) (hm : xs.length ≤ 9223372036854775807) (B : Aside0 (Below w.heap.size w W))
    (h : ∀ zs, xs = zs → ∀ A kk w1, Below W.heap.size W w1 → Aside0 (Below w.heap.size w w1) → Aside0 (Ow d e w1 w.heap.size (.slice A zs.length kk) zs) → Aside0 (Fr W (.slice A zs.length kk)) → wpList P ops QE rest (a.put o.dst (.slice A zs.length kk)) w1) : wpList P ops QE (o :: rest) a W :=
  Kd.R_lit d (w0 := W) W.heap.size e hgd hd hrun hp (fun _ h => h) trivial (Below.refl _ _) (Nat.le_refl _) hm fun v1 w1 hR hb hg hnew => by
    obtain ⟨A, kk, rfl⟩ := Kd.R_slice hR
    exact h xs rfl A kk w1 hb ⟨below_step B.out hb⟩ ⟨Kd.R_lower hR (below_size B.out)⟩ ⟨fun k hk => Kd.R_base hR k hk⟩
/-- a row is put behind a row of the walk's own -/
theorem apx (d : Kd α) (e : Nat) (hgd : o.guard = none) (s x : Operand) (t : TypeId) (z : Value) (bytes : Nat) (ho : o.op = .call { callee := .builtin .append, args := #[s, x], argTypes := #[t, t] })
    (ht : P.underlying t = some (.slice e)) (hinfo : (P.info? e).map (fun i => (i.zero, i.size, i.bytes)) = some (some z, d.sz, bytes)) (hz : z.cells.size = d.sz) (hs0 : 0 < d.sz) (hb0 : 0 < bytes)
    {v : Value} {ys : List α} {A : Option Addr} {m c : Nat} (hs : a.eval s = v) (hx : a.eval x = .slice A m c) (R : Aside0 (Ow d e W w.heap.size v xs)) (C : d.C W A m ys) (hKM : ∀ x cs, d.K W x cs → d.M W w.heap.size (fun _ => False) x cs)
    (hl : (xs.length + m) * bytes ≤ 140737488355328) (B : Aside0 (Below w.heap.size w W))
    (h : ∀ zs, xs ++ ys = zs → ∀ A' kk w1, W.grownBy w1 v.ownBlock → Aside0 (Below w.heap.size w w1) → Aside0 (Ow d e w1 w.heap.size (.slice A' zs.length kk) zs) → Aside0 ((Value.slice A' zs.length kk).ownBlock = v.ownBlock ∨ ∃ b, (Value.slice A' zs.length kk).ownBlock = some b ∧ W.heap.size ≤ b) → wpList P ops QE rest (a.put o.dst (.slice A' zs.length kk)) w1) : wpList P ops QE (o :: rest) a W :=
  Kd.R_append_rows d (w0 := w) w.heap.size hgd s x t e z bytes ho ht hinfo hz hs0 hb0 v xs ys A m c (fun _ => True) (fun _ => False) hs hx R.out C hKM (fun _ h => h.elim) (fun _ _ => trivial) B.out (below_size B.out) hl fun v1 w1 hR hb hg hat => by
    obtain ⟨A', kk, rfl⟩ := Kd.R_slice hR
    exact h _ rfl A' kk w1 hg ⟨hb⟩ ⟨hR⟩ ⟨hat⟩
/-- what lies elsewhere stays when a row grows -/
theorem bga {g t : Nat} {cs : Array Value} {v : Value} (F : Aside0 (W.heap[g]? = some (.cells cs t (0, 0)))) (hg : W.grownBy W' v.ownBlock) (R : Aside0 (Ow d e W b v xs)) (ht : e ≠ t) : Aside0 (W'.heap[g]? = some (.cells cs t (0, 0))) := ⟨blk_grown F.out hg (Kd.R_ne R.out F.out ht)⟩
theorem rga {d' : Kd β} {e' b' : Nat} {v v' : Value} {ys : List β} (R' : Aside0 (Ow d' e' W b' v' ys)) (hE : d'.E = []) (hg : W.grownBy W' v.ownBlock) (ne : ∀ k, v'.ownBlock = some k → v.ownBlock = some k → False) : Aside0 (Ow d' e' W' b' v' ys) :=
  ⟨Kd.R_mono (Kd.R_grown (Kd.R_tight hE R'.out) hg (fun k h1 h2 => ne k h1.symm h2.symm)) (fun _ _ => trivial)⟩
theorem dty {d' : Kd β} {e' b' : Nat} {v v' : Value} {ys : List β} (R : Aside0 (Ow d e W b v xs)) (R' : Aside0 (Ow d' e' W b' v' ys)) (h : e ≠ e') : ∀ k, v'.ownBlock = some k → v.ownBlock = some k → False := fun k h1 h2 => by
  obtain ⟨_, o1⟩ := Kd.R_own R.out
  obtain ⟨_, o2⟩ := Kd.R_own R'.out
  obtain ⟨c1, t1⟩ := own_typed o1 k h2
  obtain ⟨c2, t2⟩ := own_typed o2 k h1
  rw [t1] at t2
  cases t2
  exact h rfl
theorem nilC (d : Kd α) (W : World) : Kd.C d W none ([] : List α).length [] := ⟨rfl, by simp, fun h => absurd h (Nat.lt_irrefl 0)⟩
end

theorem spec_PairDrop.M (A0 : Option Addr) (c0 : Nat) (l : List S42) (c : ByteArray) (w : World) (hr0 : Kd.C k42 w A0 l.length l) (hc0 : l.length ≤ c0) : Calls Try.prog 44 #[.slice A0 l.length c0, .string c] w fun e w' => ∃ v0, e = .returned (.tuple #[v0, .bool (dropM l c).2]) ∧ Kd.R k42 42 w' w.heap.size (fun _ => True) v0 (dropM l c).1 ∧ Below w.heap.size w w' := by
  have B := Aside0.mk (Below.refl w.heap.size w)
  have hu := Try.underlying42
  have HR0 := Aside0.mk hr0
  have HC0 := Aside0.mk hc0
  have L63 := Aside0.mk hr0.2.1
  clear hr0
  obtain ⟨i0, hif, _, hsz0, _⟩ := info_parts info42
  by_cases hv : prB l = true
  · have h48 := prB_len hv
    cases hh : hitM l c with
    | true =>
      obtain ⟨hlt, hf0, hf⟩ := hit_true hh
      have j1 := eq_true (show ((atP l c : Nat) : Int) < (l.length : Int) by omega)
      have j2 := eq_true hlt
      have hne : (((atP l c : Nat) : Int) == (l.length : Int)) = false := by simp; omega
      have hcut1 := cut_to (P := Try.prog) 27 42 .i64 Try.underlying27 hif A0 l.length c0 ((atP l c : Nat) : Int) (by omega) (by omega) hc0
      rw [Int.toNat_natCast] at hcut1
      have C1 := Aside0.mk (fun {W : World} (h : Kd.C k42 W A0 l.length l) => show Kd.C k42 W A0 (atP l c) (l.take (atP l c)) from by
        have := Kd.C_take h (m := atP l c) (by omega)
        rwa [List.length_take, Nat.min_eq_left (by omega)] at this)
      have hcut2 := cut_from (P := Try.prog) 27 42 .i64 Try.underlying27 hif 2 hsz0 A0 l.length c0 (((atP l c : Nat) : Int) + 1) (by omega) (by omega)
      rw [show (((atP l c : Nat) : Int) + 1).toNat = atP l c + 1 by omega] at hcut2
      obtain ⟨A2, hA2⟩ : ∃ A2, A2 = (if c0 = atP l c + 1 then A0 else A0.map (·.add ((atP l c + 1) * 2))) := ⟨_, rfl⟩
      rw [← hA2] at hcut2
      have C2 := Aside0.mk (fun {W : World} (h : Kd.C k42 W A0 l.length l) => show Kd.C k42 W A2 (l.length - (atP l c + 1)) (l.drop (atP l c + 1)) from by
        have := Kd.C_drop h (m := atP l c + 1) (c := c0) (by omega) hc0
        rw [List.length_drop] at this
        rw [hA2]
        exact this)
      clear hA2
      clear hif hsz0 hc0
      have hM : dropM l c = (l.take (atP l c) ++ l.drop (atP l c + 1), true) := by unfold dropM; rw [if_pos hv, if_pos hh]
      go_enter Try.func44, Try.ntmps44
      go_wp2_with (first
        | ((with_reducible refine gate_dst (N := 8) rfl ?_); refine lt k42 42 ?hg (N := 8) ?hd ([] : List S42) [] ?hr (Reps.none _ _) (by simp) B ?_; (case hd => rfl); (case hg => rfl); (case hr => first | (go_simp; done) | (go_simp; rfl)); intro z8 hz8 AL8 kL8 w1 hb B RL8 QL8; clear hb QL8)
        | (go_at_call 41; with_reducible refine cl (spec_PairsValid.M _ _ l _ (cb HR0 B)) B fun w2 hb B => ?_; replace RL8 := rn RL8 hb; clear hb)
        | (go_at_call 75; with_reducible refine cl (spec_l4Place.M _ _ l c _ (cb HR0 B)) B fun w3 hb B => ?_; replace RL8 := rn RL8 hb; clear hb; (obtain ⟨ad, hA, y0, y1⟩ := at_T42 (cb HR0 B) ((atP l c : Nat) : Int) (Int.natCast_nonneg _) (Int.ofNat_lt.mpr hlt); cases hA; rw [Int.toNat_natCast] at y0 y1))
        | ((with_reducible refine gate_builtin (b := .append) (xs := #[.tmp 32, .tmp 35]) rfl ?_); at_builtin; refine apx k42 42 rfl (.tmp 32) (.tmp 35) 27 (.agg #[.string (⟨#[]⟩ : ByteArray), .int .i64 (0)]) 24 rfl Try.underlying27 info42 rfl (by decide) (by omega) rfl rfl RL8 (C1.out (cb HR0 B)) (fun x cs h => by rw [k42_open h]; exact k42_mkM _ _ _ x) (by rw [← hz8]; simp only [List.length_append, List.length_nil, List.length_cons, List.length_take, List.length_drop]; omega) B ?_; intro z36 hz36 AL36 kL36 w4 hg B RL36 hat; clear hg hat)
        | ((with_reducible refine gate_builtin (b := .append) (xs := #[.tmp 37, .tmp 41]) rfl ?_); at_builtin; refine apx k42 42 rfl (.tmp 37) (.tmp 41) 27 (.agg #[.string (⟨#[]⟩ : ByteArray), .int .i64 (0)]) 24 rfl Try.underlying27 info42 rfl (by decide) (by omega) rfl rfl RL36 (C2.out (cb HR0 B)) (fun x cs h => by rw [k42_open h]; exact k42_mkM _ _ _ x) (by rw [← hz36, ← hz8]; simp only [List.length_append, List.length_nil, List.length_cons, List.length_take, List.length_drop]; omega) B ?_; intro z42 hz42 AL42 kL42 w5 hg B RL42 hat; clear hg hat))
      go_ret2; have hZ : z42 = l.take (atP l c) ++ l.drop (atP l c + 1) := (by rw [← hz42, ← hz36, ← hz8]; try simp); exact ⟨_, by rw [hM]; rfl, by rw [hM, ← hZ]; exact RL42.out, B.out⟩
    | false =>
      clear hif hsz0 hc0
      have hM : dropM l c = (l, false) := by unfold dropM; rw [if_pos hv, if_neg (by rw [hh]; simp)]
      by_cases hlt : atP l c < l.length
      · have hf := hit_false hh hlt
        have j1 := eq_true (show ((atP l c : Nat) : Int) < (l.length : Int) by omega)
        have j2 := eq_true hlt
        have hne : (((atP l c : Nat) : Int) == (l.length : Int)) = false := by simp; omega
        go_enter Try.func44, Try.ntmps44
        go_wp2_with (first
          | ((with_reducible refine gate_dst (N := 8) rfl ?_); refine lt k42 42 ?hg (N := 8) ?hd ([] : List S42) [] ?hr (Reps.none _ _) (by simp) B ?_; (case hd => rfl); (case hg => rfl); (case hr => first | (go_simp; done) | (go_simp; rfl)); intro z8 hz8 AL8 kL8 w1 hb B RL8 QL8; clear hb QL8)
          | (go_at_call 41; with_reducible refine cl (spec_PairsValid.M _ _ l _ (cb HR0 B)) B fun w2 hb B => ?_; replace RL8 := rn RL8 hb; clear hb)
          | (go_at_call 75; with_reducible refine cl (spec_l4Place.M _ _ l c _ (cb HR0 B)) B fun w3 hb B => ?_; replace RL8 := rn RL8 hb; clear hb; (obtain ⟨ad, hA, y0, y1⟩ := at_T42 (cb HR0 B) ((atP l c : Nat) : Int) (Int.natCast_nonneg _) (Int.ofNat_lt.mpr hlt); cases hA; rw [Int.toNat_natCast] at y0 y1))
          | ((with_reducible refine gate_builtin (b := .append) (xs := #[.tmp 29, .tmp 30]) rfl ?_); at_builtin; refine apx k42 42 rfl (.tmp 29) (.tmp 30) 27 (.agg #[.string (⟨#[]⟩ : ByteArray), .int .i64 (0)]) 24 rfl Try.underlying27 info42 rfl (by decide) (by omega) rfl rfl RL8 (cb HR0 B) (fun x cs h => by rw [k42_open h]; exact k42_mkM _ _ _ x) (by rw [← hz8]; simp only [List.length_append, List.length_nil, List.length_cons, List.length_take, List.length_drop]; omega) B ?_; intro z31 hz31 AL31 kL31 w4 hg B RL31 hat; clear hg hat))
        go_ret2; have hZ : z31 = l := (by rw [← hz31, ← hz8]; try simp); exact ⟨_, by rw [hM]; rfl, by rw [hM, ← hZ]; exact RL31.out, B.out⟩
      · have hne : atP l c = l.length := by have := atP_le l c; omega
        go_enter Try.func44, Try.ntmps44
        go_wp2_with (first
          | ((with_reducible refine gate_dst (N := 8) rfl ?_); refine lt k42 42 ?hg (N := 8) ?hd ([] : List S42) [] ?hr (Reps.none _ _) (by simp) B ?_; (case hd => rfl); (case hg => rfl); (case hr => first | (go_simp; done) | (go_simp; rfl)); intro z8 hz8 AL8 kL8 w1 hb B RL8 QL8; clear hb QL8)
          | (go_at_call 41; with_reducible refine cl (spec_PairsValid.M _ _ l _ (cb HR0 B)) B fun w2 hb B => ?_; replace RL8 := rn RL8 hb; clear hb)
          | (go_at_call 75; with_reducible refine cl (spec_l4Place.M _ _ l c _ (cb HR0 B)) B fun w3 hb B => ?_; replace RL8 := rn RL8 hb; clear hb)
          | ((with_reducible refine gate_builtin (b := .append) (xs := #[.tmp 29, .tmp 30]) rfl ?_); at_builtin; refine apx k42 42 rfl (.tmp 29) (.tmp 30) 27 (.agg #[.string (⟨#[]⟩ : ByteArray), .int .i64 (0)]) 24 rfl Try.underlying27 info42 rfl (by decide) (by omega) rfl rfl RL8 (cb HR0 B) (fun x cs h => by rw [k42_open h]; exact k42_mkM _ _ _ x) (by rw [← hz8]; simp only [List.length_append, List.length_nil, List.length_cons, List.length_take, List.length_drop]; omega) B ?_; intro z31 hz31 AL31 kL31 w4 hg B RL31 hat; clear hg hat))
        go_ret2; have hZ : z31 = l := (by rw [← hz31, ← hz8]; try simp); exact ⟨_, by rw [hM]; rfl, by rw [hM, ← hZ]; exact RL31.out, B.out⟩
  · replace hv := Bool.eq_false_iff.mpr hv
    clear hif hsz0 hc0
    have hM : dropM l c = ([], false) := by unfold dropM; rw [if_neg (by rw [hv]; simp)]
    go_enter Try.func44, Try.ntmps44
    go_wp2_with (first
      | ((with_reducible refine gate_dst (N := 8) rfl ?_); refine lt k42 42 ?hg (N := 8) ?hd ([] : List S42) [] ?hr (Reps.none _ _) (by simp) B ?_; (case hd => rfl); (case hg => rfl); (case hr => first | (go_simp; done) | (go_simp; rfl)); intro z8 hz8 AL8 kL8 w1 hb B RL8 QL8; clear hb QL8)
      | (go_at_call 41; with_reducible refine cl (spec_PairsValid.M _ _ l _ (cb HR0 B)) B fun w2 hb B => ?_; replace RL8 := rn RL8 hb; clear hb))
    go_ret2; have hZ : z8 = [] := (by rw [← hz8]; try simp); exact ⟨_, by rw [hM]; rfl, by rw [hM, ← hZ]; exact RL8.out, B.out⟩

theorem spec_PairPut.M (A0 : Option Addr) (c0 : Nat) (l : List S42) (c : ByteArray) (v : Int) (w : World) (hr0 : Kd.C k42 w A0 l.length l) (hc0 : l.length ≤ c0) : Calls Try.prog 45 #[.slice A0 l.length c0, .string c, .int .i64 v] w fun e w' => ∃ v0, e = .returned (.tuple #[v0, .bool (putM l c v).2]) ∧ Kd.R k42 42 w' w.heap.size (fun _ => True) v0 (putM l c v).1 ∧ Below w.heap.size w w' := by
  have B := Aside0.mk (Below.refl w.heap.size w)
  have hu := Try.underlying42
  have HR0 := Aside0.mk hr0
  have HC0 := Aside0.mk hc0
  have L63 := Aside0.mk hr0.2.1
  clear hr0
  obtain ⟨i0, hif, _, hsz0, _⟩ := info_parts info42
  by_cases hvv : (prB l && (keyB c && l1B v 0 999)) = true
  · have hu0 : putM l c v = if hitM l c then ((l.take (atP l c) ++ [⟨c, v⟩]) ++ l.drop (atP l c + 1), true) else if 48 ≤ l.length then (l, false) else ((l.take (atP l c) ++ [⟨c, v⟩]) ++ l.drop (atP l c), true) := if_pos hvv
    simp only [Bool.and_eq_true] at hvv
    obtain ⟨hv, hkv, hlv⟩ := hvv
    have h48 := prB_len hv
    have hat := atP_le l c
    cases hh : hitM l c with
    | true =>
      clear hif hsz0 hc0
      have hlt2 : decide (((atP l c : Nat) : Int) < (l.length : Int)) = true := decide_eq_true (by have := hit_true hh; omega)
      obtain ⟨hlt, hf0, hf⟩ := hit_true hh
      have j1 := eq_true (show ((atP l c : Nat) : Int) < (l.length : Int) by omega)
      have j2 := eq_true hlt
      have hM : putM l c v = ((l.take (atP l c) ++ [⟨c, v⟩]) ++ l.drop (atP l c + 1), true) := by rw [hu0, if_pos hh]
      go_enter Try.func45, Try.ntmps45
      go_wp2_with (first
        | ((with_reducible refine gate_dst (N := 10) rfl ?_); refine lt k42 42 ?hg (N := 10) ?hd ([] : List S42) [] ?hr (Reps.none _ _) (by simp) B ?_; (case hd => rfl); (case hg => rfl); (case hr => first | (go_simp; done) | (go_simp; rfl)); intro z10 hz10 AL10 kL10 w1 hb B RL10 QL10; clear hb QL10)
        | (go_at_call 41; with_reducible refine cl (spec_PairsValid.M _ _ l _ (cb HR0 B)) B fun w2 hb B => ?_; replace RL10 := rn RL10 hb; clear hb)
        | (go_at_call 68; with_reducible refine cl (spec_KeyValid.M c _) B fun w3 hb B => ?_; replace RL10 := rn RL10 hb; clear hb)
        | (go_at_call 74; with_reducible refine cl (spec_l1In.M v 0 999 _) B fun w4 hb B => ?_; replace RL10 := rn RL10 hb; clear hb)
        | (go_at_call 75; with_reducible refine cl (spec_l4Place.M _ _ l c _ (cb HR0 B)) B fun w5 hb B => ?_; replace RL10 := rn RL10 hb; clear hb; (obtain ⟨ad, hA, y0, y1⟩ := at_T42 (cb HR0 B) ((atP l c : Nat) : Int) (Int.natCast_nonneg _) (Int.ofNat_lt.mpr hlt); cases hA; rw [Int.toNat_natCast] at y0 y1))
        | ((with_reducible refine gate_builtin (b := .append) (xs := #[.tmp 41, .tmp 42]) rfl ?_); at_builtin; refine apx k42 42 rfl (.tmp 41) (.tmp 42) 27 (.agg #[.string (⟨#[]⟩ : ByteArray), .int .i64 (0)]) 24 rfl Try.underlying27 info42 rfl (by decide) (by omega) rfl rfl RL10 (cb HR0 B) (fun x cs h => by rw [k42_open h]; exact k42_mkM _ _ _ x) (by rw [← hz10]; simp only [List.length_append, List.length_nil, List.length_cons, List.length_take, List.length_drop]; omega) B ?_; intro z43 hz43 AL43 kL43 w6 hg B RL43 hat; clear hg hat; (obtain ⟨g0, hA0, hg0⟩ := rform RL43 (by rw [← hz43, ← hz10, List.nil_append]; omega); subst hA0; have HLT : atP l c < z43.length := (by rw [← hz43, ← hz10, List.nil_append]; exact hlt); obtain ⟨cs, hcl, hMM, hcc, hfz⟩ := rcells z42 RL43 (atP l c) HLT; have hsz : k42.sz = 2 := rfl; obtain ⟨u0, hu0⟩ : ∃ u, cs[1]? = some u := ⟨_, List.getElem?_eq_getElem (by rw [hcl]; decide)⟩; have q0 := hcc 1 u0 hu0; have q1 := hfz 1; rw [hsz] at q0 q1; have j3 := eq_true (show ((atP l c : Nat) : Int) < (z43.length : Int) by omega); have j4 := eq_true HLT))
        | ((with_reducible refine gate_store (t := 3) (p := 48) rfl ?_); refine es (t := 3) (p := 48) (v := ?vo7) ?hg ?ho ?hn (atP l c) 1 [.int .i64 (v)] ⟨(z43.getD (atP l c) z42).f0, v⟩ ?hr RL43 HLT hcl hcc (Nat.le_of_ble_eq_true rfl) (by rw [k42_openM hMM]; exact k42_mkM _ _ _ _) B hg0 ?_; (case ho => rfl); (case hg => rfl); (case hn => rfl); (case hr => first | (go_simp; done) | (go_simp; rfl)); intro w7 hgr B RL43; clear hgr))
      go_ret2; have hZ : z43.set (atP l c) ⟨(z43.getD (atP l c) z42).f0, v⟩ = (l.take (atP l c) ++ [⟨c, v⟩]) ++ l.drop (atP l c + 1) := (by rw [← hz43, ← hz10, List.nil_append, show (l.getD (atP l c) z42).f0 = c from hf0, List.set_eq_take_append_cons_drop, if_pos hlt]; simp); exact ⟨_, by rw [hM]; rfl, by rw [hM, ← hZ]; exact RL43.out, B.out⟩
    | false =>
      by_cases h8 : 48 ≤ l.length
      · have d8 : decide ((48 : Int) ≤ (l.length : Int)) = true := decide_eq_true (by omega)
        have d9 := eq_true h8
        clear hif hsz0 hc0
        have hM : putM l c v = (l, false) := by rw [hu0, if_neg (by rw [hh]; simp), if_pos h8]
        by_cases hlt : atP l c < l.length
        · skip
          have hf := hit_false hh hlt
          have j1 := eq_true (show ((atP l c : Nat) : Int) < (l.length : Int) by omega)
          have j2 := eq_true hlt
          have hlt2 : decide (((atP l c : Nat) : Int) < (l.length : Int)) = true := decide_eq_true (by omega)
          go_enter Try.func45, Try.ntmps45
          go_wp2_with (first
            | ((with_reducible refine gate_dst (N := 10) rfl ?_); refine lt k42 42 ?hg (N := 10) ?hd ([] : List S42) [] ?hr (Reps.none _ _) (by simp) B ?_; (case hd => rfl); (case hg => rfl); (case hr => first | (go_simp; done) | (go_simp; rfl)); intro z10 hz10 AL10 kL10 w1 hb B RL10 QL10; clear hb QL10)
            | (go_at_call 41; with_reducible refine cl (spec_PairsValid.M _ _ l _ (cb HR0 B)) B fun w2 hb B => ?_; replace RL10 := rn RL10 hb; clear hb)
            | (go_at_call 68; with_reducible refine cl (spec_KeyValid.M c _) B fun w3 hb B => ?_; replace RL10 := rn RL10 hb; clear hb)
            | (go_at_call 74; with_reducible refine cl (spec_l1In.M v 0 999 _) B fun w4 hb B => ?_; replace RL10 := rn RL10 hb; clear hb)
            | (go_at_call 75; with_reducible refine cl (spec_l4Place.M _ _ l c _ (cb HR0 B)) B fun w5 hb B => ?_; replace RL10 := rn RL10 hb; clear hb; (obtain ⟨ad, hA, y0, y1⟩ := at_T42 (cb HR0 B) ((atP l c : Nat) : Int) (Int.natCast_nonneg _) (Int.ofNat_lt.mpr hlt); cases hA; rw [Int.toNat_natCast] at y0 y1))
            | ((with_reducible refine gate_builtin (b := .append) (xs := #[.tmp 53, .tmp 54]) rfl ?_); at_builtin; refine apx k42 42 rfl (.tmp 53) (.tmp 54) 27 (.agg #[.string (⟨#[]⟩ : ByteArray), .int .i64 (0)]) 24 rfl Try.underlying27 info42 rfl (by decide) (by omega) rfl rfl RL10 (cb HR0 B) (fun x cs h => by rw [k42_open h]; exact k42_mkM _ _ _ x) (by rw [← hz10]; simp only [List.length_append, List.length_nil, List.length_cons, List.length_take, List.length_drop]; omega) B ?_; intro z55 hz55 AL55 kL55 w6 hg B RL55 hat; clear hg hat))
          go_ret2; have hZ : z55 = l := (by rw [← hz55, ← hz10]; try simp); exact ⟨_, by rw [hM]; rfl, by rw [hM, ← hZ]; exact RL55.out, B.out⟩
        · skip
          have hlt2 : decide (((atP l c : Nat) : Int) < (l.length : Int)) = false := decide_eq_false (by omega)
          go_enter Try.func45, Try.ntmps45
          go_wp2_with (first
            | ((with_reducible refine gate_dst (N := 10) rfl ?_); refine lt k42 42 ?hg (N := 10) ?hd ([] : List S42) [] ?hr (Reps.none _ _) (by simp) B ?_; (case hd => rfl); (case hg => rfl); (case hr => first | (go_simp; done) | (go_simp; rfl)); intro z10 hz10 AL10 kL10 w1 hb B RL10 QL10; clear hb QL10)
            | (go_at_call 41; with_reducible refine cl (spec_PairsValid.M _ _ l _ (cb HR0 B)) B fun w2 hb B => ?_; replace RL10 := rn RL10 hb; clear hb)
            | (go_at_call 68; with_reducible refine cl (spec_KeyValid.M c _) B fun w3 hb B => ?_; replace RL10 := rn RL10 hb; clear hb)
            | (go_at_call 74; with_reducible refine cl (spec_l1In.M v 0 999 _) B fun w4 hb B => ?_; replace RL10 := rn RL10 hb; clear hb)
            | (go_at_call 75; with_reducible refine cl (spec_l4Place.M _ _ l c _ (cb HR0 B)) B fun w5 hb B => ?_; replace RL10 := rn RL10 hb; clear hb)
            | ((with_reducible refine gate_builtin (b := .append) (xs := #[.tmp 53, .tmp 54]) rfl ?_); at_builtin; refine apx k42 42 rfl (.tmp 53) (.tmp 54) 27 (.agg #[.string (⟨#[]⟩ : ByteArray), .int .i64 (0)]) 24 rfl Try.underlying27 info42 rfl (by decide) (by omega) rfl rfl RL10 (cb HR0 B) (fun x cs h => by rw [k42_open h]; exact k42_mkM _ _ _ x) (by rw [← hz10]; simp only [List.length_append, List.length_nil, List.length_cons, List.length_take, List.length_drop]; omega) B ?_; intro z55 hz55 AL55 kL55 w6 hg B RL55 hat; clear hg hat))
          go_ret2; have hZ : z55 = l := (by rw [← hz55, ← hz10]; try simp); exact ⟨_, by rw [hM]; rfl, by rw [hM, ← hZ]; exact RL55.out, B.out⟩
      · have d8 : decide ((48 : Int) ≤ (l.length : Int)) = false := decide_eq_false (by omega)
        have d9 := eq_false h8
        have hcut1 := cut_to (P := Try.prog) 27 42 .i64 Try.underlying27 hif A0 l.length c0 ((atP l c : Nat) : Int) (by omega) (by omega) hc0
        rw [Int.toNat_natCast] at hcut1
        have C1 := Aside0.mk (fun {W : World} (h : Kd.C k42 W A0 l.length l) => show Kd.C k42 W A0 (atP l c) (l.take (atP l c)) from by
          have := Kd.C_take h (m := atP l c) (by omega)
          rwa [List.length_take, Nat.min_eq_left (by omega)] at this)
        have hcut2 := cut_from (P := Try.prog) 27 42 .i64 Try.underlying27 hif 2 hsz0 A0 l.length c0 (((atP l c : Nat) : Int)) (by omega) (by omega)
        rw [show (((atP l c : Nat) : Int)).toNat = atP l c by omega] at hcut2
        obtain ⟨A2, hA2⟩ : ∃ A2, A2 = (if c0 = atP l c then A0 else A0.map (·.add ((atP l c) * 2))) := ⟨_, rfl⟩
        rw [← hA2] at hcut2
        have C2 := Aside0.mk (fun {W : World} (h : Kd.C k42 W A0 l.length l) => show Kd.C k42 W A2 (l.length - (atP l c)) (l.drop (atP l c)) from by
          have := Kd.C_drop h (m := atP l c) (c := c0) (by omega) hc0
          rw [List.length_drop] at this
          rw [hA2]
          exact this)
        clear hA2
        clear hif hsz0 hc0
        have hM : putM l c v = ((l.take (atP l c) ++ [⟨c, v⟩]) ++ l.drop (atP l c), true) := by rw [hu0, if_neg (by rw [hh]; simp), if_neg h8]
        by_cases hlt : atP l c < l.length
        · skip
          have hf := hit_false hh hlt
          have j1 := eq_true (show ((atP l c : Nat) : Int) < (l.length : Int) by omega)
          have j2 := eq_true hlt
          have hlt2 : decide (((atP l c : Nat) : Int) < (l.length : Int)) = true := decide_eq_true (by omega)
          go_enter Try.func45, Try.ntmps45
          go_wp2_with (first
            | ((with_reducible refine gate_dst (N := 10) rfl ?_); refine lt k42 42 ?hg (N := 10) ?hd ([] : List S42) [] ?hr (Reps.none _ _) (by simp) B ?_; (case hd => rfl); (case hg => rfl); (case hr => first | (go_simp; done) | (go_simp; rfl)); intro z10 hz10 AL10 kL10 w1 hb B RL10 QL10; clear hb QL10)
            | (go_at_call 41; with_reducible refine cl (spec_PairsValid.M _ _ l _ (cb HR0 B)) B fun w2 hb B => ?_; replace RL10 := rn RL10 hb; clear hb)
            | (go_at_call 68; with_reducible refine cl (spec_KeyValid.M c _) B fun w3 hb B => ?_; replace RL10 := rn RL10 hb; clear hb)
            | (go_at_call 74; with_reducible refine cl (spec_l1In.M v 0 999 _) B fun w4 hb B => ?_; replace RL10 := rn RL10 hb; clear hb)
            | (go_at_call 75; with_reducible refine cl (spec_l4Place.M _ _ l c _ (cb HR0 B)) B fun w5 hb B => ?_; replace RL10 := rn RL10 hb; clear hb; (obtain ⟨ad, hA, y0, y1⟩ := at_T42 (cb HR0 B) ((atP l c : Nat) : Int) (Int.natCast_nonneg _) (Int.ofNat_lt.mpr hlt); cases hA; rw [Int.toNat_natCast] at y0 y1))
            | ((with_reducible refine gate_builtin (b := .append) (xs := #[.tmp 56, .tmp 59]) rfl ?_); at_builtin; refine apx k42 42 rfl (.tmp 56) (.tmp 59) 27 (.agg #[.string (⟨#[]⟩ : ByteArray), .int .i64 (0)]) 24 rfl Try.underlying27 info42 rfl (by decide) (by omega) rfl rfl RL10 (C1.out (cb HR0 B)) (fun x cs h => by rw [k42_open h]; exact k42_mkM _ _ _ x) (by rw [← hz10]; simp only [List.length_append, List.length_nil, List.length_cons, List.length_take, List.length_drop]; omega) B ?_; intro z60 hz60 AL60 kL60 w6 hg B RL60 hat; clear hg hat)
            | ((with_reducible refine gate_dst (N := 65) rfl ?_); refine lt k42 42 ?hg (N := 65) ?hd ([⟨c, v⟩] : List S42) [.string c, .int .i64 (v)] ?hr (Reps.c2 (k42_mkM _ _ _ ⟨c, v⟩) (Reps.none _ _)) (by simp) B ?_; (case hd => rfl); (case hg => rfl); (case hr => first | (go_simp; done) | (go_simp; rfl)); intro z65 hz65 AL65 kL65 w7 hb B RL65 QL65; replace RL60 := rn RL60 hb; clear hb QL65)
            | ((with_reducible refine gate_builtin (b := .append) (xs := #[.tmp 61, .tmp 65]) rfl ?_); at_builtin; refine apx k42 42 rfl (.tmp 61) (.tmp 65) 27 (.agg #[.string (⟨#[]⟩ : ByteArray), .int .i64 (0)]) 24 rfl Try.underlying27 info42 rfl (by decide) (by omega) rfl rfl RL60 (rc RL65) (fun x cs h => by rw [k42_open h]; exact k42_mkM _ _ _ x) (by rw [← hz65, ← hz60, ← hz10]; simp only [List.length_append, List.length_nil, List.length_cons, List.length_take, List.length_drop]; omega) B ?_; intro z66 hz66 AL66 kL66 w8 hg B RL66 hat; clear hg hat)
            | ((with_reducible refine gate_builtin (b := .append) (xs := #[.tmp 67, .tmp 70]) rfl ?_); at_builtin; refine apx k42 42 rfl (.tmp 67) (.tmp 70) 27 (.agg #[.string (⟨#[]⟩ : ByteArray), .int .i64 (0)]) 24 rfl Try.underlying27 info42 rfl (by decide) (by omega) rfl rfl RL66 (C2.out (cb HR0 B)) (fun x cs h => by rw [k42_open h]; exact k42_mkM _ _ _ x) (by rw [← hz66, ← hz65, ← hz60, ← hz10]; simp only [List.length_append, List.length_nil, List.length_cons, List.length_take, List.length_drop]; omega) B ?_; intro z71 hz71 AL71 kL71 w9 hg B RL71 hat; clear hg hat))
          go_ret2; have hZ : z71 = (l.take (atP l c) ++ [⟨c, v⟩]) ++ l.drop (atP l c) := (by rw [← hz71, ← hz66, ← hz65, ← hz60, ← hz10]; try simp); exact ⟨_, by rw [hM]; rfl, by rw [hM, ← hZ]; exact RL71.out, B.out⟩
        · skip
          have hlt2 : decide (((atP l c : Nat) : Int) < (l.length : Int)) = false := decide_eq_false (by omega)
          go_enter Try.func45, Try.ntmps45
          go_wp2_with (first
            | ((with_reducible refine gate_dst (N := 10) rfl ?_); refine lt k42 42 ?hg (N := 10) ?hd ([] : List S42) [] ?hr (Reps.none _ _) (by simp) B ?_; (case hd => rfl); (case hg => rfl); (case hr => first | (go_simp; done) | (go_simp; rfl)); intro z10 hz10 AL10 kL10 w1 hb B RL10 QL10; clear hb QL10)
            | (go_at_call 41; with_reducible refine cl (spec_PairsValid.M _ _ l _ (cb HR0 B)) B fun w2 hb B => ?_; replace RL10 := rn RL10 hb; clear hb)
            | (go_at_call 68; with_reducible refine cl (spec_KeyValid.M c _) B fun w3 hb B => ?_; replace RL10 := rn RL10 hb; clear hb)
            | (go_at_call 74; with_reducible refine cl (spec_l1In.M v 0 999 _) B fun w4 hb B => ?_; replace RL10 := rn RL10 hb; clear hb)
            | (go_at_call 75; with_reducible refine cl (spec_l4Place.M _ _ l c _ (cb HR0 B)) B fun w5 hb B => ?_; replace RL10 := rn RL10 hb; clear hb)
            | ((with_reducible refine gate_builtin (b := .append) (xs := #[.tmp 56, .tmp 59]) rfl ?_); at_builtin; refine apx k42 42 rfl (.tmp 56) (.tmp 59) 27 (.agg #[.string (⟨#[]⟩ : ByteArray), .int .i64 (0)]) 24 rfl Try.underlying27 info42 rfl (by decide) (by omega) rfl rfl RL10 (C1.out (cb HR0 B)) (fun x cs h => by rw [k42_open h]; exact k42_mkM _ _ _ x) (by rw [← hz10]; simp only [List.length_append, List.length_nil, List.length_cons, List.length_take, List.length_drop]; omega) B ?_; intro z60 hz60 AL60 kL60 w6 hg B RL60 hat; clear hg hat)
            | ((with_reducible refine gate_dst (N := 65) rfl ?_); refine lt k42 42 ?hg (N := 65) ?hd ([⟨c, v⟩] : List S42) [.string c, .int .i64 (v)] ?hr (Reps.c2 (k42_mkM _ _ _ ⟨c, v⟩) (Reps.none _ _)) (by simp) B ?_; (case hd => rfl); (case hg => rfl); (case hr => first | (go_simp; done) | (go_simp; rfl)); intro z65 hz65 AL65 kL65 w7 hb B RL65 QL65; replace RL60 := rn RL60 hb; clear hb QL65)
            | ((with_reducible refine gate_builtin (b := .append) (xs := #[.tmp 61, .tmp 65]) rfl ?_); at_builtin; refine apx k42 42 rfl (.tmp 61) (.tmp 65) 27 (.agg #[.string (⟨#[]⟩ : ByteArray), .int .i64 (0)]) 24 rfl Try.underlying27 info42 rfl (by decide) (by omega) rfl rfl RL60 (rc RL65) (fun x cs h => by rw [k42_open h]; exact k42_mkM _ _ _ x) (by rw [← hz65, ← hz60, ← hz10]; simp only [List.length_append, List.length_nil, List.length_cons, List.length_take, List.length_drop]; omega) B ?_; intro z66 hz66 AL66 kL66 w8 hg B RL66 hat; clear hg hat)
            | ((with_reducible refine gate_builtin (b := .append) (xs := #[.tmp 67, .tmp 70]) rfl ?_); at_builtin; refine apx k42 42 rfl (.tmp 67) (.tmp 70) 27 (.agg #[.string (⟨#[]⟩ : ByteArray), .int .i64 (0)]) 24 rfl Try.underlying27 info42 rfl (by decide) (by omega) rfl rfl RL66 (C2.out (cb HR0 B)) (fun x cs h => by rw [k42_open h]; exact k42_mkM _ _ _ x) (by rw [← hz66, ← hz65, ← hz60, ← hz10]; simp only [List.length_append, List.length_nil, List.length_cons, List.length_take, List.length_drop]; omega) B ?_; intro z71 hz71 AL71 kL71 w9 hg B RL71 hat; clear hg hat))
          go_ret2; have hZ : z71 = (l.take (atP l c) ++ [⟨c, v⟩]) ++ l.drop (atP l c) := (by rw [← hz71, ← hz66, ← hz65, ← hz60, ← hz10]; try simp); exact ⟨_, by rw [hM]; rfl, by rw [hM, ← hZ]; exact RL71.out, B.out⟩
  · have hM : putM l c v = ([], false) := if_neg hvv
    have hvn : prB l = false ∨ keyB c = false ∨ l1B v 0 999 = false := by grind
    clear hif hsz0 hc0
    go_enter Try.func45, Try.ntmps45
    go_wp2_with (first
      | ((with_reducible refine gate_dst (N := 10) rfl ?_); refine lt k42 42 ?hg (N := 10) ?hd ([] : List S42) [] ?hr (Reps.none _ _) (by simp) B ?_; (case hd => rfl); (case hg => rfl); (case hr => first | (go_simp; done) | (go_simp; rfl)); intro z10 hz10 AL10 kL10 w1 hb B RL10 QL10; clear hb QL10)
      | (go_at_call 41; with_reducible refine cl (spec_PairsValid.M _ _ l _ (cb HR0 B)) B fun w2 hb B => ?_; replace RL10 := rn RL10 hb; clear hb)
      | (go_at_call 68; with_reducible refine cl (spec_KeyValid.M c _) B fun w3 hb B => ?_; replace RL10 := rn RL10 hb; clear hb)
      | (go_at_call 74; with_reducible refine cl (spec_l1In.M v 0 999 _) B fun w4 hb B => ?_; replace RL10 := rn RL10 hb; clear hb))
    all_goals first
      | (go_ret2; have hZ : z10 = [] := (by rw [← hz10]; try simp); exact ⟨_, by rw [hM]; rfl, by rw [hM, ← hZ]; exact RL10.out, B.out⟩)
      | (exfalso; grind)

theorem spec_CommandValid.M (k : Int) (x : ByteArray) (v o : Int) (w : World) : Calls Try.prog 42 #[.agg #[.int .i64 k, .string x, .int .i64 v, .int .i64 o]] w fun e w' => e = .returned (.bool (cmdB k x v o)) ∧ Below w.heap.size w w' := by
  have B := Aside0.mk (Below.refl w.heap.size w)
  have hu := Try.underlying31
  go_enter Try.func42, Try.ntmps42
  go_wp2_with (first
    | ((with_reducible refine gate_dst (N := 1) rfl ?_); refine bx ?hg (N := 1) ?hd (cs := #[.int .i64 (k), .string x, .int .i64 (v), .int .i64 (o)]) (t := 31) ?hr B ?_; (case hd => rfl); (case hg => rfl); (case hr => first | (go_simp; done) | (go_simp; rfl)); intro g1 w1 hb B F1 L1 E1; obtain ⟨c1_0, c1_1, c1_2, c1_3⟩ := cs4 F1; clear hb E1)
    | (go_at_call 68; with_reducible refine cl (spec_KeyValid.M x _) B fun w2 hb B => ?_; replace F1 := bn F1 hb; clear c1_0 c1_1 c1_2 c1_3; obtain ⟨c1_0, c1_1, c1_2, c1_3⟩ := cs4 F1; clear hb)
    | (go_at_call 74; with_reducible refine cl (spec_l1In.M v 0 999 _) B fun w3 hb B => ?_; replace F1 := bn F1 hb; clear c1_0 c1_1 c1_2 c1_3; obtain ⟨c1_0, c1_1, c1_2, c1_3⟩ := cs4 F1; clear hb)
    | (go_at_call 74; with_reducible refine cl (spec_l1In.M v 0 999 _) B fun w4 hb B => ?_; replace F1 := bn F1 hb; clear c1_0 c1_1 c1_2 c1_3; obtain ⟨c1_0, c1_1, c1_2, c1_3⟩ := cs4 F1; clear hb)
    | (go_at_call 74; with_reducible refine cl (spec_l1In.M o (-1) 999 _) B fun w5 hb B => ?_; replace F1 := bn F1 hb; clear hb))
  all_goals (go_ret; exact ⟨congrArg (fun b => Ending.returned (Value.bool b)) (by unfold cmdB; grind [l1B]), B.out⟩)

theorem spec_ApplyCommand.M (A0 : Option Addr) (c0 : Nat) (l : List S42) (k : Int) (x : ByteArray) (v o : Int) (w : World) (hr0 : Kd.C k42 w A0 l.length l) (hc0 : l.length ≤ c0) : Calls Try.prog 10 #[.slice A0 l.length c0, .agg #[.int .i64 k, .string x, .int .i64 v, .int .i64 o]] w fun e w' => ∃ v0, e = .returned (.tuple #[v0, .int .i64 (apM l k x v o).2]) ∧ Kd.R k42 42 w' w.heap.size (fun _ => True) v0 (apM l k x v o).1 ∧ Below w.heap.size w w' := by
  have B := Aside0.mk (Below.refl w.heap.size w)
  have hu := Try.underlying31
  have HR0 := Aside0.mk hr0
  have HC0 := Aside0.mk hc0
  have L63 := Aside0.mk hr0.2.1
  clear hr0 hc0
  obtain ⟨r, hr⟩ : ∃ r, apM l k x v o = r := ⟨_, rfl⟩
  rw [hr]
  go_enter Try.func10, Try.ntmps10
  go_wp2_with (first
    | ((with_reducible refine gate_dst (N := 3) rfl ?_); refine bx ?hg (N := 3) ?hd (cs := #[.int .i64 (k), .string x, .int .i64 (v), .int .i64 (o)]) (t := 31) ?hr B ?_; (case hd => rfl); (case hg => rfl); (case hr => first | (go_simp; done) | (go_simp; rfl)); intro g3 w1 hb B F3 L3 E3; obtain ⟨c3_0, c3_1, c3_2, c3_3⟩ := cs4 F3; clear hb E3)
    | (go_at_call 41; with_reducible refine cl (spec_PairsValid.M _ _ l _ (cb HR0 B)) B fun w2 hb B => ?_; replace F3 := bn F3 hb; clear c3_0 c3_1 c3_2 c3_3; obtain ⟨c3_0, c3_1, c3_2, c3_3⟩ := cs4 F3; clear hb)
    | (go_at_call 42; with_reducible refine cl (spec_CommandValid.M k x v o _) B fun w3 hb B => ?_; replace F3 := bn F3 hb; clear c3_0 c3_1 c3_2 c3_3; obtain ⟨c3_0, c3_1, c3_2, c3_3⟩ := cs4 F3; clear hb)
    | ((with_reducible refine gate_dst (N := 26) rfl ?_); refine lt k42 42 ?hg (N := 26) ?hd ([] : List S42) [] ?hr (Reps.none _ _) (by simp) B ?_; (case hd => rfl); (case hg => rfl); (case hr => first | (go_simp; done) | (go_simp; rfl)); intro z26 hz26 AL26 kL26 w4 hb B RL26 QL26; replace F3 := bn F3 hb; clear c3_0 c3_1 c3_2 c3_3; obtain ⟨c3_0, c3_1, c3_2, c3_3⟩ := cs4 F3; clear hb QL26)
    | ((with_reducible refine gate_builtin (b := .append) (xs := #[.tmp 26, .tmp 27]) rfl ?_); at_builtin; refine apx k42 42 rfl (.tmp 26) (.tmp 27) 27 (.agg #[.string (⟨#[]⟩ : ByteArray), .int .i64 (0)]) 24 rfl Try.underlying27 info42 rfl (by decide) (by omega) rfl rfl RL26 (cb HR0 B) (fun x cs h => by rw [k42_open h]; exact k42_mkM _ _ _ x) (by have := prB_len (by assumption); rw [← hz26]; simp only [List.length_append, List.length_nil]; omega) B ?_; intro z28 hz28 AL28 kL28 w5 hg B RL28 hat; replace F3 := bga F3 hg RL26 (by decide); clear c3_0 c3_1 c3_2 c3_3; obtain ⟨c3_0, c3_1, c3_2, c3_3⟩ := cs4 F3; clear hg hat)
    | (go_at_call 43; with_reducible refine cl (spec_PairGet.M _ _ l x _ (cb HR0 B) HC0.out) B fun w6 hb B => ?_; replace F3 := bn F3 hb; replace RL28 := rn RL28 hb; clear c3_0 c3_1 c3_2 c3_3; obtain ⟨c3_0, c3_1, c3_2, c3_3⟩ := cs4 F3; clear hb)
    | ((with_reducible refine gate_dst (N := 25) rfl ?_); refine lt k42 42 ?hg (N := 25) ?hd ([] : List S42) [] ?hr (Reps.none _ _) (by simp) B ?_; (case hd => rfl); (case hg => rfl); (case hr => first | (go_simp; done) | (go_simp; rfl)); intro z25 hz25 AL25 kL25 w4 hb B RL25 QL25; replace F3 := bn F3 hb; clear hb QL25)
    | (go_at_call 44; with_reducible refine crz (spec_PairDrop.M _ _ l x _ (cb HR0 B) HC0.out) B fun zC7 hzC7 AC7 kC7 w7 hb B RC7 QC7 => ?_; replace F3 := bn F3 hb; replace RL28 := rn RL28 hb; clear QC7; clear hb)
    | (go_at_call 45; with_reducible refine crz (spec_PairPut.M _ _ l x v _ (cb HR0 B) HC0.out) B fun zC7 hzC7 AC7 kC7 w7 hb B RC7 QC7 => ?_; replace F3 := bn F3 hb; replace RL28 := rn RL28 hb; clear QC7; clear hb))
  all_goals first
    | (refine useEq (a := r) (b := ([], -3)) ?_ (fun hM => ?_); (rw [← hr]; unfold apM; grind); subst hM; subst hz25; go_ret2; exact ⟨_, rfl, RL25.out, B.out⟩)
    | (refine useEq (a := r) (b := ((dropM l x).1, getM l x)) ?_ (fun hM => ?_); (rw [← hr]; unfold apM; (try have hgb := getM_bound l x); grind); subst hM; subst hzC7; go_ret2; exact ⟨_, rfl, RC7.out, B.out⟩)
    | (refine useEq (a := r) (b := ((dropM l x).1, -1)) ?_ (fun hM => ?_); (rw [← hr]; unfold apM; (try have hgb := getM_bound l x); grind); subst hM; subst hzC7; go_ret2; exact ⟨_, rfl, RC7.out, B.out⟩)
    | (refine useEq (a := r) (b := ((putM l x v).1, getM l x)) ?_ (fun hM => ?_); (rw [← hr]; unfold apM; (try have hgb := getM_bound l x); grind); subst hM; subst hzC7; go_ret2; exact ⟨_, rfl, RC7.out, B.out⟩)
    | (refine useEq (a := r) (b := ((putM l x v).1, -1)) ?_ (fun hM => ?_); (rw [← hr]; unfold apM; (try have hgb := getM_bound l x); grind); subst hM; subst hzC7; go_ret2; exact ⟨_, rfl, RC7.out, B.out⟩)
    | (refine useEq (a := z28) (b := l) (by rw [← hz28, ← hz26, List.nil_append]) (fun hZ => ?_); refine useEq (a := r) (b := (l, getM l x)) ?_ (fun hM => ?_); (rw [← hr]; unfold apM; (try have hgb := getM_bound l x); grind); subst hM; subst hZ; go_ret2; exact ⟨_, rfl, RL28.out, B.out⟩)
    | (refine useEq (a := z28) (b := l) (by rw [← hz28, ← hz26, List.nil_append]) (fun hZ => ?_); refine useEq (a := r) (b := (l, -1)) ?_ (fun hM => ?_); (rw [← hr]; unfold apM; (try have hgb := getM_bound l x); grind); subst hM; subst hZ; go_ret2; exact ⟨_, rfl, RL28.out, B.out⟩)
    | (refine useEq (a := z28) (b := l) (by rw [← hz28, ← hz26, List.nil_append]) (fun hZ => ?_); refine useEq (a := r) (b := (l, -2)) ?_ (fun hM => ?_); (rw [← hr]; unfold apM; (try have hgb := getM_bound l x); grind); subst hM; subst hZ; go_ret2; exact ⟨_, rfl, RL28.out, B.out⟩)

theorem spec_RunCommands.M (A0 : Option Addr) (c0 : Nat) (l : List S42) (A1 : Option Addr) (c1 : Nat) (cs : List S31) (w : World) (hr0 : Kd.C k42 w A0 l.length l) (hc0 : l.length ≤ c0) (hr1 : Kd.C k31 w A1 cs.length cs) (hc1 : cs.length ≤ c1) : Calls Try.prog 22 #[.slice A0 l.length c0, .slice A1 cs.length c1] w fun e w' => ∃ v0 v1, e = .returned (.tuple #[v0, v1]) ∧ Kd.R k42 42 w' w.heap.size (fun _ => True) v0 (runM l cs).1 ∧ Kd.R (Kd.int .i64) 3 w' w.heap.size (fun _ => True) v1 (runM l cs).2 ∧ Below w.heap.size w w' := by
  have B := Aside0.mk (Below.refl w.heap.size w)
  have hu := Try.underlying31
  have HR0 := Aside0.mk hr0
  have HC0 := Aside0.mk hc0
  have L63 := Aside0.mk hr0.2.1
  clear hr0 hc0
  have HR1 := Aside0.mk hr1
  have L64 := Aside0.mk hr1.2.1
  clear hr1 hc1
  obtain ⟨r, hr⟩ : ∃ r, runM l cs = r := ⟨_, rfl⟩
  rw [hr]
  go_enter Try.func22, Try.ntmps22
  go_wp2_with (first
    | ((with_reducible refine gate_dst (N := 11) rfl ?_); refine lt (Kd.int .i64) 3 ?hg (N := 11) ?hd ([] : List Int) [] ?hr (Reps.none _ _) (by simp) B ?_; (case hd => rfl); (case hg => rfl); (case hr => first | (go_simp; done) | (go_simp; rfl)); intro z11 hz11 AL11 kL11 w1 hb B RL11 QL11; clear hb QL11)
    | (go_at_call 41; with_reducible refine cl (spec_PairsValid.M _ _ l _ (cb HR0 B)) B fun w2 hb B => ?_; replace RL11 := rn RL11 hb; clear hb)
    | ((with_reducible refine gate_dst (N := 20) rfl ?_); refine lt k42 42 ?hg (N := 20) ?hd ([] : List S42) [] ?hr (Reps.none _ _) (by simp) B ?_; (case hd => rfl); (case hg => rfl); (case hr => first | (go_simp; done) | (go_simp; rfl)); intro z20 hz20 AL20 kL20 w3 hb B RL20 QL20; replace RL11 := rn RL11 hb; clear hb QL20)
    | ((with_reducible refine gate_dst (N := 22) rfl ?_); refine lt k42 42 ?hg (N := 22) ?hd ([] : List S42) [] ?hr (Reps.none _ _) (by simp) B ?_; (case hd => rfl); (case hg => rfl); (case hr => first | (go_simp; done) | (go_simp; rfl)); intro z22 hz22 AL22 kL22 w3 hb B RL22 QL22; replace RL11 := rn RL11 hb; clear hb QL22)
    | ((with_reducible refine gate_builtin (b := .append) (xs := #[.tmp 22, .tmp 23]) rfl ?_); at_builtin; refine apx k42 42 rfl (.tmp 22) (.tmp 23) 27 (.agg #[.string (⟨#[]⟩ : ByteArray), .int .i64 (0)]) 24 rfl Try.underlying27 info42 rfl (by decide) (by omega) rfl rfl RL22 (cb HR0 B) (fun x cs h => by rw [k42_open h]; exact k42_mkM _ _ _ x) (by have := prB_len (by assumption); rw [← hz22]; simp only [List.length_append, List.length_nil]; omega) B ?_; intro z24 hz24 AL24 kL24 w4 hg B RL24 hat; replace RL11 := rga RL11 rfl hg (dty RL22 RL11 (by decide)); clear hg hat))
  all_goals try (refine useEq (a := r) (b := ([], [])) ?_ (fun hM => ?_); (rw [← hr]; unfold runM; grind); subst hM; subst hz11; subst hz20; go_ret2; exact ⟨_, _, rfl, RL20.out, RL11.out, B.out⟩)
  have hv : prB l = true ∧ cs.length ≤ 20 := by grind
  have hrq : r = if cs.all kC then cs.foldl stepR (l, []) else ([], []) := by rw [← hr]; unfold runM; simp [hv.1, hv.2]
  have hz24' : z24 = l := by rw [← hz24, ← hz22, List.nil_append]
  subst hz24'
  subst hz22
  clear hz24
  subst hz11
  have h20 := hv.2
  obtain ⟨q, hq⟩ : ∃ q, cs.all kC = q := ⟨_, rfl⟩
  have H := Aside0.mk (show (cs.drop 0).all kC = q from hq)
  have H2 := Aside0.mk (show q = true → (cs.drop 0).foldl stepR (z24, []) = r by intro h; rw [hrq, hq, h]; rfl)
  have H3 := Aside0.mk (show q = false → r = ([], []) by intro h; rw [hrq, hq, h]; rfl)
  clear hr hrq hv hq
  go_loopg [7, 6, 8] (cs.length + 1) (fun kx v7 v6 v8 wr => ∃ (j : Nat) (p : List S42) (vs : List Int), v8 = .int .i64 (j : Int) ∧ j ≤ cs.length ∧ cs.length < j + kx ∧ vs.length ≤ j ∧ Aside0 (Below w.heap.size w wr) ∧ Aside0 (Ow k42 42 wr w.heap.size v7 p) ∧ Aside0 (Ow (Kd.int .i64) 3 wr w.heap.size v6 vs) ∧ Aside0 ((cs.drop j).all kC = q) ∧ Aside0 (q = true → (cs.drop j).foldl stepR (p, vs) = r))
  case atStart => exact ⟨0, z24, [], rfl, by omega, by omega, by simp, B, RL24, RL11, H, H2⟩
  case round =>
    clear H H2 B RL24 RL11
    obtain ⟨j, p, vs, rfl, hj, hk, hvl, B, Rp8, Rv9, H, H2⟩ := hrel
    obtain ⟨A8, k8, rfl⟩ := Kd.R_slice Rp8.out
    obtain ⟨A9, k9, rfl⟩ := Kd.R_slice Rv9.out
    by_cases hlt : j < cs.length
    · have HS := H.out
      have HS2 := H2.out
      rw [cm_drop hlt, List.all_cons] at HS
      rw [cm_drop hlt, List.foldl_cons] at HS2
      clear H H2
      obtain ⟨d, rfl⟩ : ∃ d, gk = d + 1 := ⟨gk - 1, by omega⟩
      have cj : decide ((j : Int) < (cs.length : Int)) = true := decide_eq_true (by omega)
      obtain ⟨ad, hA, y0, y1, y2, y3⟩ := at_T31 (cb HR1 B) (j : Int) (by omega) (by omega)
      cases hA
      rw [Int.toNat_natCast] at y0 y1 y2 y3
      have j1 := eq_true (show (j : Int) < (cs.length : Int) by omega)
      have j2 := eq_true hlt
      generalize hy : rd_T31 cs (j : Int) = y at *
      have HT := Aside0.mk HS
      have HT2 := Aside0.mk HS2
      clear HS HS2
      go_wp2_with (first
        | (go_at_call 42; with_reducible refine cl (spec_CommandValid.M y.f0 y.f1 y.f2 y.f3 _) B fun w101 hb B => ?_; replace Rp8 := rn Rp8 hb; replace Rv9 := rn Rv9 hb; clear hb; (clear y0 y1 y2 y3; obtain ⟨ad2, hA, y0, y1, y2, y3⟩ := at_T31 (cb HR1 B) (j : Int) (by omega) (by omega); cases hA; rw [Int.toNat_natCast, hy] at y0 y1 y2 y3))
        | ((with_reducible refine gate_dst (N := 45) rfl ?_); refine lt k42 42 ?hg (N := 45) ?hd ([] : List S42) [] ?hr (Reps.none _ _) (by simp) B ?_; (case hd => rfl); (case hg => rfl); (case hr => first | (go_simp; done) | (go_simp; rfl)); intro z45 hz45 AL45 kL45 w102 hb B RL45 QL45; replace Rp8 := rn Rp8 hb; replace Rv9 := rn Rv9 hb; clear hb QL45)
        | ((with_reducible refine gate_dst (N := 46) rfl ?_); refine lt (Kd.int .i64) 3 ?hg (N := 46) ?hd ([] : List Int) [] ?hr (Reps.none _ _) (by simp) B ?_; (case hd => rfl); (case hg => rfl); (case hr => first | (go_simp; done) | (go_simp; rfl)); intro z46 hz46 AL46 kL46 w103 hb B RL46 QL46; replace Rp8 := rn Rp8 hb; replace Rv9 := rn Rv9 hb; replace RL45 := rn RL45 hb; clear hb QL46)
        | (go_at_call 10; with_reducible refine cr (spec_ApplyCommand.M _ _ p y.f0 y.f1 y.f2 y.f3 _ (rc Rp8) (rl Rp8)) B fun AC102 kC102 w102 hb B RC102 QC102 => ?_; replace Rp8 := rn Rp8 hb; replace Rv9 := rn Rv9 hb; clear QC102; clear hb)
        | ((with_reducible refine gate_dst (N := 59) rfl ?_); refine lt (Kd.int .i64) 3 ?hg (N := 59) ?hd ([((apM p y.f0 y.f1 y.f2 y.f3).2)] : List Int) [.int .i64 ((apM p y.f0 y.f1 y.f2 y.f3).2)] ?hr (Reps.one (show Kd.M (Kd.int .i64) _ _ _ (apM p y.f0 y.f1 y.f2 y.f3).2 [.int .i64 ((apM p y.f0 y.f1 y.f2 y.f3).2)] from rfl) (Reps.none _ _)) (by simp) B ?_; (case hd => rfl); (case hg => rfl); (case hr => first | (go_simp; done) | (go_simp; rfl)); intro z59 hz59 AL59 kL59 w103 hb B RL59 QL59; replace Rv9 := rn Rv9 hb; replace RC102 := rn RC102 hb; clear hb QL59)
        | ((with_reducible refine gate_builtin (b := .append) (xs := #[.tmp 57, .tmp 59]) rfl ?_); at_builtin; refine apx (Kd.int .i64) 3 rfl (.tmp 57) (.tmp 59) 46 (.int .i64 0) 8 rfl Try.underlying46 info3 rfl (by decide) (by omega) rfl rfl Rv9 (rc RL59) (fun _ _ h => h) (by rw [← hz59]; simp only [List.length_cons, List.length_nil]; omega) B ?_; intro z60 hz60 AL60 kL60 w104 hg B RL60 hat; replace RC102 := rga RC102 rfl hg (dty Rv9 RC102 (by decide)); clear hg hat))
      all_goals first
        | (refine useEq (a := kC y) (b := true) ?_ (fun hK => ?_); (unfold kC; grind); have HS := HT.out; rw [hK, Bool.true_and] at HS; go_roundg d; (case measure => omega); (case rel => exact ⟨j + 1, _, z60, congrArg (Value.int .i64) (Int.natCast_succ _).symm, by omega, by omega, (by rw [← hz60, ← hz59]; simp only [List.length_append, List.length_cons, List.length_nil]; omega), B, RC102, RL60, ⟨HS⟩, ⟨fun hq => by rw [← hz60, ← hz59]; exact HT2.out hq⟩⟩))
        | (refine useEq (a := kC y) (b := false) ?_ (fun hK => ?_); (unfold kC; grind); have HS := HT.out; rw [hK, Bool.false_and] at HS; refine useEq (a := r) (b := ([], [])) ?_ (fun hM => ?_); (exact H3.out HS.symm); subst hM; subst hz45; subst hz46; go_ret2; exact ⟨_, _, rfl, RL45.out, RL46.out, B.out⟩)
    · have cj : decide ((j : Int) < (cs.length : Int)) = false := decide_eq_false (by omega)
      have hq : q = true := by rw [← H.out, List.drop_of_length_le (by omega)]; rfl
      have hr := H2.out hq
      rw [List.drop_of_length_le (by omega)] at hr
      have hr2 : (p, vs) = r := hr
      subst hr2
      clear hr H H2 H3
      go_wp2
      go_ret2
      exact ⟨_, _, rfl, Rp8.out, Rv9.out, B.out⟩

def cmpS (x y : ByteArray) : Int := if ltB x y = true then -1 else if ltB y x = true then 1 else 0
theorem cmp_isNaNs.calls (x : ByteArray) (w : World) : Calls Try.prog 91 #[.string x] w fun e w' => e = .returned (.bool false) ∧ Below w.heap.size w w' := by
  go_enter Try.func91, Try.ntmps91
  go_wp2
  go_ret
  exact ⟨by simp, Below.refl _ _⟩
theorem cmp_Compares.calls (x y : ByteArray) (w : World) : Calls Try.prog 84 #[.string x, .string y] w fun e w' => e = .returned (.int .i64 (cmpS x y)) ∧ Below w.heap.size w w' := by
  unfold cmpS ltB
  cases h1 : Op.bytesLess x.toList y.toList with
  | true =>
    rw [if_pos rfl]
    go_enter Try.func84, Try.ntmps84
    go_wp2_with (first
      | (go_at_call 91; (with_reducible refine (cmp_isNaNs.calls x w).mono ?_); rintro e w1 ⟨rfl, hb⟩; have B1 := Aside0.mk hb; clear hb)
      | (go_at_call 91; (with_reducible refine (cmp_isNaNs.calls y w1).mono ?_); rintro e w2 ⟨rfl, hb⟩; have B2 := Aside0.mk (below_step B1.out hb); clear hb))
    go_ret
    exact ⟨rfl, B2.out⟩
  | false =>
    rw [if_neg (by simp)]
    cases h2 : Op.bytesLess y.toList x.toList with
    | true =>
      rw [if_pos rfl]
      go_enter Try.func84, Try.ntmps84
      go_wp2_with (first
        | (go_at_call 91; (with_reducible refine (cmp_isNaNs.calls x w).mono ?_); rintro e w1 ⟨rfl, hb⟩; have B1 := Aside0.mk hb; clear hb)
        | (go_at_call 91; (with_reducible refine (cmp_isNaNs.calls y w1).mono ?_); rintro e w2 ⟨rfl, hb⟩; have B2 := Aside0.mk (below_step B1.out hb); clear hb))
      go_ret
      exact ⟨rfl, B2.out⟩
    | false =>
      rw [if_neg (by simp)]
      go_enter Try.func84, Try.ntmps84
      go_wp2_with (first
        | (go_at_call 91; (with_reducible refine (cmp_isNaNs.calls x w).mono ?_); rintro e w1 ⟨rfl, hb⟩; have B1 := Aside0.mk hb; clear hb)
        | (go_at_call 91; (with_reducible refine (cmp_isNaNs.calls y w1).mono ?_); rintro e w2 ⟨rfl, hb⟩; have B2 := Aside0.mk (below_step B1.out hb); clear hb))
      go_ret
      exact ⟨rfl, B2.out⟩

theorem impl_pairPlace1.calls (s : S42) (c : ByteArray) (w : World) : Calls Try.prog 83 #[.agg #[.string s.f0, .int .i64 s.f1], .string c] w fun e w' => e = .returned (.int .i64 (cmpS s.f0 c)) ∧ Below w.heap.size w w' := by
  have hu := Try.underlying42
  go_enter Try.func83, Try.ntmps83
  go_wp2_with (first
    | ((with_reducible refine gate_dst (N := 2) rfl ?_); refine box_event ?hg (N := 2) ?hd (cs := #[.string s.f0, .int .i64 s.f1]) (t := 42) ?hr ?_; (case hd => rfl); (case hg => rfl); (case hr => first | (go_simp; done) | (go_simp; rfl)); intro g hg w1 hc hb; have B1 := Aside0.mk hb; have c0 : w1.cell? ⟨g, 0, none⟩ = some (.string s.f0) := (blk_cell hc 0).trans rfl; clear hc hb hg)
    | (go_at_call 84; (with_reducible refine (cmp_Compares.calls s.f0 c w1).mono ?_); rintro e w2 ⟨rfl, hb⟩; have B2 := Aside0.mk (below_step B1.out hb); clear hb))
  go_ret
  exact ⟨rfl, B2.out⟩

theorem cmpS_neg (x c : ByteArray) : decide (cmpS x c < 0) = ltB x c := by
  unfold cmpS
  cases h : ltB x c with
  | true => rfl
  | false => cases ltB c x <;> rfl
theorem cmpS_zero (x c : ByteArray) : (cmpS x c == 0) = decide (x = c) := by
  have ht := less_total x.toList c.toList
  unfold cmpS ltB
  by_cases e : x = c
  · subst e
    have hs : Op.bytesLess x.toList x.toList = false := by simpa using ht
    rw [hs, decide_eq_true rfl]
    rfl
  · rw [decide_eq_false e]
    have hne : (x.toList == c.toList) = false := beq_eq_false_iff_ne.mpr fun q => e (ByteArray.ext (Array.toList_inj.mp (by rw [← Lib.toList_data, ← Lib.toList_data]; exact q)))
    rw [hne, Bool.or_false] at ht
    rw [ht]
    cases Op.bytesLess c.toList x.toList <;> rfl
def hitP (l : List S42) (c : ByteArray) : Bool := decide (placeP l c l.length 0 l.length < l.length) && decide ((rd_T42 l ((placeP l c l.length 0 l.length : Nat) : Int)).f0 = c)

theorem slices_BinarySearchP.calls (A0 : Option Addr) (c0 : Nat) (l : List S42) (c : ByteArray) (w : World) (hr0 : Kd.C k42 w A0 l.length l) (hc0 : l.length ≤ c0) (hsz : l.length < 4611686018427387904) :
    Calls Try.prog 82 #[.slice A0 l.length c0, .string c, .func (.func 83) #[] #[]] w fun e w' =>
      e = .returned (.tuple #[.int .i64 ((placeP l c l.length 0 l.length : Nat) : Int), .bool (hitP l c)]) ∧ Below w.heap.size w w' := by
  have HR0 := Aside0.mk hr0
  clear hr0
  have hu := Try.underlying42
  generalize hR : placeP l c l.length 0 l.length = R
  have HT := Aside0.mk (show hitP l c = (decide (R < l.length) && decide ((rd_T42 l ((R : Nat) : Int)).f0 = c)) by unfold hitP; rw [hR])
  have PR := Aside0.mk hR
  clear hR
  go_enter Try.func82, Try.ntmps82
  go_wp2
  go_loopg [9, 10] l.length (fun kx s9 s10 wr => ∃ lo hi : Nat, s9 = .int .i64 lo ∧ s10 = .int .i64 hi ∧ lo ≤ hi ∧ hi ≤ l.length ∧ hi - lo ≤ kx ∧ Aside0 (Below w.heap.size w wr) ∧ Aside0 (placeP l c kx lo hi = R))
  case atStart => exact ⟨0, l.length, rfl, rfl, Nat.zero_le _, Nat.le_refl _, by omega, ⟨Below.refl _ _⟩, PR⟩
  case round =>
    clear PR
    obtain ⟨lo, hi, rfl, rfl, hlh, hin, hg, BW, PW⟩ := hrel
    by_cases hlt : lo < hi
    · obtain ⟨d, rfl⟩ : ∃ d, gk = d + 1 := ⟨gk - 1, by omega⟩
      have hp := PW.out
      simp only [placeP] at hp
      rw [if_pos hlt] at hp
      obtain ⟨ad, hA, x0, x1⟩ := at_T42 (Kd.C_below HR0.out BW.out) (((lo + hi) / 2 : Nat) : Int) (by omega) (by omega)
      subst hA
      generalize hy : rd_T42 l (((lo + hi) / 2 : Nat) : Int) = y at x0 x1 hp
      rw [Int.toNat_natCast] at x0 x1
      clear hy
      by_cases hyx : ltB y.f0 c = true
      · rw [if_pos hyx] at hp
        have P2 := Aside0.mk hp
        have dc : decide (cmpS y.f0 c < 0) = true := (cmpS_neg _ _).trans hyx
        clear PW hp hyx
        go_wp2_with (go_at_call 83; (with_reducible refine (impl_pairPlace1.calls y c wr).mono ?_); rintro e w1 ⟨rfl, hb⟩; have B1 := Aside0.mk (below_step BW.out hb); clear hb)
        go_roundg d
        case measure => omega
        case rel => exact ⟨(lo + hi) / 2 + 1, hi, by rw [show ((lo : Int) + (hi : Int)) / 2 + 1 = (((lo + hi) / 2 + 1 : Nat) : Int) by omega], rfl, by omega, hin, by omega, B1, P2⟩
      · rw [if_neg hyx] at hp
        have P2 := Aside0.mk hp
        have dc : decide (cmpS y.f0 c < 0) = false := (cmpS_neg _ _).trans (Bool.eq_false_iff.mpr hyx)
        clear PW hp hyx
        go_wp2_with (go_at_call 83; (with_reducible refine (impl_pairPlace1.calls y c wr).mono ?_); rintro e w1 ⟨rfl, hb⟩; have B1 := Aside0.mk (below_step BW.out hb); clear hb)
        go_roundg d
        case measure => omega
        case rel => exact ⟨lo, (lo + hi) / 2, rfl, by rw [show ((lo : Int) + (hi : Int)) / 2 = (((lo + hi) / 2 : Nat) : Int) by omega], by omega, by omega, by omega, B1, P2⟩
    · obtain rfl : R = lo := by
        rw [← PW.out]
        cases gk with
        | zero => rfl
        | succ d => simp only [placeP]; rw [if_neg hlt]
      by_cases hn : R < l.length
      · obtain ⟨ad, hA, x0, x1⟩ := at_T42 (Kd.C_below HR0.out BW.out) (R : Int) (by omega) (by omega)
        subst hA
        generalize hy : rd_T42 l (R : Int) = y at x0 x1 HT
        rw [Int.toNat_natCast] at x0 x1
        clear hy PW
        go_wp2_with (go_at_call 83; (with_reducible refine (impl_pairPlace1.calls y c wr).mono ?_); rintro e w1 ⟨rfl, hb⟩; have B1 := Aside0.mk (below_step BW.out hb); clear hb)
        go_ret2
        refine ⟨?_, B1.out⟩
        rw [HT.out, decide_eq_true hn, ← cmpS_zero]
        rfl
      · clear PW
        go_wp2
        go_ret2
        refine ⟨?_, BW.out⟩
        rw [HT.out, decide_eq_false hn]
        rfl

theorem impl_pairPlace.calls0 (A0 : Option Addr) (c0 : Nat) (l : List S42) (c : ByteArray) (w : World) (hr0 : Kd.C k42 w A0 l.length l) (hc0 : l.length ≤ c0) (hsz : l.length < 4611686018427387904) :
    Calls Try.prog 58 #[.slice A0 l.length c0, .string c] w fun e w' => e = .returned (.tuple #[.int .i64 ((placeP l c l.length 0 l.length : Nat) : Int), .bool (hitP l c)]) ∧ Below w.heap.size w w' := by
  have h := slices_BinarySearchP.calls A0 c0 l c w hr0 hc0 hsz
  go_enter Try.func58, Try.ntmps58
  go_wp2_with (go_at_call 82; (with_reducible refine h.mono ?_); rintro e w1 ⟨rfl, hb⟩; have B1 := Aside0.mk hb; clear hb)
  go_ret2
  exact ⟨rfl, B1.out⟩
theorem impl_pairPlace.M (A0 : Option Addr) (c0 : Nat) (l : List S42) (c : ByteArray) (w : World) (hr0 : Kd.C k42 w A0 l.length l) (hc0 : l.length ≤ c0) (hv : prB l = true) :
    Calls Try.prog 58 #[.slice A0 l.length c0, .string c] w fun e w' => e = .returned (.tuple #[.int .i64 ((atP l c : Nat) : Int), .bool (hitM l c)]) ∧ Below w.heap.size w w' := by
  have h := impl_pairPlace.calls0 A0 c0 l c w hr0 hc0 (by have := prB_len hv; omega)
  unfold hitP at h
  rw [placeP_at hv] at h
  exact h

theorem impl_valueValid.M (n : Int) (w : World) : Calls Try.prog 62 #[.int .i64 n] w fun e w' => e = .returned (.bool (l1B n 0 999)) ∧ Below w.heap.size w w' := by
  go_enter Try.func62, Try.ntmps62
  go_wp2
  all_goals go_ret
  all_goals (refine ⟨?_, Below.refl _ _⟩; unfold l1B; simp_all; try omega)

def impl_PairsValid.T8 : Bool × List (List Nat × List Nat) := (true, [([], []), ([0], [0]), ([1], [1]), ([2], [2]), ([2], [2]), ([4, 2], [2, 4]), ([3, 5, 2], [2, 3, 5]), ([6, 2], [2, 6]), ([7, 2], [2, 7]), ([2], [2]), ([9, 2], [2, 9]), ([8, 10, 2], [2, 8, 10]), ([2, 11], [2, 11])])
def impl_PairsValid.B8 : List Nat := [0, 1, 3, 7, 7, 23, 63, 127, 255, 7, 519, 2047, 4095]
theorem impl_PairsValid.tab8 : rtab .any (opsOf Try.f32 8) = impl_PairsValid.T8 := by kernel_rfl
theorem impl_PairsValid.bits8 : waitsOk impl_PairsValid.T8.2 impl_PairsValid.B8 = true := by kernel_rfl
theorem impl_PairsValid.M (A0 : Option Addr) (c0 : Nat) (l : List S42) (w : World) (hr0 : Kd.C k42 w A0 l.length l) : Calls Try.prog 32 #[.slice A0 l.length c0] w fun e w' => e = .returned (.bool (prB l)) ∧ Below w.heap.size w w' := by
  have hu := Try.underlying42
  have B := Aside0.mk (Below.refl w.heap.size w)
  have HR0 := Aside0.mk hr0
  clear hr0
  obtain ⟨r, hr⟩ : ∃ r, prB l = r := ⟨_, rfl⟩
  rw [hr]
  unfold prB at hr
  by_cases hl : l.length ≤ 48
  · have H := Aside0.mk (show prJ l 0 = r by unfold prJ prP; simpa [hl] using hr)
    have cl0 : decide (48 < (l.length : Int)) = false := decide_eq_false (by omega)
    have L48 := Aside0.mk (show l.length ≤ 4611686018427387904 by omega)
    clear hl hr
    go_enter Try.func32, Try.ntmps32
    go_wp2
    go_loopg [10] (l.length + 1) (fun kx v10 wr => ∃ j : Nat, v10 = .int .i64 (j : Int) ∧ j ≤ l.length ∧ l.length < j + kx ∧ Aside0 (Below w.heap.size w wr) ∧ Aside0 (prJ l j = r))
    case atStart => exact ⟨0, rfl, by omega, by omega, B, H⟩
    case round =>
      clear H B
      obtain ⟨j, rfl, hj, hk, B, H⟩ := hrel
      by_cases hlt : j < l.length
      · have HS := Aside0.mk ((prJ_step hlt).symm.trans H.out)
        clear H
        obtain ⟨d, rfl⟩ : ∃ d, gk = d + 1 := ⟨gk - 1, by omega⟩
        have h48 := L48.out
        have cj : decide ((j : Int) < (l.length : Int)) = true := decide_eq_true (by omega)
        obtain ⟨ad, hA, y0, y1⟩ := at_T42 (cb HR0 B) (j : Int) (by omega) (by omega)
        cases hA
        rw [Int.toNat_natCast] at y0 y1
        have j1 := eq_true (show (j : Int) < (l.length : Int) by omega)
        have j2 := eq_true hlt
        generalize hy : rd_T42 l (j : Int) = y at *
        go_wp2_with (first
          | ((with_reducible refine gate_dst (N := 4) rfl ?_); refine bx ?hg (N := 4) ?hd (cs := #[.string (⟨#[]⟩ : ByteArray), .int .i64 (0)]) (t := 42) ?hr B ?_; (case hd => rfl); (case hg => rfl); (case hr => first | (go_simp; done) | (go_simp; rfl)); intro g4 w1 hb B F4 L4 E4; obtain ⟨c4_0, c4_1⟩ := cs2 F4; clear hb E4)
          | ((with_reducible refine gate_store (t := 42) (p := 4) rfl ?_); obtain ⟨y0, y1⟩ := cs2 F4; have z0 := fz F4 0; have z1 := fz F4 1; refine sx (t := 42) (t' := 42) (p := 4) (v := ?vo2) ?hg ?ho ?hn 0 [.string y.f0, .int .i64 (y.f1)] [.string y.f0, .int .i64 (y.f1)] ?hr B F4 L4 rfl (Nat.le_of_ble_eq_true rfl) ?_; (case ho => rfl); (case hg => rfl); (case hn => rfl); (case hr => first | (go_simp; done) | (go_simp; rfl)); intro w2 hk B G; replace F4 := G; clear c4_0 c4_1; obtain ⟨c4_0, c4_1⟩ := cs2 F4; clear hk y0 z0 y1 z1)
          | (go_at_call 61; with_reducible refine cl (impl_KeyValid.M y.f0 _) B fun w3 hb B => ?_; replace F4 := bn F4 hb; clear c4_0 c4_1; obtain ⟨c4_0, c4_1⟩ := cs2 F4; clear hb)
          | (go_at_call 62; with_reducible refine cl (impl_valueValid.M y.f1 _) B fun w4 hb B => ?_; replace F4 := bn F4 hb; clear c4_0 c4_1; obtain ⟨c4_0, c4_1⟩ := cs2 F4; clear hb))
        all_goals try (go_ret; exact ⟨andF HS.out (by grind [l1B, ltB]), B.out⟩)
        all_goals (
          refine rg (n := 13) (S := fun W => Kd.C k42 W (some ad) l.length l ∧ W.heap[g4]? = some (.cells #[.string y.f0, .int .i64 (y.f1)] 42 (0, 0))) (ds := []) #[false, false, false, false, false, false, false, false, false, false, false, false, false] (by kernel_rfl) rfl rfl ⟨(cb HR0 B), F4.out⟩ id B (fun w5 hb B hHeld => ?_)
          refine with_tabW impl_PairsValid.tab8 impl_PairsValid.bits8 (fun HT_ HW_ => ?_)
          replace F4 := bn F4 hb
          clear hb
          refine pu (i := 0) (N := some 25) (v := ?_) (bits 13 1) rfl rfl (any_of HT_.out (by kernel_rfl)) (fun _ _ _ h => h) (by kernel_rfl) ?_ ?_; rotate_left; (intro w'; go_simp; with_reducible rfl)
          by_cases hz : j = 0
          · rw [if_pos hz] at HS
            have dz : decide (0 < (j : Int)) = false := decide_eq_false (by omega)
            have dz2 : decide (0 < j) = false := decide_eq_false (by omega)
            clear hz
            refine pu (i := 1) (N := some 26) (v := ?_) (bits 13 3) rfl rfl (any_of HT_.out (by kernel_rfl)) (fun _ _ _ h => h) (by kernel_rfl) ?_ ?_; rotate_left; (intro w'; go_simp; with_reducible rfl)
            refine pu (i := 2) (N := some 27) (v := ?_) (bits 13 7) rfl rfl (any_of HT_.out (by kernel_rfl)) (fun _ _ _ h => h) (by kernel_rfl) ?_ ?_; rotate_left; (intro w'; go_simp; with_reducible rfl)
            refine sk (i := 3) (N := some 28) (bits 13 15) rfl rfl (any_of HT_.out (by kernel_rfl)) (fun _ _ _ h => h) (by kernel_rfl) ?_
            refine sk (i := 4) (N := some 29) (bits 13 31) rfl rfl (any_of HT_.out (by kernel_rfl)) (fun _ _ _ h => h) (by kernel_rfl) ?_
            refine sk (i := 5) (N := some 30) (bits 13 63) rfl rfl (any_of HT_.out (by kernel_rfl)) (fun _ _ _ h => h) (by kernel_rfl) ?_
            refine sk (i := 6) (N := some 31) (bits 13 127) rfl rfl (any_of HT_.out (by kernel_rfl)) (fun _ _ _ h => h) (by kernel_rfl) ?_
            refine sk (i := 7) (N := some 32) (bits 13 255) rfl rfl (any_of HT_.out (by kernel_rfl)) (fun _ _ _ h => h) (by kernel_rfl) ?_
            refine sk (i := 8) (N := some 33) (bits 13 511) rfl rfl (any_of HT_.out (by kernel_rfl)) (fun _ _ _ h => h) (by kernel_rfl) ?_
            refine sk (i := 9) (N := some 34) (bits 13 1023) rfl rfl (any_of HT_.out (by kernel_rfl)) (fun _ _ _ h => h) (by kernel_rfl) ?_
            refine sk (i := 10) (N := some 35) (bits 13 2047) rfl rfl (any_of HT_.out (by kernel_rfl)) (fun _ _ _ h => h) (by kernel_rfl) ?_
            refine sk (i := 11) (N := some 36) (bits 13 4095) rfl rfl (any_of HT_.out (by kernel_rfl)) (fun _ _ _ h => h) (by kernel_rfl) ?_
            refine pu (i := 12) (N := some 37) (v := ?_) (bits 13 8191) rfl rfl (any_of HT_.out (by kernel_rfl)) (fun _ _ _ h => h) (by kernel_rfl) ?_ ?_; rotate_left; (intro w'; go_simp; with_reducible rfl)
            refine norm_ (a' := ?_) ?_ ?_
            rotate_left
            · simp only [Act.put, List.setIfInBounds_toArray, List.set_cons_zero, List.set_cons_succ, i64_w, i32_w]
              rfl
            refine done_ (done_of HT_.out (by kernel_rfl)) ?_
            try go_wp2
            all_goals first
              | (go_roundg d; (case measure => omega); (case rel => exact ⟨j + 1, congrArg (Value.int .i64) (Int.natCast_succ _).symm, by omega, by omega, B, ⟨andT HS.out (by grind [l1B, ltB])⟩⟩))
              | (go_ret; exact ⟨andF HS.out (by grind [l1B, ltB]), B.out⟩)
          · rw [if_neg hz] at HS
            have dz : decide (0 < (j : Int)) = true := decide_eq_true (by omega)
            have dz2 : decide (0 < j) = true := decide_eq_true (by omega)
            obtain ⟨i, hi⟩ : ∃ i, j - 1 = i := ⟨_, rfl⟩
            rw [hi] at HS
            have WI := Aside0.mk (show (j : Int) - 1 = (i : Int) by omega)
            have hij : i < l.length := by omega
            have IW := Aside0.mk (show wrap64 (i : Int) = (i : Int) by unfold wrap64; omega)
            have i1 := eq_true (show (i : Int) < (l.length : Int) by omega)
            have i2 := eq_true hij
            generalize hx : rd_T42 l (i : Int) = x at HS
            clear hz hi
            refine pu (i := 1) (N := some 26) (v := ?_) (bits 13 3) rfl rfl (any_of HT_.out (by kernel_rfl)) (fun _ _ _ h => h) (by kernel_rfl) ?_ ?_; rotate_left; (intro w'; go_simp; with_reducible rfl)
            refine pu (i := 2) (N := some 27) (v := ?_) (bits 13 7) rfl rfl (any_of HT_.out (by kernel_rfl)) (fun _ _ _ h => h) (by kernel_rfl) ?_ ?_; rotate_left; (intro w'; go_simp; with_reducible rfl)
            refine pu (i := 3) (N := some 28) (v := ?_) (bits 13 15) rfl rfl (any_of HT_.out (by kernel_rfl)) (fun _ _ _ h => h) (by kernel_rfl) ?_ ?_; rotate_left; (intro w'; go_simp; with_reducible rfl)
            refine pu (i := 4) (N := some 29) (v := ?_) (bits 13 31) rfl rfl (any_of HT_.out (by kernel_rfl)) (fun _ _ _ h => h) (by kernel_rfl) ?_ ?_; rotate_left; (intro w'; go_simp; with_reducible rfl)
            refine pu (i := 5) (N := some 30) (v := .int .i64 ((i : Int))) (bits 13 63) rfl rfl (any_of HT_.out (by kernel_rfl)) (fun _ _ _ h => h) (by kernel_rfl) ?_ ?_; (intro w'; go_simp; rw [WI.out]; exact (i64_w _).trans IW.out)
            refine pu (i := 6) (N := some 31) (v := ?_) (bits 13 127) rfl rfl (any_of HT_.out (by kernel_rfl)) (fun _ _ _ h => h) (by kernel_rfl) ?_ ?_; rotate_left; (intro w'; go_simp; with_reducible rfl)
            refine pu (i := 7) (N := some 32) (v := ?_) (bits 13 255) rfl rfl (any_of HT_.out (by kernel_rfl)) (fun _ _ _ h => h) (by kernel_rfl) ?_ ?_; rotate_left; (intro w'; go_simp; with_reducible rfl)
            refine ta (i := 8) (N := some 33) (v := ?_) (bits 13 511) rfl rfl (take_ofW HT_.out HW_.out (by kernel_rfl)) (fun _ _ _ h => h) (by kernel_rfl) hHeld ?_ ?_; rotate_left; (intro w' hS; obtain ⟨s0, s1⟩ := hS; obtain ⟨_, hA, q0, q1⟩ := at_T42 s0 (i : Int) (by omega) (by omega); cases hA; rw [Int.toNat_natCast] at q0 q1; rw [hx] at q0 q1; go_simp; with_reducible rfl)
            refine pu (i := 9) (N := some 34) (v := ?_) (bits 13 1023) rfl rfl (any_of HT_.out (by kernel_rfl)) (fun _ _ _ h => h) (by kernel_rfl) ?_ ?_; rotate_left; (intro w'; go_simp; with_reducible rfl)
            refine ta (i := 10) (N := some 35) (v := ?_) (bits 13 2047) rfl rfl (take_ofW HT_.out HW_.out (by kernel_rfl)) (fun _ _ _ h => h) (by kernel_rfl) hHeld ?_ ?_; rotate_left; (intro w' hS; obtain ⟨s0, s1⟩ := hS; obtain ⟨q0, q1⟩ := cs2 (Aside0.mk s1); go_simp; with_reducible rfl)
            refine pu (i := 11) (N := some 36) (v := ?_) (bits 13 4095) rfl rfl (any_of HT_.out (by kernel_rfl)) (fun _ _ _ h => h) (by kernel_rfl) ?_ ?_; rotate_left; (intro w'; go_simp; with_reducible rfl)
            refine pu (i := 12) (N := some 37) (v := ?_) (bits 13 8191) rfl rfl (any_of HT_.out (by kernel_rfl)) (fun _ _ _ h => h) (by kernel_rfl) ?_ ?_; rotate_left; (intro w'; go_simp; with_reducible rfl)
            refine norm_ (a' := ?_) ?_ ?_
            rotate_left
            · simp only [Act.put, List.setIfInBounds_toArray, List.set_cons_zero, List.set_cons_succ, i64_w, i32_w]
              rfl
            refine done_ (done_of HT_.out (by kernel_rfl)) ?_
            try go_wp2
            all_goals first
              | (go_roundg d; (case measure => omega); (case rel => exact ⟨j + 1, congrArg (Value.int .i64) (Int.natCast_succ _).symm, by omega, by omega, B, ⟨andT HS.out (by grind [l1B, ltB])⟩⟩))
              | (go_ret; exact ⟨andF HS.out (by grind [l1B, ltB]), B.out⟩))
        all_goals try go_wp2
        all_goals try (go_ret; exact ⟨andF HS.out (by grind [l1B, ltB]), B.out⟩)
      · have cj : decide ((j : Int) < (l.length : Int)) = false := decide_eq_false (by omega)
        have hr : r = true := by rw [← H.out]; exact prJ_end hlt
        subst hr
        go_wp2
        go_ret
        exact ⟨rfl, B.out⟩
  · have cl0 : decide (48 < (l.length : Int)) = true := decide_eq_true (by omega)
    have hr : r = false := by rw [← hr, decide_eq_false hl]; rfl
    subst hr
    go_enter Try.func32, Try.ntmps32
    go_wp2
    go_ret
    exact ⟨rfl, B.out⟩

theorem impl_PairGet.M (A0 : Option Addr) (c0 : Nat) (l : List S42) (c : ByteArray) (w : World) (hr0 : Kd.C k42 w A0 l.length l) (hc0 : l.length ≤ c0) : Calls Try.prog 20 #[.slice A0 l.length c0, .string c] w fun e w' => e = .returned (.int .i64 (getM l c)) ∧ Below w.heap.size w w' := by
  have B := Aside0.mk (Below.refl w.heap.size w)
  have hu := Try.underlying42
  have HR0 := Aside0.mk hr0
  have HC0 := Aside0.mk hc0
  have L63 := Aside0.mk hr0.2.1
  clear hr0 hc0
  by_cases hv : prB l = true
  · have h48 := prB_len hv
    cases hh : hitM l c with
    | true =>
      obtain ⟨hlt, hf0, hf⟩ := hit_true hh
      have j1 := eq_true (show ((atP l c : Nat) : Int) < (l.length : Int) by omega)
      have j2 := eq_true hlt
      go_enter Try.func20, Try.ntmps20
      go_wp2_with (first
        | (go_at_call 32; with_reducible refine cl (impl_PairsValid.M _ _ l _ (cb HR0 B)) B fun w1 hb B => ?_; clear hb)
        | (go_at_call 58; with_reducible refine cl (impl_pairPlace.M _ _ l c _ (cb HR0 B) HC0.out hv) B fun w2 hb B => ?_; clear hb; (obtain ⟨ad, hA, y0, y1⟩ := at_T42 (cb HR0 B) ((atP l c : Nat) : Int) (Int.natCast_nonneg _) (Int.ofNat_lt.mpr hlt); cases hA; rw [Int.toNat_natCast] at y0 y1)))
      all_goals (go_ret; exact ⟨by simp [getM, *], B.out⟩)
    | false =>
      go_enter Try.func20, Try.ntmps20
      go_wp2_with (first
        | (go_at_call 32; with_reducible refine cl (impl_PairsValid.M _ _ l _ (cb HR0 B)) B fun w1 hb B => ?_; clear hb)
        | (go_at_call 58; with_reducible refine cl (impl_pairPlace.M _ _ l c _ (cb HR0 B) HC0.out hv) B fun w2 hb B => ?_; clear hb))
      all_goals (go_ret; exact ⟨by simp [getM, *], B.out⟩)
  · replace hv := Bool.eq_false_iff.mpr hv
    go_enter Try.func20, Try.ntmps20
    go_wp2_with (first
      | (go_at_call 32; with_reducible refine cl (impl_PairsValid.M _ _ l _ (cb HR0 B)) B fun w1 hb B => ?_; clear hb)
      | (go_at_call 58; with_reducible refine cl (impl_pairPlace.M _ _ l c _ (cb HR0 B) HC0.out hv) B fun w2 hb B => ?_; clear hb))
    all_goals (go_ret; exact ⟨by simp [getM, *], B.out⟩)

/-- make([]T, 0, n) -/
theorem make_cap {α : Type} {P : Program} {ops : Array Oper} {Q : Exit → Act → World → Prop} {rest : List Oper} {o : Oper} {a : Act} (d : Kd α) {w0 W : World} (base e : Nat) (hgd : o.guard = none) {N : Tmp} (hd : o.dst = some N) (t : TypeId) (x y : Operand) (ho : o.op = .makeSlice t x y) (n : Nat)
    (hx : a.eval x = .int .i64 0) (hy : a.eval y = .int .i64 (n : Int)) (ht : P.underlying t = some (.slice e)) (z : Value) (bytes : Nat) (hinfo : (P.info? e).map (fun i => (i.zero, i.size, i.bytes)) = some (some z, d.sz, bytes)) (hb0 : 0 < bytes)
    (hl : n * bytes ≤ 281474976710656) (HB : Below base w0 W) (hbase : base ≤ W.heap.size)
    (h : ∀ v1 w1, d.R e w1 base (fun _ => True) v1 [] → Below base w0 w1 → wpList P ops Q rest (a.put o.dst v1) w1) : wpList P ops Q (o :: rest) a W := by
  obtain ⟨i0, hi, hzz⟩ := Option.map_eq_some_iff.1 hinfo
  simp only [Prod.mk.injEq] at hzz
  obtain ⟨hz0, hz1, hz2⟩ := hzz
  have hm : n ≤ 281474976710656 := Nat.le_trans (Nat.le_mul_of_pos_right _ hb0) hl
  have hr := run_make (P := P) W t e i0 z ht hi hz0 .i64 .i64 0 (n : Int) (Int.le_refl _) (by omega)
    (by
      have h3 : ((i0.bytes * n : Nat) : Int) ≤ 281474976710656 := by rw [hz2, Nat.mul_comm]; omega
      rwa [Int.natCast_mul] at h3) (by omega)
  simp only [Int.toNat_zero, Int.toNat_natCast] at hr
  have hown := World.ownsRow_made (base := base) (e := e) (size := i0.size) W (madeCells z.cells (n * i0.size)) n hbase (by unfold maxLen; omega) (size_madeCells _ _)
  rw [hz1] at hown hr
  refine Kd.event_run hgd ?_ (h _ _ ⟨fun _ _ => trivial, [], hown, Reps.none _ _⟩ (HB.alloc hbase _))
  simp [execOp, ho, hx, hy, hr]


/-- sessions as cells of a row that is read are sessions as cells of a row of one's own -/
theorem own_Pair (W : World) (base : Nat) (x : S42) (cs : List Value) (h : k42.K W x cs) : k42.M W base (fun _ => False) x cs := by
  obtain rfl := k42_open h
  exact k42_mkM _ _ _ x

theorem impl_copyOfPair.M (A0 : Option Addr) (c0 : Nat) (l : List S42) (w : World) (hr0 : Kd.C k42 w A0 l.length l) (hc0 : l.length ≤ c0) (hs : l.length ≤ 1000000) :
    Calls Try.prog 48 #[.slice A0 l.length c0] w fun e w' => ∃ v0_ : Value, e = .returned v0_ ∧ Kd.R k42 42 w' w.heap.size (fun _ => True) v0_ l ∧ Below w.heap.size w w' := by
  have HR0 := Aside0.mk hr0
  clear hr0
  go_enter Try.func48, Try.ntmps48
  go_wp2_with ((with_reducible refine gate_builtin (b := .append) (xs := #[.const (.slice none 0 0), .tmp 3]) rfl ?_); at_builtin; refine Kd.R_append_rows k42 (w0 := w) w.heap.size rfl (.const (.slice none 0 0)) (.tmp 3) 27 42 (.agg #[.string (⟨#[]⟩ : ByteArray), .int .i64 0]) 24 rfl Try.underlying27 info42 rfl (by decide) (by omega) (.slice none 0 0) [] l _ _ _ (fun _ => True) (fun _ => False) rfl rfl (Kd.R_nil _ _ _ _ _) HR0.out (fun x cs h => own_Pair _ _ x cs h) (fun _ h => h.elim) (fun _ _ => trivial) (Below.refl _ _) (Nat.le_refl _) (by simp only [List.length_nil]; omega) ?_; intro v1 w1 ho hb hg hat; rw [List.nil_append] at ho; have O := Aside0.mk ho; have B := Aside0.mk hb; clear ho hb hg hat)
  go_ret
  exact ⟨_, rfl, O.out, B.out⟩


theorem impl_replacedPair.M (A0 : Option Addr) (c0 : Nat) (l : List S42) (at_ many : Nat) (A1 : Option Addr) (c1 : Nat) (by_ : List S42) (w : World) (hr0 : Kd.C k42 w A0 l.length l) (hc0 : l.length ≤ c0) (hr1 : Kd.C k42 w A1 by_.length by_) (hc1 : by_.length ≤ c1)
    (hs : l.length ≤ 1000000) (hs1 : by_.length ≤ 1000000) (ham : at_ + many ≤ l.length) :
    Calls Try.prog 72 #[.slice A0 l.length c0, .int .i64 (at_ : Int), .int .i64 (many : Int), .slice A1 by_.length c1] w fun e w' => ∃ v0_ : Value, e = .returned v0_ ∧ Kd.R k42 42 w' w.heap.size (fun _ => True) v0_ ((l.take at_ ++ by_) ++ l.drop (at_ + many)) ∧ Below w.heap.size w w' := by
  have HR0 := Aside0.mk hr0
  have HR1 := Aside0.mk hr1
  clear hr0 hr1
  have hsum : (l.length : Int) - (many : Int) + (by_.length : Int) = ((l.length - many + by_.length : Nat) : Int) := by omega
  obtain ⟨i0, hif, _, hsz, _⟩ := info_parts info42
  have hcut1 := cut_to (P := Try.prog) 27 42 .i64 Try.underlying27 hif A0 l.length c0 (at_ : Int) (by omega) (by omega) hc0
  have hcut2 := cut_from (P := Try.prog) 27 42 .i64 Try.underlying27 hif 2 hsz A0 l.length c0 ((at_ : Int) + (many : Int)) (by omega) (by omega)
  rw [Int.toNat_natCast] at hcut1
  rw [show ((at_ : Int) + (many : Int)).toNat = at_ + many by omega] at hcut2
  have C1 := Aside0.mk (fun {W : World} (h : Kd.C k42 W A0 l.length l) => show Kd.C k42 W A0 at_ (l.take at_) from by
    have := Kd.C_take h (m := at_) (by omega)
    rwa [List.length_take, Nat.min_eq_left (by omega)] at this)
  obtain ⟨A2, hA2⟩ : ∃ A2, A2 = (if c0 = at_ + many then A0 else A0.map (·.add ((at_ + many) * 2))) := ⟨_, rfl⟩
  rw [← hA2] at hcut2
  have C2 := Aside0.mk (fun {W : World} (h : Kd.C k42 W A0 l.length l) => show Kd.C k42 W A2 (l.length - (at_ + many)) (l.drop (at_ + many)) from by
    have := Kd.C_drop h (m := at_ + many) (c := c0) (by omega) hc0
    rw [List.length_drop] at this
    rw [hA2]
    exact this)
  have SUM := Aside0.mk hsum
  clear hsum hif hsz hA2
  go_enter Try.func72, Try.ntmps72
  go_wp2_with (first
    | ((with_reducible refine gate_dst (N := 17) rfl ?_); refine make_cap k42 (w0 := w) w.heap.size 42 rfl (N := 17) rfl 27 _ _ rfl (l.length - many + by_.length) rfl (congrArg (Value.int .i64) SUM.out) Try.underlying27 (.agg #[.string (⟨#[]⟩ : ByteArray), .int .i64 0]) 24 info42 (by omega) (by omega) (Below.refl _ _) (Nat.le_refl _) ?_; intro v1 w1 ho hb; have O1 := Aside0.mk ho; have B1 := Aside0.mk hb; clear ho hb)
    | ((with_reducible refine gate_builtin (b := .append) (xs := #[.tmp 18, .tmp 21]) rfl ?_); at_builtin; refine Kd.R_append_rows k42 (w0 := w) w.heap.size rfl (.tmp 18) (.tmp 21) 27 42 (.agg #[.string (⟨#[]⟩ : ByteArray), .int .i64 0]) 24 rfl Try.underlying27 info42 rfl (by decide) (by omega) v1 [] (l.take at_) _ _ _ (fun _ => True) (fun _ => False) rfl rfl O1.out (C1.out (Kd.C_below HR0.out B1.out)) (fun x cs h => own_Pair _ _ x cs h) (fun _ h => h.elim) (fun _ _ => trivial) B1.out (below_size B1.out) (by simp only [List.length_nil]; omega) ?_; intro v2 w2 ho hb hg hat; rw [List.nil_append] at ho; have O2 := Aside0.mk ho; have B2 := Aside0.mk hb; clear ho hb hg hat)
    | ((with_reducible refine gate_builtin (b := .append) (xs := #[.tmp 23, .tmp 24]) rfl ?_); at_builtin; refine Kd.R_append_rows k42 (w0 := w) w.heap.size rfl (.tmp 23) (.tmp 24) 27 42 (.agg #[.string (⟨#[]⟩ : ByteArray), .int .i64 0]) 24 rfl Try.underlying27 info42 rfl (by decide) (by omega) v2 (l.take at_) by_ _ _ _ (fun _ => True) (fun _ => False) rfl rfl O2.out (Kd.C_below HR1.out B2.out) (fun x cs h => own_Pair _ _ x cs h) (fun _ h => h.elim) (fun _ _ => trivial) B2.out (below_size B2.out) (by simp only [List.length_take]; omega) ?_; intro v3 w3 ho hb hg hat; have O3 := Aside0.mk ho; have B3 := Aside0.mk hb; clear ho hb hg hat)
    | ((with_reducible refine gate_builtin (b := .append) (xs := #[.tmp 26, .tmp 31]) rfl ?_); at_builtin; refine Kd.R_append_rows k42 (w0 := w) w.heap.size rfl (.tmp 26) (.tmp 31) 27 42 (.agg #[.string (⟨#[]⟩ : ByteArray), .int .i64 0]) 24 rfl Try.underlying27 info42 rfl (by decide) (by omega) v3 (l.take at_ ++ by_) (l.drop (at_ + many)) _ _ _ (fun _ => True) (fun _ => False) rfl rfl O3.out (C2.out (Kd.C_below HR0.out B3.out)) (fun x cs h => own_Pair _ _ x cs h) (fun _ h => h.elim) (fun _ _ => trivial) B3.out (below_size B3.out) (by simp only [List.length_append, List.length_take]; omega) ?_; intro v4 w4 ho hb hg hat; have O4 := Aside0.mk ho; have B4 := Aside0.mk hb; clear ho hb hg hat))
  go_ret
  exact ⟨_, rfl, O4.out, B4.out⟩
theorem impl_replacedPair.M0 (A0 : Option Addr) (c0 : Nat) (l : List S42) (at_ : Nat) (A1 : Option Addr) (c1 : Nat) (by_ : List S42) (w : World) (hr0 : Kd.C k42 w A0 l.length l) (hc0 : l.length ≤ c0) (hr1 : Kd.C k42 w A1 by_.length by_) (hc1 : by_.length ≤ c1) (hs : l.length ≤ 1000000) (hs1 : by_.length ≤ 1000000) (ham : at_ ≤ l.length) : Calls Try.prog 72 #[.slice A0 l.length c0, .int .i64 (at_ : Int), .int .i64 0, .slice A1 by_.length c1] w fun e w' => ∃ v0_ : Value, e = .returned v0_ ∧ Kd.R k42 42 w' w.heap.size (fun _ => True) v0_ ((l.take at_ ++ by_) ++ l.drop at_) ∧ Below w.heap.size w w' := impl_replacedPair.M A0 c0 l at_ 0 A1 c1 by_ w hr0 hc0 hr1 hc1 hs hs1 ham
theorem impl_replacedPair.M1 (A0 : Option Addr) (c0 : Nat) (l : List S42) (at_ : Nat) (A1 : Option Addr) (c1 : Nat) (by_ : List S42) (w : World) (hr0 : Kd.C k42 w A0 l.length l) (hc0 : l.length ≤ c0) (hr1 : Kd.C k42 w A1 by_.length by_) (hc1 : by_.length ≤ c1) (hs : l.length ≤ 1000000) (hs1 : by_.length ≤ 1000000) (ham : at_ + 1 ≤ l.length) : Calls Try.prog 72 #[.slice A0 l.length c0, .int .i64 (at_ : Int), .int .i64 1, .slice A1 by_.length c1] w fun e w' => ∃ v0_ : Value, e = .returned v0_ ∧ Kd.R k42 42 w' w.heap.size (fun _ => True) v0_ ((l.take at_ ++ by_) ++ l.drop (at_ + 1)) ∧ Below w.heap.size w w' := impl_replacedPair.M A0 c0 l at_ 1 A1 c1 by_ w hr0 hc0 hr1 hc1 hs hs1 ham
theorem impl_replacedPair.M1n (A0 : Option Addr) (c0 : Nat) (l : List S42) (at_ : Nat) (w : World) (hr0 : Kd.C k42 w A0 l.length l) (hc0 : l.length ≤ c0) (hs : l.length ≤ 1000000) (ham : at_ + 1 ≤ l.length) : Calls Try.prog 72 #[.slice A0 l.length c0, .int .i64 (at_ : Int), .int .i64 1, .slice none 0 0] w fun e w' => ∃ v0_ : Value, e = .returned v0_ ∧ Kd.R k42 42 w' w.heap.size (fun _ => True) v0_ (l.take at_ ++ l.drop (at_ + 1)) ∧ Below w.heap.size w w' := by
  have h := impl_replacedPair.M A0 c0 l at_ 1 none 0 [] w hr0 hc0 (nilC _ _) (Nat.le_refl 0) hs (by simp) ham
  rw [List.append_nil] at h
  exact h

theorem impl_PairDrop.M (A0 : Option Addr) (c0 : Nat) (l : List S42) (c : ByteArray) (w : World) (hr0 : Kd.C k42 w A0 l.length l) (hc0 : l.length ≤ c0) : Calls Try.prog 37 #[.slice A0 l.length c0, .string c] w fun e w' => ∃ v0, e = .returned (.tuple #[v0, .bool (dropM l c).2]) ∧ Kd.R k42 42 w' w.heap.size (fun _ => True) v0 (dropM l c).1 ∧ Below w.heap.size w w' := by
  have B := Aside0.mk (Below.refl w.heap.size w)
  have hu := Try.underlying42
  have HR0 := Aside0.mk hr0
  have HC0 := Aside0.mk hc0
  have L63 := Aside0.mk hr0.2.1
  clear hr0 hc0
  by_cases hv : prB l = true
  · have h48 := prB_len hv
    cases hh : hitM l c with
    | true =>
      obtain ⟨hlt, hf0, hf⟩ := hit_true hh
      have j1 := eq_true (show ((atP l c : Nat) : Int) < (l.length : Int) by omega)
      have j2 := eq_true hlt
      have hM : dropM l c = (l.take (atP l c) ++ l.drop (atP l c + 1), true) := by unfold dropM; rw [if_pos hv, if_pos hh]
      go_enter Try.func37, Try.ntmps37
      go_wp2_with (first
        | (go_at_call 32; with_reducible refine cl (impl_PairsValid.M _ _ l _ (cb HR0 B)) B fun w1 hb B => ?_; clear hb)
        | (go_at_call 58; with_reducible refine cl (impl_pairPlace.M _ _ l c _ (cb HR0 B) HC0.out hv) B fun w2 hb B => ?_; clear hb)
        | (go_at_call 72; with_reducible refine crz (impl_replacedPair.M1n _ _ l (atP l c)  _ (cb HR0 B) HC0.out  (by omega) (by omega)) B fun zC3 hzC3 AC3 kC3 w3 hb B RC3 QC3 => ?_; clear QC3; clear hb))
      go_ret2; exact ⟨_, by rw [hM]; rfl, by rw [hM, hzC3]; exact RC3.out, B.out⟩
    | false =>
      have hM : dropM l c = (l, false) := by unfold dropM; rw [if_pos hv, if_neg (by rw [hh]; simp)]
      go_enter Try.func37, Try.ntmps37
      go_wp2_with (first
        | (go_at_call 32; with_reducible refine cl (impl_PairsValid.M _ _ l _ (cb HR0 B)) B fun w1 hb B => ?_; clear hb)
        | (go_at_call 58; with_reducible refine cl (impl_pairPlace.M _ _ l c _ (cb HR0 B) HC0.out hv) B fun w2 hb B => ?_; clear hb)
        | (go_at_call 48; with_reducible refine cr (impl_copyOfPair.M _ _ l _ (cb HR0 B) HC0.out (by omega)) B fun AC3 kC3 w3 hb B RC3 QC3 => ?_; clear QC3; clear hb))
      go_ret2; exact ⟨_, by rw [hM]; rfl, by rw [hM]; exact RC3.out, B.out⟩
  · replace hv := Bool.eq_false_iff.mpr hv
    have hM : dropM l c = ([], false) := by unfold dropM; rw [if_neg (by rw [hv]; simp)]
    go_enter Try.func37, Try.ntmps37
    go_wp2_with (first
      | (go_at_call 32; with_reducible refine cl (impl_PairsValid.M _ _ l _ (cb HR0 B)) B fun w1 hb B => ?_; clear hb))
    go_ret2; exact ⟨_, by rw [hM]; rfl, by rw [hM]; exact Kd.R_nil _ _ _ _ _, B.out⟩

theorem impl_PairPut.M (A0 : Option Addr) (c0 : Nat) (l : List S42) (c : ByteArray) (v : Int) (w : World) (hr0 : Kd.C k42 w A0 l.length l) (hc0 : l.length ≤ c0) : Calls Try.prog 49 #[.slice A0 l.length c0, .string c, .int .i64 v] w fun e w' => ∃ v0, e = .returned (.tuple #[v0, .bool (putM l c v).2]) ∧ Kd.R k42 42 w' w.heap.size (fun _ => True) v0 (putM l c v).1 ∧ Below w.heap.size w w' := by
  have B := Aside0.mk (Below.refl w.heap.size w)
  have hu := Try.underlying42
  have HR0 := Aside0.mk hr0
  have HC0 := Aside0.mk hc0
  have L63 := Aside0.mk hr0.2.1
  clear hr0 hc0
  by_cases hvv : (prB l && (keyB c && l1B v 0 999)) = true
  · have hu0 : putM l c v = if hitM l c then ((l.take (atP l c) ++ [⟨c, v⟩]) ++ l.drop (atP l c + 1), true) else if 48 ≤ l.length then (l, false) else ((l.take (atP l c) ++ [⟨c, v⟩]) ++ l.drop (atP l c), true) := if_pos hvv
    simp only [Bool.and_eq_true] at hvv
    obtain ⟨hv, hkv, hlv⟩ := hvv
    have h48 := prB_len hv
    have hat := atP_le l c
    cases hh : hitM l c with
    | true =>
      obtain ⟨hlt, hf0, hf⟩ := hit_true hh
      have j1 := eq_true (show ((atP l c : Nat) : Int) < (l.length : Int) by omega)
      have j2 := eq_true hlt
      have hM : putM l c v = ((l.take (atP l c) ++ [⟨c, v⟩]) ++ l.drop (atP l c + 1), true) := by rw [hu0, if_pos hh]
      go_enter Try.func49, Try.ntmps49
      go_wp2_with (first
        | (go_at_call 32; with_reducible refine cl (impl_PairsValid.M _ _ l _ (cb HR0 B)) B fun w1 hb B => ?_; clear hb)
        | (go_at_call 61; with_reducible refine cl (impl_KeyValid.M c _) B fun w2 hb B => ?_; clear hb)
        | (go_at_call 62; with_reducible refine cl (impl_valueValid.M v _) B fun w3 hb B => ?_; clear hb)
        | (go_at_call 58; with_reducible refine cl (impl_pairPlace.M _ _ l c _ (cb HR0 B) HC0.out hv) B fun w4 hb B => ?_; clear hb)
        | ((with_reducible refine gate_dst (N := 35) rfl ?_); refine lt k42 42 ?hg (N := 35) ?hd ([⟨c, v⟩] : List S42) [.string c, .int .i64 (v)] ?hr (Reps.c2 (k42_mkM _ _ _ ⟨c, v⟩) (Reps.none _ _)) (by simp) B ?_; (case hd => rfl); (case hg => rfl); (case hr => first | (go_simp; done) | (go_simp; rfl)); intro z35 hz35 AL35 kL35 w5 hb B RL35 QL35; clear hb QL35)
        | (go_at_call 72; with_reducible refine crz (impl_replacedPair.M1 _ _ l (atP l c) _ _ z35 _ (cb HR0 B) HC0.out (rc RL35) (rl RL35) (by omega) (by rw [← hz35]; simp) (by omega)) B fun zC6 hzC6 AC6 kC6 w6 hb B RC6 QC6 => ?_; clear QC6; clear hb))
      go_ret2; exact ⟨_, by rw [hM]; rfl, by rw [hM, hz35, hzC6]; exact RC6.out, B.out⟩
    | false =>
      by_cases h8 : 48 ≤ l.length
      · have d8 : decide ((48 : Int) ≤ (l.length : Int)) = true := decide_eq_true (by omega)
        have d9 := eq_true h8
        have hM : putM l c v = (l, false) := by rw [hu0, if_neg (by rw [hh]; simp), if_pos h8]
        go_enter Try.func49, Try.ntmps49
        go_wp2_with (first
          | (go_at_call 32; with_reducible refine cl (impl_PairsValid.M _ _ l _ (cb HR0 B)) B fun w1 hb B => ?_; clear hb)
          | (go_at_call 61; with_reducible refine cl (impl_KeyValid.M c _) B fun w2 hb B => ?_; clear hb)
          | (go_at_call 62; with_reducible refine cl (impl_valueValid.M v _) B fun w3 hb B => ?_; clear hb)
          | (go_at_call 58; with_reducible refine cl (impl_pairPlace.M _ _ l c _ (cb HR0 B) HC0.out hv) B fun w4 hb B => ?_; clear hb)
          | (go_at_call 48; with_reducible refine cr (impl_copyOfPair.M _ _ l _ (cb HR0 B) HC0.out (by omega)) B fun AC5 kC5 w5 hb B RC5 QC5 => ?_; clear QC5; clear hb))
        go_ret2; exact ⟨_, by rw [hM]; rfl, by rw [hM]; exact RC5.out, B.out⟩
      · have d8 : decide ((48 : Int) ≤ (l.length : Int)) = false := decide_eq_false (by omega)
        have d9 := eq_false h8
        have hM : putM l c v = ((l.take (atP l c) ++ [⟨c, v⟩]) ++ l.drop (atP l c), true) := by rw [hu0, if_neg (by rw [hh]; simp), if_neg h8]
        go_enter Try.func49, Try.ntmps49
        go_wp2_with (first
          | (go_at_call 32; with_reducible refine cl (impl_PairsValid.M _ _ l _ (cb HR0 B)) B fun w1 hb B => ?_; clear hb)
          | (go_at_call 61; with_reducible refine cl (impl_KeyValid.M c _) B fun w2 hb B => ?_; clear hb)
          | (go_at_call 62; with_reducible refine cl (impl_valueValid.M v _) B fun w3 hb B => ?_; clear hb)
          | (go_at_call 58; with_reducible refine cl (impl_pairPlace.M _ _ l c _ (cb HR0 B) HC0.out hv) B fun w4 hb B => ?_; clear hb)
          | ((with_reducible refine gate_dst (N := 47) rfl ?_); refine lt k42 42 ?hg (N := 47) ?hd ([⟨c, v⟩] : List S42) [.string c, .int .i64 (v)] ?hr (Reps.c2 (k42_mkM _ _ _ ⟨c, v⟩) (Reps.none _ _)) (by simp) B ?_; (case hd => rfl); (case hg => rfl); (case hr => first | (go_simp; done) | (go_simp; rfl)); intro z47 hz47 AL47 kL47 w5 hb B RL47 QL47; clear hb QL47)
          | (go_at_call 72; with_reducible refine crz (impl_replacedPair.M0 _ _ l (atP l c) _ _ z47 _ (cb HR0 B) HC0.out (rc RL47) (rl RL47) (by omega) (by rw [← hz47]; simp) (by omega)) B fun zC6 hzC6 AC6 kC6 w6 hb B RC6 QC6 => ?_; clear QC6; clear hb))
        go_ret2; exact ⟨_, by rw [hM]; rfl, by rw [hM, hz47, hzC6]; exact RC6.out, B.out⟩
  · have hM : putM l c v = ([], false) := if_neg hvv
    have hvn : prB l = false ∨ keyB c = false ∨ l1B v 0 999 = false := by grind
    go_enter Try.func49, Try.ntmps49
    go_wp2_with (first
      | (go_at_call 32; with_reducible refine cl (impl_PairsValid.M _ _ l _ (cb HR0 B)) B fun w1 hb B => ?_; clear hb)
      | (go_at_call 61; with_reducible refine cl (impl_KeyValid.M c _) B fun w2 hb B => ?_; clear hb)
      | (go_at_call 62; with_reducible refine cl (impl_valueValid.M v _) B fun w3 hb B => ?_; clear hb))
    all_goals first
      | (go_ret2; exact ⟨_, by rw [hM]; rfl, by rw [hM]; exact Kd.R_nil _ _ _ _ _, B.out⟩)
      | (exfalso; grind)

theorem impl_CommandValid.M (k : Int) (x : ByteArray) (v o : Int) (w : World) : Calls Try.prog 47 #[.agg #[.int .i64 k, .string x, .int .i64 v, .int .i64 o]] w fun e w' => e = .returned (.bool (cmdB k x v o)) ∧ Below w.heap.size w w' := by
  have B := Aside0.mk (Below.refl w.heap.size w)
  have hu := Try.underlying31
  go_enter Try.func47, Try.ntmps47
  go_wp2_with (first
    | ((with_reducible refine gate_dst (N := 1) rfl ?_); refine bx ?hg (N := 1) ?hd (cs := #[.int .i64 (k), .string x, .int .i64 (v), .int .i64 (o)]) (t := 31) ?hr B ?_; (case hd => rfl); (case hg => rfl); (case hr => first | (go_simp; done) | (go_simp; rfl)); intro g1 w1 hb B F1 L1 E1; obtain ⟨c1_0, c1_1, c1_2, c1_3⟩ := cs4 F1; clear hb E1)
    | (go_at_call 61; with_reducible refine cl (impl_KeyValid.M x _) B fun w2 hb B => ?_; replace F1 := bn F1 hb; clear c1_0 c1_1 c1_2 c1_3; obtain ⟨c1_0, c1_1, c1_2, c1_3⟩ := cs4 F1; clear hb)
    | (go_at_call 62; with_reducible refine cl (impl_valueValid.M v _) B fun w3 hb B => ?_; replace F1 := bn F1 hb; clear c1_0 c1_1 c1_2 c1_3; obtain ⟨c1_0, c1_1, c1_2, c1_3⟩ := cs4 F1; clear hb)
    | (go_at_call 62; with_reducible refine cl (impl_valueValid.M v _) B fun w4 hb B => ?_; replace F1 := bn F1 hb; clear c1_0 c1_1 c1_2 c1_3; obtain ⟨c1_0, c1_1, c1_2, c1_3⟩ := cs4 F1; clear hb)
    | (go_at_call 62; with_reducible refine cl (impl_valueValid.M o _) B fun w5 hb B => ?_; replace F1 := bn F1 hb; clear c1_0 c1_1 c1_2 c1_3; obtain ⟨c1_0, c1_1, c1_2, c1_3⟩ := cs4 F1; clear hb))
  all_goals (go_ret; exact ⟨congrArg (fun b => Ending.returned (Value.bool b)) (by unfold cmdB; grind [l1B]), B.out⟩)

theorem impl_ApplyCommand.M (A0 : Option Addr) (c0 : Nat) (l : List S42) (k : Int) (x : ByteArray) (v o : Int) (w : World) (hr0 : Kd.C k42 w A0 l.length l) (hc0 : l.length ≤ c0) : Calls Try.prog 13 #[.slice A0 l.length c0, .agg #[.int .i64 k, .string x, .int .i64 v, .int .i64 o]] w fun e w' => ∃ v0, e = .returned (.tuple #[v0, .int .i64 (apM l k x v o).2]) ∧ Kd.R k42 42 w' w.heap.size (fun _ => True) v0 (apM l k x v o).1 ∧ Below w.heap.size w w' := by
  have B := Aside0.mk (Below.refl w.heap.size w)
  have hu := Try.underlying31
  have HR0 := Aside0.mk hr0
  have HC0 := Aside0.mk hc0
  have L63 := Aside0.mk hr0.2.1
  clear hr0 hc0
  obtain ⟨r, hr⟩ : ∃ r, apM l k x v o = r := ⟨_, rfl⟩
  rw [hr]
  go_enter Try.func13, Try.ntmps13
  go_wp2_with (first
    | ((with_reducible refine gate_dst (N := 3) rfl ?_); refine bx ?hg (N := 3) ?hd (cs := #[.int .i64 (k), .string x, .int .i64 (v), .int .i64 (o)]) (t := 31) ?hr B ?_; (case hd => rfl); (case hg => rfl); (case hr => first | (go_simp; done) | (go_simp; rfl)); intro g3 w1 hb B F3 L3 E3; obtain ⟨c3_0, c3_1, c3_2, c3_3⟩ := cs4 F3; clear hb E3)
    | (go_at_call 32; with_reducible refine cl (impl_PairsValid.M _ _ l _ (cb HR0 B)) B fun w2 hb B => ?_; replace F3 := bn F3 hb; clear c3_0 c3_1 c3_2 c3_3; obtain ⟨c3_0, c3_1, c3_2, c3_3⟩ := cs4 F3; clear hb)
    | (go_at_call 47; with_reducible refine cl (impl_CommandValid.M k x v o _) B fun w3 hb B => ?_; replace F3 := bn F3 hb; clear c3_0 c3_1 c3_2 c3_3; obtain ⟨c3_0, c3_1, c3_2, c3_3⟩ := cs4 F3; clear hb)
    | (go_at_call 20; with_reducible refine cl (impl_PairGet.M _ _ l x _ (cb HR0 B) HC0.out) B fun w4 hb B => ?_; replace F3 := bn F3 hb; clear c3_0 c3_1 c3_2 c3_3; obtain ⟨c3_0, c3_1, c3_2, c3_3⟩ := cs4 F3; clear hb)
    | (go_at_call 37; with_reducible refine crz (impl_PairDrop.M _ _ l x _ (cb HR0 B) HC0.out) B fun zC5 hzC5 AC5 kC5 w5 hb B RC5 QC5 => ?_; replace F3 := bn F3 hb; clear QC5; clear hb)
    | (go_at_call 48; with_reducible refine cr (impl_copyOfPair.M _ _ l _ (cb HR0 B) HC0.out (by have := prB_len (by assumption); omega)) B fun AC5 kC5 w5 hb B RC5 QC5 => ?_; replace F3 := bn F3 hb; clear QC5; clear hb)
    | (go_at_call 48; with_reducible refine cr (impl_copyOfPair.M _ _ l _ (cb HR0 B) HC0.out (by have := prB_len (by assumption); omega)) B fun AC5 kC5 w5 hb B RC5 QC5 => ?_; replace F3 := bn F3 hb; clear QC5; clear hb)
    | (go_at_call 49; with_reducible refine crz (impl_PairPut.M _ _ l x v _ (cb HR0 B) HC0.out) B fun zC5 hzC5 AC5 kC5 w5 hb B RC5 QC5 => ?_; replace F3 := bn F3 hb; clear QC5; clear hb))
  all_goals first
    | (refine useEq (a := r) (b := ([], -3)) ?_ (fun hM => ?_); (rw [← hr]; unfold apM; (try have hgb := getM_bound l x); grind); subst hM; go_ret2; exact ⟨_, rfl, Kd.R_nil _ _ _ _ _, B.out⟩)
    | (refine useEq (a := r) (b := ((dropM l x).1, getM l x)) ?_ (fun hM => ?_); (rw [← hr]; unfold apM; (try have hgb := getM_bound l x); grind); subst hM; subst hzC5; go_ret2; exact ⟨_, rfl, RC5.out, B.out⟩)
    | (refine useEq (a := r) (b := ((dropM l x).1, -1)) ?_ (fun hM => ?_); (rw [← hr]; unfold apM; (try have hgb := getM_bound l x); grind); subst hM; subst hzC5; go_ret2; exact ⟨_, rfl, RC5.out, B.out⟩)
    | (refine useEq (a := r) (b := (l, getM l x)) ?_ (fun hM => ?_); (rw [← hr]; unfold apM; (try have hgb := getM_bound l x); grind); subst hM; go_ret2; exact ⟨_, rfl, RC5.out, B.out⟩)
    | (refine useEq (a := r) (b := (l, -1)) ?_ (fun hM => ?_); (rw [← hr]; unfold apM; (try have hgb := getM_bound l x); grind); subst hM; go_ret2; exact ⟨_, rfl, RC5.out, B.out⟩)
    | (refine useEq (a := r) (b := ((putM l x v).1, getM l x)) ?_ (fun hM => ?_); (rw [← hr]; unfold apM; (try have hgb := getM_bound l x); grind); subst hM; subst hzC5; go_ret2; exact ⟨_, rfl, RC5.out, B.out⟩)
    | (refine useEq (a := r) (b := ((putM l x v).1, -1)) ?_ (fun hM => ?_); (rw [← hr]; unfold apM; (try have hgb := getM_bound l x); grind); subst hM; subst hzC5; go_ret2; exact ⟨_, rfl, RC5.out, B.out⟩)
    | (refine useEq (a := r) (b := (l, -2)) ?_ (fun hM => ?_); (rw [← hr]; unfold apM; (try have hgb := getM_bound l x); grind); subst hM; go_ret2; exact ⟨_, rfl, RC5.out, B.out⟩)

theorem impl_RunCommands.M (A0 : Option Addr) (c0 : Nat) (l : List S42) (A1 : Option Addr) (c1 : Nat) (cs : List S31) (w : World) (hr0 : Kd.C k42 w A0 l.length l) (hc0 : l.length ≤ c0) (hr1 : Kd.C k31 w A1 cs.length cs) (hc1 : cs.length ≤ c1) : Calls Try.prog 24 #[.slice A0 l.length c0, .slice A1 cs.length c1] w fun e w' => ∃ v0 v1, e = .returned (.tuple #[v0, v1]) ∧ Kd.R k42 42 w' w.heap.size (fun _ => True) v0 (runM l cs).1 ∧ Kd.R (Kd.int .i64) 3 w' w.heap.size (fun _ => True) v1 (runM l cs).2 ∧ Below w.heap.size w w' := by
  have B := Aside0.mk (Below.refl w.heap.size w)
  have hu := Try.underlying31
  have HR0 := Aside0.mk hr0
  have HC0 := Aside0.mk hc0
  have L63 := Aside0.mk hr0.2.1
  clear hr0 hc0
  have HR1 := Aside0.mk hr1
  have L64 := Aside0.mk hr1.2.1
  clear hr1 hc1
  obtain ⟨r, hr⟩ : ∃ r, runM l cs = r := ⟨_, rfl⟩
  rw [hr]
  go_enter Try.func24, Try.ntmps24
  go_wp2_with (first
    | (go_at_call 32; with_reducible refine cl (impl_PairsValid.M _ _ l _ (cb HR0 B)) B fun w1 hb B => ?_; clear hb))
  all_goals try (refine useEq (a := r) (b := ([], [])) ?_ (fun hM => ?_); (rw [← hr]; unfold runM; grind); subst hM; go_ret2; exact ⟨_, _, rfl, Kd.R_nil _ _ _ _ _, Kd.R_nil _ _ _ _ _, B.out⟩)
  have hv : prB l = true ∧ cs.length ≤ 20 := by grind
  have hrq : r = if cs.all kC then cs.foldl stepR (l, []) else ([], []) := by rw [← hr]; unfold runM; simp [hv.1, hv.2]
  have HQ := Aside0.mk hrq
  have h48 := prB_len hv.1
  have h20 := hv.2
  have HV := Aside0.mk hv.1
  clear hr hrq hv
  obtain ⟨q, hq⟩ : ∃ q, cs.all kC = q := ⟨_, rfl⟩
  have H := Aside0.mk (show (cs.drop 0).all kC = q from hq)
  have HQQ := Aside0.mk hq
  clear hq
  go_loopg [23] (cs.length + 1) (fun kx v23 wr => ∃ j : Nat, v23 = .int .i64 (j : Int) ∧ j ≤ cs.length ∧ cs.length < j + kx ∧ Aside0 (Below w.heap.size w wr) ∧ Aside0 ((cs.drop j).all kC = q))
  case atStart => exact ⟨0, rfl, by omega, by omega, B, H⟩
  case round =>
    clear H B
    obtain ⟨j, rfl, hj, hk, B, H⟩ := hrel
    by_cases hlt : j < cs.length
    · have HS := H.out
      rw [cm_drop hlt, List.all_cons] at HS
      clear H
      obtain ⟨d, rfl⟩ : ∃ d, gk = d + 1 := ⟨gk - 1, by omega⟩
      have cj : decide ((j : Int) < (cs.length : Int)) = true := decide_eq_true (by omega)
      obtain ⟨ad, hA, y0, y1, y2, y3⟩ := at_T31 (cb HR1 B) (j : Int) (by omega) (by omega)
      cases hA
      rw [Int.toNat_natCast] at y0 y1 y2 y3
      have j1 := eq_true (show (j : Int) < (cs.length : Int) by omega)
      have j2 := eq_true hlt
      generalize hy : rd_T31 cs (j : Int) = y at *
      go_wp2_with (first
        | ((with_reducible refine gate_dst (N := 7) rfl ?_); refine bx ?hg (N := 7) ?hd (cs := #[.int .i64 (0), .string (⟨#[]⟩ : ByteArray), .int .i64 (0), .int .i64 (0)]) (t := 31) ?hr B ?_; (case hd => rfl); (case hg => rfl); (case hr => first | (go_simp; done) | (go_simp; rfl)); intro g7 w1 hb B F7 L7 E7; obtain ⟨c7_0, c7_1, c7_2, c7_3⟩ := cs4 F7; clear hb E7)
        | ((with_reducible refine gate_store (t := 31) (p := 7) rfl ?_); obtain ⟨y0, y1, y2, y3⟩ := cs4 F7; have z0 := fz F7 0; have z1 := fz F7 1; have z2 := fz F7 2; have z3 := fz F7 3; refine sx (t := 31) (t' := 31) (p := 7) (v := ?vo2) ?hg ?ho ?hn 0 [.int .i64 (y.f0), .string y.f1, .int .i64 (y.f2), .int .i64 (y.f3)] [.int .i64 (y.f0), .string y.f1, .int .i64 (y.f2), .int .i64 (y.f3)] ?hr B F7 L7 rfl (Nat.le_of_ble_eq_true rfl) ?_; (case ho => rfl); (case hg => rfl); (case hn => rfl); (case hr => first | (go_simp; done) | (go_simp; rfl)); intro w2 hk B G; replace F7 := G; clear c7_0 c7_1 c7_2 c7_3; obtain ⟨c7_0, c7_1, c7_2, c7_3⟩ := cs4 F7; clear hk y0 z0 y1 z1 y2 z2 y3 z3)
        | (go_at_call 47; with_reducible refine cl (impl_CommandValid.M y.f0 y.f1 y.f2 y.f3 _) B fun w3 hb B => ?_; replace F7 := bn F7 hb; clear c7_0 c7_1 c7_2 c7_3; obtain ⟨c7_0, c7_1, c7_2, c7_3⟩ := cs4 F7; clear hb))
      all_goals first
        | (refine useEq (a := kC y) (b := true) ?_ (fun hK => ?_); (unfold kC; grind); rw [hK, Bool.true_and] at HS; go_roundg d; (case measure => omega); (case rel => exact ⟨j + 1, congrArg (Value.int .i64) (Int.natCast_succ _).symm, by omega, by omega, B, ⟨HS⟩⟩))
        | (refine useEq (a := kC y) (b := false) ?_ (fun hK => ?_); (unfold kC; grind); rw [hK, Bool.false_and] at HS; refine useEq (a := r) (b := ([], [])) ?_ (fun hM => ?_); (rw [HQ.out, HQQ.out, ← HS]; rfl); subst hM; go_ret2; exact ⟨_, _, rfl, Kd.R_nil _ _ _ _ _, Kd.R_nil _ _ _ _ _, B.out⟩)
    · have cj : decide ((j : Int) < (cs.length : Int)) = false := decide_eq_false (by omega)
      have hq : q = true := by rw [← H.out, List.drop_of_length_le (by omega)]; rfl
      subst hq
      have H2 := Aside0.mk (show (cs.drop 0).foldl stepR (l, []) = r by rw [HQ.out, if_pos HQQ.out]; rfl)
      clear H HQ HQQ
      clear hj hk
      have hv := HV.out
      go_wp2_with (first
        | (go_at_call 48; with_reducible refine cr (impl_copyOfPair.M _ _ l _ (cb HR0 B) HC0.out (by have := prB_len (by assumption); omega)) B fun AC1 kC1 w1 hb B RC1 QC1 => ?_; clear QC1; clear hb))
      clear hv cj hlt
      go_loopg [8, 9, 40] (cs.length + 1) (fun kx v8 v9 v40 wr => ∃ (j : Nat) (p : List S42) (vs : List Int), v40 = .int .i64 (j : Int) ∧ j ≤ cs.length ∧ cs.length < j + kx ∧ vs.length ≤ j ∧ Aside0 (Below w.heap.size w wr) ∧ Aside0 (Ow k42 42 wr w.heap.size v8 p) ∧ Aside0 (Ow (Kd.int .i64) 3 wr w.heap.size v9 vs) ∧ Aside0 ((cs.drop j).foldl stepR (p, vs) = r))
      case atStart => exact ⟨0, l, [], rfl, by omega, by omega, by simp, B, RC1, ⟨Kd.R_nil _ _ _ _ _⟩, H2⟩
      case round =>
        clear H2 B RC1
        obtain ⟨j, p, vs, rfl, hj, hk, hvl, B, Rp8, Rv9, H⟩ := hrel
        obtain ⟨A8, k8, rfl⟩ := Kd.R_slice Rp8.out
        obtain ⟨A9, k9, rfl⟩ := Kd.R_slice Rv9.out
        by_cases hlt : j < cs.length
        · have HS := H.out
          rw [cm_drop hlt, List.foldl_cons] at HS
          clear H
          obtain ⟨d, rfl⟩ : ∃ d, gk = d + 1 := ⟨gk - 1, by omega⟩
          have cj : decide ((j : Int) < (cs.length : Int)) = true := decide_eq_true (by omega)
          obtain ⟨ad, hA, y0, y1, y2, y3⟩ := at_T31 (cb HR1 B) (j : Int) (by omega) (by omega)
          cases hA
          rw [Int.toNat_natCast] at y0 y1 y2 y3
          have j1 := eq_true (show (j : Int) < (cs.length : Int) by omega)
          have j2 := eq_true hlt
          generalize hy : rd_T31 cs (j : Int) = y at *
          have HT := Aside0.mk HS
          clear HS
          go_wp2_with (first
            | ((with_reducible refine gate_dst (N := 11) rfl ?_); refine bx ?hg (N := 11) ?hd (cs := #[.int .i64 (0), .string (⟨#[]⟩ : ByteArray), .int .i64 (0), .int .i64 (0)]) (t := 31) ?hr B ?_; (case hd => rfl); (case hg => rfl); (case hr => first | (go_simp; done) | (go_simp; rfl)); intro g11 w101 hb B F11 L11 E11; replace Rp8 := rn Rp8 hb; replace Rv9 := rn Rv9 hb; obtain ⟨c11_0, c11_1, c11_2, c11_3⟩ := cs4 F11; clear hb E11)
            | ((with_reducible refine gate_store (t := 31) (p := 11) rfl ?_); obtain ⟨y0, y1, y2, y3⟩ := cs4 F11; have z0 := fz F11 0; have z1 := fz F11 1; have z2 := fz F11 2; have z3 := fz F11 3; refine sx (t := 31) (t' := 31) (p := 11) (v := ?vo102) ?hg ?ho ?hn 0 [.int .i64 (y.f0), .string y.f1, .int .i64 (y.f2), .int .i64 (y.f3)] [.int .i64 (y.f0), .string y.f1, .int .i64 (y.f2), .int .i64 (y.f3)] ?hr B F11 L11 rfl (Nat.le_of_ble_eq_true rfl) ?_; (case ho => rfl); (case hg => rfl); (case hn => rfl); (case hr => first | (go_simp; done) | (go_simp; rfl)); intro w102 hk B G; replace Rp8 := rk Rp8 F11 (by decide) hk; replace Rv9 := rk Rv9 F11 (by decide) hk; replace F11 := G; clear c11_0 c11_1 c11_2 c11_3; obtain ⟨c11_0, c11_1, c11_2, c11_3⟩ := cs4 F11; clear hk y0 z0 y1 z1 y2 z2 y3 z3)
            | (go_at_call 13; with_reducible refine cr (impl_ApplyCommand.M _ _ p y.f0 y.f1 y.f2 y.f3 _ (rc Rp8) (rl Rp8)) B fun AC103 kC103 w103 hb B RC103 QC103 => ?_; replace Rp8 := rn Rp8 hb; replace Rv9 := rn Rv9 hb; clear QC103; clear hb)
            | ((with_reducible refine gate_dst (N := 52) rfl ?_); refine lt (Kd.int .i64) 3 ?hg (N := 52) ?hd ([((apM p y.f0 y.f1 y.f2 y.f3).2)] : List Int) [.int .i64 ((apM p y.f0 y.f1 y.f2 y.f3).2)] ?hr (Reps.one (show Kd.M (Kd.int .i64) _ _ _ (apM p y.f0 y.f1 y.f2 y.f3).2 [.int .i64 ((apM p y.f0 y.f1 y.f2 y.f3).2)] from rfl) (Reps.none _ _)) (by simp) B ?_; (case hd => rfl); (case hg => rfl); (case hr => first | (go_simp; done) | (go_simp; rfl)); intro z52 hz52 AL52 kL52 w104 hb B RL52 QL52; replace Rv9 := rn Rv9 hb; replace RC103 := rn RC103 hb; clear hb QL52)
            | ((with_reducible refine gate_builtin (b := .append) (xs := #[.tmp 50, .tmp 52]) rfl ?_); at_builtin; refine apx (Kd.int .i64) 3 rfl (.tmp 50) (.tmp 52) 46 (.int .i64 0) 8 rfl Try.underlying46 info3 rfl (by decide) (by omega) rfl rfl Rv9 (rc RL52) (fun _ _ h => h) (by rw [← hz52]; simp only [List.length_cons, List.length_nil]; omega) B ?_; intro z53 hz53 AL53 kL53 w105 hg B RL53 hat; replace RC103 := rga RC103 rfl hg (dty Rv9 RC103 (by decide)); clear hg hat))
          go_roundg d
          case measure => omega
          case rel => exact ⟨j + 1, _, z53, congrArg (Value.int .i64) (Int.natCast_succ _).symm, by omega, by omega, (by rw [← hz53, ← hz52]; simp only [List.length_append, List.length_cons, List.length_nil]; omega), B, RC103, RL53, ⟨by rw [← hz53, ← hz52]; exact HT.out⟩⟩
        · have cj : decide ((j : Int) < (cs.length : Int)) = false := decide_eq_false (by omega)
          have hr := H.out
          rw [List.drop_of_length_le (by omega)] at hr
          have hr2 : (p, vs) = r := hr
          subst hr2
          clear hr H
          go_wp2
          go_ret2
          exact ⟨_, _, rfl, Rp8.out, Rv9.out, B.out⟩

theorem laws_szPair.M (a : ByteArray) (b n : Int) (w : World) (hn : 0 ≤ n ∧ n ≤ 1048576) (ha : a.size ≤ 9223372036854775807) : Calls Try.prog 40 #[.agg #[.string a, .int .i64 b], .int .i64 n] w fun e w' => ∃ v : Int, e = .returned (.int .i64 v) ∧ (v < 0 ∨ 0 ≤ v ∧ v ≤ n) ∧ Below w.heap.size w w' := by
  have B := Aside0.mk (Below.refl w.heap.size w)
  have hu := Try.underlying70
  go_enter Try.func40, Try.ntmps40
  go_wp2_with (first
    | ((with_reducible refine gate_dst (N := 2) rfl ?_); refine bx ?hg (N := 2) ?hd (cs := #[.string a, .int .i64 (b)]) (t := 70) ?hr B ?_; (case hd => rfl); (case hg => rfl); (case hr => first | (go_simp; done) | (go_simp; rfl)); intro g2 w1 hb B F2 L2 E2; obtain ⟨c2_0, c2_1⟩ := cs2 F2; clear hb E2))
  all_goals go_ret
  all_goals (refine ⟨_, rfl, ?_, B.out⟩; omega)
theorem laws_szPairS.M (A0 : Option Addr) (c0 : Nat) (l : List S70) (n : Int) (w : World) (hr0 : Kd.C k70 w A0 l.length l) (hn : 0 ≤ n ∧ n ≤ 1048576) (hs : ∀ y ∈ l, y.f0.size ≤ 9223372036854775807) : Calls Try.prog 8 #[.slice A0 l.length c0, .int .i64 n] w fun e w' => ∃ v : Int, e = .returned (.int .i64 v) ∧ (v < 0 ∨ 0 ≤ v ∧ v ≤ n ∧ (l.length : Int) ≤ n) ∧ Below w.heap.size w w' := by
  have B := Aside0.mk (Below.refl w.heap.size w)
  have hu := Try.underlying70
  have HR0 := Aside0.mk hr0
  have hm := hr0.2.1
  have HS := Aside0.mk hs
  clear hr0 hs
  go_enter Try.func8, Try.ntmps8
  go_wp2
  · go_ret
    exact ⟨-1, rfl, by omega, B.out⟩
  · go_loopg [1, 5] (l.length + 1) (fun kx v1 v5 wr => ∃ (j : Nat) (m : Int), v1 = .int .i64 m ∧ v5 = .int .i64 (j : Int) ∧ j ≤ l.length ∧ l.length < j + kx ∧ 0 ≤ m ∧ m ≤ n ∧ Aside0 (Below w.heap.size w wr))
    case atStart => exact ⟨0, _, rfl, rfl, by omega, by omega, by omega, by omega, B⟩
    case round =>
      clear B
      obtain ⟨j, m, rfl, rfl, hj, hk, hm0, hm1, B⟩ := hrel
      by_cases hlt : j < l.length
      · obtain ⟨d, rfl⟩ : ∃ d, gk = d + 1 := ⟨gk - 1, by omega⟩
        have cj : decide ((j : Int) < (l.length : Int)) = true := decide_eq_true (by omega)
        obtain ⟨ad, hA, y0, y1⟩ := at_T70 (cb HR0 B) (j : Int) (by omega) (by omega)
        cases hA
        have hz := HS.out (rd_T70 l (j : Int)) (by simp [rd_T70, List.getD_eq_getElem?_getD, List.getElem?_eq_getElem hlt])
        rw [Int.toNat_natCast] at y0 y1
        have j1 := eq_true (show (j : Int) < (l.length : Int) by omega)
        have j2 := eq_true hlt
        generalize hy : rd_T70 l (j : Int) = y at *
        go_wp2_with (first
          | (go_at_call 40; with_reducible refine cx (laws_szPair.M y.f0 y.f1 m _ (by omega) (by omega)) B fun v1 hv1 w1 hb B => ?_; clear hb))
        all_goals first
          | (go_roundg d; (case measure => omega); (case rel => exact ⟨j + 1, _, rfl, congrArg (Value.int .i64) (Int.natCast_succ _).symm, by omega, by omega, by omega, by omega, B⟩))
          | (go_ret; exact ⟨-1, rfl, by omega, B.out⟩)
      · have cj : decide ((j : Int) < (l.length : Int)) = false := decide_eq_false (by omega)
        go_wp2
        go_ret
        exact ⟨m, rfl, by omega, B.out⟩
theorem laws_szCommand.M (k : Int) (x : ByteArray) (v o n : Int) (w : World) (hn : 0 ≤ n ∧ n ≤ 1048576) (ha : x.size ≤ 9223372036854775807) : Calls Try.prog 9 #[.agg #[.int .i64 k, .string x, .int .i64 v, .int .i64 o], .int .i64 n] w fun e w' => ∃ v : Int, e = .returned (.int .i64 v) ∧ (v < 0 ∨ 0 ≤ v ∧ v ≤ n) ∧ Below w.heap.size w w' := by
  have B := Aside0.mk (Below.refl w.heap.size w)
  have hu := Try.underlying24
  go_enter Try.func9, Try.ntmps9
  go_wp2_with (first
    | ((with_reducible refine gate_dst (N := 2) rfl ?_); refine bx ?hg (N := 2) ?hd (cs := #[.int .i64 (k), .string x, .int .i64 (v), .int .i64 (o)]) (t := 24) ?hr B ?_; (case hd => rfl); (case hg => rfl); (case hr => first | (go_simp; done) | (go_simp; rfl)); intro g2 w1 hb B F2 L2 E2; obtain ⟨c2_0, c2_1, c2_2, c2_3⟩ := cs4 F2; clear hb E2))
  all_goals go_ret
  all_goals (refine ⟨_, rfl, ?_, B.out⟩; omega)
theorem laws_szCommandS.M (A0 : Option Addr) (c0 : Nat) (l : List S24) (n : Int) (w : World) (hr0 : Kd.C k24 w A0 l.length l) (hn : 0 ≤ n ∧ n ≤ 1048576) (hs : ∀ y ∈ l, y.f1.size ≤ 9223372036854775807) : Calls Try.prog 21 #[.slice A0 l.length c0, .int .i64 n] w fun e w' => ∃ v : Int, e = .returned (.int .i64 v) ∧ (v < 0 ∨ 0 ≤ v ∧ v ≤ n ∧ (l.length : Int) ≤ n) ∧ Below w.heap.size w w' := by
  have B := Aside0.mk (Below.refl w.heap.size w)
  have hu := Try.underlying24
  have HR0 := Aside0.mk hr0
  have hm := hr0.2.1
  have HS := Aside0.mk hs
  clear hr0 hs
  go_enter Try.func21, Try.ntmps21
  go_wp2
  · go_ret
    exact ⟨-1, rfl, by omega, B.out⟩
  · go_loopg [1, 5] (l.length + 1) (fun kx v1 v5 wr => ∃ (j : Nat) (m : Int), v1 = .int .i64 m ∧ v5 = .int .i64 (j : Int) ∧ j ≤ l.length ∧ l.length < j + kx ∧ 0 ≤ m ∧ m ≤ n ∧ Aside0 (Below w.heap.size w wr))
    case atStart => exact ⟨0, _, rfl, rfl, by omega, by omega, by omega, by omega, B⟩
    case round =>
      clear B
      obtain ⟨j, m, rfl, rfl, hj, hk, hm0, hm1, B⟩ := hrel
      by_cases hlt : j < l.length
      · obtain ⟨d, rfl⟩ : ∃ d, gk = d + 1 := ⟨gk - 1, by omega⟩
        have cj : decide ((j : Int) < (l.length : Int)) = true := decide_eq_true (by omega)
        obtain ⟨ad, hA, y0, y1, y2, y3⟩ := at_T24 (cb HR0 B) (j : Int) (by omega) (by omega)
        cases hA
        have hz := HS.out (rd_T24 l (j : Int)) (by simp [rd_T24, List.getD_eq_getElem?_getD, List.getElem?_eq_getElem hlt])
        rw [Int.toNat_natCast] at y0 y1 y2 y3
        have j1 := eq_true (show (j : Int) < (l.length : Int) by omega)
        have j2 := eq_true hlt
        generalize hy : rd_T24 l (j : Int) = y at *
        go_wp2_with (first
          | (go_at_call 9; with_reducible refine cx (laws_szCommand.M y.f0 y.f1 y.f2 y.f3 m _ (by omega) (by omega)) B fun v1 hv1 w1 hb B => ?_; clear hb))
        all_goals first
          | (go_roundg d; (case measure => omega); (case rel => exact ⟨j + 1, _, rfl, congrArg (Value.int .i64) (Int.natCast_succ _).symm, by omega, by omega, by omega, by omega, B⟩))
          | (go_ret; exact ⟨-1, rfl, by omega, B.out⟩)
      · have cj : decide ((j : Int) < (l.length : Int)) = false := decide_eq_false (by omega)
        go_wp2
        go_ret
        exact ⟨m, rfl, by omega, B.out⟩

theorem laws_toCommand.M (x0 : Int) (x1 : ByteArray) (x2 : Int) (x3 : Int) (w : World) : Calls Try.prog 12 #[.agg #[.int .i64 (x0), .string x1, .int .i64 (x2), .int .i64 (x3)]] w fun e w' => e = .returned (.agg #[.int .i64 (x0), .string x1, .int .i64 (x2), .int .i64 (x3)]) ∧ Below w.heap.size w w' := by
  have B := Aside0.mk (Below.refl w.heap.size w)
  have hu := Try.underlying31
  have hu2 := Try.underlying24
  go_enter Try.func12, Try.ntmps12
  go_wp2_with (first
    | ((with_reducible refine gate_dst (N := 1) rfl ?_); refine bx ?hg (N := 1) ?hd (cs := #[.int .i64 (x0), .string x1, .int .i64 (x2), .int .i64 (x3)]) (t := 24) ?hr B ?_; (case hd => rfl); (case hg => rfl); (case hr => first | (go_simp; done) | (go_simp; rfl)); intro g1 w1 hb B F1 L1 E1; obtain ⟨c1_0, c1_1, c1_2, c1_3⟩ := cs4 F1; clear hb E1)
    | ((with_reducible refine gate_dst (N := 2) rfl ?_); refine bx ?hg (N := 2) ?hd (cs := #[.int .i64 (0), .string (⟨#[]⟩ : ByteArray), .int .i64 (0), .int .i64 (0)]) (t := 31) ?hr B ?_; (case hd => rfl); (case hg => rfl); (case hr => first | (go_simp; done) | (go_simp; rfl)); intro g2 w2 hb B F2 L2 E2; have N1_2 := ne1 E2 F1; replace F1 := bn F1 hb; clear c1_0 c1_1 c1_2 c1_3; obtain ⟨c1_0, c1_1, c1_2, c1_3⟩ := cs4 F1; clear hb E2)
    | ((with_reducible refine gate_dst (N := 3) rfl ?_); refine bx ?hg (N := 3) ?hd (cs := #[.int .i64 (0), .string (⟨#[]⟩ : ByteArray), .int .i64 (0), .int .i64 (0)]) (t := 31) ?hr B ?_; (case hd => rfl); (case hg => rfl); (case hr => first | (go_simp; done) | (go_simp; rfl)); intro g3 w3 hb B F3 L3 E3; have N1_3 := ne1 E3 F1; have N2_3 := ne1 E3 F2; replace F1 := bn F1 hb; replace F2 := bn F2 hb; clear c1_0 c1_1 c1_2 c1_3; obtain ⟨c1_0, c1_1, c1_2, c1_3⟩ := cs4 F1; obtain ⟨c3_0, c3_1, c3_2, c3_3⟩ := cs4 F3; clear hb E3)
    | ((with_reducible refine gate_store (t := 3) (p := 6) rfl ?_); obtain ⟨y0, y1, y2, y3⟩ := cs4 F3; have z0 := fz F3 0; have z1 := fz F3 1; have z2 := fz F3 2; have z3 := fz F3 3; refine sx (t := 31) (t' := 3) (p := 6) (v := ?vo4) ?hg ?ho ?hn 0 [.int .i64 (x0)] [.int .i64 (x0), .string (⟨#[]⟩ : ByteArray), .int .i64 (0), .int .i64 (0)] ?hr B F3 L3 rfl (Nat.le_of_ble_eq_true rfl) ?_; (case ho => rfl); (case hg => rfl); (case hn => rfl); (case hr => first | (go_simp; done) | (go_simp; rfl)); intro w4 hk B G; replace F1 := bk F1 hk N1_3.out; replace F2 := bk F2 hk N2_3.out; replace F3 := G; clear c1_0 c1_1 c1_2 c1_3; obtain ⟨c1_0, c1_1, c1_2, c1_3⟩ := cs4 F1; clear c3_0 c3_1 c3_2 c3_3; obtain ⟨c3_0, c3_1, c3_2, c3_3⟩ := cs4 F3; clear hk y0 z0 y1 z1 y2 z2 y3 z3)
    | ((with_reducible refine gate_store (t := 9) (p := 9) rfl ?_); obtain ⟨y0, y1, y2, y3⟩ := cs4 F3; have z0 := fz F3 0; have z1 := fz F3 1; have z2 := fz F3 2; have z3 := fz F3 3; refine sx (t := 31) (t' := 9) (p := 9) (v := ?vo5) ?hg ?ho ?hn 1 [.string x1] [.int .i64 (x0), .string x1, .int .i64 (0), .int .i64 (0)] ?hr B F3 L3 rfl (Nat.le_of_ble_eq_true rfl) ?_; (case ho => rfl); (case hg => rfl); (case hn => rfl); (case hr => first | (go_simp; done) | (go_simp; rfl)); intro w5 hk B G; replace F1 := bk F1 hk N1_3.out; replace F2 := bk F2 hk N2_3.out; replace F3 := G; clear c1_0 c1_1 c1_2 c1_3; obtain ⟨c1_0, c1_1, c1_2, c1_3⟩ := cs4 F1; clear c3_0 c3_1 c3_2 c3_3; obtain ⟨c3_0, c3_1, c3_2, c3_3⟩ := cs4 F3; clear hk y0 z0 y1 z1 y2 z2 y3 z3)
    | ((with_reducible refine gate_store (t := 3) (p := 12) rfl ?_); obtain ⟨y0, y1, y2, y3⟩ := cs4 F3; have z0 := fz F3 0; have z1 := fz F3 1; have z2 := fz F3 2; have z3 := fz F3 3; refine sx (t := 31) (t' := 3) (p := 12) (v := ?vo6) ?hg ?ho ?hn 2 [.int .i64 (x2)] [.int .i64 (x0), .string x1, .int .i64 (x2), .int .i64 (0)] ?hr B F3 L3 rfl (Nat.le_of_ble_eq_true rfl) ?_; (case ho => rfl); (case hg => rfl); (case hn => rfl); (case hr => first | (go_simp; done) | (go_simp; rfl)); intro w6 hk B G; replace F1 := bk F1 hk N1_3.out; replace F2 := bk F2 hk N2_3.out; replace F3 := G; clear c1_0 c1_1 c1_2 c1_3; obtain ⟨c1_0, c1_1, c1_2, c1_3⟩ := cs4 F1; clear c3_0 c3_1 c3_2 c3_3; obtain ⟨c3_0, c3_1, c3_2, c3_3⟩ := cs4 F3; clear hk y0 z0 y1 z1 y2 z2 y3 z3)
    | ((with_reducible refine gate_store (t := 3) (p := 15) rfl ?_); obtain ⟨y0, y1, y2, y3⟩ := cs4 F3; have z0 := fz F3 0; have z1 := fz F3 1; have z2 := fz F3 2; have z3 := fz F3 3; refine sx (t := 31) (t' := 3) (p := 15) (v := ?vo7) ?hg ?ho ?hn 3 [.int .i64 (x3)] [.int .i64 (x0), .string x1, .int .i64 (x2), .int .i64 (x3)] ?hr B F3 L3 rfl (Nat.le_of_ble_eq_true rfl) ?_; (case ho => rfl); (case hg => rfl); (case hn => rfl); (case hr => first | (go_simp; done) | (go_simp; rfl)); intro w7 hk B G; replace F2 := bk F2 hk N2_3.out; replace F3 := G; clear c3_0 c3_1 c3_2 c3_3; obtain ⟨c3_0, c3_1, c3_2, c3_3⟩ := cs4 F3; clear hk y0 z0 y1 z1 y2 z2 y3 z3)
    | ((with_reducible refine gate_store (t := 31) (p := 2) rfl ?_); obtain ⟨y0, y1, y2, y3⟩ := cs4 F2; have z0 := fz F2 0; have z1 := fz F2 1; have z2 := fz F2 2; have z3 := fz F2 3; refine sx (t := 31) (t' := 31) (p := 2) (v := ?vo8) ?hg ?ho ?hn 0 [.int .i64 (x0), .string x1, .int .i64 (x2), .int .i64 (x3)] [.int .i64 (x0), .string x1, .int .i64 (x2), .int .i64 (x3)] ?hr B F2 L2 rfl (Nat.le_of_ble_eq_true rfl) ?_; (case ho => rfl); (case hg => rfl); (case hn => rfl); (case hr => first | (go_simp; done) | (go_simp; rfl)); intro w8 hk B G; replace F2 := G; clear hk y0 z0 y1 z1 y2 z2 y3 z3))
  refine bodyPost_ret (results_single rfl (.cell g2 31 _ (0, 0) _ rfl F2.out hu rfl (by kernel_rfl) .nil)) rfl ?_
  exact ⟨rfl, B.out⟩
def prOf (x : S70) : S42 := ⟨x.f0, x.f1⟩
theorem laws_toPair.M (x0 : ByteArray) (x1 : Int) (w : World) : Calls Try.prog 46 #[.agg #[.string x0, .int .i64 (x1)]] w fun e w' => e = .returned (.agg #[.string x0, .int .i64 (x1)]) ∧ Below w.heap.size w w' := by
  have B := Aside0.mk (Below.refl w.heap.size w)
  have hu := Try.underlying42
  have hu2 := Try.underlying70
  go_enter Try.func46, Try.ntmps46
  go_wp2_with (first
    | ((with_reducible refine gate_dst (N := 1) rfl ?_); refine bx ?hg (N := 1) ?hd (cs := #[.string x0, .int .i64 (x1)]) (t := 70) ?hr B ?_; (case hd => rfl); (case hg => rfl); (case hr => first | (go_simp; done) | (go_simp; rfl)); intro g1 w1 hb B F1 L1 E1; obtain ⟨c1_0, c1_1⟩ := cs2 F1; clear hb E1)
    | ((with_reducible refine gate_dst (N := 2) rfl ?_); refine bx ?hg (N := 2) ?hd (cs := #[.string (⟨#[]⟩ : ByteArray), .int .i64 (0)]) (t := 42) ?hr B ?_; (case hd => rfl); (case hg => rfl); (case hr => first | (go_simp; done) | (go_simp; rfl)); intro g2 w2 hb B F2 L2 E2; have N1_2 := ne1 E2 F1; replace F1 := bn F1 hb; clear c1_0 c1_1; obtain ⟨c1_0, c1_1⟩ := cs2 F1; clear hb E2)
    | ((with_reducible refine gate_dst (N := 3) rfl ?_); refine bx ?hg (N := 3) ?hd (cs := #[.string (⟨#[]⟩ : ByteArray), .int .i64 (0)]) (t := 42) ?hr B ?_; (case hd => rfl); (case hg => rfl); (case hr => first | (go_simp; done) | (go_simp; rfl)); intro g3 w3 hb B F3 L3 E3; have N1_3 := ne1 E3 F1; have N2_3 := ne1 E3 F2; replace F1 := bn F1 hb; replace F2 := bn F2 hb; clear c1_0 c1_1; obtain ⟨c1_0, c1_1⟩ := cs2 F1; obtain ⟨c3_0, c3_1⟩ := cs2 F3; clear hb E3)
    | ((with_reducible refine gate_store (t := 9) (p := 6) rfl ?_); obtain ⟨y0, y1⟩ := cs2 F3; have z0 := fz F3 0; have z1 := fz F3 1; refine sx (t := 42) (t' := 9) (p := 6) (v := ?vo4) ?hg ?ho ?hn 0 [.string x0] [.string x0, .int .i64 (0)] ?hr B F3 L3 rfl (Nat.le_of_ble_eq_true rfl) ?_; (case ho => rfl); (case hg => rfl); (case hn => rfl); (case hr => first | (go_simp; done) | (go_simp; rfl)); intro w4 hk B G; replace F1 := bk F1 hk N1_3.out; replace F2 := bk F2 hk N2_3.out; replace F3 := G; clear c1_0 c1_1; obtain ⟨c1_0, c1_1⟩ := cs2 F1; clear c3_0 c3_1; obtain ⟨c3_0, c3_1⟩ := cs2 F3; clear hk y0 z0 y1 z1)
    | ((with_reducible refine gate_store (t := 3) (p := 9) rfl ?_); obtain ⟨y0, y1⟩ := cs2 F3; have z0 := fz F3 0; have z1 := fz F3 1; refine sx (t := 42) (t' := 3) (p := 9) (v := ?vo5) ?hg ?ho ?hn 1 [.int .i64 (x1)] [.string x0, .int .i64 (x1)] ?hr B F3 L3 rfl (Nat.le_of_ble_eq_true rfl) ?_; (case ho => rfl); (case hg => rfl); (case hn => rfl); (case hr => first | (go_simp; done) | (go_simp; rfl)); intro w5 hk B G; replace F2 := bk F2 hk N2_3.out; replace F3 := G; clear c3_0 c3_1; obtain ⟨c3_0, c3_1⟩ := cs2 F3; clear hk y0 z0 y1 z1)
    | ((with_reducible refine gate_store (t := 42) (p := 2) rfl ?_); obtain ⟨y0, y1⟩ := cs2 F2; have z0 := fz F2 0; have z1 := fz F2 1; refine sx (t := 42) (t' := 42) (p := 2) (v := ?vo6) ?hg ?ho ?hn 0 [.string x0, .int .i64 (x1)] [.string x0, .int .i64 (x1)] ?hr B F2 L2 rfl (Nat.le_of_ble_eq_true rfl) ?_; (case ho => rfl); (case hg => rfl); (case hn => rfl); (case hr => first | (go_simp; done) | (go_simp; rfl)); intro w6 hk B G; replace F2 := G; clear hk y0 z0 y1 z1))
  refine bodyPost_ret (results_single rfl (.cell g2 42 _ (0, 0) _ rfl F2.out hu rfl (by kernel_rfl) .nil)) rfl ?_
  exact ⟨rfl, B.out⟩
theorem laws_toPairS.M (A0 : Option Addr) (c0 : Nat) (l : List S70) (m : List S42) (w : World) (hr0 : Kd.C k70 w A0 l.length l) (hl : l.length ≤ 1048576) (hm : l.map prOf = m) : Calls Try.prog 11 #[.slice A0 l.length c0] w fun e w' => ∃ v0, e = .returned v0 ∧ Kd.R k42 42 w' w.heap.size (fun _ => True) v0 m ∧ Below w.heap.size w w' := by
  have B := Aside0.mk (Below.refl w.heap.size w)
  subst hm
  have hu := Try.underlying42
  have hu2 := Try.underlying70
  have HR0 := Aside0.mk hr0
  clear hr0
  go_enter Try.func11, Try.ntmps11
  go_wp2_with ((with_reducible refine gate_dst (N := 7) rfl ?_); refine mkr k42 42 rfl (N := 7) rfl 27 _ _ rfl l.length rfl rfl Try.underlying27 (.agg #[.string (⟨#[]⟩ : ByteArray), .int .i64 (0)]) 24 info42 rfl (by decide) (by omega) z42 (k42_mkM _ _ _ z42) (by omega) B ?_; intro A kk w1 hb B R Q; clear hb Q)
  have R0 := Aside0.mk (show Ow k42 42 w1 w.heap.size (.slice A l.length kk) ((l.take 0).map prOf ++ List.replicate (l.length - 0) z42) from R.out)
  clear R
  go_loopg [4] (l.length + 1) (fun kx v4 wr => ∃ j : Nat, v4 = .int .i64 (j : Int) ∧ j ≤ l.length ∧ l.length < j + kx ∧ Aside0 (Below w.heap.size w wr) ∧ Aside0 (Ow k42 42 wr w.heap.size (.slice A l.length kk) ((l.take j).map prOf ++ List.replicate (l.length - j) z42)))
  case atStart => exact ⟨0, rfl, by omega, by omega, B, R0⟩
  case round =>
    clear R0 B
    obtain ⟨j, rfl, hj, hk, B, R⟩ := hrel
    by_cases hlt : j < l.length
    · obtain ⟨d, rfl⟩ : ∃ d, gk = d + 1 := ⟨gk - 1, by omega⟩
      have hln : ((l.take j).map prOf ++ List.replicate (l.length - j) z42).length = l.length := by rw [List.length_append, List.length_map, List.length_take, List.length_replicate]; omega
      obtain ⟨g, rfl, hg⟩ := rform R (by omega)
      have hfs := fill_set (f := prOf) (z := z42) hlt
      have cj : decide ((j : Int) < (l.length : Int)) = true := decide_eq_true (by omega)
      obtain ⟨ad, hA, x0, x1⟩ := at_T70 (cb HR0 B) (j : Int) (by omega) (by omega)
      cases hA
      rw [Int.toNat_natCast] at x0 x1
      have j1 := eq_true (show (j : Int) < (l.length : Int) by omega)
      have j2 := eq_true hlt
      have hy : rd_T70 l (j : Int) = l[j] := by simp [rd_T70, List.getD_eq_getElem?_getD, List.getElem?_eq_getElem hlt]
      rw [← hy] at hfs
      generalize rd_T70 l (j : Int) = y at *
      clear hy
      have HF := Aside0.mk hfs
      clear hfs hln
      go_wp2_with (first
        | (go_at_call 46; with_reducible refine cl (laws_toPair.M y.f0 y.f1 _) B fun w5 hb B => ?_; replace R := rn R hb; obtain ⟨cs, hcl, _, hcc, hfz⟩ := rcells z42 R j hlt; have hsz : k42.sz = 2 := rfl; obtain ⟨u0, hu0⟩ : ∃ u, cs[0]? = some u := ⟨_, List.getElem?_eq_getElem (by rw [hcl]; decide)⟩; have q0 := hcc 0 u0 hu0; have z0 := hfz 0; rw [hsz, Nat.add_zero] at q0 z0; obtain ⟨u1, hu1⟩ : ∃ u, cs[1]? = some u := ⟨_, List.getElem?_eq_getElem (by rw [hcl]; decide)⟩; have q1 := hcc 1 u1 hu1; have z1 := hfz 1; rw [hsz] at q1 z1; clear hb)
        | ((with_reducible refine gate_store (t := 42) (p := 21) rfl ?_); refine es (t := 42) (p := 21) (v := ?vo1) ?hg ?ho ?hn j 0 [.string y.f0, .int .i64 (y.f1)] (prOf y) ?hr R hlt hcl hcc (Nat.le_refl 2) (by rw [List.take_zero, List.drop_of_length_le (by rw [hcl]; exact Nat.le_refl 2)]; exact k42_mkM _ _ _ (prOf y)) B hg ?_; (case ho => rfl); (case hg => rfl); (case hn => rfl); (case hr => first | (go_simp; done) | (go_simp; rfl)); intro w6 _ B R; rw [HF.out] at R))
      go_roundg d
      case measure => omega
      case rel => exact ⟨j + 1, congrArg (Value.int .i64) (Int.natCast_succ _).symm, by omega, by omega, B, R⟩
    · have cj : decide ((j : Int) < (l.length : Int)) = false := decide_eq_false (by omega)
      rw [fill_end hlt] at R
      go_wp2
      go_ret
      exact ⟨_, rfl, R.out, B.out⟩
def cmOf (x : S24) : S31 := ⟨x.f0, x.f1, x.f2, x.f3⟩
theorem laws_toCommandS.M (A0 : Option Addr) (c0 : Nat) (l : List S24) (m : List S31) (w : World) (hr0 : Kd.C k24 w A0 l.length l) (hl : l.length ≤ 1048576) (hm : l.map cmOf = m) : Calls Try.prog 23 #[.slice A0 l.length c0] w fun e w' => ∃ v0, e = .returned v0 ∧ Kd.R k31 31 w' w.heap.size (fun _ => True) v0 m ∧ Below w.heap.size w w' := by
  have B := Aside0.mk (Below.refl w.heap.size w)
  subst hm
  have hu := Try.underlying31
  have hu2 := Try.underlying24
  have HR0 := Aside0.mk hr0
  clear hr0
  go_enter Try.func23, Try.ntmps23
  go_wp2_with ((with_reducible refine gate_dst (N := 7) rfl ?_); refine mkr k31 31 rfl (N := 7) rfl 49 _ _ rfl l.length rfl rfl Try.underlying49 (.agg #[.int .i64 (0), .string (⟨#[]⟩ : ByteArray), .int .i64 (0), .int .i64 (0)]) 40 info31 rfl (by decide) (by omega) z31 (k31_mkM _ _ _ z31) (by omega) B ?_; intro A kk w1 hb B R Q; clear hb Q)
  have R0 := Aside0.mk (show Ow k31 31 w1 w.heap.size (.slice A l.length kk) ((l.take 0).map cmOf ++ List.replicate (l.length - 0) z31) from R.out)
  clear R
  go_loopg [4] (l.length + 1) (fun kx v4 wr => ∃ j : Nat, v4 = .int .i64 (j : Int) ∧ j ≤ l.length ∧ l.length < j + kx ∧ Aside0 (Below w.heap.size w wr) ∧ Aside0 (Ow k31 31 wr w.heap.size (.slice A l.length kk) ((l.take j).map cmOf ++ List.replicate (l.length - j) z31)))
  case atStart => exact ⟨0, rfl, by omega, by omega, B, R0⟩
  case round =>
    clear R0 B
    obtain ⟨j, rfl, hj, hk, B, R⟩ := hrel
    by_cases hlt : j < l.length
    · obtain ⟨d, rfl⟩ : ∃ d, gk = d + 1 := ⟨gk - 1, by omega⟩
      have hln : ((l.take j).map cmOf ++ List.replicate (l.length - j) z31).length = l.length := by rw [List.length_append, List.length_map, List.length_take, List.length_replicate]; omega
      obtain ⟨g, rfl, hg⟩ := rform R (by omega)
      have hfs := fill_set (f := cmOf) (z := z31) hlt
      have cj : decide ((j : Int) < (l.length : Int)) = true := decide_eq_true (by omega)
      obtain ⟨ad, hA, x0, x1, x2, x3⟩ := at_T24 (cb HR0 B) (j : Int) (by omega) (by omega)
      cases hA
      rw [Int.toNat_natCast] at x0 x1 x2 x3
      have j1 := eq_true (show (j : Int) < (l.length : Int) by omega)
      have j2 := eq_true hlt
      have hy : rd_T24 l (j : Int) = l[j] := by simp [rd_T24, List.getD_eq_getElem?_getD, List.getElem?_eq_getElem hlt]
      rw [← hy] at hfs
      generalize rd_T24 l (j : Int) = y at *
      clear hy
      have HF := Aside0.mk hfs
      clear hfs hln
      go_wp2_with (first
        | (go_at_call 12; with_reducible refine cl (laws_toCommand.M y.f0 y.f1 y.f2 y.f3 _) B fun w5 hb B => ?_; replace R := rn R hb; obtain ⟨cs, hcl, _, hcc, hfz⟩ := rcells z31 R j hlt; have hsz : k31.sz = 4 := rfl; obtain ⟨u0, hu0⟩ : ∃ u, cs[0]? = some u := ⟨_, List.getElem?_eq_getElem (by rw [hcl]; decide)⟩; have q0 := hcc 0 u0 hu0; have z0 := hfz 0; rw [hsz, Nat.add_zero] at q0 z0; obtain ⟨u1, hu1⟩ : ∃ u, cs[1]? = some u := ⟨_, List.getElem?_eq_getElem (by rw [hcl]; decide)⟩; have q1 := hcc 1 u1 hu1; have z1 := hfz 1; rw [hsz] at q1 z1; obtain ⟨u2, hu2⟩ : ∃ u, cs[2]? = some u := ⟨_, List.getElem?_eq_getElem (by rw [hcl]; decide)⟩; have q2 := hcc 2 u2 hu2; have z2 := hfz 2; rw [hsz] at q2 z2; obtain ⟨u3, hu3⟩ : ∃ u, cs[3]? = some u := ⟨_, List.getElem?_eq_getElem (by rw [hcl]; decide)⟩; have q3 := hcc 3 u3 hu3; have z3 := hfz 3; rw [hsz] at q3 z3; clear hb)
        | ((with_reducible refine gate_store (t := 31) (p := 21) rfl ?_); refine es (t := 31) (p := 21) (v := ?vo1) ?hg ?ho ?hn j 0 [.int .i64 (y.f0), .string y.f1, .int .i64 (y.f2), .int .i64 (y.f3)] (cmOf y) ?hr R hlt hcl hcc (Nat.le_refl 4) (by rw [List.take_zero, List.drop_of_length_le (by rw [hcl]; exact Nat.le_refl 4)]; exact k31_mkM _ _ _ (cmOf y)) B hg ?_; (case ho => rfl); (case hg => rfl); (case hn => rfl); (case hr => first | (go_simp; done) | (go_simp; rfl)); intro w6 _ B R; rw [HF.out] at R))
      go_roundg d
      case measure => omega
      case rel => exact ⟨j + 1, congrArg (Value.int .i64) (Int.natCast_succ _).symm, by omega, by omega, B, R⟩
    · have cj : decide ((j : Int) < (l.length : Int)) = false := decide_eq_false (by omega)
      rw [fill_end hlt] at R
      go_wp2
      go_ret
      exact ⟨_, rfl, R.out, B.out⟩

theorem laws_eqPair.M (x0 : ByteArray) (x1 : Int) (w : World) : Calls Try.prog 50 #[.agg #[.string x0, .int .i64 (x1)], .agg #[.string x0, .int .i64 (x1)]] w fun e w' => e = .returned (.bool true) ∧ Below w.heap.size w w' := by
  have B := Aside0.mk (Below.refl w.heap.size w)
  have hu := Try.underlying42
  go_enter Try.func50, Try.ntmps50
  go_wp2_with (first
    | ((with_reducible refine gate_dst (N := 2) rfl ?_); refine bx ?hg (N := 2) ?hd (cs := #[.string x0, .int .i64 (x1)]) (t := 42) ?hr B ?_; (case hd => rfl); (case hg => rfl); (case hr => first | (go_simp; done) | (go_simp; rfl)); intro g2 w1 hb B F2 L2 E2; obtain ⟨c2_0, c2_1⟩ := cs2 F2; clear hb E2)
    | ((with_reducible refine gate_dst (N := 3) rfl ?_); refine bx ?hg (N := 3) ?hd (cs := #[.string x0, .int .i64 (x1)]) (t := 42) ?hr B ?_; (case hd => rfl); (case hg => rfl); (case hr => first | (go_simp; done) | (go_simp; rfl)); intro g3 w2 hb B F3 L3 E3; replace F2 := bn F2 hb; clear c2_0 c2_1; obtain ⟨c2_0, c2_1⟩ := cs2 F2; obtain ⟨c3_0, c3_1⟩ := cs2 F3; clear hb E3))
  all_goals go_ret
  all_goals (refine ⟨?_, B.out⟩; first | rfl | simp_all)
def laws_eqPairS.T6 : Bool × List (List Nat × List Nat) := (true, [([], []), ([], []), ([0, 1], [0, 1]), ([2], [2]), ([], []), ([], []), ([4, 5], [4, 5]), ([6], [6]), ([3, 7], [3, 7]), ([8], [8])])
def laws_eqPairS.B6 : List Nat := [0, 0, 3, 7, 0, 0, 48, 112, 255, 511]
theorem laws_eqPairS.tab6 : rtab .any (opsOf Try.f14 6) = laws_eqPairS.T6 := by kernel_rfl
theorem laws_eqPairS.bits6 : waitsOk laws_eqPairS.T6.2 laws_eqPairS.B6 = true := by kernel_rfl
theorem laws_eqPairS.M (A0 : Option Addr) (c0 : Nat) (A1 : Option Addr) (c1 : Nat) (l : List S42) (w : World) (hr0 : Kd.C k42 w A0 l.length l) (hr1 : Kd.C k42 w A1 l.length l) : Calls Try.prog 14 #[.slice A0 l.length c0, .slice A1 l.length c1] w fun e w' => e = .returned (.bool true) ∧ Below w.heap.size w w' := by
  have B := Aside0.mk (Below.refl w.heap.size w)
  have hu := Try.underlying42
  have HR0 := Aside0.mk hr0
  have HR1 := Aside0.mk hr1
  have L48 := Aside0.mk hr0.2.1
  clear hr0 hr1
  go_enter Try.func14, Try.ntmps14
  go_wp2
  go_loopg [5] (l.length + 1) (fun kx v5 wr => ∃ j : Nat, v5 = .int .i64 (j : Int) ∧ j ≤ l.length ∧ l.length < j + kx ∧ Aside0 (Below w.heap.size w wr))
  case atStart => exact ⟨0, rfl, by omega, by omega, B⟩
  case round =>
    clear B
    obtain ⟨j, rfl, hj, hk, B⟩ := hrel
    have h48 := L48.out
    by_cases hlt : j < l.length
    · obtain ⟨d, rfl⟩ : ∃ d, gk = d + 1 := ⟨gk - 1, by omega⟩
      have cj : decide ((j : Int) < (l.length : Int)) = true := decide_eq_true (by omega)
      obtain ⟨ad, hA, _⟩ := at_T42 (cb HR0 B) (j : Int) (by omega) (by omega)
      cases hA
      obtain ⟨bd, hA, _⟩ := at_T42 (cb HR1 B) (j : Int) (by omega) (by omega)
      cases hA
      have j1 := eq_true (show (j : Int) < (l.length : Int) by omega)
      have j2 := eq_true hlt
      generalize hy : rd_T42 l (j : Int) = y
      try go_wp2
      all_goals (
        refine rg (n := 10) (S := fun W => Kd.C k42 W (some ad) l.length l ∧ Kd.C k42 W (some bd) l.length l) (ds := []) #[false, false, false, false, false, false, false, false, false, false] (by kernel_rfl) rfl rfl ⟨(cb HR0 B), (cb HR1 B)⟩ id B (fun w1 hb B hHeld => ?_)
        refine with_tabW laws_eqPairS.tab6 laws_eqPairS.bits6 (fun HT_ HW_ => ?_)
        clear hb
        refine pu (i := 0) (N := some 17) (v := ?_) (bits 10 1) rfl rfl (any_of HT_.out (by kernel_rfl)) (fun _ _ _ h => h) (by kernel_rfl) ?_ ?_; rotate_left; (intro w'; go_simp; with_reducible rfl)
        refine pu (i := 1) (N := some 18) (v := ?_) (bits 10 3) rfl rfl (any_of HT_.out (by kernel_rfl)) (fun _ _ _ h => h) (by kernel_rfl) ?_ ?_; rotate_left; (intro w'; go_simp; with_reducible rfl)
        refine pu (i := 2) (N := some 19) (v := ?_) (bits 10 7) rfl rfl (any_of HT_.out (by kernel_rfl)) (fun _ _ _ h => h) (by kernel_rfl) ?_ ?_; rotate_left; (intro w'; go_simp; with_reducible rfl)
        refine ta (i := 3) (N := some 20) (v := ?_) (bits 10 15) rfl rfl (take_ofW HT_.out HW_.out (by kernel_rfl)) (fun _ _ _ h => h) (by kernel_rfl) hHeld ?_ ?_; rotate_left; (intro w' hS; obtain ⟨s0, s1⟩ := hS; obtain ⟨_, hA, q0, q1⟩ := at_T42 s0 (j : Int) (by omega) (by omega); cases hA; rw [Int.toNat_natCast] at q0 q1; rw [hy] at q0 q1; go_simp; with_reducible rfl)
        refine pu (i := 4) (N := some 21) (v := ?_) (bits 10 31) rfl rfl (any_of HT_.out (by kernel_rfl)) (fun _ _ _ h => h) (by kernel_rfl) ?_ ?_; rotate_left; (intro w'; go_simp; with_reducible rfl)
        refine pu (i := 5) (N := some 22) (v := ?_) (bits 10 63) rfl rfl (any_of HT_.out (by kernel_rfl)) (fun _ _ _ h => h) (by kernel_rfl) ?_ ?_; rotate_left; (intro w'; go_simp; with_reducible rfl)
        refine pu (i := 6) (N := some 23) (v := ?_) (bits 10 127) rfl rfl (any_of HT_.out (by kernel_rfl)) (fun _ _ _ h => h) (by kernel_rfl) ?_ ?_; rotate_left; (intro w'; go_simp; with_reducible rfl)
        refine ta (i := 7) (N := some 24) (v := ?_) (bits 10 255) rfl rfl (take_ofW HT_.out HW_.out (by kernel_rfl)) (fun _ _ _ h => h) (by kernel_rfl) hHeld ?_ ?_; rotate_left; (intro w' hS; obtain ⟨s0, s1⟩ := hS; obtain ⟨_, hA, q0, q1⟩ := at_T42 s1 (j : Int) (by omega) (by omega); cases hA; rw [Int.toNat_natCast] at q0 q1; rw [hy] at q0 q1; go_simp; with_reducible rfl)
        refine norm_ (a' := ?_) ?_ ?_
        rotate_left
        · simp only [Act.put, List.setIfInBounds_toArray, List.set_cons_zero, List.set_cons_succ, i64_w, i32_w]
          rfl
        refine one_ (i := 8) (N := some 25) (bits 10 511) rfl rfl (one_of HT_.out (by kernel_rfl)) (by decide) (fun K hK => ?_)
        refine goes_ Try.func50 (by kernel_rfl) rfl #[.agg #[.string y.f0, .int .i64 (y.f1)], .agg #[.string y.f0, .int .i64 (y.f1)]] (by rfl) rfl rfl (by (try simp only [List.map_toArray, List.map_cons, List.map_nil]); rfl) ?_
        with_reducible refine cl (laws_eqPair.M y.f0 y.f1 _) B fun w2 hb B => ?_
        clear hb
        refine ⟨_, rfl, ?_⟩
        refine hK.out _ _ ⟨(cb HR0 B), (cb HR1 B)⟩ (fun hHeld => ?_)
        clear hK K
        refine norm_ (a' := ?_) ?_ ?_
        rotate_left
        · show Act.put _ (some 25) _ = _
          simp only [Act.put, List.setIfInBounds_toArray, List.set_cons_zero, List.set_cons_succ, i64_w, i32_w]
          rfl
        refine pu (i := 9) (N := some 26) (v := ?_) (bits 10 1023) rfl rfl (any_of HT_.out (by kernel_rfl)) (fun _ _ _ h => h) (by kernel_rfl) ?_ ?_; rotate_left; (intro w'; go_simp; with_reducible rfl)
        refine norm_ (a' := ?_) ?_ ?_
        rotate_left
        · simp only [Act.put, List.setIfInBounds_toArray, List.set_cons_zero, List.set_cons_succ, i64_w, i32_w]
          rfl
        refine done_ (done_of HT_.out (by kernel_rfl)) ?_
        try go_wp2
        go_roundg d
        case measure => omega
        case rel => exact ⟨j + 1, congrArg (Value.int .i64) (Int.natCast_succ _).symm, by omega, by omega, B⟩)
      all_goals try go_wp2
    · have cj : decide ((j : Int) < (l.length : Int)) = false := decide_eq_false (by omega)
      go_wp2
      go_ret
      exact ⟨rfl, B.out⟩
theorem laws_eqCommand.M (x0 : Int) (x1 : ByteArray) (x2 : Int) (x3 : Int) (w : World) : Calls Try.prog 59 #[.agg #[.int .i64 (x0), .string x1, .int .i64 (x2), .int .i64 (x3)], .agg #[.int .i64 (x0), .string x1, .int .i64 (x2), .int .i64 (x3)]] w fun e w' => e = .returned (.bool true) ∧ Below w.heap.size w w' := by
  have B := Aside0.mk (Below.refl w.heap.size w)
  have hu := Try.underlying31
  go_enter Try.func59, Try.ntmps59
  go_wp2_with (first
    | ((with_reducible refine gate_dst (N := 2) rfl ?_); refine bx ?hg (N := 2) ?hd (cs := #[.int .i64 (x0), .string x1, .int .i64 (x2), .int .i64 (x3)]) (t := 31) ?hr B ?_; (case hd => rfl); (case hg => rfl); (case hr => first | (go_simp; done) | (go_simp; rfl)); intro g2 w1 hb B F2 L2 E2; obtain ⟨c2_0, c2_1, c2_2, c2_3⟩ := cs4 F2; clear hb E2)
    | ((with_reducible refine gate_dst (N := 3) rfl ?_); refine bx ?hg (N := 3) ?hd (cs := #[.int .i64 (x0), .string x1, .int .i64 (x2), .int .i64 (x3)]) (t := 31) ?hr B ?_; (case hd => rfl); (case hg => rfl); (case hr => first | (go_simp; done) | (go_simp; rfl)); intro g3 w2 hb B F3 L3 E3; replace F2 := bn F2 hb; clear c2_0 c2_1 c2_2 c2_3; obtain ⟨c2_0, c2_1, c2_2, c2_3⟩ := cs4 F2; obtain ⟨c3_0, c3_1, c3_2, c3_3⟩ := cs4 F3; clear hb E3))
  all_goals go_ret
  all_goals (refine ⟨?_, B.out⟩; first | rfl | simp_all)
def laws_eqCommandS.T6 : Bool × List (List Nat × List Nat) := (true, [([], []), ([], []), ([0, 1], [0, 1]), ([2], [2]), ([], []), ([], []), ([4, 5], [4, 5]), ([6], [6]), ([3, 7], [3, 7]), ([8], [8])])
def laws_eqCommandS.B6 : List Nat := [0, 0, 3, 7, 0, 0, 48, 112, 255, 511]
theorem laws_eqCommandS.tab6 : rtab .any (opsOf Try.f26 6) = laws_eqCommandS.T6 := by kernel_rfl
theorem laws_eqCommandS.bits6 : waitsOk laws_eqCommandS.T6.2 laws_eqCommandS.B6 = true := by kernel_rfl
theorem laws_eqCommandS.M (A0 : Option Addr) (c0 : Nat) (A1 : Option Addr) (c1 : Nat) (l : List S31) (w : World) (hr0 : Kd.C k31 w A0 l.length l) (hr1 : Kd.C k31 w A1 l.length l) : Calls Try.prog 26 #[.slice A0 l.length c0, .slice A1 l.length c1] w fun e w' => e = .returned (.bool true) ∧ Below w.heap.size w w' := by
  have B := Aside0.mk (Below.refl w.heap.size w)
  have hu := Try.underlying31
  have HR0 := Aside0.mk hr0
  have HR1 := Aside0.mk hr1
  have L48 := Aside0.mk hr0.2.1
  clear hr0 hr1
  go_enter Try.func26, Try.ntmps26
  go_wp2
  go_loopg [5] (l.length + 1) (fun kx v5 wr => ∃ j : Nat, v5 = .int .i64 (j : Int) ∧ j ≤ l.length ∧ l.length < j + kx ∧ Aside0 (Below w.heap.size w wr))
  case atStart => exact ⟨0, rfl, by omega, by omega, B⟩
  case round =>
    clear B
    obtain ⟨j, rfl, hj, hk, B⟩ := hrel
    have h48 := L48.out
    by_cases hlt : j < l.length
    · obtain ⟨d, rfl⟩ : ∃ d, gk = d + 1 := ⟨gk - 1, by omega⟩
      have cj : decide ((j : Int) < (l.length : Int)) = true := decide_eq_true (by omega)
      obtain ⟨ad, hA, _⟩ := at_T31 (cb HR0 B) (j : Int) (by omega) (by omega)
      cases hA
      obtain ⟨bd, hA, _⟩ := at_T31 (cb HR1 B) (j : Int) (by omega) (by omega)
      cases hA
      have j1 := eq_true (show (j : Int) < (l.length : Int) by omega)
      have j2 := eq_true hlt
      generalize hy : rd_T31 l (j : Int) = y
      try go_wp2
      all_goals (
        refine rg (n := 10) (S := fun W => Kd.C k31 W (some ad) l.length l ∧ Kd.C k31 W (some bd) l.length l) (ds := []) #[false, false, false, false, false, false, false, false, false, false] (by kernel_rfl) rfl rfl ⟨(cb HR0 B), (cb HR1 B)⟩ id B (fun w1 hb B hHeld => ?_)
        refine with_tabW laws_eqCommandS.tab6 laws_eqCommandS.bits6 (fun HT_ HW_ => ?_)
        clear hb
        refine pu (i := 0) (N := some 17) (v := ?_) (bits 10 1) rfl rfl (any_of HT_.out (by kernel_rfl)) (fun _ _ _ h => h) (by kernel_rfl) ?_ ?_; rotate_left; (intro w'; go_simp; with_reducible rfl)
        refine pu (i := 1) (N := some 18) (v := ?_) (bits 10 3) rfl rfl (any_of HT_.out (by kernel_rfl)) (fun _ _ _ h => h) (by kernel_rfl) ?_ ?_; rotate_left; (intro w'; go_simp; with_reducible rfl)
        refine pu (i := 2) (N := some 19) (v := ?_) (bits 10 7) rfl rfl (any_of HT_.out (by kernel_rfl)) (fun _ _ _ h => h) (by kernel_rfl) ?_ ?_; rotate_left; (intro w'; go_simp; with_reducible rfl)
        refine ta (i := 3) (N := some 20) (v := ?_) (bits 10 15) rfl rfl (take_ofW HT_.out HW_.out (by kernel_rfl)) (fun _ _ _ h => h) (by kernel_rfl) hHeld ?_ ?_; rotate_left; (intro w' hS; obtain ⟨s0, s1⟩ := hS; obtain ⟨_, hA, q0, q1, q2, q3⟩ := at_T31 s0 (j : Int) (by omega) (by omega); cases hA; rw [Int.toNat_natCast] at q0 q1 q2 q3; rw [hy] at q0 q1 q2 q3; go_simp; with_reducible rfl)
        refine pu (i := 4) (N := some 21) (v := ?_) (bits 10 31) rfl rfl (any_of HT_.out (by kernel_rfl)) (fun _ _ _ h => h) (by kernel_rfl) ?_ ?_; rotate_left; (intro w'; go_simp; with_reducible rfl)
        refine pu (i := 5) (N := some 22) (v := ?_) (bits 10 63) rfl rfl (any_of HT_.out (by kernel_rfl)) (fun _ _ _ h => h) (by kernel_rfl) ?_ ?_; rotate_left; (intro w'; go_simp; with_reducible rfl)
        refine pu (i := 6) (N := some 23) (v := ?_) (bits 10 127) rfl rfl (any_of HT_.out (by kernel_rfl)) (fun _ _ _ h => h) (by kernel_rfl) ?_ ?_; rotate_left; (intro w'; go_simp; with_reducible rfl)
        refine ta (i := 7) (N := some 24) (v := ?_) (bits 10 255) rfl rfl (take_ofW HT_.out HW_.out (by kernel_rfl)) (fun _ _ _ h => h) (by kernel_rfl) hHeld ?_ ?_; rotate_left; (intro w' hS; obtain ⟨s0, s1⟩ := hS; obtain ⟨_, hA, q0, q1, q2, q3⟩ := at_T31 s1 (j : Int) (by omega) (by omega); cases hA; rw [Int.toNat_natCast] at q0 q1 q2 q3; rw [hy] at q0 q1 q2 q3; go_simp; with_reducible rfl)
        refine norm_ (a' := ?_) ?_ ?_
        rotate_left
        · simp only [Act.put, List.setIfInBounds_toArray, List.set_cons_zero, List.set_cons_succ, i64_w, i32_w]
          rfl
        refine one_ (i := 8) (N := some 25) (bits 10 511) rfl rfl (one_of HT_.out (by kernel_rfl)) (by decide) (fun K hK => ?_)
        refine goes_ Try.func59 (by kernel_rfl) rfl #[.agg #[.int .i64 (y.f0), .string y.f1, .int .i64 (y.f2), .int .i64 (y.f3)], .agg #[.int .i64 (y.f0), .string y.f1, .int .i64 (y.f2), .int .i64 (y.f3)]] (by rfl) rfl rfl (by (try simp only [List.map_toArray, List.map_cons, List.map_nil]); rfl) ?_
        with_reducible refine cl (laws_eqCommand.M y.f0 y.f1 y.f2 y.f3 _) B fun w2 hb B => ?_
        clear hb
        refine ⟨_, rfl, ?_⟩
        refine hK.out _ _ ⟨(cb HR0 B), (cb HR1 B)⟩ (fun hHeld => ?_)
        clear hK K
        refine norm_ (a' := ?_) ?_ ?_
        rotate_left
        · show Act.put _ (some 25) _ = _
          simp only [Act.put, List.setIfInBounds_toArray, List.set_cons_zero, List.set_cons_succ, i64_w, i32_w]
          rfl
        refine pu (i := 9) (N := some 26) (v := ?_) (bits 10 1023) rfl rfl (any_of HT_.out (by kernel_rfl)) (fun _ _ _ h => h) (by kernel_rfl) ?_ ?_; rotate_left; (intro w'; go_simp; with_reducible rfl)
        refine norm_ (a' := ?_) ?_ ?_
        rotate_left
        · simp only [Act.put, List.setIfInBounds_toArray, List.set_cons_zero, List.set_cons_succ, i64_w, i32_w]
          rfl
        refine done_ (done_of HT_.out (by kernel_rfl)) ?_
        try go_wp2
        go_roundg d
        case measure => omega
        case rel => exact ⟨j + 1, congrArg (Value.int .i64) (Int.natCast_succ _).symm, by omega, by omega, B⟩)
      all_goals try go_wp2
    · have cj : decide ((j : Int) < (l.length : Int)) = false := decide_eq_false (by omega)
      go_wp2
      go_ret
      exact ⟨rfl, B.out⟩

/-! Marks: what is written into a list of pairs is found there. -/
theorem mtx_loop (d : Nat) : ∀ (a : Int) (x : ByteArray), 0 ≤ a → a ≤ 1000000000000000000 → a < 10 ^ d → x.size + d ≤ 1000 → ∃ r, ∀ j, d + 1 ≤ j → laws_markText.l0 j a x = some r := by
  induction d with
  | zero =>
    intro a x h0 hb h1 hx
    refine ⟨(⟨#[109]⟩ : ByteArray) ++ x, fun j hj => ?_⟩
    obtain ⟨i, rfl⟩ : ∃ i, j = i + 1 := ⟨j - 1, by omega⟩
    simp only [laws_markText.l0]
    rw [if_neg (by simp at h1; omega), if_pos (by omega)]
  | succ d ih =>
    intro a x h0 hb h1 hx
    by_cases hp : a > 0
    · have hq : wrap64 (Int.tdiv a 10) = a / 10 := by rw [Int.tdiv_eq_ediv_of_nonneg h0]; exact w64 (by omega) (by omega)
      obtain ⟨r, hr⟩ := ih (a / 10) (strOfNums ([(wrap64 (48 + (Int.tmod a 10))) % 256] : List Int) ++ x) (by omega) (by omega) (by rw [Int.pow_succ] at h1; omega) (by rw [ByteArray.size_append, strOfNums_size]; simp only [List.length_cons, List.length_nil]; omega)
      refine ⟨r, fun j hj => ?_⟩
      obtain ⟨i, rfl⟩ : ∃ i, j = i + 1 := ⟨j - 1, by omega⟩
      simp only [laws_markText.l0, Option.bind_some]
      rw [if_pos hp, if_pos (by rw [strOfNums_size]; simp only [List.length_cons, List.length_nil]; omega), hq]
      exact hr i (by omega)
    · refine ⟨(⟨#[109]⟩ : ByteArray) ++ x, fun j hj => ?_⟩
      obtain ⟨i, rfl⟩ : ∃ i, j = i + 1 := ⟨j - 1, by omega⟩
      simp only [laws_markText.l0]
      rw [if_neg hp, if_pos (by omega)]
def mtx (a : Int) : ByteArray := (laws_markText.f 20 a).getD ⟨#[]⟩
theorem mtx_ok (a : Int) (hb : a ≤ 100000000000000000) (k : Nat) (hk : 20 ≤ k) : laws_markText.f k a = some (mtx a) := by
  unfold mtx laws_markText.f
  by_cases h : a ≤ 0
  · simp only [if_pos h, Option.getD_some]
  · simp only [if_neg h]
    obtain ⟨r, hr⟩ := mtx_loop 19 a ⟨#[]⟩ (by omega) (by omega) (by omega) (by decide)
    rw [hr k (by omega), hr 20 (by omega)]
    rfl
def mkPr (q : Int) : S42 := ⟨mtx q, q + 1⟩
def prTo (n : Nat) (q : Int) : List S42 := (List.range n).map fun (i : Nat) => mkPr (q + 2 * (i : Int))
theorem prTo_length (n : Nat) (q : Int) : (prTo n q).length = n := by simp [prTo]
theorem rdp_nat {l : List S42} {j : Nat} (h : j < l.length) : rd_T42 l (j : Int) = l[j] := by
  simp [rd_T42, List.getD_eq_getElem?_getD, List.getElem?_eq_getElem h]
theorem rdp_set {l : List S42} {j : Nat} (h : j < l.length) (x : S42) : rd_T42 (l.set j x) (j : Int) = x := by
  rw [rdp_nat (by simpa using h)]
  simp
theorem markP_loop (n : Nat) (hn : n ≤ 2097152) (q : Int) (h0 : 0 ≤ q) (h1 : q ≤ 1099511627776) (d : Nat) : ∀ (j : Nat) (xs : List S42), j + d = n → xs.length = n → xs.take j = (prTo n q).take j →
    ∀ k, d + 21 ≤ k → laws_markPairS.l0 k xs (q + 2 * (j : Int)) (j : Int) = some (q + 2 * (n : Int), prTo n q) := by
  induction d with
  | zero =>
    intro j xs hj hl ht k hk
    obtain ⟨k, rfl⟩ : ∃ i, k = i + 1 := ⟨k - 1, by omega⟩
    simp only [laws_markPairS.l0]
    rw [if_neg (by omega)]
    rw [List.take_of_length_le (by omega), List.take_of_length_le (by rw [prTo_length]; omega)] at ht
    rw [ht, show j = n by omega]
  | succ d ih =>
    intro j xs hj hl ht k hk
    obtain ⟨k, rfl⟩ : ∃ i, k = i + 1 := ⟨k - 1, by omega⟩
    have e := ih (j + 1) (xs.set j (mkPr (q + 2 * (j : Int)))) (by omega) (by simpa using hl) (by
      rw [List.take_succ_eq_append_getElem (by simp; omega), List.take_succ_eq_append_getElem (by rw [prTo_length]; omega), ← ht]
      simp [List.take_set_of_le, prTo]) k (by omega)
    simp only [laws_markPairS.l0]
    rw [if_pos (by omega), mtx_ok _ (by omega) k (by omega)]
    simp only [Option.bind_some, Int.toNat_natCast]
    rw [if_pos (by omega), w64 (x := q + 2 * (j : Int) + 1) (by omega) (by omega), w64 (x := q + 2 * (j : Int) + 1 + 1) (by omega) (by omega), w64 (x := (j : Int) + 1) (by omega) (by omega)]
    rw [rdp_set (by omega)]
    simp only [List.set_set]
    rw [show q + 2 * (j : Int) + 1 + 1 = q + 2 * ((j + 1 : Nat) : Int) by omega]
    exact e
theorem markP (xs : List S42) (hn : xs.length ≤ 2097152) (q : Int) (h0 : 0 ≤ q) (h1 : q ≤ 1099511627776) : laws_markPairS.f (xs.length + 21) xs q = some (q + 2 * (xs.length : Int), prTo xs.length q) := by
  have e := markP_loop xs.length hn q h0 h1 xs.length 0 xs (by omega) rfl (by simp) (xs.length + 21) (by omega)
  unfold laws_markPairS.f
  simpa using e
theorem heldP_loop (n : Nat) (hn : n ≤ 2097152) (q : Int) (h0 : 0 ≤ q) (h1 : q ≤ 1099511627776) (d : Nat) : ∀ (j : Nat), j + d = n →
    ∀ k, d + 21 ≤ k → laws_heldPairS.l0 k (prTo n q) (q + 2 * (j : Int)) (j : Int) = some (q + 2 * (n : Int)) := by
  induction d with
  | zero =>
    intro j hj k hk
    obtain ⟨k, rfl⟩ : ∃ i, k = i + 1 := ⟨k - 1, by omega⟩
    simp only [laws_heldPairS.l0]
    rw [if_neg (by rw [prTo_length]; omega), show j = n by omega]
  | succ d ih =>
    intro j hj k hk
    obtain ⟨k, rfl⟩ : ∃ i, k = i + 1 := ⟨k - 1, by omega⟩
    have e := ih (j + 1) (by omega) k (by omega)
    have hx : rd_T42 (prTo n q) (j : Int) = mkPr (q + 2 * (j : Int)) := by
      rw [rdp_nat (by rw [prTo_length]; omega)]
      simp [prTo]
    simp only [laws_heldPairS.l0]
    rw [if_pos (by rw [prTo_length]; omega), if_pos (by omega), mtx_ok _ (by omega) k (by omega)]
    simp only [Option.bind_some]
    rw [hx, w64 (x := q + 2 * (j : Int) + 1) (by omega) (by omega), w64 (x := q + 2 * (j : Int) + 1 + 1) (by omega) (by omega), w64 (x := (j : Int) + 1) (by omega) (by omega)]
    rw [if_pos (show (mkPr (q + 2 * (j : Int))).f0.toList = (mtx (q + 2 * (j : Int))).toList from rfl), if_pos (show (mkPr (q + 2 * (j : Int))).f1 = q + 2 * (j : Int) + 1 from rfl)]
    rw [show q + 2 * (j : Int) + 1 + 1 = q + 2 * ((j + 1 : Nat) : Int) by omega]
    exact e
theorem heldP (n : Nat) (hn : n ≤ 2097152) (q : Int) (h0 : 0 ≤ q) (h1 : q ≤ 1099511627776) : laws_heldPairS.f (n + 21) (prTo n q) q = some (q + 2 * (n : Int)) := by
  have e := heldP_loop n hn q h0 h1 n 0 (by omega) (n + 21) (by omega)
  unfold laws_heldPairS.f
  simpa using e
theorem cm {P : Program} {F : FuncId} {args : Array Value} {w W : World} {Q : Ending → World → Prop} {α : Type} {d : Kd α} {t : Nat} {ys : List α} {ok S : Nat → Prop} {v u : Value} (c : Calls P F args W fun e w' => e = .returned u ∧ d.R t w' w.heap.size ok v ys ∧ Below w.heap.size w w' ∧ Kept W w' S)
    (h : ∀ W', Kept W W' S → Aside0 (Below w.heap.size w W') → Aside0 (Ow d t W' w.heap.size v ys) → Q (.returned u) W') : Calls P F args W Q :=
  c.mono (by rintro e W' ⟨rfl, hr, hb, hk⟩; exact h W' hk ⟨hb⟩ ⟨Kd.R_mono hr (fun _ _ => trivial)⟩)
theorem bkp {W W' : World} {α : Type} {d : Kd α} {e b g t : Nat} {cs : Array Value} {v : Value} {xs : List α} (F : Aside0 (W.heap[g]? = some (.cells cs t (0, 0)))) (hk : Kept W W' fun k => some k = v.ownBlock) (R : Aside0 (Ow d e W b v xs)) (ht : e ≠ t) : Aside0 (W'.heap[g]? = some (.cells cs t (0, 0))) :=
  ⟨blk_kept F.out hk (fun h => Kd.R_ne R.out F.out ht h)⟩
theorem rkp {W W' : World} {β : Type} {d' : Kd β} {e' b' : Nat} {v v' : Value} {ys : List β} (R' : Aside0 (Ow d' e' W b' v' ys)) (hE : d'.E = []) (hk : Kept W W' fun k => some k = v.ownBlock) (ne : ∀ k, v'.ownBlock = some k → v.ownBlock = some k → False) : Aside0 (Ow d' e' W' b' v' ys) :=
  ⟨Kd.R_mono (Kd.R_kept (Kd.R_tight hE R'.out) hk (fun k h1 h2 => ne k h1.symm h2.symm)) (fun _ _ => trivial)⟩
theorem laws_markPairS.M (v : Value) (l : List S42) (q : Int) (w W : World) (B : Aside0 (Below w.heap.size w W)) (R : Aside0 (Ow k42 42 W w.heap.size v l)) (hn : l.length ≤ 2097152) (h0 : 0 ≤ q) (h1 : q ≤ 1099511627776) :
    Calls Try.prog 15 #[v, .int .i64 q] W fun e w' => e = .returned (.int .i64 (q + 2 * (l.length : Int))) ∧ Kd.R k42 42 w' w.heap.size (fun k_ => (some k_ = v.ownBlock ∨ W.heap.size ≤ k_)) v (prTo l.length q) ∧ Below w.heap.size w w' ∧ Kept W w' (fun k_ => some k_ = v.ownBlock) :=
  laws_markPairS.calls (l.length + 21) (fun k => some k = v.ownBlock) v l q _ _ w W B.out (Kd.R_tight rfl R.out) (markP l hn q h0 h1)
theorem laws_heldPairS.M (A : Option Addr) (c n : Nat) (l : List S42) (q : Int) (hl : l = prTo n q) (W : World) (hr : Kd.C k42 W A l.length l) (hc : l.length ≤ c) (hn : n ≤ 2097152) (h0 : 0 ≤ q) (h1 : q ≤ 1099511627776) :
    Calls Try.prog 16 #[.slice A l.length c, .int .i64 q] W fun e w' => e = .returned (.int .i64 (q + 2 * (n : Int))) ∧ Below W.heap.size W w' :=
  laws_heldPairS.calls (n + 21) A c l q _ W hr hc (by rw [hl]; exact heldP n hn q h0 h1)
theorem laws_heldPairS.M2 (A : Option Addr) (c : Nat) (l : List S42) (q : Int) (W : World) (hr : Kd.C k42 W A (prTo l.length q).length (prTo l.length q)) (hc : (prTo l.length q).length ≤ c) (hn : l.length ≤ 2097152) (h0 : 0 ≤ q) (h1 : q ≤ 1099511627776) :
    Calls Try.prog 16 #[.slice A l.length c, .int .i64 q] W fun e w' => e = .returned (.int .i64 (q + 2 * (l.length : Int))) ∧ Below W.heap.size W w' := by
  have h := laws_heldPairS.M A c l.length (prTo l.length q) q rfl W hr hc hn h0 h1
  rwa [prTo_length] at h
theorem rl2 {α : Type} {d : Kd α} {e b n : Nat} {W : World} {A : Option Addr} {c : Nat} {xs : List α} (R : Aside0 (Ow d e W b (.slice A n c) xs)) : xs.length ≤ c := by have h := Kd.R_reads' R.out; have := h.1; have := h.2.1; omega

/-! Marks: what is written into a list of commands. -/
def mkCm (q : Int) : S31 := ⟨q, mtx (q + 1), q + 2, q + 3⟩
def cmTo (n : Nat) (q : Int) : List S31 := (List.range n).map fun (i : Nat) => mkCm (q + 4 * (i : Int))
theorem cmTo_length (n : Nat) (q : Int) : (cmTo n q).length = n := by simp [cmTo]
theorem rdc_nat {l : List S31} {j : Nat} (h : j < l.length) : rd_T31 l (j : Int) = l[j] := by
  simp [rd_T31, List.getD_eq_getElem?_getD, List.getElem?_eq_getElem h]
theorem rdc_set {l : List S31} {j : Nat} (h : j < l.length) (x : S31) : rd_T31 (l.set j x) (j : Int) = x := by
  rw [rdc_nat (by simpa using h)]
  simp
theorem markC_loop (n : Nat) (hn : n ≤ 2097152) (q : Int) (h0 : 0 ≤ q) (h1 : q ≤ 1099511627776) (d : Nat) : ∀ (j : Nat) (xs : List S31), j + d = n → xs.length = n → xs.take j = (cmTo n q).take j →
    ∀ k, d + 21 ≤ k → laws_markCommandS.l0 k xs (q + 4 * (j : Int)) (j : Int) = some (q + 4 * (n : Int), cmTo n q) := by
  induction d with
  | zero =>
    intro j xs hj hl ht k hk
    obtain ⟨k, rfl⟩ : ∃ i, k = i + 1 := ⟨k - 1, by omega⟩
    simp only [laws_markCommandS.l0]
    rw [if_neg (by omega)]
    rw [List.take_of_length_le (by omega), List.take_of_length_le (by rw [cmTo_length]; omega)] at ht
    rw [ht, show j = n by omega]
  | succ d ih =>
    intro j xs hj hl ht k hk
    obtain ⟨k, rfl⟩ : ∃ i, k = i + 1 := ⟨k - 1, by omega⟩
    have e := ih (j + 1) (xs.set j (mkCm (q + 4 * (j : Int)))) (by omega) (by simpa using hl) (by
      rw [List.take_succ_eq_append_getElem (by simp; omega), List.take_succ_eq_append_getElem (by rw [cmTo_length]; omega), ← ht]
      simp [List.take_set_of_le, cmTo]) k (by omega)
    simp only [laws_markCommandS.l0]
    rw [if_pos (by omega), w64 (x := q + 4 * (j : Int) + 1) (by omega) (by omega), mtx_ok _ (by omega) k (by omega)]
    simp only [Option.bind_some, Int.toNat_natCast]
    rw [if_pos (by omega), w64 (x := q + 4 * (j : Int) + 1 + 1) (by omega) (by omega), w64 (x := q + 4 * (j : Int) + 1 + 1 + 1) (by omega) (by omega), w64 (x := q + 4 * (j : Int) + 1 + 1 + 1 + 1) (by omega) (by omega), w64 (x := (j : Int) + 1) (by omega) (by omega)]
    have hlt : j < xs.length := by omega
    simp only [rdc_set, List.length_set, hlt, List.set_set]
    (try rw [if_pos (by omega)])
    rw [show q + 4 * (j : Int) + 1 + 1 + 1 + 1 = q + 4 * ((j + 1 : Nat) : Int) by omega, show q + 4 * (j : Int) + 1 + 1 + 1 = q + 4 * (j : Int) + 3 by omega, show q + 4 * (j : Int) + 1 + 1 = q + 4 * (j : Int) + 2 by omega]
    exact e
theorem markC (xs : List S31) (hn : xs.length ≤ 2097152) (q : Int) (h0 : 0 ≤ q) (h1 : q ≤ 1099511627776) : laws_markCommandS.f (xs.length + 21) xs q = some (q + 4 * (xs.length : Int), cmTo xs.length q) := by
  have e := markC_loop xs.length hn q h0 h1 xs.length 0 xs (by omega) rfl (by simp) (xs.length + 21) (by omega)
  unfold laws_markCommandS.f
  simpa using e
theorem laws_markCommandS.M (v : Value) (l : List S31) (q : Int) (w W : World) (B : Aside0 (Below w.heap.size w W)) (R : Aside0 (Ow k31 31 W w.heap.size v l)) (hn : l.length ≤ 2097152) (h0 : 0 ≤ q) (h1 : q ≤ 1099511627776) :
    Calls Try.prog 27 #[v, .int .i64 q] W fun e w' => e = .returned (.int .i64 (q + 4 * (l.length : Int))) ∧ Kd.R k31 31 w' w.heap.size (fun k_ => (some k_ = v.ownBlock ∨ W.heap.size ≤ k_)) v (cmTo l.length q) ∧ Below w.heap.size w w' ∧ Kept W w' (fun k_ => some k_ = v.ownBlock) :=
  laws_markCommandS.calls (l.length + 21) (fun k => some k = v.ownBlock) v l q _ _ w W B.out (Kd.R_tight rfl R.out) (markC l hn q h0 h1)

/-! Marks: what is written into a list of numbers is found there. -/
def upTo (n : Nat) (k : Int) : List Int := (List.range n).map fun (i : Nat) => k + (i : Int)
theorem upTo_length (n : Nat) (k : Int) : (upTo n k).length = n := by simp [upTo]
theorem rdi_nat {l : List Int} {j : Nat} (h : j < l.length) : rd l (j : Int) = l[j] := by
  simp [rd, List.getD_eq_getElem?_getD, List.getElem?_eq_getElem h]
theorem markI_loop (n : Nat) (hn : n ≤ 2097152) (q : Int) (h0 : 0 ≤ q) (h1 : q ≤ 1099511627776) (d : Nat) : ∀ (j : Nat) (xs : List Int), j + d = n → xs.length = n → xs.take j = (upTo n q).take j →
    ∀ k, d + 1 ≤ k → laws_markIntS.l0 k xs (q + (j : Int)) (j : Int) = some (q + (n : Int), upTo n q) := by
  induction d with
  | zero =>
    intro j xs hj hl ht k hk
    obtain ⟨k, rfl⟩ : ∃ i, k = i + 1 := ⟨k - 1, by omega⟩
    simp only [laws_markIntS.l0]
    rw [if_neg (by omega)]
    rw [List.take_of_length_le (by omega), List.take_of_length_le (by rw [upTo_length]; omega)] at ht
    rw [ht, show j = n by omega]
  | succ d ih =>
    intro j xs hj hl ht k hk
    obtain ⟨k, rfl⟩ : ∃ i, k = i + 1 := ⟨k - 1, by omega⟩
    have e := ih (j + 1) (xs.set j (q + (j : Int))) (by omega) (by simpa using hl) (by
      rw [List.take_succ_eq_append_getElem (by simp; omega), List.take_succ_eq_append_getElem (by rw [upTo_length]; omega), ← ht]
      simp [List.take_set_of_le, upTo]) k (by omega)
    simp only [laws_markIntS.l0]
    rw [if_pos (by omega), if_pos (by omega), w64 (x := q + (j : Int) + 1) (by omega) (by omega), w64 (x := (j : Int) + 1) (by omega) (by omega)]
    rw [show q + (j : Int) + 1 = q + ((j + 1 : Nat) : Int) by omega]
    exact e
theorem markI (xs : List Int) (hn : xs.length ≤ 2097152) (q : Int) (h0 : 0 ≤ q) (h1 : q ≤ 1099511627776) : laws_markIntS.f (xs.length + 21) xs q = some (q + (xs.length : Int), upTo xs.length q) := by
  have e := markI_loop xs.length hn q h0 h1 xs.length 0 xs (by omega) rfl (by simp) (xs.length + 21) (by omega)
  unfold laws_markIntS.f
  simpa using e
theorem heldI_loop (n : Nat) (hn : n ≤ 2097152) (q : Int) (h0 : 0 ≤ q) (h1 : q ≤ 1099511627776) (d : Nat) : ∀ (j : Nat), j + d = n →
    ∀ k, d + 1 ≤ k → laws_heldIntS.l0 k (upTo n q) (q + (j : Int)) (j : Int) = some (q + (n : Int)) := by
  induction d with
  | zero =>
    intro j hj k hk
    obtain ⟨k, rfl⟩ : ∃ i, k = i + 1 := ⟨k - 1, by omega⟩
    simp only [laws_heldIntS.l0]
    rw [if_neg (by rw [upTo_length]; omega), show j = n by omega]
  | succ d ih =>
    intro j hj k hk
    obtain ⟨k, rfl⟩ : ∃ i, k = i + 1 := ⟨k - 1, by omega⟩
    have e := ih (j + 1) (by omega) k (by omega)
    simp only [laws_heldIntS.l0]
    rw [if_pos (by rw [upTo_length]; omega), if_pos (by omega), rdi_nat (by rw [upTo_length]; omega)]
    rw [if_pos (by simp [upTo]), w64 (x := q + (j : Int) + 1) (by omega) (by omega), w64 (x := (j : Int) + 1) (by omega) (by omega)]
    rw [show q + (j : Int) + 1 = q + ((j + 1 : Nat) : Int) by omega]
    exact e
theorem heldI (n : Nat) (hn : n ≤ 2097152) (q : Int) (h0 : 0 ≤ q) (h1 : q ≤ 1099511627776) : laws_heldIntS.f (n + 21) (upTo n q) q = some (q + (n : Int)) := by
  have e := heldI_loop n hn q h0 h1 n 0 (by omega) (n + 21) (by omega)
  unfold laws_heldIntS.f
  simpa using e
theorem eqI_loop (xs : List Int) (hn : xs.length ≤ 2097152) (d : Nat) : ∀ (j : Nat), j + d = xs.length → ∀ k, d + 1 ≤ k → laws_eqIntS.l0 k xs xs (j : Int) = some true := by
  induction d with
  | zero =>
    intro j hj k hk
    obtain ⟨k, rfl⟩ : ∃ i, k = i + 1 := ⟨k - 1, by omega⟩
    simp only [laws_eqIntS.l0]
    rw [if_neg (by omega)]
  | succ d ih =>
    intro j hj k hk
    obtain ⟨k, rfl⟩ : ∃ i, k = i + 1 := ⟨k - 1, by omega⟩
    have e := ih (j + 1) (by omega) k (by omega)
    simp only [laws_eqIntS.l0]
    rw [if_pos (by omega), if_pos (by omega), if_pos (by omega), w64 (by omega) (by omega)]
    simpa using e
theorem eqI (xs : List Int) (hn : xs.length ≤ 2097152) : laws_eqIntS.f (xs.length + 21) xs xs = some true := by
  unfold laws_eqIntS.f
  rw [if_pos (by omega)]
  simpa using eqI_loop xs hn xs.length 0 (by omega) (xs.length + 21) (by omega)
theorem dnB {P : Program} {F : FuncId} {args : Array Value} {W : World} {v : Value} (c : Calls P F args W fun e w' => e = .returned v ∧ Drawn0 W w') : Calls P F args W fun e w' => e = .returned v ∧ Below W.heap.size W w' :=
  c.mono (by rintro e W' ⟨h1, h2⟩; exact ⟨h1, h2.below⟩)
theorem laws_markIntS.M (v : Value) (l : List Int) (q : Int) (w W : World) (B : Aside0 (Below w.heap.size w W)) (R : Aside0 (Ow (Kd.int .i64) 3 W w.heap.size v l)) (hn : l.length ≤ 2097152) (h0 : 0 ≤ q) (h1 : q ≤ 1099511627776) :
    Calls Try.prog 28 #[v, .int .i64 q] W fun e w' => e = .returned (.int .i64 (q + (l.length : Int))) ∧ Kd.R (Kd.int .i64) 3 w' w.heap.size (fun k_ => (some k_ = v.ownBlock ∨ W.heap.size ≤ k_)) v (upTo l.length q) ∧ Below w.heap.size w w' ∧ Kept W w' (fun k_ => some k_ = v.ownBlock) :=
  laws_markIntS.calls (l.length + 21) (fun k => some k = v.ownBlock) v l q _ _ w W B.out (Kd.R_tight rfl R.out) (markI l hn q h0 h1)
theorem laws_heldIntS.M2 (A : Option Addr) (c : Nat) (l : List Int) (q : Int) (W : World) (hr : Kd.C (Kd.int .i64) W A (upTo l.length q).length (upTo l.length q)) (hc : (upTo l.length q).length ≤ c) (hn : l.length ≤ 2097152) (h0 : 0 ≤ q) (h1 : q ≤ 1099511627776) :
    Calls Try.prog 29 #[.slice A l.length c, .int .i64 q] W fun e w' => e = .returned (.int .i64 (q + (l.length : Int))) ∧ Below W.heap.size W w' := by
  have h := dnB (laws_heldIntS.calls (l.length + 21) A c (upTo l.length q) q _ W hr hc (heldI l.length hn q h0 h1))
  rwa [upTo_length] at h
theorem laws_eqIntS.M (A0 : Option Addr) (c0 : Nat) (A1 : Option Addr) (c1 : Nat) (l : List Int) (W : World) (h0 : Kd.C (Kd.int .i64) W A0 l.length l) (hc0 : l.length ≤ c0) (h1 : Kd.C (Kd.int .i64) W A1 l.length l) (hc1 : l.length ≤ c1) (hn : l.length ≤ 2097152) :
    Calls Try.prog 25 #[.slice A0 l.length c0, .slice A1 l.length c1] W fun e w' => e = .returned (.bool true) ∧ Below W.heap.size W w' :=
  dnB (laws_eqIntS.calls (l.length + 21) A0 c0 l A1 c1 l true W h0 hc0 h1 hc1 (eqI l hn))


theorem laws_FnExactRunCommands.M (A0 : Option Addr) (c0 : Nat) (l : List S70) (A1 : Option Addr) (c1 : Nat) (cs : List S24) (w : World) (hr0 : Kd.C k70 w A0 l.length l) (hc0 : l.length ≤ c0) (hr1 : Kd.C k24 w A1 cs.length cs) (hc1 : cs.length ≤ c1) (hs : (∀ y ∈ l, y.f0.size ≤ 9223372036854775807) ∧ ∀ y ∈ cs, y.f1.size ≤ 9223372036854775807) : Calls Try.prog 5 #[.slice A0 l.length c0, .slice A1 cs.length c1] w fun e w' => e = .returned (.bool true) ∧ Below w.heap.size w w' := by
  have B := Aside0.mk (Below.refl w.heap.size w)
  have hu := Try.underlying24
  obtain ⟨hps, hcs⟩ := hs
  have HPS := Aside0.mk hps
  have HCS := Aside0.mk hcs
  have HR0 := Aside0.mk hr0
  have HR1 := Aside0.mk hr1
  clear hr0 hc0 hr1 hc1 hps hcs
  obtain ⟨qs, hqs⟩ : ∃ qs, l.map prOf = qs := ⟨_, rfl⟩
  obtain ⟨us, hus⟩ : ∃ us, cs.map cmOf = us := ⟨_, rfl⟩
  have hlq1 : qs.length ≤ l.length := by rw [← hqs, List.length_map]; exact Nat.le_refl _
  have hlq2 : us.length ≤ cs.length := by rw [← hus, List.length_map]; exact Nat.le_refl _
  obtain ⟨hm1, hm2⟩ := runM_len qs us
  have HQS := Aside0.mk hqs
  have HUS := Aside0.mk hus
  clear hqs hus
  go_enter Try.func5, Try.ntmps5
  go_wp2_with (first
    | (go_at_call 8; with_reducible refine cx (laws_szPairS.M _ _ l 1048576 w (cb HR0 B) (by omega) HPS.out) B fun v1 hv1 w1 hb B => ?_; clear hb)
    | (go_at_call 21; with_reducible refine cx (laws_szCommandS.M _ _ cs v1 w1 (cb HR1 B) (by omega) HCS.out) B fun v2 hv2 w2 hb B => ?_; clear hb)
    | (go_at_call 11; with_reducible refine cr (laws_toPairS.M _ _ l qs w2 (cb HR0 B) (by omega) HQS.out) B fun AP3 kP3 w3 hb B RP3 QP3 => ?_; clear QP3; clear hb)
    | (go_at_call 23; with_reducible refine cr (laws_toCommandS.M _ _ cs us w3 (cb HR1 B) (by omega) HUS.out) B fun AC4 kC4 w4 hb B RC4 QC4 => ?_; have DP3_C4 := fr QC4 RP3; replace RP3 := rn RP3 hb; clear QC4; clear hb)
    | (go_at_call 22; with_reducible refine c2r (spec_RunCommands.M _ _ qs _ _ us w4 (rc RP3) (rl RP3) (rc RC4) (rl RC4)) B fun AP5 kP5 AN5 kN5 w5 hb B RP5 QP5 RN5 QN5 => ?_; have DP3_P5 := fr QP5 RP3; have DC4_P5 := fr QP5 RC4; have DP3_N5 := fr QN5 RP3; have DC4_N5 := fr QN5 RC4; have DP5_N5 := Aside0.mk (dty RP5 RN5 (by decide)); clear QP5 QN5; clear hb)
    | (go_at_call 11; with_reducible refine cr (laws_toPairS.M _ _ l qs w5 (cb HR0 B) (by omega) HQS.out) B fun AP6 kP6 w6 hb B RP6 QP6 => ?_; have DP5_P6 := fr QP6 RP5; have DN5_P6 := fr QP6 RN5; replace RP5 := rn RP5 hb; replace RN5 := rn RN5 hb; clear QP6; clear hb)
    | (go_at_call 23; with_reducible refine cr (laws_toCommandS.M _ _ cs us w6 (cb HR1 B) (by omega) HUS.out) B fun AC7 kC7 w7 hb B RC7 QC7 => ?_; have DP5_C7 := fr QC7 RP5; have DN5_C7 := fr QC7 RN5; have DP6_C7 := fr QC7 RP6; replace RP5 := rn RP5 hb; replace RN5 := rn RN5 hb; replace RP6 := rn RP6 hb; clear QC7; clear hb)
    | (go_at_call 24; with_reducible refine c2r (impl_RunCommands.M _ _ qs _ _ us w7 (rc RP6) (rl RP6) (rc RC7) (rl RC7)) B fun AP8 kP8 AN8 kN8 w8 hb B RP8 QP8 RN8 QN8 => ?_; have DP5_P8 := fr QP8 RP5; have DN5_P8 := fr QP8 RN5; have DP6_P8 := fr QP8 RP6; have DC7_P8 := fr QP8 RC7; have DP5_N8 := fr QN8 RP5; have DN5_N8 := fr QN8 RN5; have DP6_N8 := fr QN8 RP6; have DC7_N8 := fr QN8 RC7; have DP8_N8 := Aside0.mk (dty RP8 RN8 (by decide)); replace RP5 := rn RP5 hb; replace RN5 := rn RN5 hb; replace RP6 := rn RP6 hb; replace RC7 := rn RC7 hb; clear QP8 QN8; clear hb)
    | (go_at_call 14; with_reducible refine cl (laws_eqPairS.M _ _ _ _ (runM qs us).1 w8 (rc RP8) (rc RP5)) B fun w9 hb B => ?_; replace RP5 := rn RP5 hb; replace RN5 := rn RN5 hb; replace RP6 := rn RP6 hb; replace RC7 := rn RC7 hb; replace RP8 := rn RP8 hb; replace RN8 := rn RN8 hb; clear hb)
    | (go_at_call 25; with_reducible refine cl (laws_eqIntS.M _ _ _ _ (runM qs us).2 w9 (rc RN8) (rl RN8) (rc RN5) (rl RN5) (by omega)) B fun w10 hb B => ?_; replace RP5 := rn RP5 hb; replace RN5 := rn RN5 hb; replace RP6 := rn RP6 hb; replace RC7 := rn RC7 hb; replace RP8 := rn RP8 hb; replace RN8 := rn RN8 hb; clear hb)
    | (go_at_call 11; with_reducible refine cr (laws_toPairS.M _ _ l qs w10 (cb HR0 B) (by omega) HQS.out) B fun AP11 kP11 w11 hb B RP11 QP11 => ?_; have DP5_P11 := fr QP11 RP5; have DN5_P11 := fr QP11 RN5; have DP6_P11 := fr QP11 RP6; have DC7_P11 := fr QP11 RC7; have DP8_P11 := fr QP11 RP8; have DN8_P11 := fr QP11 RN8; replace RP5 := rn RP5 hb; replace RN5 := rn RN5 hb; replace RP6 := rn RP6 hb; replace RC7 := rn RC7 hb; replace RP8 := rn RP8 hb; replace RN8 := rn RN8 hb; clear QP11; clear hb)
    | (go_at_call 14; with_reducible refine cl (laws_eqPairS.M _ _ _ _ qs w11 (rc RP6) (rc RP11)) B fun w12 hb B => ?_; replace RP5 := rn RP5 hb; replace RN5 := rn RN5 hb; replace RP6 := rn RP6 hb; replace RC7 := rn RC7 hb; replace RP8 := rn RP8 hb; replace RN8 := rn RN8 hb; clear hb)
    | (go_at_call 23; with_reducible refine cr (laws_toCommandS.M _ _ cs us w12 (cb HR1 B) (by omega) HUS.out) B fun AC13 kC13 w13 hb B RC13 QC13 => ?_; have DP5_C13 := fr QC13 RP5; have DN5_C13 := fr QC13 RN5; have DP6_C13 := fr QC13 RP6; have DC7_C13 := fr QC13 RC7; have DP8_C13 := fr QC13 RP8; have DN8_C13 := fr QC13 RN8; replace RP5 := rn RP5 hb; replace RN5 := rn RN5 hb; replace RP6 := rn RP6 hb; replace RC7 := rn RC7 hb; replace RP8 := rn RP8 hb; replace RN8 := rn RN8 hb; clear QC13; clear hb)
    | (go_at_call 26; with_reducible refine cl (laws_eqCommandS.M _ _ _ _ us w13 (rc RC7) (rc RC13)) B fun w14 hb B => ?_; replace RP5 := rn RP5 hb; replace RN5 := rn RN5 hb; replace RP6 := rn RP6 hb; replace RC7 := rn RC7 hb; replace RP8 := rn RP8 hb; replace RN8 := rn RN8 hb; clear hb)
    | (go_at_call 15; with_reducible refine cm (laws_markPairS.M _ qs 1 w w14 B RP6 (by omega) (by omega) (by omega)) fun w15 hk B RX => ?_; replace RP5 := rkp RP5 rfl hk (fun k a b => DP5_P6.out k b a); replace RN5 := rkp RN5 rfl hk (fun k a b => DN5_P6.out k b a); replace RC7 := rkp RC7 rfl hk DP6_C7.out; replace RP8 := rkp RP8 rfl hk DP6_P8.out; replace RN8 := rkp RN8 rfl hk DP6_N8.out; clear RX hk; skip)
    | (go_at_call 27; with_reducible refine cm (laws_markCommandS.M _ us (1 + 2 * (qs.length : Int)) w w15 B RC7 (by omega) (by omega) (by omega)) fun w16 hk B RX => ?_; replace RP5 := rkp RP5 rfl hk (fun k a b => DP5_C7.out k b a); replace RN5 := rkp RN5 rfl hk (fun k a b => DN5_C7.out k b a); replace RP8 := rkp RP8 rfl hk DC7_P8.out; replace RN8 := rkp RN8 rfl hk DC7_N8.out; clear RX hk; skip)
    | (go_at_call 14; with_reducible refine cl (laws_eqPairS.M _ _ _ _ (runM qs us).1 w16 (rc RP8) (rc RP5)) B fun w17 hb B => ?_; replace RP5 := rn RP5 hb; replace RN5 := rn RN5 hb; replace RP8 := rn RP8 hb; replace RN8 := rn RN8 hb; clear hb)
    | (go_at_call 25; with_reducible refine cl (laws_eqIntS.M _ _ _ _ (runM qs us).2 w17 (rc RN8) (rl RN8) (rc RN5) (rl RN5) (by omega)) B fun w18 hb B => ?_; replace RP5 := rn RP5 hb; replace RN5 := rn RN5 hb; replace RP8 := rn RP8 hb; replace RN8 := rn RN8 hb; clear hb)
    | (go_at_call 15; with_reducible refine cm (laws_markPairS.M _ (runM qs us).1 1 w w18 B RP8 (by omega) (by omega) (by omega)) fun w19 hk B RX => ?_; replace RP5 := rkp RP5 rfl hk (fun k a b => DP5_P8.out k b a); replace RN5 := rkp RN5 rfl hk (fun k a b => DN5_P8.out k b a); replace RN8 := rkp RN8 rfl hk DP8_N8.out; replace RP8 := RX; clear hk; skip)
    | (go_at_call 28; with_reducible refine cm (laws_markIntS.M _ (runM qs us).2 (1 + 2 * ((runM qs us).1.length : Int)) w w19 B RN8 (by omega) (by omega) (by omega)) fun w20 hk B RX => ?_; replace RP5 := rkp RP5 rfl hk (fun k a b => DP5_N8.out k b a); replace RN5 := rkp RN5 rfl hk (fun k a b => DN5_N8.out k b a); replace RP8 := rkp RP8 rfl hk (fun k a b => DP8_N8.out k b a); replace RN8 := RX; clear hk; skip)
    | (go_at_call 16; with_reducible refine cl (laws_heldPairS.M2 _ _ (runM qs us).1 1 w20 (rc RP8) (rl2 RP8) (by omega) (by omega) (by omega)) B fun w21 hb B => ?_; replace RP5 := rn RP5 hb; replace RN5 := rn RN5 hb; replace RP8 := rn RP8 hb; replace RN8 := rn RN8 hb; clear hb)
    | (go_at_call 29; with_reducible refine cl (laws_heldIntS.M2 _ _ (runM qs us).2 (1 + 2 * ((runM qs us).1.length : Int)) w21 (rc RN8) (rl2 RN8) (by omega) (by omega) (by omega)) B fun w22 hb B => ?_; replace RP5 := rn RP5 hb; replace RN5 := rn RN5 hb; replace RP8 := rn RP8 hb; replace RN8 := rn RN8 hb; clear hb)
    | (go_at_call 11; with_reducible refine cr (laws_toPairS.M _ _ l qs w22 (cb HR0 B) (by omega) HQS.out) B fun AP23 kP23 w23 hb B RP23 QP23 => ?_; have DP5_P23 := fr QP23 RP5; have DN5_P23 := fr QP23 RN5; have DP8_P23 := fr QP23 RP8; have DN8_P23 := fr QP23 RN8; replace RP5 := rn RP5 hb; replace RN5 := rn RN5 hb; replace RP8 := rn RP8 hb; replace RN8 := rn RN8 hb; clear QP23; clear hb)
    | (go_at_call 23; with_reducible refine cr (laws_toCommandS.M _ _ cs us w23 (cb HR1 B) (by omega) HUS.out) B fun AC24 kC24 w24 hb B RC24 QC24 => ?_; have DP5_C24 := fr QC24 RP5; have DN5_C24 := fr QC24 RN5; have DP8_C24 := fr QC24 RP8; have DN8_C24 := fr QC24 RN8; have DP23_C24 := fr QC24 RP23; replace RP5 := rn RP5 hb; replace RN5 := rn RN5 hb; replace RP8 := rn RP8 hb; replace RN8 := rn RN8 hb; replace RP23 := rn RP23 hb; clear QC24; clear hb)
    | (go_at_call 24; with_reducible refine c2r (impl_RunCommands.M _ _ qs _ _ us w24 (rc RP23) (rl RP23) (rc RC24) (rl RC24)) B fun AP25 kP25 AN25 kN25 w25 hb B RP25 QP25 RN25 QN25 => ?_; have DP5_P25 := fr QP25 RP5; have DN5_P25 := fr QP25 RN5; have DP8_P25 := fr QP25 RP8; have DN8_P25 := fr QP25 RN8; have DP23_P25 := fr QP25 RP23; have DC24_P25 := fr QP25 RC24; have DP5_N25 := fr QN25 RP5; have DN5_N25 := fr QN25 RN5; have DP8_N25 := fr QN25 RP8; have DN8_N25 := fr QN25 RN8; have DP23_N25 := fr QN25 RP23; have DC24_N25 := fr QN25 RC24; have DP25_N25 := Aside0.mk (dty RP25 RN25 (by decide)); replace RP5 := rn RP5 hb; replace RN5 := rn RN5 hb; replace RP8 := rn RP8 hb; replace RN8 := rn RN8 hb; clear QP25 QN25; clear hb)
    | (go_at_call 14; with_reducible refine cl (laws_eqPairS.M _ _ _ _ (runM qs us).1 w25 (rc RP25) (rc RP5)) B fun w26 hb B => ?_; replace RN5 := rn RN5 hb; replace RP8 := rn RP8 hb; replace RN8 := rn RN8 hb; replace RN25 := rn RN25 hb; clear hb)
    | (go_at_call 25; with_reducible refine cl (laws_eqIntS.M _ _ _ _ (runM qs us).2 w26 (rc RN25) (rl RN25) (rc RN5) (rl RN5) (by omega)) B fun w27 hb B => ?_; replace RP8 := rn RP8 hb; replace RN8 := rn RN8 hb; clear hb)
    | (go_at_call 16; with_reducible refine cl (laws_heldPairS.M2 _ _ (runM qs us).1 1 w27 (rc RP8) (rl2 RP8) (by omega) (by omega) (by omega)) B fun w28 hb B => ?_; replace RN8 := rn RN8 hb; clear hb)
    | (go_at_call 29; with_reducible refine cl (laws_heldIntS.M2 _ _ (runM qs us).2 (1 + 2 * ((runM qs us).1.length : Int)) w28 (rc RN8) (rl2 RN8) (by omega) (by omega) (by omega)) B fun w29 hb B => ?_; clear hb))
  all_goals try (go_ret; exact ⟨rfl, B.out⟩)
def laws_FnExactRunCommands.f (k : Nat) (l : List S70) (cs : List S24) : Option Bool := if (∀ y ∈ l, y.f0.size ≤ 9223372036854775807) ∧ ∀ y ∈ cs, y.f1.size ≤ 9223372036854775807 then some true else none
theorem laws_FnExactRunCommands.calls (k : Nat) (A0 : Option Addr) (c0 : Nat) (l : List S70) (A1 : Option Addr) (c1 : Nat) (cs : List S24) (r : Bool) (w : World) (hr0 : Kd.C k70 w A0 l.length l) (hc0 : l.length ≤ c0) (hr1 : Kd.C k24 w A1 cs.length cs) (hc1 : cs.length ≤ c1) (h : laws_FnExactRunCommands.f k l cs = some r) : Calls Try.prog 5 #[.slice A0 l.length c0, .slice A1 cs.length c1] w fun e w' => e = .returned (.bool r) ∧ Below w.heap.size w w' := by
  unfold laws_FnExactRunCommands.f at h
  split at h
  · rename_i hc
    obtain rfl := Option.some.inj h
    exact laws_FnExactRunCommands.M A0 c0 l A1 c1 cs w hr0 hc0 hr1 hc1 hc
  · cases h

end Go.Proofs.Ythfmpcaflplnbaa.PFnExactRunCommands
