/- Walks over models, part 0: base nums strs keys ivm iv has inside prsm sesm stm spairs sses scut sstate keyval ipairs keyseq ises icut istate alive rows nbox c2r rdr drawn rdv place splace sput putlen rdpairs sputm. -/
import Derived.Test.YtenfiihcdhnamaaPFnStateValidx0
import Derived.Deep.RegionHeld3
import Derived.Lib.Strings
import Derived.Laws.BytesArg
import Derived.Test.YtenfiihcdhnamaaPFnStateValidx43
import Derived.Test.YtenfiihcdhnamaaPFnStateValidx22
import Derived.Test.YtenfiihcdhnamaaPFnStateValidx23
import Derived.Test.YtenfiihcdhnamaaPFnStateValidx38
import Derived.Test.YtenfiihcdhnamaaPFnStateValidx30
import Derived.Test.YtenfiihcdhnamaaPFnStateValidx29
namespace Go.Proofs.Ytenfiihcdhnamaa.PFnStateValid
open Go.RowKit Go.Proofs.YtenfiihcdhnamaaW.PrintWords Go.Proofs.YtenfiihcdhnamaaW.PrintLast Go.Proofs.YtenfiihcdhnamaaW.PrintMore
set_option linter.unusedVariables false
set_option linter.unusedSimpArgs false
set_option maxHeartbeats 4000000
set_option maxRecDepth 100000
def bits (n m : Nat) : Array Bool := ((List.range n).map fun i => m.testBit i).toArray
/-! Words: a call by its contract, boxes and rows carried on. -/
section
variable {P : Program} {F : FuncId} {args : Array Value} {w W W' : World} {v : Value} {Q : Ending → World → Prop}
theorem cl (c : Calls P F args W fun e w' => e = .returned v ∧ Below W.heap.size W w') (B : Aside0 (Below w.heap.size w W))
    (h : ∀ W', Below W.heap.size W W' → Aside0 (Below w.heap.size w W') → Q (.returned v) W') : Calls P F args W Q :=
  c.mono (by rintro e W' ⟨rfl, hb⟩; exact h W' hb ⟨below_step B.out hb⟩)
theorem cx {α : Type} {f : α → Value} {p : α → Prop} (c : Calls P F args W fun e w' => ∃ x, e = .returned (f x) ∧ p x ∧ Below W.heap.size W w') (B : Aside0 (Below w.heap.size w W))
    (h : ∀ x, p x → ∀ W', Below W.heap.size W W' → Aside0 (Below w.heap.size w W') → Q (.returned (f x)) W') : Calls P F args W Q :=
  c.mono (by rintro e W' ⟨x, rfl, hx, hb⟩; exact h x hx W' hb ⟨below_step B.out hb⟩)
theorem clv {v v' : Value} (c : Calls P F args W fun e w' => e = .returned v ∧ Below W.heap.size W w') (hv : v = v') : Calls P F args W fun e w' => e = .returned v' ∧ Below W.heap.size W w' := hv ▸ c
theorem drewB {v : Value} (c : Calls P F args W fun e w' => e = .returned v ∧ ∃ n, w' = W.drewN n) : Calls P F args W fun e w' => e = .returned v ∧ Below W.heap.size W w' :=
  c.mono (by rintro e W' ⟨rfl, n, rfl⟩; exact ⟨rfl, pw_below_drewN (Below.refl _ _) n⟩)
variable {α β : Type} {d : Kd α} {d' : Kd β} {e e' b : Nat} {xs : List α} {ys : List β} {f : Value → Value}
/-- what a row of a call's own is known by -/
def Ow (d : Kd α) (e : Nat) (W : World) (b : Nat) (v : Value) (xs : List α) : Prop := Kd.R d e W b (fun _ => True) v xs
/-- the row lies in a block that was not there before -/
def Fr (W : World) (v : Value) : Prop := ∀ k, v.ownBlock = some k → W.heap.size ≤ k
theorem cr (c : Calls P F args W fun r w' => ∃ v0, r = .returned (f v0) ∧ Kd.R d e w' W.heap.size (fun _ => True) v0 xs ∧ Below W.heap.size W w') (B : Aside0 (Below w.heap.size w W))
    (h : ∀ A kk W', Below W.heap.size W W' → Aside0 (Below w.heap.size w W') → Aside0 (Ow d e W' w.heap.size (.slice A xs.length kk) xs) → Aside0 (Fr W (.slice A xs.length kk)) → Q (.returned (f (.slice A xs.length kk))) W') : Calls P F args W Q :=
  c.mono (by
    rintro r W' ⟨v0, rfl, ho, hb⟩
    obtain ⟨A, kk, rfl⟩ := Kd.R_slice ho
    exact h A kk W' hb ⟨below_step B.out hb⟩ ⟨Kd.R_lower ho (below_size B.out)⟩ ⟨fun k hk => Kd.R_base ho k hk⟩)
theorem crz (c : Calls P F args W fun r w' => ∃ v0, r = .returned (f v0) ∧ Kd.R d e w' W.heap.size (fun _ => True) v0 xs ∧ Below W.heap.size W w') (B : Aside0 (Below w.heap.size w W))
    (h : ∀ zs, xs = zs → ∀ A kk W', Below W.heap.size W W' → Aside0 (Below w.heap.size w W') → Aside0 (Ow d e W' w.heap.size (.slice A zs.length kk) zs) → Aside0 (Fr W (.slice A zs.length kk)) → Q (.returned (f (.slice A zs.length kk))) W') : Calls P F args W Q := cr c B (h xs rfl)
theorem bn {g : Nat} {o : Obj} (F : Aside0 (W.heap[g]? = some o)) (hb : Below W.heap.size W W') : Aside0 (W'.heap[g]? = some o) := ⟨blk_below F.out hb⟩
theorem rn {v : Value} (R : Aside0 (Ow d e W b v xs)) (hb : Below W.heap.size W W') : Aside0 (Ow d e W' b v xs) := ⟨Kd.R_below R.out hb⟩
theorem rc {A : Option Addr} {n c : Nat} (R : Aside0 (Ow d e W b (.slice A n c) xs)) : Kd.C d W A xs.length xs := (Kd.R_reads' R.out).2.2
theorem rl {A : Option Addr} {c : Nat} (R : Aside0 (Ow d e W b (.slice A xs.length c) xs)) : xs.length ≤ c := (Kd.R_reads' R.out).2.1
theorem cb {A : Option Addr} {n : Nat} (H : Aside0 (Kd.C d w A n xs)) (B : Aside0 (Below w.heap.size w W)) : Kd.C d W A n xs := Kd.C_below H.out B.out
theorem cs1 {g t : Nat} {a : Value} (F : Aside0 (W.heap[g]? = some (.cells #[a] t (0, 0)))) : W.cell? ⟨g, 0, none⟩ = some a := (blk_cell F.out 0).trans rfl
theorem cs2 {g t : Nat} {a b : Value} (F : Aside0 (W.heap[g]? = some (.cells #[a, b] t (0, 0)))) : W.cell? ⟨g, 0, none⟩ = some a ∧ W.cell? ⟨g, 1, none⟩ = some b := ⟨(blk_cell F.out 0).trans rfl, (blk_cell F.out 1).trans rfl⟩
theorem cs3 {g t : Nat} {a b c : Value} (F : Aside0 (W.heap[g]? = some (.cells #[a, b, c] t (0, 0)))) : W.cell? ⟨g, 0, none⟩ = some a ∧ W.cell? ⟨g, 1, none⟩ = some b ∧ W.cell? ⟨g, 2, none⟩ = some c := ⟨(blk_cell F.out 0).trans rfl, (blk_cell F.out 1).trans rfl, (blk_cell F.out 2).trans rfl⟩
theorem cs4 {g t : Nat} {a b c d : Value} (F : Aside0 (W.heap[g]? = some (.cells #[a, b, c, d] t (0, 0)))) : W.cell? ⟨g, 0, none⟩ = some a ∧ W.cell? ⟨g, 1, none⟩ = some b ∧ W.cell? ⟨g, 2, none⟩ = some c ∧ W.cell? ⟨g, 3, none⟩ = some d := ⟨(blk_cell F.out 0).trans rfl, (blk_cell F.out 1).trans rfl, (blk_cell F.out 2).trans rfl, (blk_cell F.out 3).trans rfl⟩
theorem cs6 {g t : Nat} {a b c d x y : Value} (F : Aside0 (W.heap[g]? = some (.cells #[a, b, c, d, x, y] t (0, 0)))) : W.cell? ⟨g, 0, none⟩ = some a ∧ W.cell? ⟨g, 1, none⟩ = some b ∧ W.cell? ⟨g, 2, none⟩ = some c ∧ W.cell? ⟨g, 3, none⟩ = some d ∧ W.cell? ⟨g, 4, none⟩ = some x ∧ W.cell? ⟨g, 5, none⟩ = some y :=
  ⟨(blk_cell F.out 0).trans rfl, (blk_cell F.out 1).trans rfl, (blk_cell F.out 2).trans rfl, (blk_cell F.out 3).trans rfl, (blk_cell F.out 4).trans rfl, (blk_cell F.out 5).trans rfl⟩
theorem fz {g t : Nat} {cs : Array Value} (F : Aside0 (W.heap[g]? = some (.cells cs t (0, 0)))) (j : Nat) : W.frozen? ⟨g, j, none⟩ = false := blk_frozen F.out j
theorem cz2 {g t : Nat} {a b : Value} (F : Aside0 (W.heap[g]? = some (.cells #[a, b] t (0, 0)))) : W.cell? ⟨g, 0, none⟩ = some a ∧ W.cell? ⟨g, 1, none⟩ = some b ∧ W.frozen? ⟨g, 0, none⟩ = false ∧ W.frozen? ⟨g, 1, none⟩ = false :=
  ⟨(blk_cell F.out 0).trans rfl, (blk_cell F.out 1).trans rfl, fz F 0, fz F 1⟩
theorem cz3 {g t : Nat} {a b c : Value} (F : Aside0 (W.heap[g]? = some (.cells #[a, b, c] t (0, 0)))) : W.cell? ⟨g, 0, none⟩ = some a ∧ W.cell? ⟨g, 1, none⟩ = some b ∧ W.cell? ⟨g, 2, none⟩ = some c ∧ W.frozen? ⟨g, 0, none⟩ = false ∧ W.frozen? ⟨g, 1, none⟩ = false ∧ W.frozen? ⟨g, 2, none⟩ = false :=
  ⟨(blk_cell F.out 0).trans rfl, (blk_cell F.out 1).trans rfl, (blk_cell F.out 2).trans rfl, fz F 0, fz F 1, fz F 2⟩
theorem cz4 {g t : Nat} {a b c d : Value} (F : Aside0 (W.heap[g]? = some (.cells #[a, b, c, d] t (0, 0)))) : W.cell? ⟨g, 0, none⟩ = some a ∧ W.cell? ⟨g, 1, none⟩ = some b ∧ W.cell? ⟨g, 2, none⟩ = some c ∧ W.cell? ⟨g, 3, none⟩ = some d ∧ W.frozen? ⟨g, 0, none⟩ = false ∧ W.frozen? ⟨g, 1, none⟩ = false ∧ W.frozen? ⟨g, 2, none⟩ = false ∧ W.frozen? ⟨g, 3, none⟩ = false :=
  ⟨(blk_cell F.out 0).trans rfl, (blk_cell F.out 1).trans rfl, (blk_cell F.out 2).trans rfl, (blk_cell F.out 3).trans rfl, fz F 0, fz F 1, fz F 2, fz F 3⟩
theorem cz6 {g t : Nat} {a b c d x y : Value} (F : Aside0 (W.heap[g]? = some (.cells #[a, b, c, d, x, y] t (0, 0)))) : W.cell? ⟨g, 0, none⟩ = some a ∧ W.cell? ⟨g, 1, none⟩ = some b ∧ W.cell? ⟨g, 2, none⟩ = some c ∧ W.cell? ⟨g, 3, none⟩ = some d ∧ W.cell? ⟨g, 4, none⟩ = some x ∧ W.cell? ⟨g, 5, none⟩ = some y ∧ W.frozen? ⟨g, 0, none⟩ = false ∧ W.frozen? ⟨g, 1, none⟩ = false ∧ W.frozen? ⟨g, 2, none⟩ = false ∧ W.frozen? ⟨g, 3, none⟩ = false ∧ W.frozen? ⟨g, 4, none⟩ = false ∧ W.frozen? ⟨g, 5, none⟩ = false :=
  ⟨(blk_cell F.out 0).trans rfl, (blk_cell F.out 1).trans rfl, (blk_cell F.out 2).trans rfl, (blk_cell F.out 3).trans rfl, (blk_cell F.out 4).trans rfl, (blk_cell F.out 5).trans rfl, fz F 0, fz F 1, fz F 2, fz F 3, fz F 4, fz F 5⟩
theorem sets_keep (g : Nat) : ∀ (vs : List Value) (j : Nat) (W1 : World), KeepBut W W1 g none → KeepBut W (W1.setCells g j vs) g none
  | [], _, _, h => h
  | v :: r, j, _, h => sets_keep g r (j + 1) _ (h.set_ j v)
theorem sets_below (g : Nat) (hg : w.heap.size ≤ g) : ∀ (vs : List Value) (j : Nat) (W1 : World), Below w.heap.size w W1 → Below w.heap.size w (W1.setCells g j vs)
  | [], _, _, h => h
  | _ :: r, j, _, h => sets_below g hg r (j + 1) _ (below_set h hg)
theorem sets_blk (g t : Nat) (s : List Value) : ∀ (vs l r : List Value) (W1 : World), r.length = vs.length → W1.heap[g]? = some (.cells (l ++ r ++ s).toArray t (0, 0)) → (W1.setCells g l.length vs).heap[g]? = some (.cells (l ++ vs ++ s).toArray t (0, 0))
  | [], l, r, _, hr, h => by
    obtain rfl : r = [] := List.eq_nil_of_length_eq_zero hr
    exact h
  | v :: vs, l, [], _, hr, h => by cases hr
  | v :: vs, l, x :: r, W1, hr, h => by
    have := sets_blk g t s vs (l ++ [v]) r (W1.setCell ⟨g, l.length, none⟩ v) (by simpa using hr) (by
      rw [blk_set h]
      simp)
    simpa [World.setCells] using this
theorem sets_blk' {g t : Nat} {cs : Array Value} (off : Nat) (ns vs : List Value) (hl : cs.toList.take off ++ ns ++ cs.toList.drop (off + ns.length) = vs) (hs : off + ns.length ≤ cs.size) (F : W.heap[g]? = some (.cells cs t (0, 0))) : (W.setCells g off ns).heap[g]? = some (.cells vs.toArray t (0, 0)) := by
  subst hl
  have h1 : (cs.toList.take off).length = off := by rw [List.length_take, Array.length_toList (xs := cs)]; omega
  have := sets_blk g t (cs.toList.drop (off + ns.length)) ns (cs.toList.take off) ((cs.toList.drop off).take ns.length) W (by rw [List.length_take, List.length_drop, Array.length_toList (xs := cs)]; omega) (by
    rw [F]
    congr 1
    congr 1
    rw [List.append_assoc, ← List.drop_drop, List.take_append_drop, List.take_append_drop])
  rwa [h1] at this
variable {ops ops' : Array Oper} {o : Oper} {rest : List Oper} {a : Act} {QE : Exit → Act → World → Prop}
theorem bx (hgd : o.guard = none) {N : Tmp} (hd : o.dst = some N) {cs : Array Value} {t : TypeId} (hrun : (execOp a.eval o).run P W = .ok (.value (.pointer (some ⟨W.heap.size, 0, none⟩))) (W.alloc (.cells cs t (0, 0))))
    (B : Aside0 (Below w.heap.size w W))
    (h : ∀ g w1, Below W.heap.size W w1 → Aside0 (Below w.heap.size w w1) → Aside0 (w1.heap[g]? = some (.cells cs t (0, 0))) → Aside0 (w.heap.size ≤ g) → Aside0 (g = W.heap.size) → wpList P ops QE rest (a.put o.dst (.pointer (some ⟨g, 0, none⟩))) w1) : wpList P ops QE (o :: rest) a W :=
  box_event hgd hd hrun fun g hg w1 hc hb => h g w1 hb ⟨below_step B.out hb⟩ ⟨hc⟩ ⟨hg ▸ below_size B.out⟩ ⟨hg⟩
theorem sx (hgd : o.guard = none) {t t' : TypeId} {p : Tmp} {v : Operand} (ho : o.op = .store t' (.tmp p) v) (hN : o.dst = none) {g : Nat} {cs : Array Value} (off : Nat) (ns vs : List Value) (hrun : (execOp a.eval o).run P W = .ok .skip (W.setCells g off ns))
    (B : Aside0 (Below w.heap.size w W)) (F : Aside0 (W.heap[g]? = some (.cells cs t (0, 0)))) (L : Aside0 (w.heap.size ≤ g)) (hl : cs.toList.take off ++ ns ++ cs.toList.drop (off + ns.length) = vs) (hs : off + ns.length ≤ cs.size)
    (h : ∀ w', KeepBut W w' g none → Aside0 (Below w.heap.size w w') → Aside0 (w'.heap[g]? = some (.cells vs.toArray t (0, 0))) → wpList P ops QE rest a w') : wpList P ops QE (o :: rest) a W :=
  store_event hgd ho hN hrun fun w' hw => by
    subst hw
    exact h _ (sets_keep g ns off W (KeepBut.refl _ _ _)) ⟨sets_below g L.out ns off W B.out⟩ ⟨sets_blk' off ns vs hl hs F.out⟩
theorem sxs {Kc : Act → World → Prop} {g t : Nat} {cs : Array Value} (off : Nat) (ns vs : List Value) (hw : Region.wanted o (yielded ops' a.tmps) = true) (hN : o.dst = none) (hrun : (execOp a.eval o).run P W = .ok .skip (W.setCells g off ns))
    (B : Aside0 (Below w.heap.size w W)) (F : Aside0 (W.heap[g]? = some (.cells cs t (0, 0)))) (L : Aside0 (w.heap.size ≤ g)) (hl : cs.toList.take off ++ ns ++ cs.toList.drop (off + ns.length) = vs) (hs : off + ns.length ≤ cs.size)
    (h : ∀ w', KeepBut W w' g none → Aside0 (Below w.heap.size w w') → Aside0 (w'.heap[g]? = some (.cells vs.toArray t (0, 0))) → Kc (a.put none undef) w') : if Region.wanted o (yielded ops' a.tmps) = true then Oper.wp P o a W Kc QE else Kc (a.put none undef) W := by
  rw [if_pos hw]
  unfold Oper.wp
  rw [hrun]
  show Kc (a.put o.dst undef) _
  rw [hN]
  exact h _ (sets_keep g ns off W (KeepBut.refl _ _ _)) ⟨sets_below g L.out ns off W B.out⟩ ⟨sets_blk' off ns vs hl hs F.out⟩
theorem rg {S : World → Prop} {ds : List Nat} {id n : Nat} (l : Array Bool) (hm : P.follows .mixedOrders = true) (hn : ops'.size = n) (hl : Array.replicate n false = l) (hS : S W) (hd : S W → S W.drew) (B : Aside0 (Below w.heap.size w W))
    (h : ∀ W', Below W.heap.size W W' → Aside0 (Below w.heap.size w W') → S W' → wpAnyLast P .any ops' QE S ds n l a W') : (Code.region id ops' true).wp P QE a W :=
  start_ l hm hn hl (hd hS) fun hH => h _ (below_drew1 (Below.refl _ _)) ⟨below_drew B.out⟩ hH
theorem sk {S : World → Prop} {md : Region.Mode} {ds : List Nat} {i : Nat} {N : Option Tmp} {oi : Oper} {fuel : Nat} {l : Array Bool} (l' : Array Bool) (hi : ops'[i]? = some oi) (hN : oi.dst = N) (hc : anyB md ops' l l' i = true)
    (hQ : ∀ c a w, QE (.panic c) (a.put oi.dst undef) w → QE (.panic c) a w) (hw : Region.wanted oi (yielded ops' a.tmps) = false) (h : wpAnyLast P md ops' QE S ds fuel l' (a.put N undef) W) : wpAnyLast P md ops' QE S ds (fuel + 1) l a W :=
  pure_ l' hi hN hc hQ (Or.inr ⟨hw, rfl⟩) rfl h
theorem pu {S : World → Prop} {md : Region.Mode} {ds : List Nat} {i : Nat} {N : Option Tmp} {oi : Oper} {v : Value} {fuel : Nat} {l : Array Bool} (l' : Array Bool) (hi : ops'[i]? = some oi) (hN : oi.dst = N) (hc : anyB md ops' l l' i = true)
    (hQ : ∀ c a w, QE (.panic c) (a.put oi.dst v) w → QE (.panic c) a w) (hw : Region.wanted oi (yielded ops' a.tmps) = true) (hy : ∀ w, (execOp a.eval oi).run P w = .ok (.value v) w) (h : wpAnyLast P md ops' QE S ds fuel l' (a.put N v) W) : wpAnyLast P md ops' QE S ds (fuel + 1) l a W :=
  pure_ l' hi hN hc hQ (Or.inl ⟨hw, hy⟩) rfl h
theorem pv {S : World → Prop} {md : Region.Mode} {ds : List Nat} (i : Nat) (N : Option Tmp) {oi : Oper} {v : Value} {fuel : Nat} {l : Array Bool} {T : Bool × List (List Nat × List Nat)} (l' : Array Bool) (HT : Aside0 (rtab md ops' = T)) (hc : anyT T l.toList l'.toList i = true) (hi : ops'[i]? = some oi) (hN : oi.dst = N)
    (hQ : ∀ c a w, QE (.panic c) (a.put oi.dst v) w → QE (.panic c) a w) (hw : Region.wanted oi (yielded ops' a.tmps) = true) (hy : ∀ w, (execOp a.eval oi).run P w = .ok (.value v) w) (h : wpAnyLast P md ops' QE S ds fuel l' (a.put N v) W) : wpAnyLast P md ops' QE S ds (fuel + 1) l a W :=
  pure_ l' hi hN (any_of HT.out hc) hQ (Or.inl ⟨hw, hy⟩) rfl h
theorem sv {S : World → Prop} {md : Region.Mode} {ds : List Nat} (i : Nat) (N : Option Tmp) {oi : Oper} {fuel : Nat} {l : Array Bool} {T : Bool × List (List Nat × List Nat)} (l' : Array Bool) (HT : Aside0 (rtab md ops' = T)) (hc : anyT T l.toList l'.toList i = true) (hi : ops'[i]? = some oi) (hN : oi.dst = N)
    (hQ : ∀ c a w, QE (.panic c) (a.put oi.dst undef) w → QE (.panic c) a w) (hw : Region.wanted oi (yielded ops' a.tmps) = false) (h : wpAnyLast P md ops' QE S ds fuel l' (a.put N undef) W) : wpAnyLast P md ops' QE S ds (fuel + 1) l a W :=
  pure_ l' hi hN (any_of HT.out hc) hQ (Or.inr ⟨hw, rfl⟩) rfl h
theorem tv {S : World → Prop} {md : Region.Mode} {ds : List Nat} (i : Nat) (N : Option Tmp) {oi : Oper} {v : Value} {fuel : Nat} {l : Array Bool} {T : Bool × List (List Nat × List Nat)} {U : List Nat} (l' : Array Bool) (HT : Aside0 (rtab md ops' = T)) (HW : Aside0 (waitsOk T.2 U = true)) (hc : takeW T U ds l.toList l'.toList i = true) (hi : ops'[i]? = some oi) (hN : oi.dst = N)
    (hQ : ∀ c a w, QE (.panic c) (a.put oi.dst v) w → QE (.panic c) a w) (hw : Region.wanted oi (yielded ops' a.tmps) = true) (hS : S W) (hy : ∀ w, S w → (execOp a.eval oi).run P w = .ok (.value v) w) (h : wpAnyLast P md ops' QE S ds fuel l' (a.put N v) W) : wpAnyLast P md ops' QE S ds (fuel + 1) l a W :=
  take_ l' hi hN (take_ofW HT.out HW.out hc) hQ (Or.inl ⟨hw, hy⟩) hS rfl h
theorem za {α : Type} (xs : List α) (i : Nat) (x : α) : xs.toArray.setIfInBounds i x = (xs.set i x).toArray := List.setIfInBounds_toArray ..
theorem zb {α : Type} (x y : α) (xs : List α) : (x :: xs).set 0 y = y :: xs := rfl
theorem zc {α : Type} (x y : α) (xs : List α) (n : Nat) : (x :: xs).set (n + 1) y = x :: xs.set n y := rfl
theorem ta {S : World → Prop} {md : Region.Mode} {ds : List Nat} {i : Nat} {N : Option Tmp} {oi : Oper} {v : Value} {fuel : Nat} {l : Array Bool} (l' : Array Bool) (hi : ops'[i]? = some oi) (hN : oi.dst = N) (hc : takeB md ops' ds l l' i = true)
    (hQ : ∀ c a w, QE (.panic c) (a.put oi.dst v) w → QE (.panic c) a w) (hw : Region.wanted oi (yielded ops' a.tmps) = true) (hS : S W) (hy : ∀ w, S w → (execOp a.eval oi).run P w = .ok (.value v) w) (h : wpAnyLast P md ops' QE S ds fuel l' (a.put N v) W) : wpAnyLast P md ops' QE S ds (fuel + 1) l a W :=
  take_ l' hi hN hc hQ (Or.inl ⟨hw, hy⟩) hS rfl h
theorem ne1 {g g' : Nat} {o : Obj} (E : Aside0 (g = W.heap.size)) (F : Aside0 (W.heap[g']? = some o)) : Aside0 (g' ≠ g) := ⟨Nat.ne_of_lt (E.out ▸ blk_lt F.out)⟩
theorem bk {g g' : Nat} {o : Obj} (F : Aside0 (W.heap[g']? = some o)) (hk : KeepBut W W' g none) (N : g' ≠ g) : Aside0 (W'.heap[g']? = some o) := ⟨hk.blk F.out N (by simp)⟩
theorem rk {v : Value} {g t : Nat} {cs : Array Value} (R : Aside0 (Ow d e W b v xs)) (F : Aside0 (W.heap[g]? = some (.cells cs t (0, 0)))) (ht : ∀ q, q ∈ e :: d.E → q ≠ t) (hk : KeepBut W W' g none) : Aside0 (Ow d e W' b v xs) :=
  ⟨Kd.R_mono (Kd.R_keep (Kd.R_types R.out F.out ht) hk (fun _ q => q.2)) (fun _ q => q.1)⟩
end

theorem w64 {x : Int} (h0 : -9223372036854775808 ≤ x) (h1 : x ≤ 9223372036854775807) : wrap64 x = x := by
  unfold wrap64
  omega
theorem rd_drop {xs : List Int} {j : Nat} (h : j < xs.length) : xs.drop j = rd xs (j : Int) :: xs.drop (j + 1) := by
  rw [List.drop_eq_getElem_cons h]
  simp [rd, List.getD_eq_getElem?_getD, List.getElem?_eq_getElem h]
theorem andF {c x r : Bool} (h : (c && x) = r) (hc : c = false) : Ending.returned (Value.bool false) = Ending.returned (.bool r) := by subst h; rw [hc]; rfl
theorem andT {c x r : Bool} (h : (c && x) = r) (hc : c = true) : x = r := by subst h; rw [hc]; rfl
theorem useEq {α : Type} {a b : α} {p : Prop} (h : a = b) (k : a = b → p) : p := k h

/-! Strings compared. -/
theorem less_total : ∀ x y : List UInt8, (Op.bytesLess x y || x == y) = !(Op.bytesLess y x)
  | [], [] => rfl
  | [], _ :: _ => rfl
  | _ :: _, [] => rfl
  | a :: x, b :: y => by
    have ih := less_total x y
    simp only [Op.bytesLess]
    by_cases h : a = b
    · subst h
      simpa using ih
    · have h2 : (a == b) = false := beq_eq_false_iff_ne.mpr h
      have h3 : (b == a) = false := beq_eq_false_iff_ne.mpr (Ne.symm h)
      have h4 : (a :: x == b :: y) = false := beq_eq_false_iff_ne.mpr fun q => h (List.cons.inj q).1
      rw [h2, h3, h4]
      simp only [Bool.false_and, Bool.or_false]
      by_cases hl : a < b
      · have : ¬ b < a := by rw [UInt8.lt_iff_toNat_lt] at *; omega
        simp [hl, this]
      · have : b < a := by
          rw [UInt8.lt_iff_toNat_lt] at *
          have : a.toNat ≠ b.toNat := fun q => h (UInt8.toNat_inj.mp q)
          omega
        simp [hl, this]
theorem leq_str (t : TypeId) (a b : ByteArray) : binOp .leq t (.string a) (.string b) = pure (.bool !(Op.bytesLess b.toList a.toList)) := by
  rw [← less_total]
  simp [binOp, Op.stringOp]
theorem geq_str (t : TypeId) (a b : ByteArray) : binOp .geq t (.string a) (.string b) = pure (.bool !(Op.bytesLess a.toList b.toList)) := by
  simp [binOp, Op.stringOp]
theorem gtr_str (t : TypeId) (a b : ByteArray) : binOp .gtr t (.string a) (.string b) = pure (.bool (Op.bytesLess b.toList a.toList)) := by
  have h : (!(Op.bytesLess a.toList b.toList || a.toList == b.toList)) = Op.bytesLess b.toList a.toList := by rw [less_total, Bool.not_not]
  rw [← h, Bool.not_or]
  simp [binOp, Op.stringOp]
attribute [local go_sem] leq_str geq_str gtr_str

/-! Keys. -/
theorem ba_toList (s : ByteArray) : s.toList = s.data.toList := Lib.toList_data s
theorem ba_inj {s t : ByteArray} (h : s.toList = t.toList) : s = t := by
  rw [ba_toList, ba_toList] at h
  cases s; cases t; simp only [ByteArray.mk.injEq]; exact Array.toList_inj.mp h
theorem str_beq (a b : ByteArray) : (a.toList == b.toList) = decide (a = b) := by
  by_cases h : a = b
  · subst h; simp
  · rw [decide_eq_false h]; exact beq_eq_false_iff_ne.mpr fun q => h (ba_inj q)
theorem nil_iff (s : ByteArray) : s.toList = ([] : List UInt8) ↔ s.size = 0 := by
  rw [ba_toList]
  refine ⟨fun h => ?_, fun h => ?_⟩
  · have := data_length s
    rw [h] at this
    exact this.symm
  · exact List.eq_nil_of_length_eq_zero (by rw [data_length]; exact h)
def lowB (x : Int) : Bool := decide (97 ≤ x) && decide (x ≤ 122)
def keyB (s : ByteArray) : Bool := decide (1 ≤ s.size) && decide (s.size ≤ 4) && (bytesOf s).all lowB
theorem bt_drop' {s : ByteArray} {j : Nat} (h : j < s.size) : (bytesOf s).drop j = bt s (j : Int) :: (bytesOf s).drop (j + 1) := by
  rw [rd_drop (by rw [bytesOf_length]; exact h), rd_bytesOf]
theorem bytesOf_tail (s : ByteArray) : bytesOf (s.extract 1 s.size) = (bytesOf s).drop 1 := by
  unfold bytesOf
  rw [← List.map_drop]
  refine congrArg _ ?_
  rw [ByteArray.data_extract, Array.toList_extract]
  rw [List.extract_eq_take_drop, List.take_of_length_le (by rw [List.length_drop, data_length]; omega)]
def l1B (n lo hi : Int) : Bool := decide (lo ≤ n) && decide (n ≤ hi)
theorem spec_l1In.M (n lo hi : Int) (w : World) : Calls Try.prog 90 #[.int .i64 n, .int .i64 lo, .int .i64 hi] w fun e w' => e = .returned (.bool (l1B n lo hi)) ∧ Below w.heap.size w w' := by
  go_enter Try.func90, Try.ntmps90
  go_wp2
  all_goals go_ret
  all_goals (refine ⟨?_, Below.refl _ _⟩; unfold l1B; simp_all; try omega)
theorem spec_KeyValid.M (a : ByteArray) (w : World) : Calls Try.prog 89 #[.string a] w fun e w' => e = .returned (.bool (keyB a)) ∧ Below w.heap.size w w' := by
  have B := Aside0.mk (Below.refl w.heap.size w)
  obtain ⟨r, hr⟩ : ∃ r, keyB a = r := ⟨_, rfl⟩
  rw [hr]
  unfold keyB at hr
  by_cases hs : 1 ≤ a.size ∧ a.size ≤ 4
  · have hl : l1B (a.size : Int) 1 4 = true := by unfold l1B; simp; omega
    have H := Aside0.mk (show ((bytesOf a).drop 0).all lowB = r by simpa [hs.1, hs.2] using hr)
    clear hr
    go_enter Try.func89, Try.ntmps89
    go_wp2_with (first
      | (go_at_call 90; with_reducible refine cl (clv (spec_l1In.M _ 1 4 _) (congrArg Value.bool hl)) B fun w1 hb B => ?_; clear hb))
    go_loopg [3] (a.size + 1) (fun kx v3 wr => ∃ j : Nat, v3 = .int .i64 (j : Int) ∧ j ≤ a.size ∧ a.size < j + kx ∧ Aside0 (Below w.heap.size w wr) ∧ Aside0 (((bytesOf a).drop j).all lowB = r))
    case atStart => exact ⟨0, rfl, by omega, by omega, B, H⟩
    case round =>
      clear H B
      obtain ⟨j, rfl, hj, hk, B, H⟩ := hrel
      have H := H.out
      by_cases hlt : j < a.size
      · have p := eq_true (show (0 : Int) ≤ (j : Int) by omega)
        have q := eq_true (show (j : Int) < (a.size : Int) by omega)
        have q' := decide_eq_true (show (j : Int) < (a.size : Int) by omega)
        have hx : ((a[j]'hlt).toNat : Int) = bt a (j : Int) := bt_at a (j : Int) (by rw [Int.toNat_natCast]; exact hlt)
        rw [bt_drop' hlt] at H
        simp only [List.all_cons] at H
        generalize bt a (j : Int) = x at *
        obtain ⟨d, rfl⟩ : ∃ d, gk = d + 1 := ⟨gk - 1, by omega⟩
        by_cases hx : lowB x = true
        · have H' := Aside0.mk (show ((bytesOf a).drop (j + 1)).all lowB = r by simpa [hx] using H)
          clear H
          unfold lowB at hx
          simp only [Bool.and_eq_true, decide_eq_true_eq] at hx
          have d1 : decide (x < 97) = false := decide_eq_false (by omega)
          have d2 : decide (122 < x) = false := decide_eq_false (by omega)
          go_wp2
          go_roundg d
          case measure => omega
          case rel => exact ⟨j + 1, congrArg (Value.int .i64) (Int.natCast_succ _).symm, by omega, by omega, B, H'⟩
        · have hr : r = false := by simpa [hx] using H.symm
          subst hr
          clear H
          unfold lowB at hx
          simp only [Bool.and_eq_true, decide_eq_true_eq] at hx
          by_cases h97 : x < 97
          · have d1 : decide (x < 97) = true := decide_eq_true h97
            go_wp2
            go_ret
            exact ⟨by simp, B.out⟩
          · have d1 : decide (x < 97) = false := decide_eq_false h97
            have d2 : decide (122 < x) = true := decide_eq_true (by omega)
            go_wp2
            go_ret
            exact ⟨by simp, B.out⟩
      · have q' := decide_eq_false (show ¬ (j : Int) < (a.size : Int) by omega)
        have hr : r = true := by
          rw [List.drop_of_length_le (by rw [bytesOf_length]; omega)] at H
          simpa using H.symm
        subst hr
        go_wp2
        go_ret
        exact ⟨by simp, B.out⟩
  · have hl : l1B (a.size : Int) 1 4 = false := by unfold l1B; simp; omega
    have hr : r = false := by
      rw [← hr, Bool.and_eq_false_iff, Bool.and_eq_false_iff, decide_eq_false_iff_not, decide_eq_false_iff_not]
      omega
    subst hr
    go_enter Try.func89, Try.ntmps89
    go_wp2_with (first
      | (go_at_call 90; with_reducible refine cl (clv (spec_l1In.M _ 1 4 _) (congrArg Value.bool hl)) B fun w1 hb B => ?_; clear hb))
    go_ret
    exact ⟨by simp, B.out⟩
theorem impl_lettersOnly.M : ∀ (n : Nat) (a : ByteArray) (w : World), a.size = n → Calls Try.prog 108 #[.string a] w fun e w' => e = .returned (.bool ((bytesOf a).all lowB)) ∧ Below w.heap.size w w'
  | 0, a, w, h => by
    have hn : a.toList = [] := (nil_iff a).mpr h
    go_enter Try.func108, Try.ntmps108
    go_wp2
    all_goals (first | go_ret | skip)
    all_goals (first | exact absurd hn (by assumption) | skip)
    refine ⟨?_, Below.refl _ _⟩
    have : bytesOf a = [] := List.eq_nil_of_length_eq_zero (by rw [bytesOf_length]; exact h)
    rw [this]
    rfl
  | n + 1, a, w, h => by
    have B := Aside0.mk (Below.refl w.heap.size w)
    have hn : ¬ a.toList = [] := fun q => by have := (nil_iff a).mp q; omega
    have IH := Aside0.mk (fun W => impl_lettersOnly.M n (a.extract 1 a.size) W (by simp [h]))
    have hb0 := bt_drop' (s := a) (j := 0) (by omega)
    have h0 : 0 < a.size := by omega
    have hx : ((a[0]'h0).toNat : Int) = bt a ((0 : Nat) : Int) := bt_at a 0 (by simp; omega)
    have p := eq_true (show (0 : Int) < (a.size : Int) by omega)
    have p1 := eq_true (show 0 < a.size by omega)
    have p2 := eq_true (show 1 ≤ a.size by omega)
    rw [List.drop_zero] at hb0
    rw [bytesOf_tail] at IH
    rw [hb0]
    simp only [List.all_cons]
    clear hb0
    rw [Nat.zero_add]
    generalize (List.drop 1 (bytesOf a)).all lowB = r at IH ⊢
    generalize bt a ((0 : Nat) : Int) = x at hx ⊢
    clear h
    go_enter Try.func108, Try.ntmps108
    go_wp2_with (first
      | (go_at_call 108; with_reducible refine cl (IH.out _) B fun w1 hb B => ?_; clear hb))
    all_goals go_ret
    all_goals (refine ⟨?_, B.out⟩; unfold lowB; simp_all; try omega)
theorem impl_KeyValid.M (a : ByteArray) (w : World) : Calls Try.prog 80 #[.string a] w fun e w' => e = .returned (.bool (keyB a)) ∧ Below w.heap.size w w' := by
  have B := Aside0.mk (Below.refl w.heap.size w)
  go_enter Try.func80, Try.ntmps80
  go_wp2_with (first
    | (go_at_call 108; with_reducible refine cl (impl_lettersOnly.M _ a _ rfl) B fun w1 hb B => ?_; clear hb))
  all_goals go_ret
  all_goals (refine ⟨?_, B.out⟩; unfold keyB; simp_all; try omega)

/-! The model of intervals. -/
def ivB (lo hi : ByteArray) : Bool :=
  if lo.toList = ([] : List UInt8) then (if hi.toList = ([] : List UInt8) then true else keyB hi && Op.bytesLess [97] hi.toList)
  else keyB lo && (if hi.toList = ([] : List UInt8) then true else keyB hi && Op.bytesLess lo.toList hi.toList)
def insB (lo hi key : ByteArray) : Bool := !(Op.bytesLess key.toList lo.toList) && (if hi.toList = ([] : List UInt8) then true else Op.bytesLess key.toList hi.toList)
def lowK (a : ByteArray) : ByteArray := if a.toList = ([] : List UInt8) then ⟨#[97]⟩ else a
def cutB (lo hi key : ByteArray) : Bool := ivB lo hi && (keyB key && (ivB lo key && ivB key hi))
def cutV (lo hi key : ByteArray) : ByteArray × ByteArray × ByteArray × ByteArray × Bool := if cutB lo hi key = true then (lo, key, key, hi, true) else (⟨#[]⟩, ⟨#[]⟩, ⟨#[]⟩, ⟨#[]⟩, false)
/-- a key begins with a letter, so it is a or greater -/
theorem key_a {s : ByteArray} (h : keyB s = true) : Op.bytesLess [97] s.toList = (Op.bytesLess [] s.toList && (s.toList != ([97] : List UInt8))) := by
  unfold keyB at h
  rw [Bool.and_eq_true, Bool.and_eq_true, decide_eq_true_eq] at h
  have h2 := h.2
  unfold bytesOf at h2
  rw [ba_toList]
  have hs : s.data.toList.length = s.size := data_length s
  generalize s.data.toList = x at *
  cases x with
  | nil => simp only [List.length_nil] at hs; omega
  | cons b r =>
    simp only [List.map_cons, List.all_cons, Bool.and_eq_true] at h2
    have hb := h2.1
    unfold lowB at hb
    rw [Bool.and_eq_true, decide_eq_true_eq] at hb
    have h97 : (97 : UInt8).toNat ≤ b.toNat := by have := hb.1; show 97 ≤ b.toNat; omega
    rw [show Op.bytesLess [] (b :: r) = true from rfl, Bool.true_and]
    simp only [Op.bytesLess]
    by_cases e : b = 97
    · subst e
      cases r with
      | nil => decide
      | cons c r => simp [Op.bytesLess]
    · have h3 : (97 : UInt8) < b := by
        rw [UInt8.lt_iff_toNat_lt]
        have : b.toNat ≠ (97 : UInt8).toNat := fun h => e (UInt8.toNat_inj.mp h)
        omega
      simp [h3, e]
theorem toL97 : (⟨#[97]⟩ : ByteArray).toList = [97] := by rw [ba_toList]
theorem toL0 : (⟨#[]⟩ : ByteArray).toList = [] := by rw [ba_toList]
theorem less_nil {x : List UInt8} (h : ¬ x = []) : Op.bytesLess [] x = true := by cases x with | nil => exact absurd rfl h | cons => rfl
theorem cutV_ok (lo hi key : ByteArray) : (cutV lo hi key).2.2.2.2 = cutB lo hi key := by
  unfold cutV
  cases cutB lo hi key <;> rfl

theorem spec_IntervalValid.M (a b : ByteArray) (w : World) : Calls Try.prog 47 #[.agg #[.string a, .string b]] w fun e w' => e = .returned (.bool (ivB a b)) ∧ Below w.heap.size w w' := by
 have B := Aside0.mk (Below.refl w.heap.size w)
 have hu := Try.underlying30
 go_enter Try.func47, Try.ntmps47
 go_wp2_with (first
  | ((with_reducible refine gate_dst (N := 1) rfl ?_); refine bx ?hg (N := 1) ?hd (cs := #[.string a, .string b]) (t := 30) ?hr B ?_; (case hd | hg => rfl); (case hr => go_simp; first | done | rfl); intro g1 w1 hb B F1 L1 E1; obtain ⟨c1_0, c1_1⟩ := cs2 F1; clear hb E1)
  | (go_at_call 89; with_reducible refine cl (spec_KeyValid.M a _) B fun w2 hb B => ?_; replace F1 := bn F1 hb; clear c1_0 c1_1; obtain ⟨c1_0, c1_1⟩ := cs2 F1; clear hb)
  | (go_at_call 89; with_reducible refine cl (spec_KeyValid.M b _) B fun w3 hb B => ?_; replace F1 := bn F1 hb; clear c1_0 c1_1; obtain ⟨c1_0, c1_1⟩ := cs2 F1; clear hb))
 all_goals go_ret
 all_goals
  refine ⟨?_, B.out⟩
  unfold ivB
  by_cases ha : a.toList = [] <;> by_cases hb : b.toList = [] <;> cases ka : keyB a <;> cases kb : keyB b <;> simp_all [toL97, toL0, key_a, less_nil] <;> (try omega) <;> (rw [show b.toList.isEmpty = false by simp [hb]]; rfl)
theorem impl_lowestKey.M (a b : ByteArray) (w : World) : Calls Try.prog 93 #[.agg #[.string a, .string b]] w fun e w' => e = .returned (.string (lowK a)) ∧ Below w.heap.size w w' := by
 have B := Aside0.mk (Below.refl w.heap.size w)
 have hu := Try.underlying30
 go_enter Try.func93, Try.ntmps93
 go_wp2_with (first
  | ((with_reducible refine gate_dst (N := 1) rfl ?_); refine bx ?hg (N := 1) ?hd (cs := #[.string a, .string b]) (t := 30) ?hr B ?_; (case hd | hg => rfl); (case hr => go_simp; first | done | rfl); intro g1 w1 hb B F1 L1 E1; obtain ⟨c1_0, c1_1⟩ := cs2 F1; clear hb E1))
 all_goals go_ret
 all_goals (refine ⟨?_, B.out⟩; unfold lowK; simp_all)
def impl_IntervalValid.T3 : Bool × List (List Nat × List Nat) := (true, [([], []), ([0], [0]), ([1], [1]), ([2], [2]), ([3], [3]), ([4, 3, 3], [3, 4]), ([3], [3]), ([6, 3], [3, 6]), ([5, 7, 3], [3, 5, 7]), ([3, 8], [3, 8]), ([9, 5, 0, 1, 2, 3, 4, 5, 6, 7, 8, 9], [9])])
def impl_IntervalValid.B3 : List Nat := [0, 1, 3, 7, 15, 31, 15, 79, 255, 511, 1023]
theorem impl_IntervalValid.tab3 : rtab .any (opsOf Try.f55 3) = impl_IntervalValid.T3 := by kernel_rfl
theorem impl_IntervalValid.bits3 : waitsOk impl_IntervalValid.T3.2 impl_IntervalValid.B3 = true := by kernel_rfl
theorem impl_IntervalValid.M (a b : ByteArray) (w : World) : Calls Try.prog 55 #[.agg #[.string a, .string b]] w fun e w' => e = .returned (.bool (ivB a b)) ∧ Below w.heap.size w w' := by
 have B := Aside0.mk (Below.refl w.heap.size w)
 have hu := Try.underlying30
 go_enter Try.func55, Try.ntmps55
 go_wp2_with (first
  | ((with_reducible refine gate_dst (N := 1) rfl ?_); refine bx ?hg (N := 1) ?hd (cs := #[.string a, .string b]) (t := 30) ?hr B ?_; (case hd | hg => rfl); (case hr => go_simp; first | done | rfl); intro g1 w1 hb B F1 L1 E1; obtain ⟨c1_0, c1_1⟩ := cs2 F1; clear hb E1)
  | (go_at_call 80; with_reducible refine cl (impl_KeyValid.M a _) B fun w2 hb B => ?_; replace F1 := bn F1 hb; clear c1_0 c1_1; obtain ⟨c1_0, c1_1⟩ := cs2 F1; clear hb)
  | (go_at_call 80; with_reducible refine cl (impl_KeyValid.M b _) B fun w3 hb B => ?_; replace F1 := bn F1 hb; clear c1_0 c1_1; obtain ⟨c1_0, c1_1⟩ := cs2 F1; clear hb))
 all_goals try (go_ret; refine ⟨?_, B.out⟩; unfold ivB; (try unfold lowK); by_cases ha : a.toList = [] <;> by_cases hb : b.toList = [] <;> cases ka : keyB a <;> cases kb : keyB b <;> simp_all [toL97, toL0]; done)
 all_goals (
  by_cases hq0 : b.toList = ([] : List UInt8)
  ·first
   | exact absurd hq0 (by assumption)
   | (
    have hd0 : (b.toList == ([] : List UInt8)) = true := by simp [hq0]
    refine rg (n := 11) (S := fun W => W.heap[g1]? = some (.cells #[.string a, .string b] 30 (0, 0))) (ds := []) #[false, false, false, false, false, false, false, false, false, false, false] (by kernel_rfl) rfl rfl F1.out id B (fun w4 hb B hHeld => ?_)
    refine with_tabW impl_IntervalValid.tab3 impl_IntervalValid.bits3 (fun HT_ HW_ => ?_)
    replace F1 := bn F1 hb
    clear hb
    refine pv 0 (some 23) (v := ?_) (bits 11 1) HT_ (by kernel_rfl) rfl rfl (fun _ _ _ h => h) (by kernel_rfl) ?_ ?_; rotate_left; (intro w'; go_simp; with_reducible rfl)
    refine tv 1 (some 24) (v := ?_) (bits 11 3) HT_ HW_ (by kernel_rfl) rfl rfl (fun _ _ _ h => h) (by kernel_rfl) hHeld ?_ ?_; rotate_left; (intro w' hS; have s0 := hS; obtain ⟨q0, q1⟩ := cs2 (Aside0.mk s0); go_simp; with_reducible rfl)
    refine pv 2 (some 25) (v := ?_) (bits 11 7) HT_ (by kernel_rfl) rfl rfl (fun _ _ _ h => h) (by kernel_rfl) ?_ ?_; rotate_left; (intro w'; go_simp; with_reducible rfl)
    refine pv 3 (some 26) (v := ?_) (bits 11 15) HT_ (by kernel_rfl) rfl rfl (fun _ _ _ h => h) (by kernel_rfl) ?_ ?_; rotate_left; (intro w'; go_simp; with_reducible rfl)
    refine sv 4 (some 27) (bits 11 31) HT_ (by kernel_rfl) rfl rfl (fun _ _ _ h => h) (by kernel_rfl) ?_
    refine sv 5 (some 28) (bits 11 63) HT_ (by kernel_rfl) rfl rfl (fun _ _ _ h => h) (by kernel_rfl) ?_
    refine sv 6 (some 29) (bits 11 127) HT_ (by kernel_rfl) rfl rfl (fun _ _ _ h => h) (by kernel_rfl) ?_
    refine sv 7 (some 30) (bits 11 255) HT_ (by kernel_rfl) rfl rfl (fun _ _ _ h => h) (by kernel_rfl) ?_
    refine sv 8 (some 31) (bits 11 511) HT_ (by kernel_rfl) rfl rfl (fun _ _ _ h => h) (by kernel_rfl) ?_
    refine pv 9 (some 32) (v := ?_) (bits 11 1023) HT_ (by kernel_rfl) rfl rfl (fun _ _ _ h => h) (by kernel_rfl) ?_ ?_; rotate_left; (intro w'; go_simp; with_reducible rfl)
    refine pv 10 (some 2) (v := ?_) (bits 11 2047) HT_ (by kernel_rfl) rfl rfl (fun _ _ _ h => h) (by kernel_rfl) ?_ ?_; rotate_left; (intro w'; go_simp; with_reducible rfl)
    refine norm_ (a' := ?_) ?_ ?_
    rotate_left
    ·simp only [Act.put, za, zb, zc, i64_w, i32_w]
     rfl
    refine done_ (done_of HT_.out (by kernel_rfl)) ?_
    try go_wp2
    go_ret
    refine ⟨?_, B.out⟩
    unfold ivB; (try unfold lowK); by_cases ha : a.toList = [] <;> by_cases hb : b.toList = [] <;> cases ka : keyB a <;> cases kb : keyB b <;> simp_all [toL97, toL0]
    )
  ·first
   | exact absurd (by assumption) hq0
   | (
    have hd0 : (b.toList == ([] : List UInt8)) = false := by simp [hq0]
    refine rg (n := 11) (S := fun W => W.heap[g1]? = some (.cells #[.string a, .string b] 30 (0, 0))) (ds := []) #[false, false, false, false, false, false, false, false, false, false, false] (by kernel_rfl) rfl rfl F1.out id B (fun w4 hb B hHeld => ?_)
    refine with_tabW impl_IntervalValid.tab3 impl_IntervalValid.bits3 (fun HT_ HW_ => ?_)
    replace F1 := bn F1 hb
    clear hb
    refine pv 0 (some 23) (v := ?_) (bits 11 1) HT_ (by kernel_rfl) rfl rfl (fun _ _ _ h => h) (by kernel_rfl) ?_ ?_; rotate_left; (intro w'; go_simp; with_reducible rfl)
    refine tv 1 (some 24) (v := ?_) (bits 11 3) HT_ HW_ (by kernel_rfl) rfl rfl (fun _ _ _ h => h) (by kernel_rfl) hHeld ?_ ?_; rotate_left; (intro w' hS; have s0 := hS; obtain ⟨q0, q1⟩ := cs2 (Aside0.mk s0); go_simp; with_reducible rfl)
    refine pv 2 (some 25) (v := ?_) (bits 11 7) HT_ (by kernel_rfl) rfl rfl (fun _ _ _ h => h) (by kernel_rfl) ?_ ?_; rotate_left; (intro w'; go_simp; with_reducible rfl)
    refine pv 3 (some 26) (v := ?_) (bits 11 15) HT_ (by kernel_rfl) rfl rfl (fun _ _ _ h => h) (by kernel_rfl) ?_ ?_; rotate_left; (intro w'; go_simp; with_reducible rfl)
    refine tv 4 (some 27) (v := ?_) (bits 11 31) HT_ HW_ (by kernel_rfl) rfl rfl (fun _ _ _ h => h) (by kernel_rfl) hHeld ?_ ?_; rotate_left; (intro w' hS; have s0 := hS; obtain ⟨q0, q1⟩ := cs2 (Aside0.mk s0); go_simp; with_reducible rfl)
    refine pv 6 (some 29) (v := ?_) (bits 11 95) HT_ (by kernel_rfl) rfl rfl (fun _ _ _ h => h) (by kernel_rfl) ?_ ?_; rotate_left; (intro w'; go_simp; with_reducible rfl)
    refine tv 7 (some 30) (v := ?_) (bits 11 223) HT_ HW_ (by kernel_rfl) rfl rfl (fun _ _ _ h => h) (by kernel_rfl) hHeld ?_ ?_; rotate_left; (intro w' hS; have s0 := hS; obtain ⟨q0, q1⟩ := cs2 (Aside0.mk s0); go_simp; with_reducible rfl)
    refine norm_ (a' := ?_) ?_ ?_
    rotate_left
    ·simp only [Act.put, za, zb, zc, i64_w, i32_w]
     rfl
    refine one_ (i := 5) (N := some 28) (bits 11 255) rfl rfl (one_of HT_.out (by kernel_rfl)) (by decide) (fun K hK => ?_)
    refine goes_ Try.func93 (by kernel_rfl) rfl #[.agg #[.string a, .string b]] (by rfl) rfl rfl (by (try simp only [List.map_toArray, List.map_cons, List.map_nil]); rfl) ?_
    with_reducible refine cl (impl_lowestKey.M a b _) B fun w5 hb B => ?_
    replace F1 := bn F1 hb
    clear hb
    refine ⟨_, rfl, ?_⟩
    refine hK.out _ _ F1.out (fun hHeld => ?_)
    clear hK K
    refine norm_ (a' := ?_) ?_ ?_
    rotate_left
    ·show Act.put _ (some 28) _ = _
     simp only [Act.put, za, zb, zc, i64_w, i32_w]
     rfl
    refine pv 8 (some 31) (v := ?_) (bits 11 511) HT_ (by kernel_rfl) rfl rfl (fun _ _ _ h => h) (by kernel_rfl) ?_ ?_; rotate_left; (intro w'; go_simp; with_reducible rfl)
    refine pv 9 (some 32) (v := ?_) (bits 11 1023) HT_ (by kernel_rfl) rfl rfl (fun _ _ _ h => h) (by kernel_rfl) ?_ ?_; rotate_left; (intro w'; go_simp; with_reducible rfl)
    refine pv 10 (some 2) (v := ?_) (bits 11 2047) HT_ (by kernel_rfl) rfl rfl (fun _ _ _ h => h) (by kernel_rfl) ?_ ?_; rotate_left; (intro w'; go_simp; with_reducible rfl)
    refine norm_ (a' := ?_) ?_ ?_
    rotate_left
    ·simp only [Act.put, za, zb, zc, i64_w, i32_w]
     rfl
    refine done_ (done_of HT_.out (by kernel_rfl)) ?_
    try go_wp2
    go_ret
    refine ⟨?_, B.out⟩
    unfold ivB; (try unfold lowK); by_cases ha : a.toList = [] <;> by_cases hb : b.toList = [] <;> cases ka : keyB a <;> cases kb : keyB b <;> simp_all [toL97, toL0]
    ))
 all_goals try go_wp2
 all_goals try (go_ret; refine ⟨?_, B.out⟩; unfold ivB; (try unfold lowK); by_cases ha : a.toList = [] <;> by_cases hb : b.toList = [] <;> cases ka : keyB a <;> cases kb : keyB b <;> simp_all [toL97, toL0]; done)

def hasB (a b c : ByteArray) : Bool := ivB a b && (keyB c && insB a b c)
theorem spec_IntervalHas.M (a b c : ByteArray) (w : World) : Calls Try.prog 50 #[.agg #[.string a, .string b], .string c] w fun e w' => e = .returned (.bool (hasB a b c)) ∧ Below w.heap.size w w' := by
 have B := Aside0.mk (Below.refl w.heap.size w)
 have hu := Try.underlying30
 go_enter Try.func50, Try.ntmps50
 go_wp2_with (first
  | ((with_reducible refine gate_dst (N := 2) rfl ?_); refine bx ?hg (N := 2) ?hd (cs := #[.string a, .string b]) (t := 30) ?hr B ?_; (case hd | hg => rfl); (case hr => go_simp; first | done | rfl); intro g2 w1 hb B F2 L2 E2; obtain ⟨c2_0, c2_1⟩ := cs2 F2; clear hb E2)
  | (go_at_call 47; with_reducible refine cl (spec_IntervalValid.M a b _) B fun w2 hb B => ?_; replace F2 := bn F2 hb; clear c2_0 c2_1; obtain ⟨c2_0, c2_1⟩ := cs2 F2; clear hb)
  | (go_at_call 89; with_reducible refine cl (spec_KeyValid.M c _) B fun w3 hb B => ?_; replace F2 := bn F2 hb; clear c2_0 c2_1; obtain ⟨c2_0, c2_1⟩ := cs2 F2; clear hb))
 all_goals go_ret
 all_goals (refine ⟨?_, B.out⟩; unfold hasB insB; simp_all)

theorem impl_inside.M (a b c : ByteArray) (w : World) : Calls Try.prog 58 #[.agg #[.string a, .string b], .string c] w fun e w' => e = .returned (.bool (insB a b c)) ∧ Below w.heap.size w w' := by
 have B := Aside0.mk (Below.refl w.heap.size w)
 have hu := Try.underlying30
 go_enter Try.func58, Try.ntmps58
 go_wp2_with (first
  | ((with_reducible refine gate_dst (N := 2) rfl ?_); refine bx ?hg (N := 2) ?hd (cs := #[.string a, .string b]) (t := 30) ?hr B ?_; (case hd | hg => rfl); (case hr => go_simp; first | done | rfl); intro g2 w1 hb B F2 L2 E2; obtain ⟨c2_0, c2_1⟩ := cs2 F2; clear hb E2))
 all_goals go_ret
 all_goals (refine ⟨?_, B.out⟩; unfold insB; simp_all)

/-! The model of pairs. -/
def ltB (a b : ByteArray) : Bool := Op.bytesLess a.toList b.toList
def okP (p : S61) : Bool := keyB p.f0 && l1B p.f1 0 999
def aboveP (p : Option ByteArray) (c : ByteArray) : Bool := match p with
  | none => true
  | some q => ltB q c
def prG : Option ByteArray → List S61 → Bool
  | _, [] => true
  | p, s :: r => okP s && (aboveP p s.f0 && prG (some s.f0) r)
def prB (l : List S61) : Bool := decide (l.length ≤ 48) && prG none l
def prP (l : List S61) (j : Nat) : Option ByteArray := if j = 0 then none else some (l.getD (j - 1) z61).f0
theorem pr_nat {l : List S61} {j : Nat} (h : j < l.length) : rd_T61 l (j : Int) = l[j] := by
  simp [rd_T61, List.getD_eq_getElem?_getD, List.getElem?_eq_getElem h]
theorem pr_drop {l : List S61} {j : Nat} (h : j < l.length) : l.drop j = rd_T61 l (j : Int) :: l.drop (j + 1) := by
  rw [pr_nat h, List.drop_eq_getElem_cons h]
theorem pr_prev (l : List S61) (j : Nat) : prP l (j + 1) = some (rd_T61 l (j : Int)).f0 := by
  unfold prP rd_T61
  rw [if_neg (by omega), Int.toNat_natCast, Nat.add_sub_cancel]
theorem prB_len {l : List S61} (h : prB l = true) : l.length ≤ 48 := by
  unfold prB at h
  rw [Bool.and_eq_true, decide_eq_true_eq] at h
  exact h.1
def prJ (l : List S61) (j : Nat) : Bool := prG (prP l j) (l.drop j)
theorem prJ_end {l : List S61} {j : Nat} (h : ¬ j < l.length) : prJ l j = true := by
  unfold prJ
  rw [List.drop_of_length_le (by omega)]
  rfl
theorem prJ_step {l : List S61} {j : Nat} (h : j < l.length) :
    prJ l j = ((keyB (rd_T61 l (j : Int)).f0 && (l1B (rd_T61 l (j : Int)).f1 0 999 && (if j = 0 then true else ltB (rd_T61 l ((j - 1 : Nat) : Int)).f0 (rd_T61 l (j : Int)).f0))) && prJ l (j + 1)) := by
  unfold prJ
  rw [pr_drop h, pr_prev]
  simp only [prG]
  unfold okP
  by_cases hj : j = 0
  · subst hj
    simp [prP, aboveP, Bool.and_assoc]
  · obtain ⟨i, rfl⟩ : ∃ i, j = i + 1 := ⟨j - 1, by omega⟩
    rw [pr_prev, if_neg hj, Nat.add_sub_cancel]
    simp [aboveP, Bool.and_assoc]

/-! The model of sessions. -/
def okS (s : S100) : Bool := l1B s.f0 0 3 && (l1B s.f1 1 999 && l1B s.f2 (-2) 999)
def above (p : Option Int) (c : Int) : Bool := match p with
  | none => true
  | some q => decide (q < c)
def sesG : Option Int → List S100 → Bool
  | _, [] => true
  | p, s :: r => okS s && (above p s.f0 && sesG (some s.f0) r)
def sesB (l : List S100) : Bool := sesG none l
def sesP (l : List S100) (j : Nat) : Option Int := if j = 0 then none else some (l.getD (j - 1) z100).f0
theorem ses_nat {l : List S100} {j : Nat} (h : j < l.length) : rd_T100 l (j : Int) = l[j] := by
  simp [rd_T100, List.getD_eq_getElem?_getD, List.getElem?_eq_getElem h]
theorem ses_drop {l : List S100} {j : Nat} (h : j < l.length) : l.drop j = rd_T100 l (j : Int) :: l.drop (j + 1) := by
  rw [ses_nat h, List.drop_eq_getElem_cons h]
theorem ses_prev (l : List S100) (j : Nat) : sesP l (j + 1) = some (rd_T100 l (j : Int)).f0 := by
  unfold sesP rd_T100
  rw [if_neg (by omega), Int.toNat_natCast, Nat.add_sub_cancel]
def sesJ (l : List S100) (j : Nat) : Bool := sesG (sesP l j) (l.drop j)
theorem sesJ_end {l : List S100} {j : Nat} (h : ¬ j < l.length) : sesJ l j = true := by
  unfold sesJ
  rw [List.drop_of_length_le (by omega)]
  rfl
theorem sesJ_step {l : List S100} {j : Nat} (h : j < l.length) :
    sesJ l j = ((l1B (rd_T100 l (j : Int)).f0 0 3 && (l1B (rd_T100 l (j : Int)).f1 1 999 && (l1B (rd_T100 l (j : Int)).f2 (-2) 999 && (if j = 0 then true else decide ((rd_T100 l ((j - 1 : Nat) : Int)).f0 < (rd_T100 l (j : Int)).f0))))) && sesJ l (j + 1)) := by
  unfold sesJ
  rw [ses_drop h, ses_prev]
  simp only [sesG]
  unfold okS
  by_cases hj : j = 0
  · subst hj
    simp [sesP, above, Bool.and_assoc]
  · obtain ⟨i, rfl⟩ : ∃ i, j = i + 1 := ⟨j - 1, by omega⟩
    rw [ses_prev, if_neg hj, Nat.add_sub_cancel]
    simp [above, Bool.and_assoc]

/-! The model of states. -/
def tailB (lo hi : ByteArray) (t : Bool) (c : ByteArray) : Bool := if c.toList = ([] : List UInt8) then true else t && cutB lo hi c
def stB (lo hi : ByteArray) (ps : List S61) (ss : List S100) (t : Bool) (c : ByteArray) : Bool :=
  ivB lo hi && (prB ps && (sesB ss && ((ps.all fun p => insB lo hi p.f0) && tailB lo hi t c)))
theorem pr_key {l : List S61} : ∀ p, prG p l = true → ∀ x ∈ l, keyB x.f0 = true := by
  induction l with
  | nil => intro p _ x hx; cases hx
  | cons s r ih =>
    intro p h x hx
    simp only [prG, Bool.and_eq_true] at h
    rcases List.mem_cons.mp hx with rfl | hx
    · have := h.1
      unfold okP at this
      rw [Bool.and_eq_true] at this
      exact this.1
    · exact ih _ h.2.2 x hx
theorem prB_key {l : List S61} (h : prB l = true) : ∀ x ∈ l, keyB x.f0 = true := by
  unfold prB at h
  rw [Bool.and_eq_true] at h
  exact pr_key none h.2
theorem all_has {lo hi : ByteArray} {ps : List S61} (hv : ivB lo hi = true) (hp : prB ps = true) : (ps.all fun p => hasB lo hi p.f0) = ps.all fun p => insB lo hi p.f0 := by
  have hk := prB_key hp
  clear hp
  induction ps with
  | nil => rfl
  | cons x r ih =>
    simp only [List.all_cons]
    rw [ih fun y hy => hk y (List.mem_cons_of_mem _ hy)]
    unfold hasB
    rw [hv, hk x (List.mem_cons_self ..)]
    rfl

def spec_PairsValid.T6 : Bool × List (List Nat × List Nat) := (true, [([], []), ([], []), ([0, 1], [0, 1]), ([2], [2]), ([3], [3]), ([4], [4]), ([5], [5]), ([6, 5], [6]), ([7], [7]), ([7], [7]), ([8, 9, 7], [7, 8, 9]), ([10, 7], [7, 10]), ([11, 7], [7, 11]), ([12, 7, 7], [7, 12]), ([13, 7], [7, 13]), ([7, 14], [7, 14]), ([15, 13], [15]), ([16], [16]), ([17, 16], [16, 17]), ([18, 16, 16], [16, 18]), ([19], [19]), ([19], [19]), ([20, 21, 19], [19, 20, 21]), ([22, 19], [19, 22]), ([23, 19], [19, 23]), ([19], [19]), ([19], [19]), ([26, 19], [19, 26]), ([25, 27, 19], [19, 25, 27]), ([28, 19], [19, 28]), ([29, 19], [19, 29]), ([24, 30, 19], [19, 24, 30]), ([19, 31, 16], [16, 19, 31]), ([16, 32], [16, 32])])
def spec_PairsValid.B6 : List Nat := [0, 0, 3, 7, 15, 31, 63, 127, 255, 255, 1023, 2047, 4095, 8191, 16383, 32767, 65535, 131071, 262143, 524287, 1048575, 1048575, 4194303, 8388607, 16777215, 1048575, 1048575, 68157439, 235929599, 504365055, 1041235967, 2147483647, 4294967295, 8589934591]
theorem spec_PairsValid.tab6 : rtab .any (opsOf Try.f48 6) = spec_PairsValid.T6 := by kernel_rfl
theorem spec_PairsValid.bits6 : waitsOk spec_PairsValid.T6.2 spec_PairsValid.B6 = true := by kernel_rfl
theorem spec_PairsValid.M (A0 : Option Addr) (c0 : Nat) (l : List S61) (w : World) (hr0 : Kd.C k61 w A0 l.length l) : Calls Try.prog 48 #[.slice A0 l.length c0] w fun e w' => e = .returned (.bool (prB l)) ∧ Below w.heap.size w w' := by
 have hu := Try.underlying61
 have B := Aside0.mk (Below.refl w.heap.size w)
 have HR0 := Aside0.mk hr0
 clear hr0
 obtain ⟨r, hr⟩ : ∃ r, prB l = r := ⟨_, rfl⟩
 rw [hr]
 unfold prB at hr
 by_cases hl : l.length ≤ 48
 ·have H := Aside0.mk (show prJ l 0 = r by unfold prJ prP; simpa [hl] using hr)
  have cl0 : decide (48 < (l.length : Int)) = false := decide_eq_false (by omega)
  have L48 := Aside0.mk (show l.length ≤ 4611686018427387904 by omega)
  clear hl hr
  go_enter Try.func48, Try.ntmps48
  go_wp2
  go_loopg [3] (l.length + 1) (fun kx v3 wr => ∃ j : Nat, v3 = .int .i64 (j : Int) ∧ j ≤ l.length ∧ l.length < j + kx ∧ Aside0 (Below w.heap.size w wr) ∧ Aside0 (prJ l j = r))
  case atStart => exact ⟨0, rfl, by omega, by omega, B, H⟩
  case round =>
   clear H B
   obtain ⟨j, rfl, hj, hk, B, H⟩ := hrel
   by_cases hlt : j < l.length
   ·have HS := Aside0.mk ((prJ_step hlt).symm.trans H.out)
    clear H
    obtain ⟨d, rfl⟩ : ∃ d, gk = d + 1 := ⟨gk - 1, by omega⟩
    have h48 := L48.out
    have cj : decide ((j : Int) < (l.length : Int)) = true := decide_eq_true (by omega)
    obtain ⟨ad, hA, y0, y1⟩ := at_T61 (cb HR0 B) (j : Int) (by omega) (by omega)
    cases hA
    rw [Int.toNat_natCast] at y0 y1
    have j1 := eq_true (show (j : Int) < (l.length : Int) by omega)
    have j2 := eq_true hlt
    generalize hy : rd_T61 l (j : Int) = y at *
    try go_wp2
    all_goals try (go_ret; exact ⟨andF HS.out (by grind [l1B, ltB]), B.out⟩)
    all_goals (
     refine rg (n := 34) (S := fun W => Kd.C k61 W (some ad) l.length l) (ds := []) #[false, false, false, false, false, false, false, false, false, false, false, false, false, false, false, false, false, false, false, false, false, false, false, false, false, false, false, false, false, false, false, false, false, false] (by kernel_rfl) rfl rfl (cb HR0 B) id B (fun w1 hb B hHeld => ?_)
     refine with_tabW spec_PairsValid.tab6 spec_PairsValid.bits6 (fun HT_ HW_ => ?_)
     clear hb
     refine pv 0 (some 13) (v := ?_) (bits 34 1) HT_ (by kernel_rfl) rfl rfl (fun _ _ _ h => h) (by kernel_rfl) ?_ ?_; rotate_left; (intro w'; go_simp; with_reducible rfl)
     refine pv 1 (some 14) (v := ?_) (bits 34 3) HT_ (by kernel_rfl) rfl rfl (fun _ _ _ h => h) (by kernel_rfl) ?_ ?_; rotate_left; (intro w'; go_simp; with_reducible rfl)
     refine pv 2 (some 15) (v := ?_) (bits 34 7) HT_ (by kernel_rfl) rfl rfl (fun _ _ _ h => h) (by kernel_rfl) ?_ ?_; rotate_left; (intro w'; go_simp; with_reducible rfl)
     refine pv 3 (some 16) (v := ?_) (bits 34 15) HT_ (by kernel_rfl) rfl rfl (fun _ _ _ h => h) (by kernel_rfl) ?_ ?_; rotate_left; (intro w'; go_simp; with_reducible rfl)
     refine tv 4 (some 17) (v := ?_) (bits 34 31) HT_ HW_ (by kernel_rfl) rfl rfl (fun _ _ _ h => h) (by kernel_rfl) hHeld ?_ ?_; rotate_left; (intro w' hS; have s0 := hS; obtain ⟨_, hA, q0, q1⟩ := at_T61 s0 (j : Int) (by omega) (by omega); cases hA; rw [Int.toNat_natCast] at q0 q1; rw [hy] at q0 q1; go_simp; with_reducible rfl)
     refine norm_ (a' := ?_) ?_ ?_
     rotate_left
     ·simp only [Act.put, za, zb, zc, i64_w, i32_w]
      rfl
     refine one_ (i := 5) (N := some 18) (bits 34 63) rfl rfl (one_of HT_.out (by kernel_rfl)) (by decide) (fun K hK => ?_)
     rcases hq1 : (keyB y.f0) with _ | _
     ·refine goes_ Try.func89 (by kernel_rfl) rfl #[.string y.f0] (by rfl) rfl rfl (by (try simp only [List.map_toArray, List.map_cons, List.map_nil]); rfl) ?_
      with_reducible refine cl (clv (spec_KeyValid.M y.f0 _) (congrArg Value.bool hq1)) B fun w2 hb B => ?_
      clear hb
      refine ⟨_, rfl, ?_⟩
      refine hK.out _ _ (cb HR0 B) (fun hHeld => ?_)
      clear hK K
      refine norm_ (a' := ?_) ?_ ?_
      rotate_left
      ·show Act.put _ (some 18) _ = _
       simp only [Act.put, za, zb, zc, i64_w, i32_w]
       rfl
      refine pv 6 (some 19) (v := ?_) (bits 34 127) HT_ (by kernel_rfl) rfl rfl (fun _ _ _ h => h) (by kernel_rfl) ?_ ?_; rotate_left; (intro w'; go_simp; with_reducible rfl)
      refine pv 7 (some 20) (v := ?_) (bits 34 255) HT_ (by kernel_rfl) rfl rfl (fun _ _ _ h => h) (by kernel_rfl) ?_ ?_; rotate_left; (intro w'; go_simp; with_reducible rfl)
      refine sv 8 (some 21) (bits 34 511) HT_ (by kernel_rfl) rfl rfl (fun _ _ _ h => h) (by kernel_rfl) ?_
      refine sv 9 (some 22) (bits 34 1023) HT_ (by kernel_rfl) rfl rfl (fun _ _ _ h => h) (by kernel_rfl) ?_
      refine sv 10 (some 23) (bits 34 2047) HT_ (by kernel_rfl) rfl rfl (fun _ _ _ h => h) (by kernel_rfl) ?_
      refine sv 11 (some 24) (bits 34 4095) HT_ (by kernel_rfl) rfl rfl (fun _ _ _ h => h) (by kernel_rfl) ?_
      refine sv 12 (some 25) (bits 34 8191) HT_ (by kernel_rfl) rfl rfl (fun _ _ _ h => h) (by kernel_rfl) ?_
      refine sv 13 (some 26) (bits 34 16383) HT_ (by kernel_rfl) rfl rfl (fun _ _ _ h => h) (by kernel_rfl) ?_
      refine sv 14 (some 27) (bits 34 32767) HT_ (by kernel_rfl) rfl rfl (fun _ _ _ h => h) (by kernel_rfl) ?_
      refine pv 15 (some 28) (v := ?_) (bits 34 65535) HT_ (by kernel_rfl) rfl rfl (fun _ _ _ h => h) (by kernel_rfl) ?_ ?_; rotate_left; (intro w'; go_simp; with_reducible rfl)
      refine pv 16 (some 29) (v := ?_) (bits 34 131071) HT_ (by kernel_rfl) rfl rfl (fun _ _ _ h => h) (by kernel_rfl) ?_ ?_; rotate_left; (intro w'; go_simp; with_reducible rfl)
      refine sv 17 (some 30) (bits 34 262143) HT_ (by kernel_rfl) rfl rfl (fun _ _ _ h => h) (by kernel_rfl) ?_
      refine sv 18 (some 31) (bits 34 524287) HT_ (by kernel_rfl) rfl rfl (fun _ _ _ h => h) (by kernel_rfl) ?_
      refine sv 19 (some 32) (bits 34 1048575) HT_ (by kernel_rfl) rfl rfl (fun _ _ _ h => h) (by kernel_rfl) ?_
      refine sv 20 (some 33) (bits 34 2097151) HT_ (by kernel_rfl) rfl rfl (fun _ _ _ h => h) (by kernel_rfl) ?_
      refine sv 21 (some 34) (bits 34 4194303) HT_ (by kernel_rfl) rfl rfl (fun _ _ _ h => h) (by kernel_rfl) ?_
      refine sv 22 (some 35) (bits 34 8388607) HT_ (by kernel_rfl) rfl rfl (fun _ _ _ h => h) (by kernel_rfl) ?_
      refine sv 23 (some 36) (bits 34 16777215) HT_ (by kernel_rfl) rfl rfl (fun _ _ _ h => h) (by kernel_rfl) ?_
      refine sv 24 (some 37) (bits 34 33554431) HT_ (by kernel_rfl) rfl rfl (fun _ _ _ h => h) (by kernel_rfl) ?_
      refine sv 25 (some 38) (bits 34 67108863) HT_ (by kernel_rfl) rfl rfl (fun _ _ _ h => h) (by kernel_rfl) ?_
      refine sv 26 (some 39) (bits 34 134217727) HT_ (by kernel_rfl) rfl rfl (fun _ _ _ h => h) (by kernel_rfl) ?_
      refine sv 27 (some 40) (bits 34 268435455) HT_ (by kernel_rfl) rfl rfl (fun _ _ _ h => h) (by kernel_rfl) ?_
      refine sv 28 (some 41) (bits 34 536870911) HT_ (by kernel_rfl) rfl rfl (fun _ _ _ h => h) (by kernel_rfl) ?_
      refine sv 29 (some 42) (bits 34 1073741823) HT_ (by kernel_rfl) rfl rfl (fun _ _ _ h => h) (by kernel_rfl) ?_
      refine sv 30 (some 43) (bits 34 2147483647) HT_ (by kernel_rfl) rfl rfl (fun _ _ _ h => h) (by kernel_rfl) ?_
      refine sv 31 (some 44) (bits 34 4294967295) HT_ (by kernel_rfl) rfl rfl (fun _ _ _ h => h) (by kernel_rfl) ?_
      refine sv 32 (some 45) (bits 34 8589934591) HT_ (by kernel_rfl) rfl rfl (fun _ _ _ h => h) (by kernel_rfl) ?_
      refine pv 33 (some 46) (v := ?_) (bits 34 17179869183) HT_ (by kernel_rfl) rfl rfl (fun _ _ _ h => h) (by kernel_rfl) ?_ ?_; rotate_left; (intro w'; go_simp; with_reducible rfl)
      refine norm_ (a' := ?_) ?_ ?_
      rotate_left
      ·simp only [Act.put, za, zb, zc, i64_w, i32_w]
       rfl
      refine done_ (done_of HT_.out (by kernel_rfl)) ?_
      try go_wp2
      all_goals first
       | (go_roundg d; (case measure => omega); (case rel => exact ⟨j + 1, congrArg (Value.int .i64) (Int.natCast_succ _).symm, by omega, by omega, B, ⟨andT HS.out (by grind [l1B, ltB])⟩⟩))
       | (go_ret; exact ⟨andF HS.out (by grind [l1B, ltB]), B.out⟩)
     ·refine goes_ Try.func89 (by kernel_rfl) rfl #[.string y.f0] (by rfl) rfl rfl (by (try simp only [List.map_toArray, List.map_cons, List.map_nil]); rfl) ?_
      with_reducible refine cl (clv (spec_KeyValid.M y.f0 _) (congrArg Value.bool hq1)) B fun w2 hb B => ?_
      clear hb
      refine ⟨_, rfl, ?_⟩
      refine hK.out _ _ (cb HR0 B) (fun hHeld => ?_)
      clear hK K
      refine norm_ (a' := ?_) ?_ ?_
      rotate_left
      ·show Act.put _ (some 18) _ = _
       simp only [Act.put, za, zb, zc, i64_w, i32_w]
       rfl
      refine pv 6 (some 19) (v := ?_) (bits 34 127) HT_ (by kernel_rfl) rfl rfl (fun _ _ _ h => h) (by kernel_rfl) ?_ ?_; rotate_left; (intro w'; go_simp; with_reducible rfl)
      refine pv 7 (some 20) (v := ?_) (bits 34 255) HT_ (by kernel_rfl) rfl rfl (fun _ _ _ h => h) (by kernel_rfl) ?_ ?_; rotate_left; (intro w'; go_simp; with_reducible rfl)
      refine pv 8 (some 21) (v := ?_) (bits 34 511) HT_ (by kernel_rfl) rfl rfl (fun _ _ _ h => h) (by kernel_rfl) ?_ ?_; rotate_left; (intro w'; go_simp; with_reducible rfl)
      refine pv 9 (some 22) (v := ?_) (bits 34 1023) HT_ (by kernel_rfl) rfl rfl (fun _ _ _ h => h) (by kernel_rfl) ?_ ?_; rotate_left; (intro w'; go_simp; with_reducible rfl)
      refine pv 10 (some 23) (v := ?_) (bits 34 2047) HT_ (by kernel_rfl) rfl rfl (fun _ _ _ h => h) (by kernel_rfl) ?_ ?_; rotate_left; (intro w'; go_simp; with_reducible rfl)
      refine pv 11 (some 24) (v := ?_) (bits 34 4095) HT_ (by kernel_rfl) rfl rfl (fun _ _ _ h => h) (by kernel_rfl) ?_ ?_; rotate_left; (intro w'; go_simp; with_reducible rfl)
      refine tv 12 (some 25) (v := ?_) (bits 34 8191) HT_ HW_ (by kernel_rfl) rfl rfl (fun _ _ _ h => h) (by kernel_rfl) hHeld ?_ ?_; rotate_left; (intro w' hS; have s0 := hS; obtain ⟨_, hA, q0, q1⟩ := at_T61 s0 (j : Int) (by omega) (by omega); cases hA; rw [Int.toNat_natCast] at q0 q1; rw [hy] at q0 q1; go_simp; with_reducible rfl)
      refine norm_ (a' := ?_) ?_ ?_
      rotate_left
      ·simp only [Act.put, za, zb, zc, i64_w, i32_w]
       rfl
      refine one_ (i := 13) (N := some 26) (bits 34 16383) rfl rfl (one_of HT_.out (by kernel_rfl)) (by decide) (fun K hK => ?_)
      rcases hq2 : (l1B y.f1 0 999) with _ | _
      ·refine goes_ Try.func90 (by kernel_rfl) rfl #[.int .i64 (y.f1), .int .i64 (0), .int .i64 (999)] (by rfl) rfl rfl (by (try simp only [List.map_toArray, List.map_cons, List.map_nil]); rfl) ?_
       with_reducible refine cl (clv (spec_l1In.M y.f1 0 999 _) (congrArg Value.bool hq2)) B fun w3 hb B => ?_
       clear hb
       refine ⟨_, rfl, ?_⟩
       refine hK.out _ _ (cb HR0 B) (fun hHeld => ?_)
       clear hK K
       refine norm_ (a' := ?_) ?_ ?_
       rotate_left
       ·show Act.put _ (some 26) _ = _
        simp only [Act.put, za, zb, zc, i64_w, i32_w]
        rfl
       refine pv 14 (some 27) (v := ?_) (bits 34 32767) HT_ (by kernel_rfl) rfl rfl (fun _ _ _ h => h) (by kernel_rfl) ?_ ?_; rotate_left; (intro w'; go_simp; with_reducible rfl)
       refine pv 15 (some 28) (v := ?_) (bits 34 65535) HT_ (by kernel_rfl) rfl rfl (fun _ _ _ h => h) (by kernel_rfl) ?_ ?_; rotate_left; (intro w'; go_simp; with_reducible rfl)
       refine pv 16 (some 29) (v := ?_) (bits 34 131071) HT_ (by kernel_rfl) rfl rfl (fun _ _ _ h => h) (by kernel_rfl) ?_ ?_; rotate_left; (intro w'; go_simp; with_reducible rfl)
       refine sv 17 (some 30) (bits 34 262143) HT_ (by kernel_rfl) rfl rfl (fun _ _ _ h => h) (by kernel_rfl) ?_
       refine sv 18 (some 31) (bits 34 524287) HT_ (by kernel_rfl) rfl rfl (fun _ _ _ h => h) (by kernel_rfl) ?_
       refine sv 19 (some 32) (bits 34 1048575) HT_ (by kernel_rfl) rfl rfl (fun _ _ _ h => h) (by kernel_rfl) ?_
       refine sv 20 (some 33) (bits 34 2097151) HT_ (by kernel_rfl) rfl rfl (fun _ _ _ h => h) (by kernel_rfl) ?_
       refine sv 21 (some 34) (bits 34 4194303) HT_ (by kernel_rfl) rfl rfl (fun _ _ _ h => h) (by kernel_rfl) ?_
       refine sv 22 (some 35) (bits 34 8388607) HT_ (by kernel_rfl) rfl rfl (fun _ _ _ h => h) (by kernel_rfl) ?_
       refine sv 23 (some 36) (bits 34 16777215) HT_ (by kernel_rfl) rfl rfl (fun _ _ _ h => h) (by kernel_rfl) ?_
       refine sv 24 (some 37) (bits 34 33554431) HT_ (by kernel_rfl) rfl rfl (fun _ _ _ h => h) (by kernel_rfl) ?_
       refine sv 25 (some 38) (bits 34 67108863) HT_ (by kernel_rfl) rfl rfl (fun _ _ _ h => h) (by kernel_rfl) ?_
       refine sv 26 (some 39) (bits 34 134217727) HT_ (by kernel_rfl) rfl rfl (fun _ _ _ h => h) (by kernel_rfl) ?_
       refine sv 27 (some 40) (bits 34 268435455) HT_ (by kernel_rfl) rfl rfl (fun _ _ _ h => h) (by kernel_rfl) ?_
       refine sv 28 (some 41) (bits 34 536870911) HT_ (by kernel_rfl) rfl rfl (fun _ _ _ h => h) (by kernel_rfl) ?_
       refine sv 29 (some 42) (bits 34 1073741823) HT_ (by kernel_rfl) rfl rfl (fun _ _ _ h => h) (by kernel_rfl) ?_
       refine sv 30 (some 43) (bits 34 2147483647) HT_ (by kernel_rfl) rfl rfl (fun _ _ _ h => h) (by kernel_rfl) ?_
       refine sv 31 (some 44) (bits 34 4294967295) HT_ (by kernel_rfl) rfl rfl (fun _ _ _ h => h) (by kernel_rfl) ?_
       refine sv 32 (some 45) (bits 34 8589934591) HT_ (by kernel_rfl) rfl rfl (fun _ _ _ h => h) (by kernel_rfl) ?_
       refine pv 33 (some 46) (v := ?_) (bits 34 17179869183) HT_ (by kernel_rfl) rfl rfl (fun _ _ _ h => h) (by kernel_rfl) ?_ ?_; rotate_left; (intro w'; go_simp; with_reducible rfl)
       refine norm_ (a' := ?_) ?_ ?_
       rotate_left
       ·simp only [Act.put, za, zb, zc, i64_w, i32_w]
        rfl
       refine done_ (done_of HT_.out (by kernel_rfl)) ?_
       try go_wp2
       all_goals first
        | (go_roundg d; (case measure => omega); (case rel => exact ⟨j + 1, congrArg (Value.int .i64) (Int.natCast_succ _).symm, by omega, by omega, B, ⟨andT HS.out (by grind [l1B, ltB])⟩⟩))
        | (go_ret; exact ⟨andF HS.out (by grind [l1B, ltB]), B.out⟩)
      ·refine goes_ Try.func90 (by kernel_rfl) rfl #[.int .i64 (y.f1), .int .i64 (0), .int .i64 (999)] (by rfl) rfl rfl (by (try simp only [List.map_toArray, List.map_cons, List.map_nil]); rfl) ?_
       with_reducible refine cl (clv (spec_l1In.M y.f1 0 999 _) (congrArg Value.bool hq2)) B fun w3 hb B => ?_
       clear hb
       refine ⟨_, rfl, ?_⟩
       refine hK.out _ _ (cb HR0 B) (fun hHeld => ?_)
       clear hK K
       refine norm_ (a' := ?_) ?_ ?_
       rotate_left
       ·show Act.put _ (some 26) _ = _
        simp only [Act.put, za, zb, zc, i64_w, i32_w]
        rfl
       refine pv 14 (some 27) (v := ?_) (bits 34 32767) HT_ (by kernel_rfl) rfl rfl (fun _ _ _ h => h) (by kernel_rfl) ?_ ?_; rotate_left; (intro w'; go_simp; with_reducible rfl)
       refine pv 15 (some 28) (v := ?_) (bits 34 65535) HT_ (by kernel_rfl) rfl rfl (fun _ _ _ h => h) (by kernel_rfl) ?_ ?_; rotate_left; (intro w'; go_simp; with_reducible rfl)
       refine pv 16 (some 29) (v := ?_) (bits 34 131071) HT_ (by kernel_rfl) rfl rfl (fun _ _ _ h => h) (by kernel_rfl) ?_ ?_; rotate_left; (intro w'; go_simp; with_reducible rfl)
       refine pv 17 (some 30) (v := ?_) (bits 34 262143) HT_ (by kernel_rfl) rfl rfl (fun _ _ _ h => h) (by kernel_rfl) ?_ ?_; rotate_left; (intro w'; go_simp; with_reducible rfl)
       by_cases hz : j = 0
       ·rw [if_pos hz] at HS
        have dz : decide (0 < (j : Int)) = false := decide_eq_false (by omega)
        have dz2 : decide (0 < j) = false := decide_eq_false (by omega)
        clear hz
        refine pv 18 (some 31) (v := ?_) (bits 34 524287) HT_ (by kernel_rfl) rfl rfl (fun _ _ _ h => h) (by kernel_rfl) ?_ ?_; rotate_left; (intro w'; go_simp; with_reducible rfl)
        refine pv 19 (some 32) (v := ?_) (bits 34 1048575) HT_ (by kernel_rfl) rfl rfl (fun _ _ _ h => h) (by kernel_rfl) ?_ ?_; rotate_left; (intro w'; go_simp; with_reducible rfl)
        refine sv 20 (some 33) (bits 34 2097151) HT_ (by kernel_rfl) rfl rfl (fun _ _ _ h => h) (by kernel_rfl) ?_
        refine sv 21 (some 34) (bits 34 4194303) HT_ (by kernel_rfl) rfl rfl (fun _ _ _ h => h) (by kernel_rfl) ?_
        refine sv 22 (some 35) (bits 34 8388607) HT_ (by kernel_rfl) rfl rfl (fun _ _ _ h => h) (by kernel_rfl) ?_
        refine sv 23 (some 36) (bits 34 16777215) HT_ (by kernel_rfl) rfl rfl (fun _ _ _ h => h) (by kernel_rfl) ?_
        refine sv 24 (some 37) (bits 34 33554431) HT_ (by kernel_rfl) rfl rfl (fun _ _ _ h => h) (by kernel_rfl) ?_
        refine sv 25 (some 38) (bits 34 67108863) HT_ (by kernel_rfl) rfl rfl (fun _ _ _ h => h) (by kernel_rfl) ?_
        refine sv 26 (some 39) (bits 34 134217727) HT_ (by kernel_rfl) rfl rfl (fun _ _ _ h => h) (by kernel_rfl) ?_
        refine sv 27 (some 40) (bits 34 268435455) HT_ (by kernel_rfl) rfl rfl (fun _ _ _ h => h) (by kernel_rfl) ?_
        refine sv 28 (some 41) (bits 34 536870911) HT_ (by kernel_rfl) rfl rfl (fun _ _ _ h => h) (by kernel_rfl) ?_
        refine sv 29 (some 42) (bits 34 1073741823) HT_ (by kernel_rfl) rfl rfl (fun _ _ _ h => h) (by kernel_rfl) ?_
        refine sv 30 (some 43) (bits 34 2147483647) HT_ (by kernel_rfl) rfl rfl (fun _ _ _ h => h) (by kernel_rfl) ?_
        refine sv 31 (some 44) (bits 34 4294967295) HT_ (by kernel_rfl) rfl rfl (fun _ _ _ h => h) (by kernel_rfl) ?_
        refine pv 32 (some 45) (v := ?_) (bits 34 8589934591) HT_ (by kernel_rfl) rfl rfl (fun _ _ _ h => h) (by kernel_rfl) ?_ ?_; rotate_left; (intro w'; go_simp; with_reducible rfl)
        refine pv 33 (some 46) (v := ?_) (bits 34 17179869183) HT_ (by kernel_rfl) rfl rfl (fun _ _ _ h => h) (by kernel_rfl) ?_ ?_; rotate_left; (intro w'; go_simp; with_reducible rfl)
        refine norm_ (a' := ?_) ?_ ?_
        rotate_left
        ·simp only [Act.put, za, zb, zc, i64_w, i32_w]
         rfl
        refine done_ (done_of HT_.out (by kernel_rfl)) ?_
        try go_wp2
        all_goals first
         | (go_roundg d; (case measure => omega); (case rel => exact ⟨j + 1, congrArg (Value.int .i64) (Int.natCast_succ _).symm, by omega, by omega, B, ⟨andT HS.out (by grind [l1B, ltB])⟩⟩))
         | (go_ret; exact ⟨andF HS.out (by grind [l1B, ltB]), B.out⟩)
       ·rw [if_neg hz] at HS
        have dz : decide (0 < (j : Int)) = true := decide_eq_true (by omega)
        have dz2 : decide (0 < j) = true := decide_eq_true (by omega)
        obtain ⟨i, hi⟩ : ∃ i, j - 1 = i := ⟨_, rfl⟩
        rw [hi] at HS
        have WI := Aside0.mk (show (j : Int) - 1 = (i : Int) by omega)
        have hij : i < l.length := by omega
        have IW := Aside0.mk (show wrap64 (i : Int) = (i : Int) by unfold wrap64; omega)
        have i1 := eq_true (show (i : Int) < (l.length : Int) by omega)
        have i2 := eq_true hij
        generalize hx : rd_T61 l (i : Int) = x at HS
        clear hz hi
        refine pv 18 (some 31) (v := ?_) (bits 34 524287) HT_ (by kernel_rfl) rfl rfl (fun _ _ _ h => h) (by kernel_rfl) ?_ ?_; rotate_left; (intro w'; go_simp; with_reducible rfl)
        refine pv 19 (some 32) (v := ?_) (bits 34 1048575) HT_ (by kernel_rfl) rfl rfl (fun _ _ _ h => h) (by kernel_rfl) ?_ ?_; rotate_left; (intro w'; go_simp; with_reducible rfl)
        refine pv 20 (some 33) (v := ?_) (bits 34 2097151) HT_ (by kernel_rfl) rfl rfl (fun _ _ _ h => h) (by kernel_rfl) ?_ ?_; rotate_left; (intro w'; go_simp; with_reducible rfl)
        refine pv 21 (some 34) (v := ?_) (bits 34 4194303) HT_ (by kernel_rfl) rfl rfl (fun _ _ _ h => h) (by kernel_rfl) ?_ ?_; rotate_left; (intro w'; go_simp; with_reducible rfl)
        refine pv 22 (some 35) (v := ?_) (bits 34 8388607) HT_ (by kernel_rfl) rfl rfl (fun _ _ _ h => h) (by kernel_rfl) ?_ ?_; rotate_left; (intro w'; go_simp; with_reducible rfl)
        refine pv 23 (some 36) (v := ?_) (bits 34 16777215) HT_ (by kernel_rfl) rfl rfl (fun _ _ _ h => h) (by kernel_rfl) ?_ ?_; rotate_left; (intro w'; go_simp; with_reducible rfl)
        refine tv 24 (some 37) (v := ?_) (bits 34 33554431) HT_ HW_ (by kernel_rfl) rfl rfl (fun _ _ _ h => h) (by kernel_rfl) hHeld ?_ ?_; rotate_left; (intro w' hS; have s0 := hS; obtain ⟨_, hA, q0, q1⟩ := at_T61 s0 (j : Int) (by omega) (by omega); cases hA; rw [Int.toNat_natCast] at q0 q1; rw [hy] at q0 q1; go_simp; with_reducible rfl)
        refine pv 25 (some 38) (v := ?_) (bits 34 67108863) HT_ (by kernel_rfl) rfl rfl (fun _ _ _ h => h) (by kernel_rfl) ?_ ?_; rotate_left; (intro w'; go_simp; with_reducible rfl)
        refine pv 26 (some 39) (v := ?_) (bits 34 134217727) HT_ (by kernel_rfl) rfl rfl (fun _ _ _ h => h) (by kernel_rfl) ?_ ?_; rotate_left; (intro w'; go_simp; with_reducible rfl)
        refine pu (i := 27) (N := some 40) (v := .int .i64 ((i : Int))) (bits 34 268435455) rfl rfl (any_of HT_.out (by kernel_rfl)) (fun _ _ _ h => h) (by kernel_rfl) ?_ ?_; (intro w'; go_simp; rw [WI.out]; exact (i64_w _).trans IW.out)
        refine pv 28 (some 41) (v := ?_) (bits 34 536870911) HT_ (by kernel_rfl) rfl rfl (fun _ _ _ h => h) (by kernel_rfl) ?_ ?_; rotate_left; (intro w'; go_simp; with_reducible rfl)
        refine pv 29 (some 42) (v := ?_) (bits 34 1073741823) HT_ (by kernel_rfl) rfl rfl (fun _ _ _ h => h) (by kernel_rfl) ?_ ?_; rotate_left; (intro w'; go_simp; with_reducible rfl)
        refine tv 30 (some 43) (v := ?_) (bits 34 2147483647) HT_ HW_ (by kernel_rfl) rfl rfl (fun _ _ _ h => h) (by kernel_rfl) hHeld ?_ ?_; rotate_left; (intro w' hS; have s0 := hS; obtain ⟨_, hA, q0, q1⟩ := at_T61 s0 (i : Int) (by omega) (by omega); cases hA; rw [Int.toNat_natCast] at q0 q1; rw [hx] at q0 q1; go_simp; with_reducible rfl)
        refine pv 31 (some 44) (v := ?_) (bits 34 4294967295) HT_ (by kernel_rfl) rfl rfl (fun _ _ _ h => h) (by kernel_rfl) ?_ ?_; rotate_left; (intro w'; go_simp; with_reducible rfl)
        refine pv 32 (some 45) (v := ?_) (bits 34 8589934591) HT_ (by kernel_rfl) rfl rfl (fun _ _ _ h => h) (by kernel_rfl) ?_ ?_; rotate_left; (intro w'; go_simp; with_reducible rfl)
        refine pv 33 (some 46) (v := ?_) (bits 34 17179869183) HT_ (by kernel_rfl) rfl rfl (fun _ _ _ h => h) (by kernel_rfl) ?_ ?_; rotate_left; (intro w'; go_simp; with_reducible rfl)
        refine norm_ (a' := ?_) ?_ ?_
        rotate_left
        ·simp only [Act.put, za, zb, zc, i64_w, i32_w]
         rfl
        refine done_ (done_of HT_.out (by kernel_rfl)) ?_
        try go_wp2
        all_goals first
         | (go_roundg d; (case measure => omega); (case rel => exact ⟨j + 1, congrArg (Value.int .i64) (Int.natCast_succ _).symm, by omega, by omega, B, ⟨andT HS.out (by grind [l1B, ltB])⟩⟩))
         | (go_ret; exact ⟨andF HS.out (by grind [l1B, ltB]), B.out⟩))
    all_goals try go_wp2
    all_goals try (go_ret; exact ⟨andF HS.out (by grind [l1B, ltB]), B.out⟩)
   ·have cj : decide ((j : Int) < (l.length : Int)) = false := decide_eq_false (by omega)
    have hr : r = true := by rw [← H.out]; exact prJ_end hlt
    subst hr
    go_wp2
    go_ret
    exact ⟨rfl, B.out⟩
 ·have cl0 : decide (48 < (l.length : Int)) = true := decide_eq_true (by omega)
  have hr : r = false := by rw [← hr, decide_eq_false hl]; rfl
  subst hr
  go_enter Try.func48, Try.ntmps48
  go_wp2
  go_ret
  exact ⟨rfl, B.out⟩

def spec_SessionsValid.T5 : Bool × List (List Nat × List Nat) := (true, [([], []), ([0], [0]), ([1], [1]), ([2], [2]), ([3, 2], [3]), ([4], [4]), ([5, 4], [4, 5]), ([6, 4, 4], [4, 6]), ([7, 4], [4, 7]), ([4, 8], [4, 8]), ([9, 7], [9]), ([10], [10]), ([11, 10], [10, 11]), ([12, 10, 10], [10, 12]), ([13, 10], [10, 13]), ([10, 14], [10, 14]), ([15, 13], [15]), ([16], [16]), ([17, 16], [16, 17]), ([18, 16, 16], [16, 18]), ([19], [19]), ([20, 19], [19, 20]), ([19], [19]), ([19], [19]), ([23, 19], [19, 23]), ([22, 24, 19], [19, 22, 24]), ([25, 19], [19, 25]), ([26, 19], [19, 26]), ([21, 27, 19], [19, 21, 27]), ([19, 28, 16], [16, 19, 28]), ([16, 29], [16, 29])])
def spec_SessionsValid.B5 : List Nat := [0, 1, 3, 7, 15, 31, 63, 127, 255, 511, 1023, 2047, 4095, 8191, 16383, 32767, 65535, 131071, 262143, 524287, 1048575, 2097151, 1048575, 1048575, 9437183, 30408703, 63963135, 131071999, 268435455, 536870911, 1073741823]
theorem spec_SessionsValid.tab5 : rtab .any (opsOf Try.f49 5) = spec_SessionsValid.T5 := by kernel_rfl
theorem spec_SessionsValid.bits5 : waitsOk spec_SessionsValid.T5.2 spec_SessionsValid.B5 = true := by kernel_rfl
theorem spec_SessionsValid.M (A0 : Option Addr) (c0 : Nat) (l : List S100) (w : World) (hr0 : Kd.C k100 w A0 l.length l) : Calls Try.prog 49 #[.slice A0 l.length c0] w fun e w' => e = .returned (.bool (sesB l)) ∧ Below w.heap.size w w' := by
 have hu := Try.underlying100
 have B := Aside0.mk (Below.refl w.heap.size w)
 have HR0 := Aside0.mk hr0
 clear hr0
 obtain ⟨r, hr⟩ : ∃ r, sesB l = r := ⟨_, rfl⟩
 rw [hr]
 unfold sesB at hr
 have H := Aside0.mk (show sesJ l 0 = r from hr)
 have L48 := Aside0.mk (show l.length ≤ 9223372036854775807 from HR0.out.2.1)
 clear hr
 go_enter Try.func49, Try.ntmps49
 go_wp2
 go_loopg [3] (l.length + 1) (fun kx v3 wr => ∃ j : Nat, v3 = .int .i64 (j : Int) ∧ j ≤ l.length ∧ l.length < j + kx ∧ Aside0 (Below w.heap.size w wr) ∧ Aside0 (sesJ l j = r))
 case atStart => exact ⟨0, rfl, by omega, by omega, B, H⟩
 case round =>
  clear H B
  obtain ⟨j, rfl, hj, hk, B, H⟩ := hrel
  by_cases hlt : j < l.length
  ·have HS := Aside0.mk ((sesJ_step hlt).symm.trans H.out)
   clear H
   obtain ⟨d, rfl⟩ : ∃ d, gk = d + 1 := ⟨gk - 1, by omega⟩
   have h48 := L48.out
   have cj : decide ((j : Int) < (l.length : Int)) = true := decide_eq_true (by omega)
   obtain ⟨ad, hA, y0, y1, y2⟩ := at_T100 (cb HR0 B) (j : Int) (by omega) (by omega)
   cases hA
   rw [Int.toNat_natCast] at y0 y1 y2
   have j1 := eq_true (show (j : Int) < (l.length : Int) by omega)
   have j2 := eq_true hlt
   generalize hy : rd_T100 l (j : Int) = y at *
   go_wp2_with (first
    | ((with_reducible refine gate_dst (N := 4) rfl ?_); refine bx ?hg (N := 4) ?hd (cs := #[.int .i64 (0), .int .i64 (0), .int .i64 (0)]) (t := 100) ?hr B ?_; (case hd | hg => rfl); (case hr => go_simp; first | done | rfl); intro g4 w1 hb B F4 L4 E4; obtain ⟨c4_0, c4_1, c4_2⟩ := cs3 F4; clear hb E4)
    | ((with_reducible refine gate_store (t := 100) (p := 4) rfl ?_); obtain ⟨y0, y1, y2, z0, z1, z2⟩ := cz3 F4; refine sx (t := 100) (t' := 100) (p := 4) (v := ?vo2) ?hg ?ho ?hn 0 [.int .i64 (y.f0), .int .i64 (y.f1), .int .i64 (y.f2)] [.int .i64 (y.f0), .int .i64 (y.f1), .int .i64 (y.f2)] ?hr B F4 L4 rfl (Nat.le_of_ble_eq_true rfl) ?_; (case ho | hg | hn => rfl); (case hr => go_simp; first | done | rfl); intro w2 hk B G; replace F4 := G; clear c4_0 c4_1 c4_2; obtain ⟨c4_0, c4_1, c4_2⟩ := cs3 F4; clear hk y0 z0 y1 z1 y2 z2))
   all_goals try (go_ret; exact ⟨andF HS.out (by grind [l1B]), B.out⟩)
   all_goals (
    refine rg (n := 31) (S := fun W => W.heap[g4]? = some (.cells #[.int .i64 (y.f0), .int .i64 (y.f1), .int .i64 (y.f2)] 100 (0, 0)) ∧ Kd.C k100 W (some ad) l.length l) (ds := []) #[false, false, false, false, false, false, false, false, false, false, false, false, false, false, false, false, false, false, false, false, false, false, false, false, false, false, false, false, false, false, false] (by kernel_rfl) rfl rfl ⟨F4.out, (cb HR0 B)⟩ id B (fun w3 hb B hHeld => ?_)
    refine with_tabW spec_SessionsValid.tab5 spec_SessionsValid.bits5 (fun HT_ HW_ => ?_)
    replace F4 := bn F4 hb
    clear hb
    refine pv 0 (some 15) (v := ?_) (bits 31 1) HT_ (by kernel_rfl) rfl rfl (fun _ _ _ h => h) (by kernel_rfl) ?_ ?_; rotate_left; (intro w'; go_simp; with_reducible rfl)
    refine tv 1 (some 16) (v := ?_) (bits 31 3) HT_ HW_ (by kernel_rfl) rfl rfl (fun _ _ _ h => h) (by kernel_rfl) hHeld ?_ ?_; rotate_left; (intro w' hS; obtain ⟨s0, s1⟩ := hS; obtain ⟨q0, q1, q2⟩ := cs3 (Aside0.mk s0); go_simp; with_reducible rfl)
    refine norm_ (a' := ?_) ?_ ?_
    rotate_left
    ·simp only [Act.put, za, zb, zc, i64_w, i32_w]
     rfl
    refine one_ (i := 2) (N := some 17) (bits 31 7) rfl rfl (one_of HT_.out (by kernel_rfl)) (by decide) (fun K hK => ?_)
    rcases hq1 : (l1B y.f0 0 3) with _ | _
    ·refine goes_ Try.func90 (by kernel_rfl) rfl #[.int .i64 (y.f0), .int .i64 (0), .int .i64 (3)] (by rfl) rfl rfl (by (try simp only [List.map_toArray, List.map_cons, List.map_nil]); rfl) ?_
     with_reducible refine cl (clv (spec_l1In.M y.f0 0 3 _) (congrArg Value.bool hq1)) B fun w4 hb B => ?_
     replace F4 := bn F4 hb
     clear hb
     refine ⟨_, rfl, ?_⟩
     refine hK.out _ _ ⟨F4.out, (cb HR0 B)⟩ (fun hHeld => ?_)
     clear hK K
     refine norm_ (a' := ?_) ?_ ?_
     rotate_left
     ·show Act.put _ (some 17) _ = _
      simp only [Act.put, za, zb, zc, i64_w, i32_w]
      rfl
     refine pv 3 (some 18) (v := ?_) (bits 31 15) HT_ (by kernel_rfl) rfl rfl (fun _ _ _ h => h) (by kernel_rfl) ?_ ?_; rotate_left; (intro w'; go_simp; with_reducible rfl)
     refine pv 4 (some 19) (v := ?_) (bits 31 31) HT_ (by kernel_rfl) rfl rfl (fun _ _ _ h => h) (by kernel_rfl) ?_ ?_; rotate_left; (intro w'; go_simp; with_reducible rfl)
     refine sv 5 (some 20) (bits 31 63) HT_ (by kernel_rfl) rfl rfl (fun _ _ _ h => h) (by kernel_rfl) ?_
     refine sv 6 (some 21) (bits 31 127) HT_ (by kernel_rfl) rfl rfl (fun _ _ _ h => h) (by kernel_rfl) ?_
     refine sv 7 (some 22) (bits 31 255) HT_ (by kernel_rfl) rfl rfl (fun _ _ _ h => h) (by kernel_rfl) ?_
     refine sv 8 (some 23) (bits 31 511) HT_ (by kernel_rfl) rfl rfl (fun _ _ _ h => h) (by kernel_rfl) ?_
     refine pv 9 (some 24) (v := ?_) (bits 31 1023) HT_ (by kernel_rfl) rfl rfl (fun _ _ _ h => h) (by kernel_rfl) ?_ ?_; rotate_left; (intro w'; go_simp; with_reducible rfl)
     refine pv 10 (some 25) (v := ?_) (bits 31 2047) HT_ (by kernel_rfl) rfl rfl (fun _ _ _ h => h) (by kernel_rfl) ?_ ?_; rotate_left; (intro w'; go_simp; with_reducible rfl)
     refine sv 11 (some 26) (bits 31 4095) HT_ (by kernel_rfl) rfl rfl (fun _ _ _ h => h) (by kernel_rfl) ?_
     refine sv 12 (some 27) (bits 31 8191) HT_ (by kernel_rfl) rfl rfl (fun _ _ _ h => h) (by kernel_rfl) ?_
     refine sv 13 (some 28) (bits 31 16383) HT_ (by kernel_rfl) rfl rfl (fun _ _ _ h => h) (by kernel_rfl) ?_
     refine sv 14 (some 29) (bits 31 32767) HT_ (by kernel_rfl) rfl rfl (fun _ _ _ h => h) (by kernel_rfl) ?_
     refine pv 15 (some 30) (v := ?_) (bits 31 65535) HT_ (by kernel_rfl) rfl rfl (fun _ _ _ h => h) (by kernel_rfl) ?_ ?_; rotate_left; (intro w'; go_simp; with_reducible rfl)
     refine pv 16 (some 31) (v := ?_) (bits 31 131071) HT_ (by kernel_rfl) rfl rfl (fun _ _ _ h => h) (by kernel_rfl) ?_ ?_; rotate_left; (intro w'; go_simp; with_reducible rfl)
     refine sv 17 (some 32) (bits 31 262143) HT_ (by kernel_rfl) rfl rfl (fun _ _ _ h => h) (by kernel_rfl) ?_
     refine sv 18 (some 33) (bits 31 524287) HT_ (by kernel_rfl) rfl rfl (fun _ _ _ h => h) (by kernel_rfl) ?_
     refine sv 19 (some 34) (bits 31 1048575) HT_ (by kernel_rfl) rfl rfl (fun _ _ _ h => h) (by kernel_rfl) ?_
     refine sv 20 (some 35) (bits 31 2097151) HT_ (by kernel_rfl) rfl rfl (fun _ _ _ h => h) (by kernel_rfl) ?_
     refine sv 21 (some 36) (bits 31 4194303) HT_ (by kernel_rfl) rfl rfl (fun _ _ _ h => h) (by kernel_rfl) ?_
     refine sv 22 (some 37) (bits 31 8388607) HT_ (by kernel_rfl) rfl rfl (fun _ _ _ h => h) (by kernel_rfl) ?_
     refine sv 23 (some 38) (bits 31 16777215) HT_ (by kernel_rfl) rfl rfl (fun _ _ _ h => h) (by kernel_rfl) ?_
     refine sv 24 (some 39) (bits 31 33554431) HT_ (by kernel_rfl) rfl rfl (fun _ _ _ h => h) (by kernel_rfl) ?_
     refine sv 25 (some 40) (bits 31 67108863) HT_ (by kernel_rfl) rfl rfl (fun _ _ _ h => h) (by kernel_rfl) ?_
     refine sv 26 (some 41) (bits 31 134217727) HT_ (by kernel_rfl) rfl rfl (fun _ _ _ h => h) (by kernel_rfl) ?_
     refine sv 27 (some 42) (bits 31 268435455) HT_ (by kernel_rfl) rfl rfl (fun _ _ _ h => h) (by kernel_rfl) ?_
     refine sv 28 (some 43) (bits 31 536870911) HT_ (by kernel_rfl) rfl rfl (fun _ _ _ h => h) (by kernel_rfl) ?_
     refine sv 29 (some 44) (bits 31 1073741823) HT_ (by kernel_rfl) rfl rfl (fun _ _ _ h => h) (by kernel_rfl) ?_
     refine pv 30 (some 45) (v := ?_) (bits 31 2147483647) HT_ (by kernel_rfl) rfl rfl (fun _ _ _ h => h) (by kernel_rfl) ?_ ?_; rotate_left; (intro w'; go_simp; with_reducible rfl)
     refine norm_ (a' := ?_) ?_ ?_
     rotate_left
     ·simp only [Act.put, za, zb, zc, i64_w, i32_w]
      rfl
     refine done_ (done_of HT_.out (by kernel_rfl)) ?_
     try go_wp2
     all_goals first
      | (go_roundg d; (case measure => omega); (case rel => exact ⟨j + 1, congrArg (Value.int .i64) (Int.natCast_succ _).symm, by omega, by omega, B, ⟨andT HS.out (by grind [l1B])⟩⟩))
      | (go_ret; exact ⟨andF HS.out (by grind [l1B]), B.out⟩)
    ·refine goes_ Try.func90 (by kernel_rfl) rfl #[.int .i64 (y.f0), .int .i64 (0), .int .i64 (3)] (by rfl) rfl rfl (by (try simp only [List.map_toArray, List.map_cons, List.map_nil]); rfl) ?_
     with_reducible refine cl (clv (spec_l1In.M y.f0 0 3 _) (congrArg Value.bool hq1)) B fun w4 hb B => ?_
     replace F4 := bn F4 hb
     clear hb
     refine ⟨_, rfl, ?_⟩
     refine hK.out _ _ ⟨F4.out, (cb HR0 B)⟩ (fun hHeld => ?_)
     clear hK K
     refine norm_ (a' := ?_) ?_ ?_
     rotate_left
     ·show Act.put _ (some 17) _ = _
      simp only [Act.put, za, zb, zc, i64_w, i32_w]
      rfl
     refine pv 3 (some 18) (v := ?_) (bits 31 15) HT_ (by kernel_rfl) rfl rfl (fun _ _ _ h => h) (by kernel_rfl) ?_ ?_; rotate_left; (intro w'; go_simp; with_reducible rfl)
     refine pv 4 (some 19) (v := ?_) (bits 31 31) HT_ (by kernel_rfl) rfl rfl (fun _ _ _ h => h) (by kernel_rfl) ?_ ?_; rotate_left; (intro w'; go_simp; with_reducible rfl)
     refine pv 5 (some 20) (v := ?_) (bits 31 63) HT_ (by kernel_rfl) rfl rfl (fun _ _ _ h => h) (by kernel_rfl) ?_ ?_; rotate_left; (intro w'; go_simp; with_reducible rfl)
     refine tv 6 (some 21) (v := ?_) (bits 31 127) HT_ HW_ (by kernel_rfl) rfl rfl (fun _ _ _ h => h) (by kernel_rfl) hHeld ?_ ?_; rotate_left; (intro w' hS; obtain ⟨s0, s1⟩ := hS; obtain ⟨q0, q1, q2⟩ := cs3 (Aside0.mk s0); go_simp; with_reducible rfl)
     refine norm_ (a' := ?_) ?_ ?_
     rotate_left
     ·simp only [Act.put, za, zb, zc, i64_w, i32_w]
      rfl
     refine one_ (i := 7) (N := some 22) (bits 31 255) rfl rfl (one_of HT_.out (by kernel_rfl)) (by decide) (fun K hK => ?_)
     rcases hq2 : (l1B y.f1 1 999) with _ | _
     ·refine goes_ Try.func90 (by kernel_rfl) rfl #[.int .i64 (y.f1), .int .i64 (1), .int .i64 (999)] (by rfl) rfl rfl (by (try simp only [List.map_toArray, List.map_cons, List.map_nil]); rfl) ?_
      with_reducible refine cl (clv (spec_l1In.M y.f1 1 999 _) (congrArg Value.bool hq2)) B fun w5 hb B => ?_
      replace F4 := bn F4 hb
      clear hb
      refine ⟨_, rfl, ?_⟩
      refine hK.out _ _ ⟨F4.out, (cb HR0 B)⟩ (fun hHeld => ?_)
      clear hK K
      refine norm_ (a' := ?_) ?_ ?_
      rotate_left
      ·show Act.put _ (some 22) _ = _
       simp only [Act.put, za, zb, zc, i64_w, i32_w]
       rfl
      refine pv 8 (some 23) (v := ?_) (bits 31 511) HT_ (by kernel_rfl) rfl rfl (fun _ _ _ h => h) (by kernel_rfl) ?_ ?_; rotate_left; (intro w'; go_simp; with_reducible rfl)
      refine pv 9 (some 24) (v := ?_) (bits 31 1023) HT_ (by kernel_rfl) rfl rfl (fun _ _ _ h => h) (by kernel_rfl) ?_ ?_; rotate_left; (intro w'; go_simp; with_reducible rfl)
      refine pv 10 (some 25) (v := ?_) (bits 31 2047) HT_ (by kernel_rfl) rfl rfl (fun _ _ _ h => h) (by kernel_rfl) ?_ ?_; rotate_left; (intro w'; go_simp; with_reducible rfl)
      refine sv 11 (some 26) (bits 31 4095) HT_ (by kernel_rfl) rfl rfl (fun _ _ _ h => h) (by kernel_rfl) ?_
      refine sv 12 (some 27) (bits 31 8191) HT_ (by kernel_rfl) rfl rfl (fun _ _ _ h => h) (by kernel_rfl) ?_
      refine sv 13 (some 28) (bits 31 16383) HT_ (by kernel_rfl) rfl rfl (fun _ _ _ h => h) (by kernel_rfl) ?_
      refine sv 14 (some 29) (bits 31 32767) HT_ (by kernel_rfl) rfl rfl (fun _ _ _ h => h) (by kernel_rfl) ?_
      refine pv 15 (some 30) (v := ?_) (bits 31 65535) HT_ (by kernel_rfl) rfl rfl (fun _ _ _ h => h) (by kernel_rfl) ?_ ?_; rotate_left; (intro w'; go_simp; with_reducible rfl)
      refine pv 16 (some 31) (v := ?_) (bits 31 131071) HT_ (by kernel_rfl) rfl rfl (fun _ _ _ h => h) (by kernel_rfl) ?_ ?_; rotate_left; (intro w'; go_simp; with_reducible rfl)
      refine sv 17 (some 32) (bits 31 262143) HT_ (by kernel_rfl) rfl rfl (fun _ _ _ h => h) (by kernel_rfl) ?_
      refine sv 18 (some 33) (bits 31 524287) HT_ (by kernel_rfl) rfl rfl (fun _ _ _ h => h) (by kernel_rfl) ?_
      refine sv 19 (some 34) (bits 31 1048575) HT_ (by kernel_rfl) rfl rfl (fun _ _ _ h => h) (by kernel_rfl) ?_
      refine sv 20 (some 35) (bits 31 2097151) HT_ (by kernel_rfl) rfl rfl (fun _ _ _ h => h) (by kernel_rfl) ?_
      refine sv 21 (some 36) (bits 31 4194303) HT_ (by kernel_rfl) rfl rfl (fun _ _ _ h => h) (by kernel_rfl) ?_
      refine sv 22 (some 37) (bits 31 8388607) HT_ (by kernel_rfl) rfl rfl (fun _ _ _ h => h) (by kernel_rfl) ?_
      refine sv 23 (some 38) (bits 31 16777215) HT_ (by kernel_rfl) rfl rfl (fun _ _ _ h => h) (by kernel_rfl) ?_
      refine sv 24 (some 39) (bits 31 33554431) HT_ (by kernel_rfl) rfl rfl (fun _ _ _ h => h) (by kernel_rfl) ?_
      refine sv 25 (some 40) (bits 31 67108863) HT_ (by kernel_rfl) rfl rfl (fun _ _ _ h => h) (by kernel_rfl) ?_
      refine sv 26 (some 41) (bits 31 134217727) HT_ (by kernel_rfl) rfl rfl (fun _ _ _ h => h) (by kernel_rfl) ?_
      refine sv 27 (some 42) (bits 31 268435455) HT_ (by kernel_rfl) rfl rfl (fun _ _ _ h => h) (by kernel_rfl) ?_
      refine sv 28 (some 43) (bits 31 536870911) HT_ (by kernel_rfl) rfl rfl (fun _ _ _ h => h) (by kernel_rfl) ?_
      refine sv 29 (some 44) (bits 31 1073741823) HT_ (by kernel_rfl) rfl rfl (fun _ _ _ h => h) (by kernel_rfl) ?_
      refine pv 30 (some 45) (v := ?_) (bits 31 2147483647) HT_ (by kernel_rfl) rfl rfl (fun _ _ _ h => h) (by kernel_rfl) ?_ ?_; rotate_left; (intro w'; go_simp; with_reducible rfl)
      refine norm_ (a' := ?_) ?_ ?_
      rotate_left
      ·simp only [Act.put, za, zb, zc, i64_w, i32_w]
       rfl
      refine done_ (done_of HT_.out (by kernel_rfl)) ?_
      try go_wp2
      all_goals first
       | (go_roundg d; (case measure => omega); (case rel => exact ⟨j + 1, congrArg (Value.int .i64) (Int.natCast_succ _).symm, by omega, by omega, B, ⟨andT HS.out (by grind [l1B])⟩⟩))
       | (go_ret; exact ⟨andF HS.out (by grind [l1B]), B.out⟩)
     ·refine goes_ Try.func90 (by kernel_rfl) rfl #[.int .i64 (y.f1), .int .i64 (1), .int .i64 (999)] (by rfl) rfl rfl (by (try simp only [List.map_toArray, List.map_cons, List.map_nil]); rfl) ?_
      with_reducible refine cl (clv (spec_l1In.M y.f1 1 999 _) (congrArg Value.bool hq2)) B fun w5 hb B => ?_
      replace F4 := bn F4 hb
      clear hb
      refine ⟨_, rfl, ?_⟩
      refine hK.out _ _ ⟨F4.out, (cb HR0 B)⟩ (fun hHeld => ?_)
      clear hK K
      refine norm_ (a' := ?_) ?_ ?_
      rotate_left
      ·show Act.put _ (some 22) _ = _
       simp only [Act.put, za, zb, zc, i64_w, i32_w]
       rfl
      refine pv 8 (some 23) (v := ?_) (bits 31 511) HT_ (by kernel_rfl) rfl rfl (fun _ _ _ h => h) (by kernel_rfl) ?_ ?_; rotate_left; (intro w'; go_simp; with_reducible rfl)
      refine pv 9 (some 24) (v := ?_) (bits 31 1023) HT_ (by kernel_rfl) rfl rfl (fun _ _ _ h => h) (by kernel_rfl) ?_ ?_; rotate_left; (intro w'; go_simp; with_reducible rfl)
      refine pv 10 (some 25) (v := ?_) (bits 31 2047) HT_ (by kernel_rfl) rfl rfl (fun _ _ _ h => h) (by kernel_rfl) ?_ ?_; rotate_left; (intro w'; go_simp; with_reducible rfl)
      refine pv 11 (some 26) (v := ?_) (bits 31 4095) HT_ (by kernel_rfl) rfl rfl (fun _ _ _ h => h) (by kernel_rfl) ?_ ?_; rotate_left; (intro w'; go_simp; with_reducible rfl)
      refine tv 12 (some 27) (v := ?_) (bits 31 8191) HT_ HW_ (by kernel_rfl) rfl rfl (fun _ _ _ h => h) (by kernel_rfl) hHeld ?_ ?_; rotate_left; (intro w' hS; obtain ⟨s0, s1⟩ := hS; obtain ⟨q0, q1, q2⟩ := cs3 (Aside0.mk s0); go_simp; with_reducible rfl)
      refine norm_ (a' := ?_) ?_ ?_
      rotate_left
      ·simp only [Act.put, za, zb, zc, i64_w, i32_w]
       rfl
      refine one_ (i := 13) (N := some 28) (bits 31 16383) rfl rfl (one_of HT_.out (by kernel_rfl)) (by decide) (fun K hK => ?_)
      rcases hq3 : (l1B y.f2 (-2) 999) with _ | _
      ·refine goes_ Try.func90 (by kernel_rfl) rfl #[.int .i64 (y.f2), .int .i64 (-2), .int .i64 (999)] (by rfl) rfl rfl (by (try simp only [List.map_toArray, List.map_cons, List.map_nil]); rfl) ?_
       with_reducible refine cl (clv (spec_l1In.M y.f2 (-2) 999 _) (congrArg Value.bool hq3)) B fun w6 hb B => ?_
       replace F4 := bn F4 hb
       clear hb
       refine ⟨_, rfl, ?_⟩
       refine hK.out _ _ ⟨F4.out, (cb HR0 B)⟩ (fun hHeld => ?_)
       clear hK K
       refine norm_ (a' := ?_) ?_ ?_
       rotate_left
       ·show Act.put _ (some 28) _ = _
        simp only [Act.put, za, zb, zc, i64_w, i32_w]
        rfl
       refine pv 14 (some 29) (v := ?_) (bits 31 32767) HT_ (by kernel_rfl) rfl rfl (fun _ _ _ h => h) (by kernel_rfl) ?_ ?_; rotate_left; (intro w'; go_simp; with_reducible rfl)
       refine pv 15 (some 30) (v := ?_) (bits 31 65535) HT_ (by kernel_rfl) rfl rfl (fun _ _ _ h => h) (by kernel_rfl) ?_ ?_; rotate_left; (intro w'; go_simp; with_reducible rfl)
       refine pv 16 (some 31) (v := ?_) (bits 31 131071) HT_ (by kernel_rfl) rfl rfl (fun _ _ _ h => h) (by kernel_rfl) ?_ ?_; rotate_left; (intro w'; go_simp; with_reducible rfl)
       refine sv 17 (some 32) (bits 31 262143) HT_ (by kernel_rfl) rfl rfl (fun _ _ _ h => h) (by kernel_rfl) ?_
       refine sv 18 (some 33) (bits 31 524287) HT_ (by kernel_rfl) rfl rfl (fun _ _ _ h => h) (by kernel_rfl) ?_
       refine sv 19 (some 34) (bits 31 1048575) HT_ (by kernel_rfl) rfl rfl (fun _ _ _ h => h) (by kernel_rfl) ?_
       refine sv 20 (some 35) (bits 31 2097151) HT_ (by kernel_rfl) rfl rfl (fun _ _ _ h => h) (by kernel_rfl) ?_
       refine sv 21 (some 36) (bits 31 4194303) HT_ (by kernel_rfl) rfl rfl (fun _ _ _ h => h) (by kernel_rfl) ?_
       refine sv 22 (some 37) (bits 31 8388607) HT_ (by kernel_rfl) rfl rfl (fun _ _ _ h => h) (by kernel_rfl) ?_
       refine sv 23 (some 38) (bits 31 16777215) HT_ (by kernel_rfl) rfl rfl (fun _ _ _ h => h) (by kernel_rfl) ?_
       refine sv 24 (some 39) (bits 31 33554431) HT_ (by kernel_rfl) rfl rfl (fun _ _ _ h => h) (by kernel_rfl) ?_
       refine sv 25 (some 40) (bits 31 67108863) HT_ (by kernel_rfl) rfl rfl (fun _ _ _ h => h) (by kernel_rfl) ?_
       refine sv 26 (some 41) (bits 31 134217727) HT_ (by kernel_rfl) rfl rfl (fun _ _ _ h => h) (by kernel_rfl) ?_
       refine sv 27 (some 42) (bits 31 268435455) HT_ (by kernel_rfl) rfl rfl (fun _ _ _ h => h) (by kernel_rfl) ?_
       refine sv 28 (some 43) (bits 31 536870911) HT_ (by kernel_rfl) rfl rfl (fun _ _ _ h => h) (by kernel_rfl) ?_
       refine sv 29 (some 44) (bits 31 1073741823) HT_ (by kernel_rfl) rfl rfl (fun _ _ _ h => h) (by kernel_rfl) ?_
       refine pv 30 (some 45) (v := ?_) (bits 31 2147483647) HT_ (by kernel_rfl) rfl rfl (fun _ _ _ h => h) (by kernel_rfl) ?_ ?_; rotate_left; (intro w'; go_simp; with_reducible rfl)
       refine norm_ (a' := ?_) ?_ ?_
       rotate_left
       ·simp only [Act.put, za, zb, zc, i64_w, i32_w]
        rfl
       refine done_ (done_of HT_.out (by kernel_rfl)) ?_
       try go_wp2
       all_goals first
        | (go_roundg d; (case measure => omega); (case rel => exact ⟨j + 1, congrArg (Value.int .i64) (Int.natCast_succ _).symm, by omega, by omega, B, ⟨andT HS.out (by grind [l1B])⟩⟩))
        | (go_ret; exact ⟨andF HS.out (by grind [l1B]), B.out⟩)
      ·refine goes_ Try.func90 (by kernel_rfl) rfl #[.int .i64 (y.f2), .int .i64 (-2), .int .i64 (999)] (by rfl) rfl rfl (by (try simp only [List.map_toArray, List.map_cons, List.map_nil]); rfl) ?_
       with_reducible refine cl (clv (spec_l1In.M y.f2 (-2) 999 _) (congrArg Value.bool hq3)) B fun w6 hb B => ?_
       replace F4 := bn F4 hb
       clear hb
       refine ⟨_, rfl, ?_⟩
       refine hK.out _ _ ⟨F4.out, (cb HR0 B)⟩ (fun hHeld => ?_)
       clear hK K
       refine norm_ (a' := ?_) ?_ ?_
       rotate_left
       ·show Act.put _ (some 28) _ = _
        simp only [Act.put, za, zb, zc, i64_w, i32_w]
        rfl
       refine pv 14 (some 29) (v := ?_) (bits 31 32767) HT_ (by kernel_rfl) rfl rfl (fun _ _ _ h => h) (by kernel_rfl) ?_ ?_; rotate_left; (intro w'; go_simp; with_reducible rfl)
       refine pv 15 (some 30) (v := ?_) (bits 31 65535) HT_ (by kernel_rfl) rfl rfl (fun _ _ _ h => h) (by kernel_rfl) ?_ ?_; rotate_left; (intro w'; go_simp; with_reducible rfl)
       refine pv 16 (some 31) (v := ?_) (bits 31 131071) HT_ (by kernel_rfl) rfl rfl (fun _ _ _ h => h) (by kernel_rfl) ?_ ?_; rotate_left; (intro w'; go_simp; with_reducible rfl)
       refine pv 17 (some 32) (v := ?_) (bits 31 262143) HT_ (by kernel_rfl) rfl rfl (fun _ _ _ h => h) (by kernel_rfl) ?_ ?_; rotate_left; (intro w'; go_simp; with_reducible rfl)
       by_cases hz : j = 0
       ·rw [if_pos hz] at HS
        have dz : decide (0 < (j : Int)) = false := decide_eq_false (by omega)
        have dz2 : decide (0 < j) = false := decide_eq_false (by omega)
        clear hz
        refine pv 18 (some 33) (v := ?_) (bits 31 524287) HT_ (by kernel_rfl) rfl rfl (fun _ _ _ h => h) (by kernel_rfl) ?_ ?_; rotate_left; (intro w'; go_simp; with_reducible rfl)
        refine pv 19 (some 34) (v := ?_) (bits 31 1048575) HT_ (by kernel_rfl) rfl rfl (fun _ _ _ h => h) (by kernel_rfl) ?_ ?_; rotate_left; (intro w'; go_simp; with_reducible rfl)
        refine sv 20 (some 35) (bits 31 2097151) HT_ (by kernel_rfl) rfl rfl (fun _ _ _ h => h) (by kernel_rfl) ?_
        refine sv 21 (some 36) (bits 31 4194303) HT_ (by kernel_rfl) rfl rfl (fun _ _ _ h => h) (by kernel_rfl) ?_
        refine sv 22 (some 37) (bits 31 8388607) HT_ (by kernel_rfl) rfl rfl (fun _ _ _ h => h) (by kernel_rfl) ?_
        refine sv 23 (some 38) (bits 31 16777215) HT_ (by kernel_rfl) rfl rfl (fun _ _ _ h => h) (by kernel_rfl) ?_
        refine sv 24 (some 39) (bits 31 33554431) HT_ (by kernel_rfl) rfl rfl (fun _ _ _ h => h) (by kernel_rfl) ?_
        refine sv 25 (some 40) (bits 31 67108863) HT_ (by kernel_rfl) rfl rfl (fun _ _ _ h => h) (by kernel_rfl) ?_
        refine sv 26 (some 41) (bits 31 134217727) HT_ (by kernel_rfl) rfl rfl (fun _ _ _ h => h) (by kernel_rfl) ?_
        refine sv 27 (some 42) (bits 31 268435455) HT_ (by kernel_rfl) rfl rfl (fun _ _ _ h => h) (by kernel_rfl) ?_
        refine sv 28 (some 43) (bits 31 536870911) HT_ (by kernel_rfl) rfl rfl (fun _ _ _ h => h) (by kernel_rfl) ?_
        refine pv 29 (some 44) (v := ?_) (bits 31 1073741823) HT_ (by kernel_rfl) rfl rfl (fun _ _ _ h => h) (by kernel_rfl) ?_ ?_; rotate_left; (intro w'; go_simp; with_reducible rfl)
        refine pv 30 (some 45) (v := ?_) (bits 31 2147483647) HT_ (by kernel_rfl) rfl rfl (fun _ _ _ h => h) (by kernel_rfl) ?_ ?_; rotate_left; (intro w'; go_simp; with_reducible rfl)
        refine norm_ (a' := ?_) ?_ ?_
        rotate_left
        ·simp only [Act.put, za, zb, zc, i64_w, i32_w]
         rfl
        refine done_ (done_of HT_.out (by kernel_rfl)) ?_
        try go_wp2
        all_goals first
         | (go_roundg d; (case measure => omega); (case rel => exact ⟨j + 1, congrArg (Value.int .i64) (Int.natCast_succ _).symm, by omega, by omega, B, ⟨andT HS.out (by grind [l1B])⟩⟩))
         | (go_ret; exact ⟨andF HS.out (by grind [l1B]), B.out⟩)
       ·rw [if_neg hz] at HS
        have dz : decide (0 < (j : Int)) = true := decide_eq_true (by omega)
        have dz2 : decide (0 < j) = true := decide_eq_true (by omega)
        obtain ⟨i, hi⟩ : ∃ i, j - 1 = i := ⟨_, rfl⟩
        rw [hi] at HS
        have WI := Aside0.mk (show (j : Int) - 1 = (i : Int) by omega)
        have hij : i < l.length := by omega
        have IW := Aside0.mk (show wrap64 (i : Int) = (i : Int) by unfold wrap64; omega)
        have i1 := eq_true (show (i : Int) < (l.length : Int) by omega)
        have i2 := eq_true hij
        generalize hx : rd_T100 l (i : Int) = x at HS
        clear hz hi
        refine pv 18 (some 33) (v := ?_) (bits 31 524287) HT_ (by kernel_rfl) rfl rfl (fun _ _ _ h => h) (by kernel_rfl) ?_ ?_; rotate_left; (intro w'; go_simp; with_reducible rfl)
        refine pv 19 (some 34) (v := ?_) (bits 31 1048575) HT_ (by kernel_rfl) rfl rfl (fun _ _ _ h => h) (by kernel_rfl) ?_ ?_; rotate_left; (intro w'; go_simp; with_reducible rfl)
        refine pv 20 (some 35) (v := ?_) (bits 31 2097151) HT_ (by kernel_rfl) rfl rfl (fun _ _ _ h => h) (by kernel_rfl) ?_ ?_; rotate_left; (intro w'; go_simp; with_reducible rfl)
        refine tv 21 (some 36) (v := ?_) (bits 31 4194303) HT_ HW_ (by kernel_rfl) rfl rfl (fun _ _ _ h => h) (by kernel_rfl) hHeld ?_ ?_; rotate_left; (intro w' hS; obtain ⟨s0, s1⟩ := hS; obtain ⟨q0, q1, q2⟩ := cs3 (Aside0.mk s0); go_simp; with_reducible rfl)
        refine pv 22 (some 37) (v := ?_) (bits 31 8388607) HT_ (by kernel_rfl) rfl rfl (fun _ _ _ h => h) (by kernel_rfl) ?_ ?_; rotate_left; (intro w'; go_simp; with_reducible rfl)
        refine pv 23 (some 38) (v := ?_) (bits 31 16777215) HT_ (by kernel_rfl) rfl rfl (fun _ _ _ h => h) (by kernel_rfl) ?_ ?_; rotate_left; (intro w'; go_simp; with_reducible rfl)
        refine pu (i := 24) (N := some 39) (v := .int .i64 ((i : Int))) (bits 31 33554431) rfl rfl (any_of HT_.out (by kernel_rfl)) (fun _ _ _ h => h) (by kernel_rfl) ?_ ?_; (intro w'; go_simp; rw [WI.out]; exact (i64_w _).trans IW.out)
        refine pv 25 (some 40) (v := ?_) (bits 31 67108863) HT_ (by kernel_rfl) rfl rfl (fun _ _ _ h => h) (by kernel_rfl) ?_ ?_; rotate_left; (intro w'; go_simp; with_reducible rfl)
        refine pv 26 (some 41) (v := ?_) (bits 31 134217727) HT_ (by kernel_rfl) rfl rfl (fun _ _ _ h => h) (by kernel_rfl) ?_ ?_; rotate_left; (intro w'; go_simp; with_reducible rfl)
        refine tv 27 (some 42) (v := ?_) (bits 31 268435455) HT_ HW_ (by kernel_rfl) rfl rfl (fun _ _ _ h => h) (by kernel_rfl) hHeld ?_ ?_; rotate_left; (intro w' hS; obtain ⟨s0, s1⟩ := hS; obtain ⟨_, hA, q0, q1, q2⟩ := at_T100 s1 (i : Int) (by omega) (by omega); cases hA; rw [Int.toNat_natCast] at q0 q1 q2; rw [hx] at q0 q1 q2; go_simp; with_reducible rfl)
        refine pv 28 (some 43) (v := ?_) (bits 31 536870911) HT_ (by kernel_rfl) rfl rfl (fun _ _ _ h => h) (by kernel_rfl) ?_ ?_; rotate_left; (intro w'; go_simp; with_reducible rfl)
        refine pv 29 (some 44) (v := ?_) (bits 31 1073741823) HT_ (by kernel_rfl) rfl rfl (fun _ _ _ h => h) (by kernel_rfl) ?_ ?_; rotate_left; (intro w'; go_simp; with_reducible rfl)
        refine pv 30 (some 45) (v := ?_) (bits 31 2147483647) HT_ (by kernel_rfl) rfl rfl (fun _ _ _ h => h) (by kernel_rfl) ?_ ?_; rotate_left; (intro w'; go_simp; with_reducible rfl)
        refine norm_ (a' := ?_) ?_ ?_
        rotate_left
        ·simp only [Act.put, za, zb, zc, i64_w, i32_w]
         rfl
        refine done_ (done_of HT_.out (by kernel_rfl)) ?_
        try go_wp2
        all_goals first
         | (go_roundg d; (case measure => omega); (case rel => exact ⟨j + 1, congrArg (Value.int .i64) (Int.natCast_succ _).symm, by omega, by omega, B, ⟨andT HS.out (by grind [l1B])⟩⟩))
         | (go_ret; exact ⟨andF HS.out (by grind [l1B]), B.out⟩))
   all_goals try go_wp2
   all_goals try (go_ret; exact ⟨andF HS.out (by grind [l1B]), B.out⟩)
  ·have cj : decide ((j : Int) < (l.length : Int)) = false := decide_eq_false (by omega)
   have hr : r = true := by rw [← H.out]; exact sesJ_end hlt
   subst hr
   go_wp2
   go_ret
   exact ⟨rfl, B.out⟩

def spec_IntervalCut.T5 : Bool × List (List Nat × List Nat) := (true, [([], []), ([], []), ([0, 0], [0]), ([1, 2, 0, 1, 2], [1]), ([3, 0, 1, 2, 3], [])])
def spec_IntervalCut.B5 : List Nat := [0, 0, 1, 7, 15]
theorem spec_IntervalCut.tab5 : rtab .any (opsOf Try.f51 5) = spec_IntervalCut.T5 := by kernel_rfl
theorem spec_IntervalCut.bits5 : waitsOk spec_IntervalCut.T5.2 spec_IntervalCut.B5 = true := by kernel_rfl
theorem spec_IntervalCut.M (a b c : ByteArray) (w : World) : Calls Try.prog 51 #[.agg #[.string a, .string b], .string c] w fun e w' => e = .returned (.tuple #[.agg #[.string (cutV a b c).1, .string (cutV a b c).2.1], .agg #[.string (cutV a b c).2.2.1, .string (cutV a b c).2.2.2.1], .bool (cutV a b c).2.2.2.2]) ∧ Below w.heap.size w w' := by
 have B := Aside0.mk (Below.refl w.heap.size w)
 have hu := Try.underlying30
 go_enter Try.func51, Try.ntmps51
 go_wp2_with (first
  | ((with_reducible refine gate_dst (N := 2) rfl ?_); refine bx ?hg (N := 2) ?hd (cs := #[.string a, .string b]) (t := 30) ?hr B ?_; (case hd | hg => rfl); (case hr => go_simp; first | done | rfl); intro g2 w1 hb B F2 L2 E2; obtain ⟨c2_0, c2_1⟩ := cs2 F2; clear hb E2)
  | ((with_reducible refine gate_dst (N := 4) rfl ?_); refine bx ?hg (N := 4) ?hd (cs := #[.string (⟨#[]⟩ : ByteArray), .string (⟨#[]⟩ : ByteArray)]) (t := 30) ?hr B ?_; (case hd | hg => rfl); (case hr => go_simp; first | done | rfl); intro g4 w2 hb B F4 L4 E4; have N2_4 := ne1 E4 F2; replace F2 := bn F2 hb; clear c2_0 c2_1; obtain ⟨c2_0, c2_1⟩ := cs2 F2; clear hb E4)
  | ((with_reducible refine gate_dst (N := 5) rfl ?_); refine bx ?hg (N := 5) ?hd (cs := #[.string (⟨#[]⟩ : ByteArray), .string (⟨#[]⟩ : ByteArray)]) (t := 30) ?hr B ?_; (case hd | hg => rfl); (case hr => go_simp; first | done | rfl); intro g5 w3 hb B F5 L5 E5; have N2_5 := ne1 E5 F2; have N4_5 := ne1 E5 F4; replace F2 := bn F2 hb; replace F4 := bn F4 hb; clear c2_0 c2_1; obtain ⟨c2_0, c2_1⟩ := cs2 F2; clear hb E5)
  | ((with_reducible refine gate_dst (N := 7) rfl ?_); refine bx ?hg (N := 7) ?hd (cs := #[.string (⟨#[]⟩ : ByteArray), .string (⟨#[]⟩ : ByteArray)]) (t := 30) ?hr B ?_; (case hd | hg => rfl); (case hr => go_simp; first | done | rfl); intro g7 w4 hb B F7 L7 E7; have N2_7 := ne1 E7 F2; have N4_7 := ne1 E7 F4; have N5_7 := ne1 E7 F5; replace F2 := bn F2 hb; replace F4 := bn F4 hb; replace F5 := bn F5 hb; clear c2_0 c2_1; obtain ⟨c2_0, c2_1⟩ := cs2 F2; obtain ⟨c7_0, c7_1⟩ := cs2 F7; clear hb E7)
  | ((with_reducible refine gate_store (t := 30) (p := 7) rfl ?_); obtain ⟨y0, y1, z0, z1⟩ := cz2 F7; refine sx (t := 30) (t' := 30) (p := 7) (v := ?vo5) ?hg ?ho ?hn 0 [.string a, .string c] [.string a, .string c] ?hr B F7 L7 rfl (Nat.le_of_ble_eq_true rfl) ?_; (case ho | hg | hn => rfl); (case hr => go_simp; first | done | rfl); intro w5 hk B G; replace F2 := bk F2 hk N2_7.out; replace F4 := bk F4 hk N4_7.out; replace F5 := bk F5 hk N5_7.out; replace F7 := G; clear c2_0 c2_1; obtain ⟨c2_0, c2_1⟩ := cs2 F2; clear c7_0 c7_1; obtain ⟨c7_0, c7_1⟩ := cs2 F7; clear hk y0 z0 y1 z1)
  | ((with_reducible refine gate_dst (N := 8) rfl ?_); refine bx ?hg (N := 8) ?hd (cs := #[.string (⟨#[]⟩ : ByteArray), .string (⟨#[]⟩ : ByteArray)]) (t := 30) ?hr B ?_; (case hd | hg => rfl); (case hr => go_simp; first | done | rfl); intro g8 w6 hb B F8 L8 E8; have N2_8 := ne1 E8 F2; have N4_8 := ne1 E8 F4; have N5_8 := ne1 E8 F5; have N7_8 := ne1 E8 F7; replace F2 := bn F2 hb; replace F4 := bn F4 hb; replace F5 := bn F5 hb; replace F7 := bn F7 hb; clear c2_0 c2_1; obtain ⟨c2_0, c2_1⟩ := cs2 F2; clear c7_0 c7_1; obtain ⟨c7_0, c7_1⟩ := cs2 F7; obtain ⟨c8_0, c8_1⟩ := cs2 F8; clear hb E8)
  | ((with_reducible refine gate_store (t := 30) (p := 8) rfl ?_); obtain ⟨y0, y1, z0, z1⟩ := cz2 F8; refine sx (t := 30) (t' := 30) (p := 8) (v := ?vo7) ?hg ?ho ?hn 0 [.string c, .string b] [.string c, .string b] ?hr B F8 L8 rfl (Nat.le_of_ble_eq_true rfl) ?_; (case ho | hg | hn => rfl); (case hr => go_simp; first | done | rfl); intro w7 hk B G; replace F2 := bk F2 hk N2_8.out; replace F4 := bk F4 hk N4_8.out; replace F5 := bk F5 hk N5_8.out; replace F7 := bk F7 hk N7_8.out; replace F8 := G; clear c2_0 c2_1; obtain ⟨c2_0, c2_1⟩ := cs2 F2; clear c7_0 c7_1; obtain ⟨c7_0, c7_1⟩ := cs2 F7; clear c8_0 c8_1; obtain ⟨c8_0, c8_1⟩ := cs2 F8; clear hk y0 z0 y1 z1)
  | (go_at_call 47; with_reducible refine cl (spec_IntervalValid.M a b _) B fun w8 hb B => ?_; replace F4 := bn F4 hb; replace F5 := bn F5 hb; replace F7 := bn F7 hb; replace F8 := bn F8 hb; clear c7_0 c7_1; obtain ⟨c7_0, c7_1⟩ := cs2 F7; clear c8_0 c8_1; obtain ⟨c8_0, c8_1⟩ := cs2 F8; clear hb)
  | (go_at_call 89; with_reducible refine cl (spec_KeyValid.M c _) B fun w9 hb B => ?_; replace F4 := bn F4 hb; replace F5 := bn F5 hb; replace F7 := bn F7 hb; replace F8 := bn F8 hb; clear c7_0 c7_1; obtain ⟨c7_0, c7_1⟩ := cs2 F7; clear c8_0 c8_1; obtain ⟨c8_0, c8_1⟩ := cs2 F8; clear hb)
  | (go_at_call 47; with_reducible refine cl (spec_IntervalValid.M a c _) B fun w10 hb B => ?_; replace F4 := bn F4 hb; replace F5 := bn F5 hb; replace F7 := bn F7 hb; replace F8 := bn F8 hb; clear c7_0 c7_1; obtain ⟨c7_0, c7_1⟩ := cs2 F7; clear c8_0 c8_1; obtain ⟨c8_0, c8_1⟩ := cs2 F8; clear hb)
  | (go_at_call 47; with_reducible refine cl (spec_IntervalValid.M c b _) B fun w11 hb B => ?_; replace F4 := bn F4 hb; replace F5 := bn F5 hb; replace F7 := bn F7 hb; replace F8 := bn F8 hb; clear c7_0 c7_1; obtain ⟨c7_0, c7_1⟩ := cs2 F7; clear c8_0 c8_1; obtain ⟨c8_0, c8_1⟩ := cs2 F8; clear hb)
  | ((with_reducible refine gate_store (t := 30) (p := 4) rfl ?_); obtain ⟨y0, y1, z0, z1⟩ := cz2 F4; refine sx (t := 30) (t' := 30) (p := 4) (v := ?vo12) ?hg ?ho ?hn 0 [.string (⟨#[]⟩ : ByteArray), .string (⟨#[]⟩ : ByteArray)] [.string (⟨#[]⟩ : ByteArray), .string (⟨#[]⟩ : ByteArray)] ?hr B F4 L4 rfl (Nat.le_of_ble_eq_true rfl) ?_; (case ho | hg | hn => rfl); (case hr => go_simp; first | done | rfl); intro w12 hk B G; replace F5 := bk F5 hk N4_5.out.symm; replace F7 := bk F7 hk N4_7.out.symm; replace F8 := bk F8 hk N4_8.out.symm; replace F4 := G; clear c7_0 c7_1; obtain ⟨c7_0, c7_1⟩ := cs2 F7; clear c8_0 c8_1; obtain ⟨c8_0, c8_1⟩ := cs2 F8; clear hk y0 z0 y1 z1)
  | ((with_reducible refine gate_store (t := 30) (p := 5) rfl ?_); obtain ⟨y0, y1, z0, z1⟩ := cz2 F5; refine sx (t := 30) (t' := 30) (p := 5) (v := ?vo13) ?hg ?ho ?hn 0 [.string (⟨#[]⟩ : ByteArray), .string (⟨#[]⟩ : ByteArray)] [.string (⟨#[]⟩ : ByteArray), .string (⟨#[]⟩ : ByteArray)] ?hr B F5 L5 rfl (Nat.le_of_ble_eq_true rfl) ?_; (case ho | hg | hn => rfl); (case hr => go_simp; first | done | rfl); intro w13 hk B G; replace F4 := bk F4 hk N4_5.out; replace F7 := bk F7 hk N5_7.out.symm; replace F8 := bk F8 hk N5_8.out.symm; replace F5 := G; clear c7_0 c7_1; obtain ⟨c7_0, c7_1⟩ := cs2 F7; clear c8_0 c8_1; obtain ⟨c8_0, c8_1⟩ := cs2 F8; clear hk y0 z0 y1 z1))
 all_goals try (refine bodyPost_ret (results_list (rs := [.cell 4 30, .cell 5 30, .tmp 6]) rfl (by simp) (.cell g4 30 _ (0, 0) _ rfl F4.out hu rfl (by kernel_rfl) (.cell g5 30 _ (0, 0) _ rfl F5.out hu rfl (by kernel_rfl) (.tmp .nil)))) rfl ?_; refine ⟨?_, B.out⟩; unfold cutV cutB; simp_all; done)
 all_goals (
  refine rg (n := 5) (S := fun W => W.heap[g7]? = some (.cells #[.string a, .string c] 30 (0, 0)) ∧ W.heap[g8]? = some (.cells #[.string c, .string b] 30 (0, 0))) (ds := []) #[false, false, false, false, false] (by kernel_rfl) rfl rfl ⟨F7.out, F8.out⟩ id B (fun w14 hb B hHeld => ?_)
  refine with_tabW spec_IntervalCut.tab5 spec_IntervalCut.bits5 (fun HT_ HW_ => ?_)
  replace F4 := bn F4 hb
  replace F5 := bn F5 hb
  replace F7 := bn F7 hb
  replace F8 := bn F8 hb
  clear hb
  refine tv 0 (some 37) (v := ?_) (bits 5 1) HT_ HW_ (by kernel_rfl) rfl rfl (fun _ _ _ h => h) (by kernel_rfl) hHeld ?_ ?_; rotate_left; (intro w' hS; obtain ⟨s0, s1⟩ := hS; obtain ⟨q0, q1⟩ := cs2 (Aside0.mk s0); go_simp; with_reducible rfl)
  refine tv 1 (some 38) (v := ?_) (bits 5 3) HT_ HW_ (by kernel_rfl) rfl rfl (fun _ _ _ h => h) (by kernel_rfl) hHeld ?_ ?_; rotate_left; (intro w' hS; obtain ⟨s0, s1⟩ := hS; obtain ⟨q0, q1⟩ := cs2 (Aside0.mk s1); go_simp; with_reducible rfl)
  refine norm_ (a' := ?_) ?_ ?_
  rotate_left
  ·simp only [Act.put, za, zb, zc, i64_w, i32_w]
   rfl
  refine one_ (i := 2) (N := none) (bits 5 7) rfl rfl (one_of HT_.out (by kernel_rfl)) (by decide) (fun K hK => ?_)
  obtain ⟨y0, y1, z0, z1⟩ := cz2 F4
  refine sxs (g := g4) 0 [.string a, .string c] [.string a, .string c] (by rfl) rfl ?hr B F4 L4 rfl (Nat.le_of_ble_eq_true rfl) (fun w15 hk B G => ?_)
  (case hr => go_simp; first | done | rfl)
  replace F5 := bk F5 hk N4_5.out.symm
  replace F7 := bk F7 hk N4_7.out.symm
  replace F8 := bk F8 hk N4_8.out.symm
  replace F4 := G
  clear hk y0 z0 y1 z1
  refine hK.out _ _ ⟨F7.out, F8.out⟩ (fun hHeld => ?_)
  clear hK K
  refine one_ (i := 3) (N := none) (bits 5 15) rfl rfl (one_of HT_.out (by kernel_rfl)) (by decide) (fun K hK => ?_)
  obtain ⟨y0, y1, z0, z1⟩ := cz2 F5
  refine sxs (g := g5) 0 [.string c, .string b] [.string c, .string b] (by rfl) rfl ?hr B F5 L5 rfl (Nat.le_of_ble_eq_true rfl) (fun w16 hk B G => ?_)
  (case hr => go_simp; first | done | rfl)
  replace F4 := bk F4 hk N4_5.out
  replace F7 := bk F7 hk N5_7.out.symm
  replace F8 := bk F8 hk N5_8.out.symm
  replace F5 := G
  clear hk y0 z0 y1 z1
  refine hK.out _ _ ⟨F7.out, F8.out⟩ (fun hHeld => ?_)
  clear hK K
  refine pv 4 (some 6) (v := ?_) (bits 5 31) HT_ (by kernel_rfl) rfl rfl (fun _ _ _ h => h) (by kernel_rfl) ?_ ?_; rotate_left; (intro w'; go_simp; with_reducible rfl)
  refine norm_ (a' := ?_) ?_ ?_
  rotate_left
  ·simp only [Act.put, za, zb, zc, i64_w, i32_w]
   rfl
  refine done_ (done_of HT_.out (by kernel_rfl)) ?_)
 all_goals try go_wp2
 all_goals try (refine bodyPost_ret (results_list (rs := [.cell 4 30, .cell 5 30, .tmp 6]) rfl (by simp) (.cell g4 30 _ (0, 0) _ rfl F4.out hu rfl (by kernel_rfl) (.cell g5 30 _ (0, 0) _ rfl F5.out hu rfl (by kernel_rfl) (.tmp .nil)))) rfl ?_; refine ⟨?_, B.out⟩; unfold cutV cutB; simp_all; done)

def spec_StateValid.T6 : Bool × List (List Nat × List Nat) := (true, [([], []), ([0], [0]), ([], []), ([2], [2]), ([], []), ([3, 4], [3, 4]), ([5], [5]), ([6], [6]), ([1, 7], [1, 7]), ([8], [8])])
def spec_StateValid.B6 : List Nat := [0, 1, 0, 4, 0, 28, 60, 124, 255, 511]
theorem spec_StateValid.tab6 : rtab .any (opsOf Try.f12 6) = spec_StateValid.T6 := by kernel_rfl
theorem spec_StateValid.bits6 : waitsOk spec_StateValid.T6.2 spec_StateValid.B6 = true := by kernel_rfl
theorem spec_StateValid.M (a b : ByteArray) (AP : Option Addr) (cP : Nat) (ps : List S61) (AS : Option Addr) (cS : Nat) (ss : List S100) (t : Bool) (c : ByteArray) (w : World) (hrp : Kd.C k61 w AP ps.length ps) (hrs : Kd.C k100 w AS ss.length ss) : Calls Try.prog 12 #[.agg #[.string a, .string b, .slice AP ps.length cP, .slice AS ss.length cS, .bool t, .string c]] w fun e w' => e = .returned (.bool (stB a b ps ss t c)) ∧ Below w.heap.size w w' := by
 have B := Aside0.mk (Below.refl w.heap.size w)
 have hu := Try.underlying34
 have hu2 := Try.underlying30
 have HRP := Aside0.mk hrp
 have HRS := Aside0.mk hrs
 clear hrp hrs
 go_enter Try.func12, Try.ntmps12
 go_wp2_with (first
  | ((with_reducible refine gate_dst (N := 1) rfl ?_); refine bx ?hg (N := 1) ?hd (cs := #[.string a, .string b, .slice AP ps.length cP, .slice AS ss.length cS, .bool t, .string c]) (t := 34) ?hr B ?_; (case hd | hg => rfl); (case hr => go_simp; first | done | rfl); intro g1 w1 hb B F1 L1 E1; obtain ⟨c1_0, c1_1, c1_2, c1_3, c1_4, c1_5⟩ := cs6 F1; clear hb E1)
  | (go_at_call 47; with_reducible refine cl (spec_IntervalValid.M a b _) B fun w2 hb B => ?_; replace F1 := bn F1 hb; clear c1_0 c1_1 c1_2 c1_3 c1_4 c1_5; obtain ⟨c1_0, c1_1, c1_2, c1_3, c1_4, c1_5⟩ := cs6 F1; clear hb)
  | (go_at_call 48; with_reducible refine cl (spec_PairsValid.M _ _ ps _ (cb HRP B)) B fun w3 hb B => ?_; replace F1 := bn F1 hb; clear c1_0 c1_1 c1_2 c1_3 c1_4 c1_5; obtain ⟨c1_0, c1_1, c1_2, c1_3, c1_4, c1_5⟩ := cs6 F1; clear hb)
  | (go_at_call 49; with_reducible refine cl (spec_SessionsValid.M _ _ ss _ (cb HRS B)) B fun w4 hb B => ?_; replace F1 := bn F1 hb; clear hb))
 all_goals try (go_ret; exact ⟨congrArg (fun b => Ending.returned (Value.bool b)) (by grind [stB]), B.out⟩)
 have hv : ivB a b = true ∧ prB ps = true ∧ sesB ss = true := by grind
 have hst : stB a b ps ss t c = ((ps.all fun p => hasB a b p.f0) && tailB a b t c) := by
  unfold stB
  rw [all_has hv.1 hv.2.1, hv.1, hv.2.1, hv.2.2]
  rfl
 obtain ⟨q, hq⟩ : ∃ q, (ps.all fun p => hasB a b p.f0) = q := ⟨_, rfl⟩
 rw [hq] at hst
 have H := Aside0.mk (show ((ps.drop 0).all fun p => hasB a b p.f0) = q from hq)
 have L48 := Aside0.mk (prB_len hv.2.1)
 clear hq hv c1_0 c1_1 c1_2 c1_3 c1_4 c1_5
 have HST := Aside0.mk hst
 clear hst
 go_loopg [3] (ps.length + 1) (fun kx v3 wr => ∃ j : Nat, v3 = .int .i64 (j : Int) ∧ j ≤ ps.length ∧ ps.length < j + kx ∧ Aside0 (Below w.heap.size w wr) ∧ Aside0 (wr.heap[g1]? = some (.cells #[.string a, .string b, .slice AP ps.length cP, .slice AS ss.length cS, .bool t, .string c] 34 (0, 0))) ∧ Aside0 (((ps.drop j).all fun p => hasB a b p.f0) = q))
 case atStart => exact ⟨0, rfl, by omega, by omega, B, F1, H⟩
 case round =>
  clear H B F1
  obtain ⟨j, rfl, hj, hk, B, F1, H⟩ := hrel
  have hst := HST.out
  obtain ⟨c1_0, c1_1, c1_2, c1_3, c1_4, c1_5⟩ := cs6 F1
  by_cases hlt : j < ps.length
  ·have HS := H.out
   rw [pr_drop hlt, List.all_cons] at HS
   clear H
   obtain ⟨d, rfl⟩ : ∃ d, gk = d + 1 := ⟨gk - 1, by omega⟩
   have h48 := L48.out
   have cj : decide ((j : Int) < (ps.length : Int)) = true := decide_eq_true (by omega)
   obtain ⟨ad, hA, y0, y1⟩ := at_T61 (cb HRP B) (j : Int) (by omega) (by omega)
   cases hA
   rw [Int.toNat_natCast] at y0 y1
   have j1 := eq_true (show (j : Int) < (ps.length : Int) by omega)
   have j2 := eq_true hlt
   generalize hy : rd_T61 ps (j : Int) = y at *
   try go_wp2
   all_goals (
    refine rg (n := 10) (S := fun W => W.heap[g1]? = some (.cells #[.string a, .string b, .slice (some ad) ps.length cP, .slice AS ss.length cS, .bool t, .string c] 34 (0, 0)) ∧ Kd.C k61 W (some ad) ps.length ps) (ds := []) #[false, false, false, false, false, false, false, false, false, false] (by kernel_rfl) rfl rfl ⟨F1.out, (cb HRP B)⟩ id B (fun w5 hb B hHeld => ?_)
    refine with_tabW spec_StateValid.tab6 spec_StateValid.bits6 (fun HT_ HW_ => ?_)
    replace F1 := bn F1 hb
    clear hb
    refine pv 0 (some 30) (v := ?_) (bits 10 1) HT_ (by kernel_rfl) rfl rfl (fun _ _ _ h => h) (by kernel_rfl) ?_ ?_; rotate_left; (intro w'; go_simp; with_reducible rfl)
    refine tv 1 (some 31) (v := ?_) (bits 10 3) HT_ HW_ (by kernel_rfl) rfl rfl (fun _ _ _ h => h) (by kernel_rfl) hHeld ?_ ?_; rotate_left; (intro w' hS; obtain ⟨s0, s1⟩ := hS; obtain ⟨q0, q1, q2, q3, q4, q5⟩ := cs6 (Aside0.mk s0); go_simp; with_reducible rfl)
    refine pv 2 (some 32) (v := ?_) (bits 10 7) HT_ (by kernel_rfl) rfl rfl (fun _ _ _ h => h) (by kernel_rfl) ?_ ?_; rotate_left; (intro w'; go_simp; with_reducible rfl)
    refine tv 3 (some 33) (v := ?_) (bits 10 15) HT_ HW_ (by kernel_rfl) rfl rfl (fun _ _ _ h => h) (by kernel_rfl) hHeld ?_ ?_; rotate_left; (intro w' hS; obtain ⟨s0, s1⟩ := hS; obtain ⟨q0, q1, q2, q3, q4, q5⟩ := cs6 (Aside0.mk s0); go_simp; with_reducible rfl)
    refine pv 4 (some 34) (v := ?_) (bits 10 31) HT_ (by kernel_rfl) rfl rfl (fun _ _ _ h => h) (by kernel_rfl) ?_ ?_; rotate_left; (intro w'; go_simp; with_reducible rfl)
    refine pv 5 (some 35) (v := ?_) (bits 10 63) HT_ (by kernel_rfl) rfl rfl (fun _ _ _ h => h) (by kernel_rfl) ?_ ?_; rotate_left; (intro w'; go_simp; with_reducible rfl)
    refine pv 6 (some 36) (v := ?_) (bits 10 127) HT_ (by kernel_rfl) rfl rfl (fun _ _ _ h => h) (by kernel_rfl) ?_ ?_; rotate_left; (intro w'; go_simp; with_reducible rfl)
    refine tv 7 (some 37) (v := ?_) (bits 10 255) HT_ HW_ (by kernel_rfl) rfl rfl (fun _ _ _ h => h) (by kernel_rfl) hHeld ?_ ?_; rotate_left; (intro w' hS; obtain ⟨s0, s1⟩ := hS; obtain ⟨_, hA, q0, q1⟩ := at_T61 s1 (j : Int) (by omega) (by omega); cases hA; rw [Int.toNat_natCast] at q0 q1; rw [hy] at q0 q1; go_simp; with_reducible rfl)
    refine norm_ (a' := ?_) ?_ ?_
    rotate_left
    ·simp only [Act.put, za, zb, zc, i64_w, i32_w]
     rfl
    refine one_ (i := 8) (N := some 38) (bits 10 511) rfl rfl (one_of HT_.out (by kernel_rfl)) (by decide) (fun K hK => ?_)
    refine goes_ Try.func50 (by kernel_rfl) rfl #[.agg #[.string a, .string b], .string y.f0] (by rfl) rfl rfl (by (try simp only [List.map_toArray, List.map_cons, List.map_nil]); rfl) ?_
    with_reducible refine cl (spec_IntervalHas.M a b y.f0 _) B fun w6 hb B => ?_
    replace F1 := bn F1 hb
    clear hb
    refine ⟨_, rfl, ?_⟩
    refine hK.out _ _ ⟨F1.out, (cb HRP B)⟩ (fun hHeld => ?_)
    clear hK K
    refine norm_ (a' := ?_) ?_ ?_
    rotate_left
    ·show Act.put _ (some 38) _ = _
     simp only [Act.put, za, zb, zc, i64_w, i32_w]
     rfl
    refine pv 9 (some 39) (v := ?_) (bits 10 1023) HT_ (by kernel_rfl) rfl rfl (fun _ _ _ h => h) (by kernel_rfl) ?_ ?_; rotate_left; (intro w'; go_simp; with_reducible rfl)
    refine norm_ (a' := ?_) ?_ ?_
    rotate_left
    ·simp only [Act.put, za, zb, zc, i64_w, i32_w]
     rfl
    refine done_ (done_of HT_.out (by kernel_rfl)) ?_
    try go_wp2
    all_goals first
     | (go_roundg d; (case measure => omega); (case rel => exact ⟨j + 1, congrArg (Value.int .i64) (Int.natCast_succ _).symm, by omega, by omega, B, F1, ⟨andT HS (by grind)⟩⟩))
     | (go_ret; exact ⟨congrArg (fun b => Ending.returned (Value.bool b)) (by have HS := HS; grind [stB]), B.out⟩))
   all_goals try go_wp2
  ·have cj : decide ((j : Int) < (ps.length : Int)) = false := decide_eq_false (by omega)
   have hr : q = true := by rw [← H.out, List.drop_of_length_le (by omega)]; rfl
   clear H
   go_wp2_with (first
    | (go_at_call 51; with_reducible refine cl (spec_IntervalCut.M a b c _) B fun w1 hb B => ?_; replace F1 := bn F1 hb; clear c1_0 c1_1 c1_2 c1_3 c1_4 c1_5; obtain ⟨c1_0, c1_1, c1_2, c1_3, c1_4, c1_5⟩ := cs6 F1; clear hb)
    | ((with_reducible refine gate_dst (N := 4) rfl ?_); refine bx ?hg (N := 4) ?hd (cs := #[.string (⟨#[]⟩ : ByteArray), .string (⟨#[]⟩ : ByteArray)]) (t := 30) ?hr B ?_; (case hd | hg => rfl); (case hr => go_simp; first | done | rfl); intro g4 w2 hb B F4 L4 E4; have N1_4 := ne1 E4 F1; replace F1 := bn F1 hb; clear c1_0 c1_1 c1_2 c1_3 c1_4 c1_5; obtain ⟨c1_0, c1_1, c1_2, c1_3, c1_4, c1_5⟩ := cs6 F1; clear hb E4)
    | ((with_reducible refine gate_dst (N := 5) rfl ?_); refine bx ?hg (N := 5) ?hd (cs := #[.string (⟨#[]⟩ : ByteArray), .string (⟨#[]⟩ : ByteArray)]) (t := 30) ?hr B ?_; (case hd | hg => rfl); (case hr => go_simp; first | done | rfl); intro g5 w3 hb B F5 L5 E5; have N1_5 := ne1 E5 F1; have N4_5 := ne1 E5 F4; replace F1 := bn F1 hb; replace F4 := bn F4 hb; clear c1_0 c1_1 c1_2 c1_3 c1_4 c1_5; obtain ⟨c1_0, c1_1, c1_2, c1_3, c1_4, c1_5⟩ := cs6 F1; clear hb E5)
    | ((with_reducible refine gate_store (t := 30) (p := 4) rfl ?_); obtain ⟨y0, y1, z0, z1⟩ := cz2 F4; refine sx (t := 30) (t' := 30) (p := 4) (v := ?vo4) ?hg ?ho ?hn 0 [.string (cutV a b c).1, .string (cutV a b c).2.1] [.string (cutV a b c).1, .string (cutV a b c).2.1] ?hr B F4 L4 rfl (Nat.le_of_ble_eq_true rfl) ?_; (case ho | hg | hn => rfl); (case hr => go_simp; first | done | rfl); intro w4 hk B G; replace F1 := bk F1 hk N1_4.out; replace F5 := bk F5 hk N4_5.out.symm; replace F4 := G; clear c1_0 c1_1 c1_2 c1_3 c1_4 c1_5; obtain ⟨c1_0, c1_1, c1_2, c1_3, c1_4, c1_5⟩ := cs6 F1; clear hk y0 z0 y1 z1)
    | ((with_reducible refine gate_store (t := 30) (p := 5) rfl ?_); obtain ⟨y0, y1, z0, z1⟩ := cz2 F5; refine sx (t := 30) (t' := 30) (p := 5) (v := ?vo5) ?hg ?ho ?hn 0 [.string (cutV a b c).2.2.1, .string (cutV a b c).2.2.2.1] [.string (cutV a b c).2.2.1, .string (cutV a b c).2.2.2.1] ?hr B F5 L5 rfl (Nat.le_of_ble_eq_true rfl) ?_; (case ho | hg | hn => rfl); (case hr => go_simp; first | done | rfl); intro w5 hk B G; replace F1 := bk F1 hk N1_5.out; replace F5 := G; clear c1_0 c1_1 c1_2 c1_3 c1_4 c1_5; obtain ⟨c1_0, c1_1, c1_2, c1_3, c1_4, c1_5⟩ := cs6 F1; clear hk y0 z0 y1 z1))
   all_goals go_ret
   all_goals
    refine ⟨congrArg (fun b => Ending.returned (Value.bool b)) ?_, B.out⟩
    rw [hst, hr, Bool.true_and]
    unfold tailB
    grind [cutV_ok]

theorem impl_valueValid.M (n : Int) (w : World) : Calls Try.prog 94 #[.int .i64 n] w fun e w' => e = .returned (.bool (l1B n 0 999)) ∧ Below w.heap.size w w' := by
  go_enter Try.func94, Try.ntmps94
  go_wp2
  all_goals go_ret
  all_goals (refine ⟨?_, Below.refl _ _⟩; unfold l1B; simp_all; try omega)

def impl_PairsValid.T8 : Bool × List (List Nat × List Nat) := (true, [([], []), ([0], [0]), ([1], [1]), ([2], [2]), ([2], [2]), ([4, 2], [2, 4]), ([3, 5, 2], [2, 3, 5]), ([6, 2], [2, 6]), ([7, 2], [2, 7]), ([2], [2]), ([9, 2], [2, 9]), ([8, 10, 2], [2, 8, 10]), ([2, 11], [2, 11])])
def impl_PairsValid.B8 : List Nat := [0, 1, 3, 7, 7, 23, 63, 127, 255, 7, 519, 2047, 4095]
theorem impl_PairsValid.tab8 : rtab .any (opsOf Try.f56 8) = impl_PairsValid.T8 := by kernel_rfl
theorem impl_PairsValid.bits8 : waitsOk impl_PairsValid.T8.2 impl_PairsValid.B8 = true := by kernel_rfl
theorem impl_PairsValid.M (A0 : Option Addr) (c0 : Nat) (l : List S61) (w : World) (hr0 : Kd.C k61 w A0 l.length l) : Calls Try.prog 56 #[.slice A0 l.length c0] w fun e w' => e = .returned (.bool (prB l)) ∧ Below w.heap.size w w' := by
 have hu := Try.underlying61
 have B := Aside0.mk (Below.refl w.heap.size w)
 have HR0 := Aside0.mk hr0
 clear hr0
 obtain ⟨r, hr⟩ : ∃ r, prB l = r := ⟨_, rfl⟩
 rw [hr]
 unfold prB at hr
 by_cases hl : l.length ≤ 48
 ·have H := Aside0.mk (show prJ l 0 = r by unfold prJ prP; simpa [hl] using hr)
  have cl0 : decide (48 < (l.length : Int)) = false := decide_eq_false (by omega)
  have L48 := Aside0.mk (show l.length ≤ 4611686018427387904 by omega)
  clear hl hr
  go_enter Try.func56, Try.ntmps56
  go_wp2
  go_loopg [10] (l.length + 1) (fun kx v10 wr => ∃ j : Nat, v10 = .int .i64 (j : Int) ∧ j ≤ l.length ∧ l.length < j + kx ∧ Aside0 (Below w.heap.size w wr) ∧ Aside0 (prJ l j = r))
  case atStart => exact ⟨0, rfl, by omega, by omega, B, H⟩
  case round =>
   clear H B
   obtain ⟨j, rfl, hj, hk, B, H⟩ := hrel
   by_cases hlt : j < l.length
   ·have HS := Aside0.mk ((prJ_step hlt).symm.trans H.out)
    clear H
    obtain ⟨d, rfl⟩ : ∃ d, gk = d + 1 := ⟨gk - 1, by omega⟩
    have h48 := L48.out
    have cj : decide ((j : Int) < (l.length : Int)) = true := decide_eq_true (by omega)
    obtain ⟨ad, hA, y0, y1⟩ := at_T61 (cb HR0 B) (j : Int) (by omega) (by omega)
    cases hA
    rw [Int.toNat_natCast] at y0 y1
    have j1 := eq_true (show (j : Int) < (l.length : Int) by omega)
    have j2 := eq_true hlt
    generalize hy : rd_T61 l (j : Int) = y at *
    go_wp2_with (first
     | ((with_reducible refine gate_dst (N := 4) rfl ?_); refine bx ?hg (N := 4) ?hd (cs := #[.string (⟨#[]⟩ : ByteArray), .int .i64 (0)]) (t := 61) ?hr B ?_; (case hd | hg => rfl); (case hr => go_simp; first | done | rfl); intro g4 w1 hb B F4 L4 E4; obtain ⟨c4_0, c4_1⟩ := cs2 F4; clear hb E4)
     | ((with_reducible refine gate_store (t := 61) (p := 4) rfl ?_); obtain ⟨y0, y1, z0, z1⟩ := cz2 F4; refine sx (t := 61) (t' := 61) (p := 4) (v := ?vo2) ?hg ?ho ?hn 0 [.string y.f0, .int .i64 (y.f1)] [.string y.f0, .int .i64 (y.f1)] ?hr B F4 L4 rfl (Nat.le_of_ble_eq_true rfl) ?_; (case ho | hg | hn => rfl); (case hr => go_simp; first | done | rfl); intro w2 hk B G; replace F4 := G; clear c4_0 c4_1; obtain ⟨c4_0, c4_1⟩ := cs2 F4; clear hk y0 z0 y1 z1)
     | (go_at_call 80; with_reducible refine cl (impl_KeyValid.M y.f0 _) B fun w3 hb B => ?_; replace F4 := bn F4 hb; clear c4_0 c4_1; obtain ⟨c4_0, c4_1⟩ := cs2 F4; clear hb)
     | (go_at_call 94; with_reducible refine cl (impl_valueValid.M y.f1 _) B fun w4 hb B => ?_; replace F4 := bn F4 hb; clear c4_0 c4_1; obtain ⟨c4_0, c4_1⟩ := cs2 F4; clear hb))
    all_goals try (go_ret; exact ⟨andF HS.out (by grind [l1B, ltB]), B.out⟩)
    all_goals (
     refine rg (n := 13) (S := fun W => Kd.C k61 W (some ad) l.length l ∧ W.heap[g4]? = some (.cells #[.string y.f0, .int .i64 (y.f1)] 61 (0, 0))) (ds := []) #[false, false, false, false, false, false, false, false, false, false, false, false, false] (by kernel_rfl) rfl rfl ⟨(cb HR0 B), F4.out⟩ id B (fun w5 hb B hHeld => ?_)
     refine with_tabW impl_PairsValid.tab8 impl_PairsValid.bits8 (fun HT_ HW_ => ?_)
     replace F4 := bn F4 hb
     clear hb
     refine pv 0 (some 25) (v := ?_) (bits 13 1) HT_ (by kernel_rfl) rfl rfl (fun _ _ _ h => h) (by kernel_rfl) ?_ ?_; rotate_left; (intro w'; go_simp; with_reducible rfl)
     by_cases hz : j = 0
     ·rw [if_pos hz] at HS
      have dz : decide (0 < (j : Int)) = false := decide_eq_false (by omega)
      have dz2 : decide (0 < j) = false := decide_eq_false (by omega)
      clear hz
      refine pv 1 (some 26) (v := ?_) (bits 13 3) HT_ (by kernel_rfl) rfl rfl (fun _ _ _ h => h) (by kernel_rfl) ?_ ?_; rotate_left; (intro w'; go_simp; with_reducible rfl)
      refine pv 2 (some 27) (v := ?_) (bits 13 7) HT_ (by kernel_rfl) rfl rfl (fun _ _ _ h => h) (by kernel_rfl) ?_ ?_; rotate_left; (intro w'; go_simp; with_reducible rfl)
      refine sv 3 (some 28) (bits 13 15) HT_ (by kernel_rfl) rfl rfl (fun _ _ _ h => h) (by kernel_rfl) ?_
      refine sv 4 (some 29) (bits 13 31) HT_ (by kernel_rfl) rfl rfl (fun _ _ _ h => h) (by kernel_rfl) ?_
      refine sv 5 (some 30) (bits 13 63) HT_ (by kernel_rfl) rfl rfl (fun _ _ _ h => h) (by kernel_rfl) ?_
      refine sv 6 (some 31) (bits 13 127) HT_ (by kernel_rfl) rfl rfl (fun _ _ _ h => h) (by kernel_rfl) ?_
      refine sv 7 (some 32) (bits 13 255) HT_ (by kernel_rfl) rfl rfl (fun _ _ _ h => h) (by kernel_rfl) ?_
      refine sv 8 (some 33) (bits 13 511) HT_ (by kernel_rfl) rfl rfl (fun _ _ _ h => h) (by kernel_rfl) ?_
      refine sv 9 (some 34) (bits 13 1023) HT_ (by kernel_rfl) rfl rfl (fun _ _ _ h => h) (by kernel_rfl) ?_
      refine sv 10 (some 35) (bits 13 2047) HT_ (by kernel_rfl) rfl rfl (fun _ _ _ h => h) (by kernel_rfl) ?_
      refine sv 11 (some 36) (bits 13 4095) HT_ (by kernel_rfl) rfl rfl (fun _ _ _ h => h) (by kernel_rfl) ?_
      refine pv 12 (some 37) (v := ?_) (bits 13 8191) HT_ (by kernel_rfl) rfl rfl (fun _ _ _ h => h) (by kernel_rfl) ?_ ?_; rotate_left; (intro w'; go_simp; with_reducible rfl)
      refine norm_ (a' := ?_) ?_ ?_
      rotate_left
      ·simp only [Act.put, za, zb, zc, i64_w, i32_w]
       rfl
      refine done_ (done_of HT_.out (by kernel_rfl)) ?_
      try go_wp2
      all_goals first
       | (go_roundg d; (case measure => omega); (case rel => exact ⟨j + 1, congrArg (Value.int .i64) (Int.natCast_succ _).symm, by omega, by omega, B, ⟨andT HS.out (by grind [l1B, ltB])⟩⟩))
       | (go_ret; exact ⟨andF HS.out (by grind [l1B, ltB]), B.out⟩)
     ·rw [if_neg hz] at HS
      have dz : decide (0 < (j : Int)) = true := decide_eq_true (by omega)
      have dz2 : decide (0 < j) = true := decide_eq_true (by omega)
      obtain ⟨i, hi⟩ : ∃ i, j - 1 = i := ⟨_, rfl⟩
      rw [hi] at HS
      have WI := Aside0.mk (show (j : Int) - 1 = (i : Int) by omega)
      have hij : i < l.length := by omega
      have IW := Aside0.mk (show wrap64 (i : Int) = (i : Int) by unfold wrap64; omega)
      have i1 := eq_true (show (i : Int) < (l.length : Int) by omega)
      have i2 := eq_true hij
      generalize hx : rd_T61 l (i : Int) = x at HS
      clear hz hi
      refine pv 1 (some 26) (v := ?_) (bits 13 3) HT_ (by kernel_rfl) rfl rfl (fun _ _ _ h => h) (by kernel_rfl) ?_ ?_; rotate_left; (intro w'; go_simp; with_reducible rfl)
      refine pv 2 (some 27) (v := ?_) (bits 13 7) HT_ (by kernel_rfl) rfl rfl (fun _ _ _ h => h) (by kernel_rfl) ?_ ?_; rotate_left; (intro w'; go_simp; with_reducible rfl)
      refine pv 3 (some 28) (v := ?_) (bits 13 15) HT_ (by kernel_rfl) rfl rfl (fun _ _ _ h => h) (by kernel_rfl) ?_ ?_; rotate_left; (intro w'; go_simp; with_reducible rfl)
      refine pv 4 (some 29) (v := ?_) (bits 13 31) HT_ (by kernel_rfl) rfl rfl (fun _ _ _ h => h) (by kernel_rfl) ?_ ?_; rotate_left; (intro w'; go_simp; with_reducible rfl)
      refine pu (i := 5) (N := some 30) (v := .int .i64 ((i : Int))) (bits 13 63) rfl rfl (any_of HT_.out (by kernel_rfl)) (fun _ _ _ h => h) (by kernel_rfl) ?_ ?_; (intro w'; go_simp; rw [WI.out]; exact (i64_w _).trans IW.out)
      refine pv 6 (some 31) (v := ?_) (bits 13 127) HT_ (by kernel_rfl) rfl rfl (fun _ _ _ h => h) (by kernel_rfl) ?_ ?_; rotate_left; (intro w'; go_simp; with_reducible rfl)
      refine pv 7 (some 32) (v := ?_) (bits 13 255) HT_ (by kernel_rfl) rfl rfl (fun _ _ _ h => h) (by kernel_rfl) ?_ ?_; rotate_left; (intro w'; go_simp; with_reducible rfl)
      refine tv 8 (some 33) (v := ?_) (bits 13 511) HT_ HW_ (by kernel_rfl) rfl rfl (fun _ _ _ h => h) (by kernel_rfl) hHeld ?_ ?_; rotate_left; (intro w' hS; obtain ⟨s0, s1⟩ := hS; obtain ⟨_, hA, q0, q1⟩ := at_T61 s0 (i : Int) (by omega) (by omega); cases hA; rw [Int.toNat_natCast] at q0 q1; rw [hx] at q0 q1; go_simp; with_reducible rfl)
      refine pv 9 (some 34) (v := ?_) (bits 13 1023) HT_ (by kernel_rfl) rfl rfl (fun _ _ _ h => h) (by kernel_rfl) ?_ ?_; rotate_left; (intro w'; go_simp; with_reducible rfl)
      refine tv 10 (some 35) (v := ?_) (bits 13 2047) HT_ HW_ (by kernel_rfl) rfl rfl (fun _ _ _ h => h) (by kernel_rfl) hHeld ?_ ?_; rotate_left; (intro w' hS; obtain ⟨s0, s1⟩ := hS; obtain ⟨q0, q1⟩ := cs2 (Aside0.mk s1); go_simp; with_reducible rfl)
      refine pv 11 (some 36) (v := ?_) (bits 13 4095) HT_ (by kernel_rfl) rfl rfl (fun _ _ _ h => h) (by kernel_rfl) ?_ ?_; rotate_left; (intro w'; go_simp; with_reducible rfl)
      refine pv 12 (some 37) (v := ?_) (bits 13 8191) HT_ (by kernel_rfl) rfl rfl (fun _ _ _ h => h) (by kernel_rfl) ?_ ?_; rotate_left; (intro w'; go_simp; with_reducible rfl)
      refine norm_ (a' := ?_) ?_ ?_
      rotate_left
      ·simp only [Act.put, za, zb, zc, i64_w, i32_w]
       rfl
      refine done_ (done_of HT_.out (by kernel_rfl)) ?_
      try go_wp2
      all_goals first
       | (go_roundg d; (case measure => omega); (case rel => exact ⟨j + 1, congrArg (Value.int .i64) (Int.natCast_succ _).symm, by omega, by omega, B, ⟨andT HS.out (by grind [l1B, ltB])⟩⟩))
       | (go_ret; exact ⟨andF HS.out (by grind [l1B, ltB]), B.out⟩))
    all_goals try go_wp2
    all_goals try (go_ret; exact ⟨andF HS.out (by grind [l1B, ltB]), B.out⟩)
   ·have cj : decide ((j : Int) < (l.length : Int)) = false := decide_eq_false (by omega)
    have hr : r = true := by rw [← H.out]; exact prJ_end hlt
    subst hr
    go_wp2
    go_ret
    exact ⟨rfl, B.out⟩
 ·have cl0 : decide (48 < (l.length : Int)) = true := decide_eq_true (by omega)
  have hr : r = false := by rw [← hr, decide_eq_false hl]; rfl
  subst hr
  go_enter Try.func56, Try.ntmps56
  go_wp2
  go_ret
  exact ⟨rfl, B.out⟩

theorem impl_seqValid.M (n : Int) (w : World) : Calls Try.prog 95 #[.int .i64 n] w fun e w' => e = .returned (.bool (l1B n 1 999)) ∧ Below w.heap.size w w' := by
  go_enter Try.func95, Try.ntmps95
  go_wp2
  all_goals go_ret
  all_goals (refine ⟨?_, Below.refl _ _⟩; unfold l1B; simp_all; try omega)

def impl_SessionsValid.T6 : Bool × List (List Nat × List Nat) := (true, [([], []), ([0], [0]), ([1], [1]), ([2], [2]), ([2], [2]), ([4, 2], [2, 4]), ([3, 5, 2], [2, 3, 5]), ([6, 2], [2, 6]), ([7, 2], [2, 7]), ([2], [2]), ([9, 2], [2, 9]), ([8, 10, 2], [2, 8, 10]), ([2, 11], [2, 11])])
def impl_SessionsValid.B6 : List Nat := [0, 1, 3, 7, 7, 23, 63, 127, 255, 7, 519, 2047, 4095]
theorem impl_SessionsValid.tab6 : rtab .any (opsOf Try.f57 6) = impl_SessionsValid.T6 := by kernel_rfl
theorem impl_SessionsValid.bits6 : waitsOk impl_SessionsValid.T6.2 impl_SessionsValid.B6 = true := by kernel_rfl
theorem impl_SessionsValid.M (A0 : Option Addr) (c0 : Nat) (l : List S100) (w : World) (hr0 : Kd.C k100 w A0 l.length l) : Calls Try.prog 57 #[.slice A0 l.length c0] w fun e w' => e = .returned (.bool (sesB l)) ∧ Below w.heap.size w w' := by
 have hu := Try.underlying100
 have B := Aside0.mk (Below.refl w.heap.size w)
 have HR0 := Aside0.mk hr0
 clear hr0
 obtain ⟨r, hr⟩ : ∃ r, sesB l = r := ⟨_, rfl⟩
 rw [hr]
 unfold sesB at hr
 have H := Aside0.mk (show sesJ l 0 = r from hr)
 have L48 := Aside0.mk (show l.length ≤ 9223372036854775807 from HR0.out.2.1)
 clear hr
 go_enter Try.func57, Try.ntmps57
 go_wp2
 go_loopg [7] (l.length + 1) (fun kx v7 wr => ∃ j : Nat, v7 = .int .i64 (j : Int) ∧ j ≤ l.length ∧ l.length < j + kx ∧ Aside0 (Below w.heap.size w wr) ∧ Aside0 (sesJ l j = r))
 case atStart => exact ⟨0, rfl, by omega, by omega, B, H⟩
 case round =>
  clear H B
  obtain ⟨j, rfl, hj, hk, B, H⟩ := hrel
  by_cases hlt : j < l.length
  ·have HS := Aside0.mk ((sesJ_step hlt).symm.trans H.out)
   clear H
   obtain ⟨d, rfl⟩ : ∃ d, gk = d + 1 := ⟨gk - 1, by omega⟩
   have h48 := L48.out
   have cj : decide ((j : Int) < (l.length : Int)) = true := decide_eq_true (by omega)
   obtain ⟨ad, hA, y0, y1, y2⟩ := at_T100 (cb HR0 B) (j : Int) (by omega) (by omega)
   cases hA
   rw [Int.toNat_natCast] at y0 y1 y2
   have j1 := eq_true (show (j : Int) < (l.length : Int) by omega)
   have j2 := eq_true hlt
   generalize hy : rd_T100 l (j : Int) = y at *
   go_wp2_with (first
    | ((with_reducible refine gate_dst (N := 4) rfl ?_); refine bx ?hg (N := 4) ?hd (cs := #[.int .i64 (0), .int .i64 (0), .int .i64 (0)]) (t := 100) ?hr B ?_; (case hd | hg => rfl); (case hr => go_simp; first | done | rfl); intro g4 w1 hb B F4 L4 E4; obtain ⟨c4_0, c4_1, c4_2⟩ := cs3 F4; clear hb E4)
    | ((with_reducible refine gate_store (t := 100) (p := 4) rfl ?_); obtain ⟨y0, y1, y2, z0, z1, z2⟩ := cz3 F4; refine sx (t := 100) (t' := 100) (p := 4) (v := ?vo2) ?hg ?ho ?hn 0 [.int .i64 (y.f0), .int .i64 (y.f1), .int .i64 (y.f2)] [.int .i64 (y.f0), .int .i64 (y.f1), .int .i64 (y.f2)] ?hr B F4 L4 rfl (Nat.le_of_ble_eq_true rfl) ?_; (case ho | hg | hn => rfl); (case hr => go_simp; first | done | rfl); intro w2 hk B G; replace F4 := G; clear c4_0 c4_1 c4_2; obtain ⟨c4_0, c4_1, c4_2⟩ := cs3 F4; clear hk y0 z0 y1 z1 y2 z2)
    | (go_at_call 95; with_reducible refine cl (impl_seqValid.M y.f1 _) B fun w3 hb B => ?_; replace F4 := bn F4 hb; clear c4_0 c4_1 c4_2; obtain ⟨c4_0, c4_1, c4_2⟩ := cs3 F4; clear hb))
   all_goals try (go_ret; exact ⟨andF HS.out (by grind [l1B]), B.out⟩)
   all_goals (
    refine rg (n := 13) (S := fun W => Kd.C k100 W (some ad) l.length l ∧ W.heap[g4]? = some (.cells #[.int .i64 (y.f0), .int .i64 (y.f1), .int .i64 (y.f2)] 100 (0, 0))) (ds := []) #[false, false, false, false, false, false, false, false, false, false, false, false, false] (by kernel_rfl) rfl rfl ⟨(cb HR0 B), F4.out⟩ id B (fun w4 hb B hHeld => ?_)
    refine with_tabW impl_SessionsValid.tab6 impl_SessionsValid.bits6 (fun HT_ HW_ => ?_)
    replace F4 := bn F4 hb
    clear hb
    refine pv 0 (some 36) (v := ?_) (bits 13 1) HT_ (by kernel_rfl) rfl rfl (fun _ _ _ h => h) (by kernel_rfl) ?_ ?_; rotate_left; (intro w'; go_simp; with_reducible rfl)
    by_cases hz : j = 0
    ·rw [if_pos hz] at HS
     have dz : decide (0 < (j : Int)) = false := decide_eq_false (by omega)
     have dz2 : decide (0 < j) = false := decide_eq_false (by omega)
     clear hz
     refine pv 1 (some 37) (v := ?_) (bits 13 3) HT_ (by kernel_rfl) rfl rfl (fun _ _ _ h => h) (by kernel_rfl) ?_ ?_; rotate_left; (intro w'; go_simp; with_reducible rfl)
     refine pv 2 (some 38) (v := ?_) (bits 13 7) HT_ (by kernel_rfl) rfl rfl (fun _ _ _ h => h) (by kernel_rfl) ?_ ?_; rotate_left; (intro w'; go_simp; with_reducible rfl)
     refine sv 3 (some 39) (bits 13 15) HT_ (by kernel_rfl) rfl rfl (fun _ _ _ h => h) (by kernel_rfl) ?_
     refine sv 4 (some 40) (bits 13 31) HT_ (by kernel_rfl) rfl rfl (fun _ _ _ h => h) (by kernel_rfl) ?_
     refine sv 5 (some 41) (bits 13 63) HT_ (by kernel_rfl) rfl rfl (fun _ _ _ h => h) (by kernel_rfl) ?_
     refine sv 6 (some 42) (bits 13 127) HT_ (by kernel_rfl) rfl rfl (fun _ _ _ h => h) (by kernel_rfl) ?_
     refine sv 7 (some 43) (bits 13 255) HT_ (by kernel_rfl) rfl rfl (fun _ _ _ h => h) (by kernel_rfl) ?_
     refine sv 8 (some 44) (bits 13 511) HT_ (by kernel_rfl) rfl rfl (fun _ _ _ h => h) (by kernel_rfl) ?_
     refine sv 9 (some 45) (bits 13 1023) HT_ (by kernel_rfl) rfl rfl (fun _ _ _ h => h) (by kernel_rfl) ?_
     refine sv 10 (some 46) (bits 13 2047) HT_ (by kernel_rfl) rfl rfl (fun _ _ _ h => h) (by kernel_rfl) ?_
     refine sv 11 (some 47) (bits 13 4095) HT_ (by kernel_rfl) rfl rfl (fun _ _ _ h => h) (by kernel_rfl) ?_
     refine pv 12 (some 48) (v := ?_) (bits 13 8191) HT_ (by kernel_rfl) rfl rfl (fun _ _ _ h => h) (by kernel_rfl) ?_ ?_; rotate_left; (intro w'; go_simp; with_reducible rfl)
     refine norm_ (a' := ?_) ?_ ?_
     rotate_left
     ·simp only [Act.put, za, zb, zc, i64_w, i32_w]
      rfl
     refine done_ (done_of HT_.out (by kernel_rfl)) ?_
     try go_wp2
     all_goals first
      | (go_roundg d; (case measure => omega); (case rel => exact ⟨j + 1, congrArg (Value.int .i64) (Int.natCast_succ _).symm, by omega, by omega, B, ⟨andT HS.out (by grind [l1B])⟩⟩))
      | (go_ret; exact ⟨andF HS.out (by grind [l1B]), B.out⟩)
    ·rw [if_neg hz] at HS
     have dz : decide (0 < (j : Int)) = true := decide_eq_true (by omega)
     have dz2 : decide (0 < j) = true := decide_eq_true (by omega)
     obtain ⟨i, hi⟩ : ∃ i, j - 1 = i := ⟨_, rfl⟩
     rw [hi] at HS
     have WI := Aside0.mk (show (j : Int) - 1 = (i : Int) by omega)
     have hij : i < l.length := by omega
     have IW := Aside0.mk (show wrap64 (i : Int) = (i : Int) by unfold wrap64; omega)
     have i1 := eq_true (show (i : Int) < (l.length : Int) by omega)
     have i2 := eq_true hij
     generalize hx : rd_T100 l (i : Int) = x at HS
     clear hz hi
     refine pv 1 (some 37) (v := ?_) (bits 13 3) HT_ (by kernel_rfl) rfl rfl (fun _ _ _ h => h) (by kernel_rfl) ?_ ?_; rotate_left; (intro w'; go_simp; with_reducible rfl)
     refine pv 2 (some 38) (v := ?_) (bits 13 7) HT_ (by kernel_rfl) rfl rfl (fun _ _ _ h => h) (by kernel_rfl) ?_ ?_; rotate_left; (intro w'; go_simp; with_reducible rfl)
     refine pv 3 (some 39) (v := ?_) (bits 13 15) HT_ (by kernel_rfl) rfl rfl (fun _ _ _ h => h) (by kernel_rfl) ?_ ?_; rotate_left; (intro w'; go_simp; with_reducible rfl)
     refine pv 4 (some 40) (v := ?_) (bits 13 31) HT_ (by kernel_rfl) rfl rfl (fun _ _ _ h => h) (by kernel_rfl) ?_ ?_; rotate_left; (intro w'; go_simp; with_reducible rfl)
     refine pu (i := 5) (N := some 41) (v := .int .i64 ((i : Int))) (bits 13 63) rfl rfl (any_of HT_.out (by kernel_rfl)) (fun _ _ _ h => h) (by kernel_rfl) ?_ ?_; (intro w'; go_simp; rw [WI.out]; exact (i64_w _).trans IW.out)
     refine pv 6 (some 42) (v := ?_) (bits 13 127) HT_ (by kernel_rfl) rfl rfl (fun _ _ _ h => h) (by kernel_rfl) ?_ ?_; rotate_left; (intro w'; go_simp; with_reducible rfl)
     refine pv 7 (some 43) (v := ?_) (bits 13 255) HT_ (by kernel_rfl) rfl rfl (fun _ _ _ h => h) (by kernel_rfl) ?_ ?_; rotate_left; (intro w'; go_simp; with_reducible rfl)
     refine tv 8 (some 44) (v := ?_) (bits 13 511) HT_ HW_ (by kernel_rfl) rfl rfl (fun _ _ _ h => h) (by kernel_rfl) hHeld ?_ ?_; rotate_left; (intro w' hS; obtain ⟨s0, s1⟩ := hS; obtain ⟨_, hA, q0, q1, q2⟩ := at_T100 s0 (i : Int) (by omega) (by omega); cases hA; rw [Int.toNat_natCast] at q0 q1 q2; rw [hx] at q0 q1 q2; go_simp; with_reducible rfl)
     refine pv 9 (some 45) (v := ?_) (bits 13 1023) HT_ (by kernel_rfl) rfl rfl (fun _ _ _ h => h) (by kernel_rfl) ?_ ?_; rotate_left; (intro w'; go_simp; with_reducible rfl)
     refine tv 10 (some 46) (v := ?_) (bits 13 2047) HT_ HW_ (by kernel_rfl) rfl rfl (fun _ _ _ h => h) (by kernel_rfl) hHeld ?_ ?_; rotate_left; (intro w' hS; obtain ⟨s0, s1⟩ := hS; obtain ⟨q0, q1, q2⟩ := cs3 (Aside0.mk s1); go_simp; with_reducible rfl)
     refine pv 11 (some 47) (v := ?_) (bits 13 4095) HT_ (by kernel_rfl) rfl rfl (fun _ _ _ h => h) (by kernel_rfl) ?_ ?_; rotate_left; (intro w'; go_simp; with_reducible rfl)
     refine pv 12 (some 48) (v := ?_) (bits 13 8191) HT_ (by kernel_rfl) rfl rfl (fun _ _ _ h => h) (by kernel_rfl) ?_ ?_; rotate_left; (intro w'; go_simp; with_reducible rfl)
     refine norm_ (a' := ?_) ?_ ?_
     rotate_left
     ·simp only [Act.put, za, zb, zc, i64_w, i32_w]
      rfl
     refine done_ (done_of HT_.out (by kernel_rfl)) ?_
     try go_wp2
     all_goals first
      | (go_roundg d; (case measure => omega); (case rel => exact ⟨j + 1, congrArg (Value.int .i64) (Int.natCast_succ _).symm, by omega, by omega, B, ⟨andT HS.out (by grind [l1B])⟩⟩))
      | (go_ret; exact ⟨andF HS.out (by grind [l1B]), B.out⟩))
   all_goals try go_wp2
   all_goals try (go_ret; exact ⟨andF HS.out (by grind [l1B]), B.out⟩)
  ·have cj : decide ((j : Int) < (l.length : Int)) = false := decide_eq_false (by omega)
   have hr : r = true := by rw [← H.out]; exact sesJ_end hlt
   subst hr
   go_wp2
   go_ret
   exact ⟨rfl, B.out⟩

def impl_IntervalCut.T7 : Bool × List (List Nat × List Nat) := (true, [([], []), ([], []), ([0, 0], [0]), ([1, 2, 0, 1, 2], [1]), ([3, 0, 1, 2, 3], [])])
def impl_IntervalCut.B7 : List Nat := [0, 0, 1, 7, 15]
theorem impl_IntervalCut.tab7 : rtab .any (opsOf Try.f59 7) = impl_IntervalCut.T7 := by kernel_rfl
theorem impl_IntervalCut.bits7 : waitsOk impl_IntervalCut.T7.2 impl_IntervalCut.B7 = true := by kernel_rfl
theorem impl_IntervalCut.M (a b c : ByteArray) (w : World) : Calls Try.prog 59 #[.agg #[.string a, .string b], .string c] w fun e w' => e = .returned (.tuple #[.agg #[.string (cutV a b c).1, .string (cutV a b c).2.1], .agg #[.string (cutV a b c).2.2.1, .string (cutV a b c).2.2.2.1], .bool (cutV a b c).2.2.2.2]) ∧ Below w.heap.size w w' := by
 have B := Aside0.mk (Below.refl w.heap.size w)
 have hu := Try.underlying30
 go_enter Try.func59, Try.ntmps59
 go_wp2_with (first
  | ((with_reducible refine gate_dst (N := 2) rfl ?_); refine bx ?hg (N := 2) ?hd (cs := #[.string a, .string b]) (t := 30) ?hr B ?_; (case hd | hg => rfl); (case hr => go_simp; first | done | rfl); intro g2 w1 hb B F2 L2 E2; obtain ⟨c2_0, c2_1⟩ := cs2 F2; clear hb E2)
  | ((with_reducible refine gate_dst (N := 4) rfl ?_); refine bx ?hg (N := 4) ?hd (cs := #[.string (⟨#[]⟩ : ByteArray), .string (⟨#[]⟩ : ByteArray)]) (t := 30) ?hr B ?_; (case hd | hg => rfl); (case hr => go_simp; first | done | rfl); intro g4 w2 hb B F4 L4 E4; have N2_4 := ne1 E4 F2; replace F2 := bn F2 hb; clear c2_0 c2_1; obtain ⟨c2_0, c2_1⟩ := cs2 F2; clear hb E4)
  | ((with_reducible refine gate_dst (N := 5) rfl ?_); refine bx ?hg (N := 5) ?hd (cs := #[.string (⟨#[]⟩ : ByteArray), .string (⟨#[]⟩ : ByteArray)]) (t := 30) ?hr B ?_; (case hd | hg => rfl); (case hr => go_simp; first | done | rfl); intro g5 w3 hb B F5 L5 E5; have N2_5 := ne1 E5 F2; have N4_5 := ne1 E5 F4; replace F2 := bn F2 hb; replace F4 := bn F4 hb; clear c2_0 c2_1; obtain ⟨c2_0, c2_1⟩ := cs2 F2; clear hb E5)
  | (go_at_call 55; with_reducible refine cl (impl_IntervalValid.M a b _) B fun w4 hb B => ?_; replace F2 := bn F2 hb; replace F4 := bn F4 hb; replace F5 := bn F5 hb; clear c2_0 c2_1; obtain ⟨c2_0, c2_1⟩ := cs2 F2; clear hb)
  | (go_at_call 80; with_reducible refine cl (impl_KeyValid.M c _) B fun w5 hb B => ?_; replace F2 := bn F2 hb; replace F4 := bn F4 hb; replace F5 := bn F5 hb; clear c2_0 c2_1; obtain ⟨c2_0, c2_1⟩ := cs2 F2; clear hb)
  | ((with_reducible refine gate_store (t := 30) (p := 4) rfl ?_); obtain ⟨y0, y1, z0, z1⟩ := cz2 F4; refine sx (t := 30) (t' := 30) (p := 4) (v := ?vo6) ?hg ?ho ?hn 0 [.string (⟨#[]⟩ : ByteArray), .string (⟨#[]⟩ : ByteArray)] [.string (⟨#[]⟩ : ByteArray), .string (⟨#[]⟩ : ByteArray)] ?hr B F4 L4 rfl (Nat.le_of_ble_eq_true rfl) ?_; (case ho | hg | hn => rfl); (case hr => go_simp; first | done | rfl); intro w6 hk B G; replace F2 := bk F2 hk N2_4.out; replace F5 := bk F5 hk N4_5.out.symm; replace F4 := G; clear c2_0 c2_1; obtain ⟨c2_0, c2_1⟩ := cs2 F2; clear hk y0 z0 y1 z1)
  | ((with_reducible refine gate_store (t := 30) (p := 5) rfl ?_); obtain ⟨y0, y1, z0, z1⟩ := cz2 F5; refine sx (t := 30) (t' := 30) (p := 5) (v := ?vo7) ?hg ?ho ?hn 0 [.string (⟨#[]⟩ : ByteArray), .string (⟨#[]⟩ : ByteArray)] [.string (⟨#[]⟩ : ByteArray), .string (⟨#[]⟩ : ByteArray)] ?hr B F5 L5 rfl (Nat.le_of_ble_eq_true rfl) ?_; (case ho | hg | hn => rfl); (case hr => go_simp; first | done | rfl); intro w7 hk B G; replace F2 := bk F2 hk N2_5.out; replace F4 := bk F4 hk N4_5.out; replace F5 := G; clear c2_0 c2_1; obtain ⟨c2_0, c2_1⟩ := cs2 F2; clear hk y0 z0 y1 z1)
  | ((with_reducible refine gate_dst (N := 7) rfl ?_); refine bx ?hg (N := 7) ?hd (cs := #[.string (⟨#[]⟩ : ByteArray), .string (⟨#[]⟩ : ByteArray)]) (t := 30) ?hr B ?_; (case hd | hg => rfl); (case hr => go_simp; first | done | rfl); intro g7 w8 hb B F7 L7 E7; have N2_7 := ne1 E7 F2; have N4_7 := ne1 E7 F4; have N5_7 := ne1 E7 F5; replace F2 := bn F2 hb; replace F4 := bn F4 hb; replace F5 := bn F5 hb; clear c2_0 c2_1; obtain ⟨c2_0, c2_1⟩ := cs2 F2; obtain ⟨c7_0, c7_1⟩ := cs2 F7; clear hb E7)
  | ((with_reducible refine gate_store (t := 30) (p := 7) rfl ?_); obtain ⟨y0, y1, z0, z1⟩ := cz2 F7; refine sx (t := 30) (t' := 30) (p := 7) (v := ?vo9) ?hg ?ho ?hn 0 [.string a, .string c] [.string a, .string c] ?hr B F7 L7 rfl (Nat.le_of_ble_eq_true rfl) ?_; (case ho | hg | hn => rfl); (case hr => go_simp; first | done | rfl); intro w9 hk B G; replace F2 := bk F2 hk N2_7.out; replace F4 := bk F4 hk N4_7.out; replace F5 := bk F5 hk N5_7.out; replace F7 := G; clear c2_0 c2_1; obtain ⟨c2_0, c2_1⟩ := cs2 F2; clear c7_0 c7_1; obtain ⟨c7_0, c7_1⟩ := cs2 F7; clear hk y0 z0 y1 z1)
  | ((with_reducible refine gate_dst (N := 8) rfl ?_); refine bx ?hg (N := 8) ?hd (cs := #[.string (⟨#[]⟩ : ByteArray), .string (⟨#[]⟩ : ByteArray)]) (t := 30) ?hr B ?_; (case hd | hg => rfl); (case hr => go_simp; first | done | rfl); intro g8 w10 hb B F8 L8 E8; have N4_8 := ne1 E8 F4; have N5_8 := ne1 E8 F5; have N7_8 := ne1 E8 F7; replace F4 := bn F4 hb; replace F5 := bn F5 hb; replace F7 := bn F7 hb; clear c7_0 c7_1; obtain ⟨c7_0, c7_1⟩ := cs2 F7; obtain ⟨c8_0, c8_1⟩ := cs2 F8; clear hb E8)
  | ((with_reducible refine gate_store (t := 30) (p := 8) rfl ?_); obtain ⟨y0, y1, z0, z1⟩ := cz2 F8; refine sx (t := 30) (t' := 30) (p := 8) (v := ?vo11) ?hg ?ho ?hn 0 [.string c, .string b] [.string c, .string b] ?hr B F8 L8 rfl (Nat.le_of_ble_eq_true rfl) ?_; (case ho | hg | hn => rfl); (case hr => go_simp; first | done | rfl); intro w11 hk B G; replace F4 := bk F4 hk N4_8.out; replace F5 := bk F5 hk N5_8.out; replace F7 := bk F7 hk N7_8.out; replace F8 := G; clear c7_0 c7_1; obtain ⟨c7_0, c7_1⟩ := cs2 F7; clear c8_0 c8_1; obtain ⟨c8_0, c8_1⟩ := cs2 F8; clear hk y0 z0 y1 z1)
  | (go_at_call 55; with_reducible refine cl (impl_IntervalValid.M a c _) B fun w12 hb B => ?_; replace F4 := bn F4 hb; replace F5 := bn F5 hb; replace F7 := bn F7 hb; replace F8 := bn F8 hb; clear c7_0 c7_1; obtain ⟨c7_0, c7_1⟩ := cs2 F7; clear c8_0 c8_1; obtain ⟨c8_0, c8_1⟩ := cs2 F8; clear hb)
  | (go_at_call 55; with_reducible refine cl (impl_IntervalValid.M c b _) B fun w13 hb B => ?_; replace F4 := bn F4 hb; replace F5 := bn F5 hb; replace F7 := bn F7 hb; replace F8 := bn F8 hb; clear c7_0 c7_1; obtain ⟨c7_0, c7_1⟩ := cs2 F7; clear c8_0 c8_1; obtain ⟨c8_0, c8_1⟩ := cs2 F8; clear hb)
  | ((with_reducible refine gate_store (t := 30) (p := 4) rfl ?_); obtain ⟨y0, y1, z0, z1⟩ := cz2 F4; refine sx (t := 30) (t' := 30) (p := 4) (v := ?vo14) ?hg ?ho ?hn 0 [.string (⟨#[]⟩ : ByteArray), .string (⟨#[]⟩ : ByteArray)] [.string (⟨#[]⟩ : ByteArray), .string (⟨#[]⟩ : ByteArray)] ?hr B F4 L4 rfl (Nat.le_of_ble_eq_true rfl) ?_; (case ho | hg | hn => rfl); (case hr => go_simp; first | done | rfl); intro w14 hk B G; replace F5 := bk F5 hk N4_5.out.symm; replace F7 := bk F7 hk N4_7.out.symm; replace F8 := bk F8 hk N4_8.out.symm; replace F4 := G; clear c7_0 c7_1; obtain ⟨c7_0, c7_1⟩ := cs2 F7; clear c8_0 c8_1; obtain ⟨c8_0, c8_1⟩ := cs2 F8; clear hk y0 z0 y1 z1)
  | ((with_reducible refine gate_store (t := 30) (p := 5) rfl ?_); obtain ⟨y0, y1, z0, z1⟩ := cz2 F5; refine sx (t := 30) (t' := 30) (p := 5) (v := ?vo15) ?hg ?ho ?hn 0 [.string (⟨#[]⟩ : ByteArray), .string (⟨#[]⟩ : ByteArray)] [.string (⟨#[]⟩ : ByteArray), .string (⟨#[]⟩ : ByteArray)] ?hr B F5 L5 rfl (Nat.le_of_ble_eq_true rfl) ?_; (case ho | hg | hn => rfl); (case hr => go_simp; first | done | rfl); intro w15 hk B G; replace F4 := bk F4 hk N4_5.out; replace F7 := bk F7 hk N5_7.out.symm; replace F8 := bk F8 hk N5_8.out.symm; replace F5 := G; clear c7_0 c7_1; obtain ⟨c7_0, c7_1⟩ := cs2 F7; clear c8_0 c8_1; obtain ⟨c8_0, c8_1⟩ := cs2 F8; clear hk y0 z0 y1 z1))
 all_goals try (refine bodyPost_ret (results_list (rs := [.cell 4 30, .cell 5 30, .tmp 6]) rfl (by simp) (.cell g4 30 _ (0, 0) _ rfl F4.out hu rfl (by kernel_rfl) (.cell g5 30 _ (0, 0) _ rfl F5.out hu rfl (by kernel_rfl) (.tmp .nil)))) rfl ?_; refine ⟨?_, B.out⟩; unfold cutV cutB; simp_all; done)
 all_goals (
  refine rg (n := 5) (S := fun W => W.heap[g7]? = some (.cells #[.string a, .string c] 30 (0, 0)) ∧ W.heap[g8]? = some (.cells #[.string c, .string b] 30 (0, 0))) (ds := []) #[false, false, false, false, false] (by kernel_rfl) rfl rfl ⟨F7.out, F8.out⟩ id B (fun w16 hb B hHeld => ?_)
  refine with_tabW impl_IntervalCut.tab7 impl_IntervalCut.bits7 (fun HT_ HW_ => ?_)
  replace F4 := bn F4 hb
  replace F5 := bn F5 hb
  replace F7 := bn F7 hb
  replace F8 := bn F8 hb
  clear hb
  refine tv 0 (some 37) (v := ?_) (bits 5 1) HT_ HW_ (by kernel_rfl) rfl rfl (fun _ _ _ h => h) (by kernel_rfl) hHeld ?_ ?_; rotate_left; (intro w' hS; obtain ⟨s0, s1⟩ := hS; obtain ⟨q0, q1⟩ := cs2 (Aside0.mk s0); go_simp; with_reducible rfl)
  refine tv 1 (some 38) (v := ?_) (bits 5 3) HT_ HW_ (by kernel_rfl) rfl rfl (fun _ _ _ h => h) (by kernel_rfl) hHeld ?_ ?_; rotate_left; (intro w' hS; obtain ⟨s0, s1⟩ := hS; obtain ⟨q0, q1⟩ := cs2 (Aside0.mk s1); go_simp; with_reducible rfl)
  refine norm_ (a' := ?_) ?_ ?_
  rotate_left
  ·simp only [Act.put, za, zb, zc, i64_w, i32_w]
   rfl
  refine one_ (i := 2) (N := none) (bits 5 7) rfl rfl (one_of HT_.out (by kernel_rfl)) (by decide) (fun K hK => ?_)
  obtain ⟨y0, y1, z0, z1⟩ := cz2 F4
  refine sxs (g := g4) 0 [.string a, .string c] [.string a, .string c] (by rfl) rfl ?hr B F4 L4 rfl (Nat.le_of_ble_eq_true rfl) (fun w17 hk B G => ?_)
  (case hr => go_simp; first | done | rfl)
  replace F5 := bk F5 hk N4_5.out.symm
  replace F7 := bk F7 hk N4_7.out.symm
  replace F8 := bk F8 hk N4_8.out.symm
  replace F4 := G
  clear hk y0 z0 y1 z1
  refine hK.out _ _ ⟨F7.out, F8.out⟩ (fun hHeld => ?_)
  clear hK K
  refine one_ (i := 3) (N := none) (bits 5 15) rfl rfl (one_of HT_.out (by kernel_rfl)) (by decide) (fun K hK => ?_)
  obtain ⟨y0, y1, z0, z1⟩ := cz2 F5
  refine sxs (g := g5) 0 [.string c, .string b] [.string c, .string b] (by rfl) rfl ?hr B F5 L5 rfl (Nat.le_of_ble_eq_true rfl) (fun w18 hk B G => ?_)
  (case hr => go_simp; first | done | rfl)
  replace F4 := bk F4 hk N4_5.out
  replace F7 := bk F7 hk N5_7.out.symm
  replace F8 := bk F8 hk N5_8.out.symm
  replace F5 := G
  clear hk y0 z0 y1 z1
  refine hK.out _ _ ⟨F7.out, F8.out⟩ (fun hHeld => ?_)
  clear hK K
  refine pv 4 (some 6) (v := ?_) (bits 5 31) HT_ (by kernel_rfl) rfl rfl (fun _ _ _ h => h) (by kernel_rfl) ?_ ?_; rotate_left; (intro w'; go_simp; with_reducible rfl)
  refine norm_ (a' := ?_) ?_ ?_
  rotate_left
  ·simp only [Act.put, za, zb, zc, i64_w, i32_w]
   rfl
  refine done_ (done_of HT_.out (by kernel_rfl)) ?_)
 all_goals try go_wp2
 all_goals try (refine bodyPost_ret (results_list (rs := [.cell 4 30, .cell 5 30, .tmp 6]) rfl (by simp) (.cell g4 30 _ (0, 0) _ rfl F4.out hu rfl (by kernel_rfl) (.cell g5 30 _ (0, 0) _ rfl F5.out hu rfl (by kernel_rfl) (.tmp .nil)))) rfl ?_; refine ⟨?_, B.out⟩; unfold cutV cutB; simp_all; done)

theorem impl_StateValid.M (a b : ByteArray) (AP : Option Addr) (cP : Nat) (ps : List S61) (AS : Option Addr) (cS : Nat) (ss : List S100) (t : Bool) (c : ByteArray) (w : World) (hrp : Kd.C k61 w AP ps.length ps) (hrs : Kd.C k100 w AS ss.length ss) : Calls Try.prog 14 #[.agg #[.string a, .string b, .slice AP ps.length cP, .slice AS ss.length cS, .bool t, .string c]] w fun e w' => e = .returned (.bool (stB a b ps ss t c)) ∧ Below w.heap.size w w' := by
 have B := Aside0.mk (Below.refl w.heap.size w)
 have hu := Try.underlying34
 have hu2 := Try.underlying30
 have HRP := Aside0.mk hrp
 have HRS := Aside0.mk hrs
 clear hrp hrs
 go_enter Try.func14, Try.ntmps14
 go_wp2_with (first
  | ((with_reducible refine gate_dst (N := 1) rfl ?_); refine bx ?hg (N := 1) ?hd (cs := #[.string a, .string b, .slice AP ps.length cP, .slice AS ss.length cS, .bool t, .string c]) (t := 34) ?hr B ?_; (case hd | hg => rfl); (case hr => go_simp; first | done | rfl); intro g1 w1 hb B F1 L1 E1; obtain ⟨c1_0, c1_1, c1_2, c1_3, c1_4, c1_5⟩ := cs6 F1; clear hb E1)
  | (go_at_call 55; with_reducible refine cl (impl_IntervalValid.M a b _) B fun w2 hb B => ?_; replace F1 := bn F1 hb; clear c1_0 c1_1 c1_2 c1_3 c1_4 c1_5; obtain ⟨c1_0, c1_1, c1_2, c1_3, c1_4, c1_5⟩ := cs6 F1; clear hb)
  | (go_at_call 56; with_reducible refine cl (impl_PairsValid.M _ _ ps _ (cb HRP B)) B fun w3 hb B => ?_; replace F1 := bn F1 hb; clear c1_0 c1_1 c1_2 c1_3 c1_4 c1_5; obtain ⟨c1_0, c1_1, c1_2, c1_3, c1_4, c1_5⟩ := cs6 F1; clear hb)
  | (go_at_call 57; with_reducible refine cl (impl_SessionsValid.M _ _ ss _ (cb HRS B)) B fun w4 hb B => ?_; replace F1 := bn F1 hb; clear c1_0 c1_1 c1_2 c1_3 c1_4 c1_5; obtain ⟨c1_0, c1_1, c1_2, c1_3, c1_4, c1_5⟩ := cs6 F1; clear hb))
 all_goals try (go_ret; exact ⟨congrArg (fun b => Ending.returned (Value.bool b)) (by grind [stB]), B.out⟩)
 have hv : ivB a b = true ∧ prB ps = true ∧ sesB ss = true := by grind
 have hst : stB a b ps ss t c = ((ps.all fun p => insB a b p.f0) && tailB a b t c) := by
  unfold stB
  rw [hv.1, hv.2.1, hv.2.2]
  rfl
 (try simp only [hv.1, hv.2.1, hv.2.2, Bool.not_true])
 obtain ⟨q, hq⟩ : ∃ q, (ps.all fun p => insB a b p.f0) = q := ⟨_, rfl⟩
 rw [hq] at hst
 have H := Aside0.mk (show ((ps.drop 0).all fun p => insB a b p.f0) = q from hq)
 have L48 := Aside0.mk (prB_len hv.2.1)
 clear hq hv c1_0 c1_1 c1_2 c1_3 c1_4 c1_5
 have HST := Aside0.mk hst
 clear hst
 go_loopg [27] (ps.length + 1) (fun kx v27 wr => ∃ j : Nat, v27 = .int .i64 (j : Int) ∧ j ≤ ps.length ∧ ps.length < j + kx ∧ Aside0 (Below w.heap.size w wr) ∧ Aside0 (wr.heap[g1]? = some (.cells #[.string a, .string b, .slice AP ps.length cP, .slice AS ss.length cS, .bool t, .string c] 34 (0, 0))) ∧ Aside0 (((ps.drop j).all fun p => insB a b p.f0) = q))
 case atStart => exact ⟨0, rfl, by omega, by omega, B, F1, H⟩
 case round =>
  clear H B F1
  obtain ⟨j, rfl, hj, hk, B, F1, H⟩ := hrel
  have hst := HST.out
  obtain ⟨c1_0, c1_1, c1_2, c1_3, c1_4, c1_5⟩ := cs6 F1
  by_cases hlt : j < ps.length
  ·have HS := H.out
   rw [pr_drop hlt, List.all_cons] at HS
   clear H
   obtain ⟨d, rfl⟩ : ∃ d, gk = d + 1 := ⟨gk - 1, by omega⟩
   have h48 := L48.out
   have cj : decide ((j : Int) < (ps.length : Int)) = true := decide_eq_true (by omega)
   obtain ⟨ad, hA, y0, y1⟩ := at_T61 (cb HRP B) (j : Int) (by omega) (by omega)
   cases hA
   rw [Int.toNat_natCast] at y0 y1
   have j1 := eq_true (show (j : Int) < (ps.length : Int) by omega)
   have j2 := eq_true hlt
   generalize hy : rd_T61 ps (j : Int) = y at *
   go_wp2_with (first
    | ((with_reducible refine gate_dst (N := 4) rfl ?_); refine bx ?hg (N := 4) ?hd (cs := #[.string (⟨#[]⟩ : ByteArray), .int .i64 (0)]) (t := 61) ?hr B ?_; (case hd | hg => rfl); (case hr => go_simp; first | done | rfl); intro g4 w5 hb B F4 L4 E4; have N1_4 := ne1 E4 F1; replace F1 := bn F1 hb; clear c1_0 c1_1 c1_2 c1_3 c1_4 c1_5; obtain ⟨c1_0, c1_1, c1_2, c1_3, c1_4, c1_5⟩ := cs6 F1; obtain ⟨c4_0, c4_1⟩ := cs2 F4; clear hb E4)
    | ((with_reducible refine gate_store (t := 61) (p := 4) rfl ?_); obtain ⟨y0, y1, z0, z1⟩ := cz2 F4; refine sx (t := 61) (t' := 61) (p := 4) (v := ?vo6) ?hg ?ho ?hn 0 [.string y.f0, .int .i64 (y.f1)] [.string y.f0, .int .i64 (y.f1)] ?hr B F4 L4 rfl (Nat.le_of_ble_eq_true rfl) ?_; (case ho | hg | hn => rfl); (case hr => go_simp; first | done | rfl); intro w6 hk B G; replace F1 := bk F1 hk N1_4.out; replace F4 := G; clear c1_0 c1_1 c1_2 c1_3 c1_4 c1_5; obtain ⟨c1_0, c1_1, c1_2, c1_3, c1_4, c1_5⟩ := cs6 F1; clear c4_0 c4_1; obtain ⟨c4_0, c4_1⟩ := cs2 F4; clear hk y0 z0 y1 z1)
    | (go_at_call 58; with_reducible refine cl (impl_inside.M a b y.f0 _) B fun w7 hb B => ?_; replace F1 := bn F1 hb; clear hb))
   all_goals first
    | (go_roundg d; (case measure => omega); (case rel => exact ⟨j + 1, congrArg (Value.int .i64) (Int.natCast_succ _).symm, by omega, by omega, B, F1, ⟨andT HS (by grind)⟩⟩))
    | (go_ret; exact ⟨congrArg (fun b => Ending.returned (Value.bool b)) (by grind), B.out⟩)
  ·have cj : decide ((j : Int) < (ps.length : Int)) = false := decide_eq_false (by omega)
   have hr : q = true := by rw [← H.out, List.drop_of_length_le (by omega)]; rfl
   clear H
   go_wp2_with (first
    | (go_at_call 59; with_reducible refine cl (impl_IntervalCut.M a b c _) B fun w1 hb B => ?_; replace F1 := bn F1 hb; clear c1_0 c1_1 c1_2 c1_3 c1_4 c1_5; obtain ⟨c1_0, c1_1, c1_2, c1_3, c1_4, c1_5⟩ := cs6 F1; clear hb)
    | ((with_reducible refine gate_dst (N := 5) rfl ?_); refine bx ?hg (N := 5) ?hd (cs := #[.string (⟨#[]⟩ : ByteArray), .string (⟨#[]⟩ : ByteArray)]) (t := 30) ?hr B ?_; (case hd | hg => rfl); (case hr => go_simp; first | done | rfl); intro g5 w2 hb B F5 L5 E5; have N1_5 := ne1 E5 F1; replace F1 := bn F1 hb; clear c1_0 c1_1 c1_2 c1_3 c1_4 c1_5; obtain ⟨c1_0, c1_1, c1_2, c1_3, c1_4, c1_5⟩ := cs6 F1; clear hb E5)
    | ((with_reducible refine gate_dst (N := 6) rfl ?_); refine bx ?hg (N := 6) ?hd (cs := #[.string (⟨#[]⟩ : ByteArray), .string (⟨#[]⟩ : ByteArray)]) (t := 30) ?hr B ?_; (case hd | hg => rfl); (case hr => go_simp; first | done | rfl); intro g6 w3 hb B F6 L6 E6; have N1_6 := ne1 E6 F1; have N5_6 := ne1 E6 F5; replace F1 := bn F1 hb; replace F5 := bn F5 hb; clear c1_0 c1_1 c1_2 c1_3 c1_4 c1_5; obtain ⟨c1_0, c1_1, c1_2, c1_3, c1_4, c1_5⟩ := cs6 F1; clear hb E6)
    | ((with_reducible refine gate_store (t := 30) (p := 5) rfl ?_); obtain ⟨y0, y1, z0, z1⟩ := cz2 F5; refine sx (t := 30) (t' := 30) (p := 5) (v := ?vo4) ?hg ?ho ?hn 0 [.string (cutV a b c).1, .string (cutV a b c).2.1] [.string (cutV a b c).1, .string (cutV a b c).2.1] ?hr B F5 L5 rfl (Nat.le_of_ble_eq_true rfl) ?_; (case ho | hg | hn => rfl); (case hr => go_simp; first | done | rfl); intro w4 hk B G; replace F1 := bk F1 hk N1_5.out; replace F6 := bk F6 hk N5_6.out.symm; replace F5 := G; clear c1_0 c1_1 c1_2 c1_3 c1_4 c1_5; obtain ⟨c1_0, c1_1, c1_2, c1_3, c1_4, c1_5⟩ := cs6 F1; clear hk y0 z0 y1 z1)
    | ((with_reducible refine gate_store (t := 30) (p := 6) rfl ?_); obtain ⟨y0, y1, z0, z1⟩ := cz2 F6; refine sx (t := 30) (t' := 30) (p := 6) (v := ?vo5) ?hg ?ho ?hn 0 [.string (cutV a b c).2.2.1, .string (cutV a b c).2.2.2.1] [.string (cutV a b c).2.2.1, .string (cutV a b c).2.2.2.1] ?hr B F6 L6 rfl (Nat.le_of_ble_eq_true rfl) ?_; (case ho | hg | hn => rfl); (case hr => go_simp; first | done | rfl); intro w5 hk B G; replace F1 := bk F1 hk N1_6.out; replace F6 := G; clear c1_0 c1_1 c1_2 c1_3 c1_4 c1_5; obtain ⟨c1_0, c1_1, c1_2, c1_3, c1_4, c1_5⟩ := cs6 F1; clear hk y0 z0 y1 z1))
   all_goals go_ret
   all_goals
    refine ⟨congrArg (fun b => Ending.returned (Value.bool b)) ?_, B.out⟩
    rw [hst, hr, Bool.true_and]
    unfold tailB
    grind [cutV_ok]

theorem laws_alive.M (w : World) : Calls Try.prog 17 #[] w fun e w' => e = .returned (.bool true) ∧ Below w.heap.size w w' := laws_alive.calls 12 true w (by decide +kernel)

/-! Rows that are made and written. -/
section
variable {P : Program} {w W W' : World} {α β : Type} {d : Kd α} {e b : Nat} {xs : List α}
variable {ops ops' : Array Oper} {o : Oper} {rest : List Oper} {a : Act} {QE : Exit → Act → World → Prop}
theorem mkr (d : Kd α) (e : Nat) (hgd : o.guard = none) {N : Tmp} (hd : o.dst = some N) (t : TypeId) (x y : Operand) (ho : o.op = .makeSlice t x y) (n : Nat) (hx : a.eval x = .int .i64 (n : Int)) (hy : a.eval y = .int .i64 (n : Int))
    (ht : P.underlying t = some (.slice e)) (z : Value) (bytes : Nat) (hinfo : (P.info? e).map (fun i => (i.zero, i.size, i.bytes)) = some (some z, d.sz, bytes)) (hz : z.cells.size = d.sz) (hs0 : 0 < d.sz) (hb0 : 0 < bytes)
    (z0 : α) (hzero : d.M W W.heap.size (fun _ => True) z0 z.cells.toList) (hl : n * bytes ≤ 281474976710656) (B : Aside0 (Below w.heap.size w W))
    (h : ∀ A kk w1, Below W.heap.size W w1 → Aside0 (Below w.heap.size w w1) → Aside0 (Ow d e w1 w.heap.size (.slice A n kk) (List.replicate n z0)) → Aside0 (Fr W (.slice A n kk)) → wpList P ops QE rest (a.put o.dst (.slice A n kk)) w1) : wpList P ops QE (o :: rest) a W :=
  Kd.R_make d W.heap.size e hgd hd t x y ho n hx hy ht z bytes hinfo hz hs0 hb0 z0 hzero (fun _ h => h) trivial (Int.natCast_nonneg n) (by rwa [Int.toNat_natCast]) (Below.refl _ _) (Nat.le_refl _) fun v1 w1 hR hb hg hnew => by
    rw [Int.toNat_natCast] at hR
    obtain ⟨A, kk, hv⟩ := Kd.R_slice hR
    rw [List.length_replicate] at hv
    subst hv
    exact h A kk w1 hb ⟨below_step B.out hb⟩ ⟨Kd.R_lower hR (below_size B.out)⟩ ⟨fun k hk => Kd.R_base hR k hk⟩
theorem fr {v v' : Value} {β : Type} {d' : Kd β} {e' : Nat} {ys : List β} (q : Aside0 (Fr W v)) (R : Aside0 (Ow d' e' W b v' ys)) : Aside0 (∀ k, v.ownBlock = some k → v'.ownBlock = some k → False) := ⟨fun k h1 h2 => by
  have := q.out k h1
  have := Kd.R_lt R.out k h2
  omega⟩
/-- the form of a row that is not empty -/
theorem rform {A : Option Addr} {n c : Nat} (R : Aside0 (Ow d e W b (.slice A n c) xs)) (hp : 0 < xs.length) : ∃ g, A = some ⟨g, 0, none⟩ ∧ b ≤ g := by
  obtain ⟨g, cap, hv, hb, _⟩ := Kd.R_form R.out hp
  cases hv
  exact ⟨g, rfl, hb⟩
/-- the cells of an element -/
theorem rcells {g n c : Nat} (z : α) (R : Aside0 (Ow d e W b (.slice (some ⟨g, 0, none⟩) n c) xs)) (i : Nat) (hi : i < n) : ∃ cs, cs.length = d.sz ∧ d.M W b (fun k => True ∧ k ≠ g) (xs.getD i z) cs ∧ (∀ j u, cs[j]? = some u → W.cell? ⟨g, i * d.sz + j, none⟩ = some u) ∧ ∀ j, W.frozen? ⟨g, i * d.sz + j, none⟩ = false := by
  have := Kd.R_elem R.out z (i : Int) (Int.natCast_nonneg i) (by omega)
  rwa [Int.toNat_natCast] at this
theorem es {g n c : Nat} {t : TypeId} {p : Tmp} {v : Operand} (hgd : o.guard = none) (ho : o.op = .store t (.tmp p) v) (hN : o.dst = none) (i off : Nat) (seg : List Value) (x' : α) (hrun : (execOp a.eval o).run P W = .ok .skip (W.setCells g (i * d.sz + off) seg))
    (R : Aside0 (Ow d e W b (.slice (some ⟨g, 0, none⟩) n c) xs)) (hi : i < n) {cs : List Value} (hcl : cs.length = d.sz) (hcc : ∀ j u, cs[j]? = some u → W.cell? ⟨g, i * d.sz + j, none⟩ = some u) (hj : off + seg.length ≤ d.sz)
    (hM : d.M W b (fun _ => False) x' (cs.take off ++ seg ++ cs.drop (off + seg.length))) (B : Aside0 (Below w.heap.size w W)) (hb : w.heap.size ≤ g)
    (h : ∀ w', W.grownBy w' (some g) → Aside0 (Below w.heap.size w w') → Aside0 (Ow d e w' b (.slice (some ⟨g, 0, none⟩) n c) (xs.set i x')) → wpList P ops QE rest a w') : wpList P ops QE (o :: rest) a W :=
  store_event hgd ho hN hrun fun w' hw => by
    have hP := Kd.R_seg R.out (i : Int) (Int.natCast_nonneg i) (by omega) (c := cs) (seg := seg) (j := off) (x' := x') (okp := fun _ => False) hcl (by rw [Int.toNat_natCast]; exact hcc) hj hM (fun _ hk => hk.elim)
    rw [Int.toNat_natCast] at hP
    subst hw
    refine h _ hP.2 ⟨pw_below_grown B.out (some g) (below_size B.out) hP.2 (fun k hk => ?_)⟩ ⟨hP.1⟩
    cases hk
    exact hb
theorem bg {g : Nat} {ob : Obj} {row : Option Nat} (F : Aside0 (W.heap[g]? = some ob)) (hg : W.grownBy W' row) (hne : some g ≠ row) : Aside0 (W'.heap[g]? = some ob) := ⟨blk_grown F.out hg hne⟩
theorem fill_set {f : α → β} {z : β} {l : List α} {j : Nat} (h : j < l.length) : ((l.take j).map f ++ List.replicate (l.length - j) z).set j (f l[j]) = (l.take (j + 1)).map f ++ List.replicate (l.length - (j + 1)) z := by
  have h1 : ((l.take j).map f).length = j := by rw [List.length_map, List.length_take]; omega
  rw [List.set_append_right _ _ (by omega), h1, Nat.sub_self, show l.length - j = (l.length - (j + 1)) + 1 by omega, List.replicate_succ, List.set_cons_zero, List.take_succ_eq_append_getElem h, List.map_append, List.append_assoc]
  rfl
theorem fill_end {f : α → β} {z : β} {l : List α} {j : Nat} (h : ¬ j < l.length) : (l.take j).map f ++ List.replicate (l.length - j) z = l.map f := by
  rw [List.take_of_length_le (by omega), show l.length - j = 0 by omega]
  simp
end
section
variable {P : Program} {w W W' : World} {α β : Type} {d : Kd α} {e b : Nat} {xs : List α}
variable {ops ops' : Array Oper} {o : Oper} {rest : List Oper} {a : Act} {QE : Exit → Act → World → Prop}
/-- a literal of records -/
theorem lt (d : Kd α) (e : Nat) (hgd : o.guard = none) {N : Tmp} (hd : o.dst = some N) (xs : List α) (inner : List Value) (hrun : (execOp a.eval o).run P W = .ok (.value (.slice (some ⟨W.heap.size, 0, none⟩) xs.length xs.length)) (W.alloc (.cells inner.toArray e)))
    (hp : Reps (d.M W W.heap.size (fun _ => True)) d.sz xs inner) (hm : xs.length ≤ 9223372036854775807) (B : Aside0 (Below w.heap.size w W))
    (h : ∀ zs, xs = zs → ∀ A kk w1, Below W.heap.size W w1 → Aside0 (Below w.heap.size w w1) → Aside0 (Ow d e w1 w.heap.size (.slice A zs.length kk) zs) → Aside0 (Fr W (.slice A zs.length kk)) → wpList P ops QE rest (a.put o.dst (.slice A zs.length kk)) w1) : wpList P ops QE (o :: rest) a W :=
  Kd.R_lit d (w0 := W) W.heap.size e hgd hd hrun hp (fun _ h => h) trivial (Below.refl _ _) (Nat.le_refl _) hm fun v1 w1 hR hb hg hnew => by
    obtain ⟨A, kk, rfl⟩ := Kd.R_slice hR
    exact h xs rfl A kk w1 hb ⟨below_step B.out hb⟩ ⟨Kd.R_lower hR (below_size B.out)⟩ ⟨fun k hk => Kd.R_base hR k hk⟩
/-- a row is put behind a row of the walk's own -/
theorem apx (d : Kd α) (e : Nat) (hgd : o.guard = none) (s x : Operand) (t : TypeId) (z : Value) (bytes : Nat) (ho : o.op = .call { callee := .builtin .append, args := #[s, x], argTypes := #[t, t] })
    (ht : P.underlying t = some (.slice e)) (hinfo : (P.info? e).map (fun i => (i.zero, i.size, i.bytes)) = some (some z, d.sz, bytes)) (hz : z.cells.size = d.sz) (hs0 : 0 < d.sz) (hb0 : 0 < bytes)
    {v : Value} {ys : List α} {A : Option Addr} {m c : Nat} (hs : a.eval s = v) (hx : a.eval x = .slice A m c) (R : Aside0 (Ow d e W w.heap.size v xs)) (C : d.C W A m ys) (hKM : ∀ x cs, d.K W x cs → d.M W w.heap.size (fun _ => False) x cs)
    (hl : (xs.length + m) * bytes ≤ 140737488355328) (B : Aside0 (Below w.heap.size w W))
    (h : ∀ zs, xs ++ ys = zs → ∀ A' kk w1, W.grownBy w1 v.ownBlock → Aside0 (Below w.heap.size w w1) → Aside0 (Ow d e w1 w.heap.size (.slice A' zs.length kk) zs) → Aside0 ((Value.slice A' zs.length kk).ownBlock = v.ownBlock ∨ ∃ b, (Value.slice A' zs.length kk).ownBlock = some b ∧ W.heap.size ≤ b) → wpList P ops QE rest (a.put o.dst (.slice A' zs.length kk)) w1) : wpList P ops QE (o :: rest) a W :=
  Kd.R_append_rows d (w0 := w) w.heap.size hgd s x t e z bytes ho ht hinfo hz hs0 hb0 v xs ys A m c (fun _ => True) (fun _ => False) hs hx R.out C hKM (fun _ h => h.elim) (fun _ _ => trivial) B.out (below_size B.out) hl fun v1 w1 hR hb hg hat => by
    obtain ⟨A', kk, rfl⟩ := Kd.R_slice hR
    exact h _ rfl A' kk w1 hg ⟨hb⟩ ⟨hR⟩ ⟨hat⟩
/-- what lies elsewhere stays when a row grows -/
theorem bga {g t : Nat} {cs : Array Value} {v : Value} (F : Aside0 (W.heap[g]? = some (.cells cs t (0, 0)))) (hg : W.grownBy W' v.ownBlock) (R : Aside0 (Ow d e W b v xs)) (ht : e ≠ t) : Aside0 (W'.heap[g]? = some (.cells cs t (0, 0))) := ⟨blk_grown F.out hg (Kd.R_ne R.out F.out ht)⟩
theorem rga {d' : Kd β} {e' b' : Nat} {v v' : Value} {ys : List β} (R' : Aside0 (Ow d' e' W b' v' ys)) (hE : d'.E = []) (hg : W.grownBy W' v.ownBlock) (ne : ∀ k, v'.ownBlock = some k → v.ownBlock = some k → False) : Aside0 (Ow d' e' W' b' v' ys) :=
  ⟨Kd.R_mono (Kd.R_grown (Kd.R_tight hE R'.out) hg (fun k h1 h2 => ne k h1.symm h2.symm)) (fun _ _ => trivial)⟩
theorem dty {d' : Kd β} {e' b' : Nat} {v v' : Value} {ys : List β} (R : Aside0 (Ow d e W b v xs)) (R' : Aside0 (Ow d' e' W b' v' ys)) (h : e ≠ e') : ∀ k, v'.ownBlock = some k → v.ownBlock = some k → False := fun k h1 h2 => by
  obtain ⟨_, o1⟩ := Kd.R_own R.out
  obtain ⟨_, o2⟩ := Kd.R_own R'.out
  obtain ⟨c1, t1⟩ := own_typed o1 k h2
  obtain ⟨c2, t2⟩ := own_typed o2 k h1
  rw [t1] at t2
  cases t2
  exact h rfl
theorem nilC (d : Kd α) (W : World) : Kd.C d W none ([] : List α).length [] := ⟨rfl, by simp, fun h => absurd h (Nat.lt_irrefl 0)⟩
end
/-- a row that grew lies apart from the others still -/
theorem dap {W : World} {v v1 v' : Value} {β : Type} {d' : Kd β} {e' b' : Nat} {ys : List β} (hat : Aside0 (v1.ownBlock = v.ownBlock ∨ ∃ b, v1.ownBlock = some b ∧ W.heap.size ≤ b)) (D : Aside0 (∀ k, v.ownBlock = some k → v'.ownBlock = some k → False)) (R : Aside0 (Ow d' e' W b' v' ys)) : Aside0 (∀ k, v1.ownBlock = some k → v'.ownBlock = some k → False) := ⟨fun k h1 h2 => by
  rcases hat.out with h | ⟨b, h, hb⟩
  · exact D.out k (h ▸ h1) h2
  · rw [h] at h1
    cases h1
    have := Kd.R_lt R.out k h2
    omega⟩
theorem dap0 {W : World} {v1 v' : Value} {β : Type} {d' : Kd β} {e' b' : Nat} {ys : List β} (hat : Aside0 (v1.ownBlock = (Value.slice none 0 0).ownBlock ∨ ∃ b, v1.ownBlock = some b ∧ W.heap.size ≤ b)) (R : Aside0 (Ow d' e' W b' v' ys)) : Aside0 (∀ k, v1.ownBlock = some k → v'.ownBlock = some k → False) := ⟨fun k h1 h2 => by
  rcases hat.out with h | ⟨b, h, hb⟩
  · rw [h] at h1
    cases h1
  · rw [h] at h1
    cases h1
    have := Kd.R_lt R.out k h2
    omega⟩
theorem dnB {P : Program} {F : FuncId} {args : Array Value} {W : World} {v : Value} (c : Calls P F args W fun e w' => e = .returned v ∧ Drawn0 W w') : Calls P F args W fun e w' => e = .returned v ∧ Below W.heap.size W w' :=
  c.mono (by rintro e W' ⟨h1, h2⟩; exact ⟨h1, h2.below⟩)

/-! A box of the type of a row's elements is no part of the row. -/
section
variable {W W' : World} {v v1 : Value} {g : Nat} {o : Obj}
theorem nb (q : Aside0 (Fr W v)) (F : Aside0 (W.heap[g]? = some o)) : Aside0 (∀ k, v.ownBlock = some k → k ≠ g) := ⟨fun k h e => by
  subst e
  have h1 := q.out k h
  have h2 := blk_lt F.out
  omega⟩
theorem nba (hat : Aside0 (v1.ownBlock = v.ownBlock ∨ ∃ b, v1.ownBlock = some b ∧ W.heap.size ≤ b)) (N : Aside0 (∀ k, v.ownBlock = some k → k ≠ g)) (F : Aside0 (W.heap[g]? = some o)) : Aside0 (∀ k, v1.ownBlock = some k → k ≠ g) := ⟨fun k h e => by
  rcases hat.out with h1 | ⟨b, h1, hb⟩
  · exact N.out k (h1 ▸ h) e
  · rw [h1] at h
    cases h
    subst e
    have h2 := blk_lt F.out
    omega⟩
theorem nba0 (hat : Aside0 (v1.ownBlock = (Value.slice none 0 0).ownBlock ∨ ∃ b, v1.ownBlock = some b ∧ W.heap.size ≤ b)) (F : Aside0 (W.heap[g]? = some o)) : Aside0 (∀ k, v1.ownBlock = some k → k ≠ g) :=
  nba hat ⟨fun k h => nomatch h⟩ F
theorem bgn (F : Aside0 (W.heap[g]? = some o)) (hg : W.grownBy W' v.ownBlock) (N : Aside0 (∀ k, v.ownBlock = some k → k ≠ g)) : Aside0 (W'.heap[g]? = some o) := ⟨blk_grown F.out hg (fun e => N.out g e.symm rfl)⟩
theorem bgn0 (F : Aside0 (W.heap[g]? = some o)) (hg : W.grownBy W' (Value.slice none 0 0).ownBlock) : Aside0 (W'.heap[g]? = some o) := ⟨blk_grown F.out hg (fun e => nomatch e)⟩
theorem rkn {α : Type} {d : Kd α} {e b : Nat} {xs : List α} (R : Aside0 (Ow d e W b v xs)) (hk : KeepBut W W' g none) (N : Aside0 (∀ k, v.ownBlock = some k → k ≠ g)) (hE : d.E = [] := by rfl) : Aside0 (Ow d e W' b v xs) :=
  ⟨Kd.R_mono (Kd.R_keep (Kd.R_tight hE R.out) hk (fun k q => N.out k q.symm)) (fun _ _ => trivial)⟩
theorem nbx {α : Type} {d : Kd α} {e b : Nat} {xs : List α} (E : Aside0 (g = W.heap.size)) (R : Aside0 (Ow d e W b v xs)) : Aside0 (∀ k, v.ownBlock = some k → k ≠ g) := ⟨fun k h e => by
  have h1 := Kd.R_lt R.out k h
  have h2 := E.out
  omega⟩
end

/-! Calls that give or write several rows. -/
theorem c2r {P : Program} {F : FuncId} {args : Array Value} {w W : World} {Q : Ending → World → Prop} {α β : Type} {d : Kd α} {d' : Kd β} {e e' : Nat} {xs : List α} {ys : List β} {f : Value → Value → Value} (c : Calls P F args W fun r w' => ∃ v1 v2, r = .returned (f v1 v2) ∧ Kd.R d e w' W.heap.size (fun _ => True) v1 xs ∧ Kd.R d' e' w' W.heap.size (fun _ => True) v2 ys ∧ Below W.heap.size W w') (B : Aside0 (Below w.heap.size w W))
    (h : ∀ A kk A' kk' W', Below W.heap.size W W' → Aside0 (Below w.heap.size w W') → Aside0 (Ow d e W' w.heap.size (.slice A xs.length kk) xs) → Aside0 (Fr W (.slice A xs.length kk)) → Aside0 (Ow d' e' W' w.heap.size (.slice A' ys.length kk') ys) → Aside0 (Fr W (.slice A' ys.length kk')) → Q (.returned (f (.slice A xs.length kk) (.slice A' ys.length kk'))) W') : Calls P F args W Q :=
  c.mono (by
    rintro r W' ⟨v1, v2, rfl, ho, ho', hb⟩
    obtain ⟨A, kk, rfl⟩ := Kd.R_slice ho
    obtain ⟨A', kk', rfl⟩ := Kd.R_slice ho'
    exact h A kk A' kk' W' hb ⟨below_step B.out hb⟩ ⟨Kd.R_lower ho (below_size B.out)⟩ ⟨fun k hk => Kd.R_base ho k hk⟩ ⟨Kd.R_lower ho' (below_size B.out)⟩ ⟨fun k hk => Kd.R_base ho' k hk⟩)
theorem c4r {P : Program} {F : FuncId} {args : Array Value} {w W : World} {Q : Ending → World → Prop} {α β : Type} {d : Kd α} {d' : Kd β} {e e' : Nat} {xs xs2 : List α} {ys ys2 : List β} {f : Value → Value → Value → Value → Value} (c : Calls P F args W fun r w' => ∃ v1 v2 v3 v4, r = .returned (f v1 v2 v3 v4) ∧ Kd.R d e w' W.heap.size (fun _ => True) v1 xs ∧ Kd.R d' e' w' W.heap.size (fun _ => True) v2 ys ∧ Kd.R d e w' W.heap.size (fun _ => True) v3 xs2 ∧ Kd.R d' e' w' W.heap.size (fun _ => True) v4 ys2 ∧ (∀ k_, v3.ownBlock = some k_ → v1.ownBlock = some k_ → False) ∧ (∀ k_, v4.ownBlock = some k_ → v2.ownBlock = some k_ → False) ∧ Below W.heap.size W w') (B : Aside0 (Below w.heap.size w W))
    (h : ∀ A kk A' kk' A2 kk2 A3 kk3 W', Below W.heap.size W W' → Aside0 (Below w.heap.size w W') → Aside0 (Ow d e W' w.heap.size (.slice A xs.length kk) xs) → Aside0 (Fr W (.slice A xs.length kk)) → Aside0 (Ow d' e' W' w.heap.size (.slice A' ys.length kk') ys) → Aside0 (Fr W (.slice A' ys.length kk')) →
      Aside0 (Ow d e W' w.heap.size (.slice A2 xs2.length kk2) xs2) → Aside0 (Fr W (.slice A2 xs2.length kk2)) → Aside0 (Ow d' e' W' w.heap.size (.slice A3 ys2.length kk3) ys2) → Aside0 (Fr W (.slice A3 ys2.length kk3)) →
      Aside0 (∀ k_, (Value.slice A2 xs2.length kk2).ownBlock = some k_ → (Value.slice A xs.length kk).ownBlock = some k_ → False) → Aside0 (∀ k_, (Value.slice A3 ys2.length kk3).ownBlock = some k_ → (Value.slice A' ys.length kk').ownBlock = some k_ → False) →
      Q (.returned (f (.slice A xs.length kk) (.slice A' ys.length kk') (.slice A2 xs2.length kk2) (.slice A3 ys2.length kk3))) W') : Calls P F args W Q :=
  c.mono (by
    rintro r W' ⟨v1, v2, v3, v4, rfl, ho, ho', ho2, ho3, d1, d2, hb⟩
    obtain ⟨A, kk, rfl⟩ := Kd.R_slice ho
    obtain ⟨A', kk', rfl⟩ := Kd.R_slice ho'
    obtain ⟨A2, kk2, rfl⟩ := Kd.R_slice ho2
    obtain ⟨A3, kk3, rfl⟩ := Kd.R_slice ho3
    exact h A kk A' kk' A2 kk2 A3 kk3 W' hb ⟨below_step B.out hb⟩ ⟨Kd.R_lower ho (below_size B.out)⟩ ⟨fun k hk => Kd.R_base ho k hk⟩ ⟨Kd.R_lower ho' (below_size B.out)⟩ ⟨fun k hk => Kd.R_base ho' k hk⟩
      ⟨Kd.R_lower ho2 (below_size B.out)⟩ ⟨fun k hk => Kd.R_base ho2 k hk⟩ ⟨Kd.R_lower ho3 (below_size B.out)⟩ ⟨fun k hk => Kd.R_base ho3 k hk⟩ ⟨d1⟩ ⟨d2⟩)
/-- two rows are written -/
theorem cm2 {P : Program} {F : FuncId} {args : Array Value} {w W : World} {Q : Ending → World → Prop} {α β : Type} {d : Kd α} {d' : Kd β} {t t' : Nat} {xs : List α} {ys : List β} {ok ok' S : Nat → Prop} {v v' u : Value} (c : Calls P F args W fun e w' => e = .returned u ∧ d.R t w' w.heap.size ok v xs ∧ d'.R t' w' w.heap.size ok' v' ys ∧ Below w.heap.size w w' ∧ Kept W w' S)
    (h : ∀ W', Kept W W' S → Aside0 (Below w.heap.size w W') → Aside0 (Ow d t W' w.heap.size v xs) → Aside0 (Ow d' t' W' w.heap.size v' ys) → Q (.returned u) W') : Calls P F args W Q :=
  c.mono (by rintro e W' ⟨rfl, hr, hr', hb, hk⟩; exact h W' hk ⟨hb⟩ ⟨Kd.R_mono hr (fun _ _ => trivial)⟩ ⟨Kd.R_mono hr' (fun _ _ => trivial)⟩)
theorem bkp2 {W W' : World} {α β : Type} {d : Kd α} {d' : Kd β} {e e' b b' g t : Nat} {cs : Array Value} {v v' : Value} {xs : List α} {ys : List β} (F : Aside0 (W.heap[g]? = some (.cells cs t (0, 0)))) (hk : Kept W W' fun k => some k = v.ownBlock ∨ some k = v'.ownBlock) (R : Aside0 (Ow d e W b v xs)) (R' : Aside0 (Ow d' e' W b' v' ys)) (ht : e ≠ t) (ht' : e' ≠ t) : Aside0 (W'.heap[g]? = some (.cells cs t (0, 0))) :=
  ⟨blk_kept F.out hk (fun h => h.elim (Kd.R_ne R.out F.out ht) (Kd.R_ne R'.out F.out ht'))⟩
theorem rkp2 {W W' : World} {β : Type} {d' : Kd β} {e' b' : Nat} {v v' v2 : Value} {ys : List β} (R' : Aside0 (Ow d' e' W b' v' ys)) (hE : d'.E = []) (hk : Kept W W' fun k => some k = v.ownBlock ∨ some k = v2.ownBlock) (ne : ∀ k, v'.ownBlock = some k → v.ownBlock = some k → False) (ne2 : ∀ k, v'.ownBlock = some k → v2.ownBlock = some k → False) : Aside0 (Ow d' e' W' b' v' ys) :=
  ⟨Kd.R_mono (Kd.R_kept (Kd.R_tight hE R'.out) hk (fun k h1 h2 => h2.elim (fun h2 => ne k h1.symm h2.symm) (fun h2 => ne2 k h1.symm h2.symm))) (fun _ _ => trivial)⟩

/-! A reader of a code that functions share: what their calls keep. -/
section
variable {w W W' W0 : World} {g gb t p2 : Nat} {bs : List Int} {p p' : Int} {cs : Array Value} {α : Type} {d : Kd α} {e b : Nat} {v v1 : Value} {xs : List α}
def RB (g : Nat) : Nat → Prop := fun k => k = g
theorem bkr (F : Aside0 (W.heap[gb]? = some (.cells cs t (0, 0)))) (HI : Aside0 (IsS119 w W g bs p)) (ht : t ≠ 119) (hk : Kept W W' (RB g)) : Aside0 (W'.heap[gb]? = some (.cells cs t (0, 0))) := ⟨blk_kept F.out hk (fun h => HI.out.ne_blk F.out ht h.symm)⟩
theorem rkr (R : Aside0 (Ow d e W b v xs)) (HI : Aside0 (IsS119 w W g bs p)) (ht : ∀ q, q ∈ e :: d.E → q ≠ 119) (hk : Kept W W' (RB g)) : Aside0 (Ow d e W' b v xs) := ⟨Kd.R_mono (Kd.R_kept (HI.out.apart R.out ht) hk (fun _ h => h.2)) (fun _ _ => trivial)⟩
theorem hib (HI : Aside0 (IsS119 w W g bs p)) (hb : Below W.heap.size W W') : Aside0 (IsS119 w W' g bs p) := ⟨HI.out.below hb⟩
theorem his (HI : Aside0 (IsS119 w W g bs p)) (F : Aside0 (W.heap[gb]? = some (.cells cs t (0, 0)))) (ht : t ≠ 119) (hk : KeepBut W W' gb none) : Aside0 (IsS119 w W' g bs p) := ⟨HI.out.kept (Kept.of_keep (Kept.refl W (RB gb)) hk (.inl rfl)) (fun h => HI.out.ne_blk F.out ht h)⟩
theorem hig (HI : Aside0 (IsS119 w W g bs p)) (R : Aside0 (Ow d e W b v xs)) (ht : e ≠ 119) (hg : W.grownBy W' v.ownBlock) : Aside0 (IsS119 w W' g bs p) := ⟨HI.out.grown hg (HI.out.own_ne R.out ht)⟩
theorem hig0 (HI : Aside0 (IsS119 w W g bs p)) (hg : W.grownBy W' (Value.slice none 0 0).ownBlock) : Aside0 (IsS119 w W' g bs p) := ⟨HI.out.grown hg (fun h => nomatch h)⟩
theorem kkb (K : Aside0 (Kept W0 W (RB g))) (hb : Below W.heap.size W W') : Aside0 (Kept W0 W' (RB g)) := ⟨K.out.below hb⟩
theorem kks (K : Aside0 (Kept W0 W (RB g))) (M : Aside0 (W0.heap.size ≤ gb)) (hk : KeepBut W W' gb none) : Aside0 (Kept W0 W' (RB g)) := ⟨K.out.of_keep hk (.inr M.out)⟩
theorem kkr (K : Aside0 (Kept W0 W (RB g))) (hk : Kept W W' (RB g)) : Aside0 (Kept W0 W' (RB g)) := ⟨K.out.then_ hk (fun _ h => .inl h)⟩
theorem kkg (K : Aside0 (Kept W0 W (RB g))) (M : Aside0 (Fr W0 v)) (hg : W.grownBy W' v.ownBlock) : Aside0 (Kept W0 W' (RB g)) := ⟨Kept.of_grown hg K.out (fun k h => .inr (M.out k h))⟩
theorem kkg0 (K : Aside0 (Kept W0 W (RB g))) (hg : W.grownBy W' (Value.slice none 0 0).ownBlock) : Aside0 (Kept W0 W' (RB g)) := ⟨Kept.of_grown hg K.out (fun _ h => nomatch h)⟩
theorem mbx (E : Aside0 (gb = W.heap.size)) (K : Aside0 (Kept W0 W (RB g))) : Aside0 (W0.heap.size ≤ gb) := ⟨E.out ▸ K.out.1⟩
theorem mrf (Q : Aside0 (Fr W v)) (K : Aside0 (Kept W0 W (RB g))) : Aside0 (Fr W0 v) := ⟨fun k h => Nat.le_trans K.out.1 (Q.out k h)⟩
theorem mra (hat : Aside0 (v1.ownBlock = v.ownBlock ∨ ∃ b, v1.ownBlock = some b ∧ W.heap.size ≤ b)) (M : Aside0 (Fr W0 v)) (K : Aside0 (Kept W0 W (RB g))) : Aside0 (Fr W0 v1) := ⟨fun k h => by
  rcases hat.out with h1 | ⟨b, h1, hb⟩
  · exact M.out k (h1 ▸ h)
  · rw [h1] at h
    cases h
    exact Nat.le_trans K.out.1 hb⟩
theorem mra0 (hat : Aside0 (v1.ownBlock = (Value.slice none 0 0).ownBlock ∨ ∃ b, v1.ownBlock = some b ∧ W.heap.size ≤ b)) (K : Aside0 (Kept W0 W (RB g))) : Aside0 (Fr W0 v1) := mra hat ⟨fun _ h => nomatch h⟩ K
end
section
variable {P : Program} {F : FuncId} {args : Array Value} {w W : World} {Q : Ending → World → Prop} {g : Nat} {bs : List Int} {p N : Int} {α β τ σ : Type}
/-- what a call with a reader leaves -/
def Left (w W : World) (g : Nat) (bs : List Int) (p N : Int) (p' : Int) (w' : World) : Prop := (p ≤ p' ∧ p' ≤ p + N) ∧ IsS119 w w' g bs p' ∧ Below w.heap.size w w' ∧ Kept W w' (RB g)
theorem cg1 {f : α → Value} {q : α → Prop} (c : Calls P F args W fun e w' => ∃ x p', e = .returned (f x) ∧ q x ∧ Left w W g bs p N p' w')
    (h : ∀ x p', q x → (p ≤ p' ∧ p' ≤ p + N) → ∀ W', Kept W W' (RB g) → Aside0 (Below w.heap.size w W') → Aside0 (IsS119 w W' g bs p') → Q (.returned (f x)) W') : Calls P F args W Q :=
  c.mono (by rintro e W' ⟨x, p', rfl, hq, hp, hi, hb, hk⟩; exact h x p' hq hp W' hk ⟨hb⟩ ⟨hi⟩)
theorem cg2 {f : α → β → Value} {q : α → β → Prop} (c : Calls P F args W fun e w' => ∃ x y p', e = .returned (f x y) ∧ q x y ∧ Left w W g bs p N p' w')
    (h : ∀ x y p', q x y → (p ≤ p' ∧ p' ≤ p + N) → ∀ W', Kept W W' (RB g) → Aside0 (Below w.heap.size w W') → Aside0 (IsS119 w W' g bs p') → Q (.returned (f x y)) W') : Calls P F args W Q :=
  c.mono (by rintro e W' ⟨x, y, p', rfl, hq, hp, hi, hb, hk⟩; exact h x y p' hq hp W' hk ⟨hb⟩ ⟨hi⟩)
theorem cg3 {f : α → β → τ → Value} {q : α → β → τ → Prop} (c : Calls P F args W fun e w' => ∃ x y z p', e = .returned (f x y z) ∧ q x y z ∧ Left w W g bs p N p' w')
    (h : ∀ x y z p', q x y z → (p ≤ p' ∧ p' ≤ p + N) → ∀ W', Kept W W' (RB g) → Aside0 (Below w.heap.size w W') → Aside0 (IsS119 w W' g bs p') → Q (.returned (f x y z)) W') : Calls P F args W Q :=
  c.mono (by rintro e W' ⟨x, y, z, p', rfl, hq, hp, hi, hb, hk⟩; exact h x y z p' hq hp W' hk ⟨hb⟩ ⟨hi⟩)
theorem cgr {d : Kd α} {e : Nat} {f : Value → Value} {q : List α → Prop} (c : Calls P F args W fun r w' => ∃ v0 xs p', r = .returned (f v0) ∧ q xs ∧ Kd.R d e w' w.heap.size (fun _ => True) v0 xs ∧ Fr W v0 ∧ Left w W g bs p N p' w')
    (h : ∀ xs A kk p', q xs → (p ≤ p' ∧ p' ≤ p + N) → ∀ W', Kept W W' (RB g) → Aside0 (Below w.heap.size w W') → Aside0 (IsS119 w W' g bs p') → Aside0 (Ow d e W' w.heap.size (.slice A xs.length kk) xs) → Aside0 (Fr W (.slice A xs.length kk)) → Q (.returned (f (.slice A xs.length kk))) W') : Calls P F args W Q :=
  c.mono (by
    rintro r W' ⟨v0, xs, p', rfl, hq, ho, hf, hp, hi, hb, hk⟩
    obtain ⟨A, kk, rfl⟩ := Kd.R_slice ho
    exact h xs A kk p' hq hp W' hk ⟨hb⟩ ⟨hi⟩ ⟨ho⟩ ⟨hf⟩)
/-- a state -/
theorem cgs {d : Kd α} {d' : Kd β} {e e' : Nat} {f : ByteArray → ByteArray → Value → Value → Bool → ByteArray → Value} {q : List α → List β → Prop} (c : Calls P F args W fun r w' => ∃ a b v0 v1 t c xs ys p', r = .returned (f a b v0 v1 t c) ∧ q xs ys ∧ (Kd.R d e w' w.heap.size (fun _ => True) v0 xs ∧ Fr W v0) ∧ (Kd.R d' e' w' w.heap.size (fun _ => True) v1 ys ∧ Fr W v1) ∧ Left w W g bs p N p' w')
    (h : ∀ a b t c xs ys A kk A' kk' p', q xs ys → (p ≤ p' ∧ p' ≤ p + N) → ∀ W', Kept W W' (RB g) → Aside0 (Below w.heap.size w W') → Aside0 (IsS119 w W' g bs p') → Aside0 (Ow d e W' w.heap.size (.slice A xs.length kk) xs) → Aside0 (Fr W (.slice A xs.length kk)) → Aside0 (Ow d' e' W' w.heap.size (.slice A' ys.length kk') ys) → Aside0 (Fr W (.slice A' ys.length kk')) →
      Q (.returned (f a b (.slice A xs.length kk) (.slice A' ys.length kk') t c)) W') : Calls P F args W Q :=
  c.mono (by
    rintro r W' ⟨a, b, v0, v1, t, c, xs, ys, p', rfl, hq, ⟨ho, hf⟩, ⟨ho', hf'⟩, hp, hi, hb, hk⟩
    obtain ⟨A, kk, rfl⟩ := Kd.R_slice ho
    obtain ⟨A', kk', rfl⟩ := Kd.R_slice ho'
    exact h a b t c xs ys A kk A' kk' p' hq hp W' hk ⟨hb⟩ ⟨hi⟩ ⟨ho⟩ ⟨hf⟩ ⟨ho'⟩ ⟨hf'⟩)
theorem copen {w W : World} {P : Program} {F : FuncId} {args : Array Value} {Q : Ending → World → Prop} {bs : List Int} {p : Int} (c : Calls P F args W fun e w' => ∃ g, e = .returned (.pointer (some ⟨g, 0, none⟩)) ∧ IsS119 w w' g bs p ∧ Below w.heap.size w w' ∧ Below W.heap.size W w')
    (h : ∀ g W', Below W.heap.size W W' → Aside0 (Below w.heap.size w W') → Aside0 (IsS119 w W' g bs p) → Q (.returned (.pointer (some ⟨g, 0, none⟩))) W') : Calls P F args W Q :=
  c.mono (by rintro e W' ⟨g, rfl, hi, hb, hb'⟩; exact h g W' hb' ⟨hb⟩ ⟨hi⟩)
theorem kept_keep {W W' : World} {g : Nat} (h : KeepBut W W' g none) : Kept W W' (RB g) := Kept.of_keep (Kept.refl W _) h (.inl rfl)
end

/-! What draws of states give. -/
section
variable {P : Program} {F : FuncId} {args : Array Value} {w W : World} {Q : Ending → World → Prop} {α β : Type} {d : Kd α} {d' : Kd β} {e e' : Nat}
theorem cdst {f : ByteArray → ByteArray → Value → Value → Bool → ByteArray → Value} {q : List α → List β → Prop} (c : Calls P F args W fun r w' => ∃ a b v0 v1 t c xs ys, r = .returned (f a b v0 v1 t c) ∧ q xs ys ∧ Kd.R d e w' W.heap.size (fun _ => True) v0 xs ∧ Kd.R d' e' w' W.heap.size (fun _ => True) v1 ys ∧ Below W.heap.size W w') (B : Aside0 (Below w.heap.size w W))
    (h : ∀ a b t c xs ys A kk A' kk' W', q xs ys → Below W.heap.size W W' → Aside0 (Below w.heap.size w W') → Aside0 (Ow d e W' w.heap.size (.slice A xs.length kk) xs) → Aside0 (Ow d' e' W' w.heap.size (.slice A' ys.length kk') ys) → Q (.returned (f a b (.slice A xs.length kk) (.slice A' ys.length kk') t c)) W') : Calls P F args W Q :=
  c.mono (by
    rintro r W' ⟨a, b, v0, v1, t, c, xs, ys, rfl, hq, ho, ho', hb⟩
    obtain ⟨A, kk, rfl⟩ := Kd.R_slice ho
    obtain ⟨A', kk', rfl⟩ := Kd.R_slice ho'
    exact h a b t c xs ys A kk A' kk' W' hq hb ⟨below_step B.out hb⟩ ⟨Kd.R_lower ho (below_size B.out)⟩ ⟨Kd.R_lower ho' (below_size B.out)⟩)
theorem cdst2 {f : ByteArray → ByteArray → Value → Value → Bool → ByteArray → ByteArray → ByteArray → Value → Value → Bool → ByteArray → Value} {q : List α → List β → List α → List β → Prop} (c : Calls P F args W fun r w' => ∃ a b v0 v1 t c xs ys a2 b2 v2 v3 t2 c2 xs2 ys2, r = .returned (f a b v0 v1 t c a2 b2 v2 v3 t2 c2) ∧ q xs ys xs2 ys2 ∧ (Kd.R d e w' W.heap.size (fun _ => True) v0 xs ∧ Kd.R d' e' w' W.heap.size (fun _ => True) v1 ys) ∧ (Kd.R d e w' W.heap.size (fun _ => True) v2 xs2 ∧ Kd.R d' e' w' W.heap.size (fun _ => True) v3 ys2) ∧ Below W.heap.size W w') (B : Aside0 (Below w.heap.size w W))
    (h : ∀ a b t c xs ys A kk A' kk' a2 b2 t2 c2 xs2 ys2 A2 kk2 A3 kk3 W', q xs ys xs2 ys2 → Below W.heap.size W W' → Aside0 (Below w.heap.size w W') → Aside0 (Ow d e W' w.heap.size (.slice A xs.length kk) xs) → Aside0 (Ow d' e' W' w.heap.size (.slice A' ys.length kk') ys) → Aside0 (Ow d e W' w.heap.size (.slice A2 xs2.length kk2) xs2) → Aside0 (Ow d' e' W' w.heap.size (.slice A3 ys2.length kk3) ys2) →
      Q (.returned (f a b (.slice A xs.length kk) (.slice A' ys.length kk') t c a2 b2 (.slice A2 xs2.length kk2) (.slice A3 ys2.length kk3) t2 c2)) W') : Calls P F args W Q :=
  c.mono (by
    rintro r W' ⟨a, b, v0, v1, t, c, xs, ys, a2, b2, v2, v3, t2, c2, xs2, ys2, rfl, hq, ⟨ho, ho'⟩, ⟨ho2, ho3⟩, hb⟩
    obtain ⟨A, kk, rfl⟩ := Kd.R_slice ho
    obtain ⟨A', kk', rfl⟩ := Kd.R_slice ho'
    obtain ⟨A2, kk2, rfl⟩ := Kd.R_slice ho2
    obtain ⟨A3, kk3, rfl⟩ := Kd.R_slice ho3
    exact h a b t c xs ys A kk A' kk' a2 b2 t2 c2 xs2 ys2 A2 kk2 A3 kk3 W' hq hb ⟨below_step B.out hb⟩ ⟨Kd.R_lower ho (below_size B.out)⟩ ⟨Kd.R_lower ho' (below_size B.out)⟩ ⟨Kd.R_lower ho2 (below_size B.out)⟩ ⟨Kd.R_lower ho3 (below_size B.out)⟩)
end
/-- where a walk is to stand -/
structure Stop (p : Prop) : Prop where
  out : p

namespace Dw
/-! Eventually: for all large enough numbers of rounds; small lemmas on numbers and lists. -/
def Evn (P : Nat → Prop) : Prop := ∃ K, ∀ k, K ≤ k → P k

theorem Evn.all {P : Nat → Prop} (h : ∀ k, P k) : Evn P := ⟨0, fun k _ => h k⟩

theorem Evn.mp {P Q : Nat → Prop} (hp : Evn P) (hq : Evn fun k => P k → Q k) : Evn Q := by
 obtain ⟨K1, h1⟩ := hp
 obtain ⟨K2, h2⟩ := hq
 exact ⟨max K1 K2, fun k hk => h2 k (by omega) (h1 k (by omega))⟩

theorem Evn.succ {P : Nat → Prop} (h : Evn fun k => P (k + 1)) : Evn P := by
 obtain ⟨K, h⟩ := h
 refine ⟨K + 1, fun k hk => ?_⟩
 obtain ⟨m, rfl⟩ : ∃ m, k = m + 1 := ⟨k - 1, by omega⟩
 exact h m (by omega)

theorem Evn.some {P : Nat → Prop} (h : Evn P) : ∃ k, P k := by
 obtain ⟨K, h⟩ := h
 exact ⟨K, h K (Nat.le_refl K)⟩

theorem w64 {x : Int} (h0 : -9223372036854775808 ≤ x) (h1 : x ≤ 9223372036854775807) : wrap64 x = x := by
 unfold wrap64
 omega

theorem rd_drop {xs : List Int} {j : Nat} (h : j < xs.length) : xs.drop j = rd xs (j : Int) :: xs.drop (j + 1) := by
 rw [List.drop_eq_getElem_cons h]
 simp [rd, List.getD_eq_getElem?_getD, List.getElem?_eq_getElem h]

theorem rd_nat {xs : List Int} {j : Nat} (h : j < xs.length) : rd xs (j : Int) = xs[j] := by
 simp [rd, List.getD_eq_getElem?_getD, List.getElem?_eq_getElem h]

theorem wf64 {x : Int} (h : (Lit.int .i64 x).wf = true) : -9223372036854775808 ≤ x ∧ x ≤ 9223372036854775807 := by
 have h' : (decide (IntKind.i64.min ≤ x) && decide (x ≤ IntKind.i64.max)) = true := h
 rw [Bool.and_eq_true, decide_eq_true_eq, decide_eq_true_eq] at h'
 exact h'

/-! The reader of a code: a pick is in its range; the place goes on by one. -/
def Code (b : List Int) : Prop := b.length ≤ 2000 ∧ ∀ x ∈ b, 0 ≤ x ∧ x ≤ 255

theorem rd_code {b : List Int} (h : Code b) (i : Int) : 0 ≤ rd b i ∧ rd b i ≤ 255 := by
 unfold rd
 rw [List.getD_eq_getElem?_getD]
 by_cases hi : i.toNat < b.length
 ·rw [List.getElem?_eq_getElem hi]
  exact h.2 _ (List.getElem_mem hi)
 ·rw [List.getElem?_eq_none (by omega)]
  simp

theorem xor_pos (a b : Int) (ha0 : 0 ≤ a) (ha1 : a < 4611686018427387904) (hb0 : 0 ≤ b) (hb1 : b < 4611686018427387904) : 0 ≤ Go.bits .xor .i64 a b := by
 obtain ⟨n, rfl⟩ := Int.eq_ofNat_of_zero_le ha0
 obtain ⟨m, rfl⟩ := Int.eq_ofNat_of_zero_le hb0
 have hn : n < 2 ^ 62 := by omega
 have hm : m < 2 ^ 62 := by omega
 have hx := Nat.xor_lt_two_pow hn hm
 have n64 : n % 2 ^ 64 = n := Nat.mod_eq_of_lt (by omega)
 have m64 : m % 2 ^ 64 = m := Nat.mod_eq_of_lt (by omega)
 have e : Go.bits .xor .i64 (n : Int) (m : Int) = IntKind.i64.wrap ((n ^^^ m : Nat) : Int) := by
  show IntKind.i64.wrap (((BitVec.ofInt 64 (n : Int) ^^^ BitVec.ofInt 64 (m : Int)).toNat : Nat) : Int) = _
  rw [BitVec.ofInt_natCast, BitVec.ofInt_natCast, BitVec.toNat_xor, BitVec.toNat_ofNat, BitVec.toNat_ofNat, n64, m64]
 rw [e, IntKind.wrap_i64]
 omega

theorem spec_pick (b : List Int) (hb : Code b) (p n : Int) (h0 : 0 ≤ p) (h1 : p ≤ 1099511627776) :
  ∃ r, 0 ≤ r ∧ (1 ≤ n → r < n) ∧ (n ≤ 1 → r = 0) ∧ Evn fun k => spec_l20Rd_pick.f k b p n = some (r, p + 1) := by
 have hw : wrap64 (p + 1) = p + 1 := w64 (by omega) (by omega)
 by_cases hn : n < 1
 ·refine ⟨0, by omega, by omega, by omega, Evn.succ (Evn.all fun k => ?_)⟩
  unfold spec_l20Rd_pick.f
  rw [if_pos hn, hw]
  simp only [spec_l20Rd_pick.j0]
  rw [if_pos trivial]
 ·by_cases hl : b.length = 0
  ·refine ⟨0, by omega, by omega, by omega, Evn.succ (Evn.all fun k => ?_)⟩
   unfold spec_l20Rd_pick.f
   rw [if_neg hn, hw, hl]
   simp only [spec_l20Rd_pick.j0]
   rw [if_pos (by rfl)]
  ·have hl1 : 1 ≤ (b.length : Int) := by omega
   have hle : ((b.length : Int) == 0) = false := by simpa using hl
   have e1 : wrap64 (p + 1 - 1) = p := by rw [show p + 1 - 1 = p by omega]; exact w64 (by omega) (by omega)
   by_cases hp : p < (b.length : Int)
   ·have hr := rd_code hb p
    refine ⟨Int.tmod (rd b p) n, Int.tmod_nonneg n hr.1, fun h => Int.tmod_lt_of_pos _ (by omega), fun h => ?_, Evn.succ (Evn.all fun k => ?_)⟩
    ·have : n = 1 := by omega
     subst this
     exact Int.tmod_one _
    ·unfold spec_l20Rd_pick.f
     rw [if_neg hn, hw, hle]
     simp only [spec_l20Rd_pick.j0]
     rw [if_neg (by simp), e1, if_pos hp, if_pos h0, if_neg (by omega), w64 (x := rd b p) (by omega) (by omega)]
   ·have ei : Int.tmod p (b.length : Int) = p % (b.length : Int) := Int.tmod_eq_emod_of_nonneg h0
    have i0 : 0 ≤ p % (b.length : Int) := Int.emod_nonneg _ (by omega)
    have i1 : p % (b.length : Int) < (b.length : Int) := Int.emod_lt_of_pos _ (by omega)
    have e7 : wrap64 (wrap64 (p * 7) + 3) = p * 7 + 3 := by rw [w64 (x := p * 7) (by omega) (by omega), w64 (by omega) (by omega)]
    have ej : Int.tmod (p * 7 + 3) (b.length : Int) = (p * 7 + 3) % (b.length : Int) := Int.tmod_eq_emod_of_nonneg (by omega)
    have j0 : 0 ≤ (p * 7 + 3) % (b.length : Int) := Int.emod_nonneg _ (by omega)
    have j1 : (p * 7 + 3) % (b.length : Int) < (b.length : Int) := Int.emod_lt_of_pos _ (by omega)
    have eq : Int.tdiv p (b.length : Int) = p / (b.length : Int) := Int.tdiv_eq_ediv_of_nonneg h0
    have q0 : 0 ≤ p / (b.length : Int) := Int.ediv_nonneg h0 (by omega)
    have q1 : p / (b.length : Int) ≤ p := Int.ediv_le_self _ h0
    have hu := rd_code hb (p % (b.length : Int))
    have hv := rd_code hb ((p * 7 + 3) % (b.length : Int))
    have main : ∀ u v q : Int, 0 ≤ u → u ≤ 255 → 0 ≤ v → v ≤ 255 → 0 ≤ q → q ≤ p →
      ∃ x, wrap64 ((wrap64 ((wrap64 ((wrap64 ((wrap64 u) * 131)) + (wrap64 ((wrap64 v) * 1117)))) + (wrap64 (p * 29)))) + (wrap64 ((wrap64 q) * 53))) = x ∧ 0 ≤ x ∧ x < 4611686018427387904 ∧ 0 ≤ wrap64 (Int.tdiv x 64) ∧ wrap64 (Int.tdiv x 64) < 4611686018427387904 := by
     intro u v q u0 u1 v0 v1 q0 q1
     refine ⟨u * 131 + v * 1117 + p * 29 + q * 53, ?_, by omega, by omega, ?_, ?_⟩
     ·rw [w64 (x := u) (by omega) (by omega), w64 (x := v) (by omega) (by omega), w64 (x := q) (by omega) (by omega), w64 (x := u * 131) (by omega) (by omega), w64 (x := v * 1117) (by omega) (by omega), w64 (x := p * 29) (by omega) (by omega), w64 (x := q * 53) (by omega) (by omega), w64 (x := u * 131 + v * 1117) (by omega) (by omega), w64 (x := u * 131 + v * 1117 + p * 29) (by omega) (by omega), w64 (by omega) (by omega)]
     all_goals
      rw [Int.tdiv_eq_ediv_of_nonneg (by omega), w64 (by omega) (by omega)]
      omega
    obtain ⟨x, hx, x0, x1, y0, y1⟩ := main _ _ _ hu.1 hu.2 hv.1 hv.2 q0 q1
    refine ⟨Int.tmod (Go.bits .xor .i64 x (wrap64 (Int.tdiv x 64))) n, Int.tmod_nonneg n (xor_pos _ _ x0 x1 y0 y1), fun h => Int.tmod_lt_of_pos _ (by omega), fun h => ?_, Evn.succ (Evn.all fun k => ?_)⟩
    ·have : n = 1 := by omega
     subst this
     exact Int.tmod_one _
    ·unfold spec_l20Rd_pick.f
     rw [if_neg hn, hw, hle]
     simp only [spec_l20Rd_pick.j0]
     rw [if_neg (by simp), e1, if_neg hp, if_neg (by omega), ei, if_pos i0, if_pos i1, e7, ej, if_pos j0, if_pos j1, if_neg (by omega), eq, hx]

theorem spec_odd (b : List Int) (hb : Code b) (p n : Int) (h0 : 0 ≤ p) (h1 : p ≤ 1099511627776) (hn : n ≤ 1000000) :
  ∃ r q, p ≤ q ∧ q ≤ p + 1 ∧ (n ≤ 0 → r = false) ∧ Evn fun k => spec_l20Rd_odd.f k b p n = some (r, q) := by
 by_cases h : n > 0
 ·obtain ⟨r, _, _, _, e⟩ := spec_pick b hb p n h0 h1
  refine ⟨r == wrap64 (n - 1), p + 1, by omega, by omega, by omega, Evn.mp e (Evn.all fun k e => ?_)⟩
  unfold spec_l20Rd_odd.f
  rw [if_pos h, e]
  rfl
 ·refine ⟨false, p, by omega, by omega, fun _ => rfl, Evn.all fun k => ?_⟩
  unfold spec_l20Rd_odd.f
  rw [if_neg h]

theorem spec_open (l : List Int) (hl : ∀ x ∈ l, (Lit.int .u8 x).wf = true) : ∃ b, Code b ∧ spec_l20Open.f l = some (b, 0) := by
 have hx : ∀ x ∈ l, 0 ≤ x ∧ x ≤ 255 := fun x hx => by
  have h' : (decide (IntKind.u8.min ≤ x) && decide (x ≤ IntKind.u8.max)) = true := hl x hx
  rw [Bool.and_eq_true, decide_eq_true_eq, decide_eq_true_eq] at h'
  exact h'
 unfold spec_l20Open.f
 by_cases h : (l.length : Int) > 2000
 ·refine ⟨l.take 2000, ⟨by rw [List.length_take]; omega, fun x hm => hx x (List.mem_of_mem_take hm)⟩, ?_⟩
  rw [if_pos h, if_pos (by omega)]
 ·exact ⟨l, ⟨by omega, hx⟩, by rw [if_neg h]⟩

/-! What a reader draws: a value with what is known of it, and the place behind it, not far. -/
def Dr {α : Type} (g : Nat → Option (α × Int)) (p c : Int) (P : α → Prop) : Prop := ∃ r q, p ≤ q ∧ q ≤ p + c ∧ P r ∧ Evn fun k => g k = some (r, q)

theorem Dr.bind {α β : Type} {g : Nat → Option (α × Int)} {H : Nat → α × Int → Option (β × Int)} {p c C : Int} {P : α → Prop} {Q : β → Prop}
  (h1 : Dr g p c P) (h2 : ∀ bt : α × Int, P bt.1 → p ≤ bt.2 → bt.2 ≤ p + c → Dr (fun k => H k bt) bt.2 (C - c) Q) : Dr (fun k => (g k).bind (H k)) p C Q := by
 obtain ⟨r, q, hq0, hq1, hr, e⟩ := h1
 obtain ⟨r', q', h0, h1, hr', e'⟩ := h2 (r, q) hr hq0 hq1
 refine ⟨r', q', by simp only at h0; omega, by simp only at h1; omega, hr', Evn.mp e (Evn.mp e' (Evn.all fun k e' e => ?_))⟩
 dsimp only
 rw [e]
 exact e'

theorem Dr.pure {α : Type} {p c : Int} {P : α → Prop} {r : α} (hr : P r) (hc : 0 ≤ c) : Dr (fun _ => some (r, p)) p c P :=
 ⟨r, p, by omega, by omega, hr, Evn.all fun _ => rfl⟩

theorem Dr.ite {α : Type} {g h : Nat → Option (α × Int)} {p c : Int} {P : α → Prop} {b : Prop} [Decidable b] (h1 : b → Dr g p c P) (h2 : ¬ b → Dr h p c P) : Dr (fun k => if b then g k else h k) p c P := by
 by_cases hb : b
 ·simpa [hb] using h1 hb
 ·simpa [hb] using h2 hb

/-- a value that is computed on the way, by a function that draws nothing -/
theorem Dr.run {α β : Type} {g : Nat → Option α} {H : Nat → α → Option (β × Int)} {p c : Int} {Q : β → Prop} {r : α} (h1 : Evn fun k => g k = some r) (h2 : Dr (fun k => H k r) p c Q) : Dr (fun k => (g k).bind (H k)) p c Q := by
 obtain ⟨r', q', h0, h1', hr', e'⟩ := h2
 refine ⟨r', q', h0, h1', hr', Evn.mp h1 (Evn.mp e' (Evn.all fun k e' e => ?_))⟩
 dsimp only
 rw [e]
 exact e'

theorem Dr.some_bind {α β : Type} {H : Nat → α → Option (β × Int)} {p c : Int} {Q : β → Prop} {r : α} (h2 : Dr (fun k => H k r) p c Q) : Dr (fun k => (some r).bind (H k)) p c Q := h2

theorem Dr.le {α : Type} {g : Nat → Option (α × Int)} {p c C : Int} {P Q : α → Prop} (h : Dr g p c P) (hc : c ≤ C) (hp : ∀ r, P r → Q r) : Dr g p C Q := by
 obtain ⟨r, q, h0, h1, hr, e⟩ := h
 exact ⟨r, q, h0, by omega, hp r hr, e⟩

theorem Dr.congr {α : Type} {g h : Nat → Option (α × Int)} {p c : Int} {P : α → Prop} (hg : Dr h p c P) (e : ∀ k, g k = h k) : Dr g p c P := by
 obtain ⟨r, q, h0, h1, hr, e'⟩ := hg
 exact ⟨r, q, h0, h1, hr, Evn.mp e' (Evn.all fun k e' => (e k).trans e')⟩

theorem Dr.succ {α : Type} {g : Nat → Option (α × Int)} {p c : Int} {P : α → Prop} (h : Dr (fun k => g (k + 1)) p c P) : Dr g p c P := by
 obtain ⟨r, q, h0, h1, hr, e⟩ := h
 exact ⟨r, q, h0, h1, hr, Evn.succ e⟩

/-- one of a list's values, by an index that was drawn -/
theorem Dr.elt {p c : Int} {P : Int → Prop} {xs : List Int} {i : Int} (h0 : 0 ≤ i) (h1 : i < (xs.length : Int)) (hP : ∀ x ∈ xs, P x) (hc : 0 ≤ c) : Dr (fun _ => if 0 ≤ i then (if i < (xs.length : Int) then some (rd xs i, p) else none) else none) p c P := by
 refine ⟨rd xs i, p, by omega, by omega, ?_, Evn.all fun k => by rw [if_pos h0, if_pos h1]⟩
 obtain ⟨j, rfl⟩ : ∃ j : Nat, i = (j : Int) := ⟨i.toNat, by omega⟩
 rw [rd_nat (by omega)]
 exact hP _ (List.getElem_mem _)

def InPick (n r : Int) : Prop := 0 ≤ r ∧ (1 ≤ n → r < n) ∧ (n ≤ 1 → r = 0)

theorem dr_pick {b : List Int} (hb : Code b) {p : Int} (n : Int) (h0 : 0 ≤ p) (h1 : p ≤ 1099511627776) : Dr (fun k => spec_l20Rd_pick.f k b p n) p 1 (InPick n) := by
 obtain ⟨r, a, c, d, e⟩ := spec_pick b hb p n h0 h1
 exact ⟨r, p + 1, by omega, by omega, ⟨a, c, d⟩, e⟩

theorem dr_odd {b : List Int} (hb : Code b) {p : Int} (n : Int) (h0 : 0 ≤ p) (h1 : p ≤ 1099511627776) (hn : n ≤ 1000000) : Dr (fun k => spec_l20Rd_odd.f k b p n) p 1 (fun r => n ≤ 0 → r = false) := by
 obtain ⟨r, q, a, c, d, e⟩ := spec_odd b hb p n h0 h1 hn
 exact ⟨r, q, a, c, d, e⟩

/-- What is drawn at the end: no place behind it. -/
def Drw {α : Type} (g : Nat → Option α) (P : α → Prop) : Prop := ∃ r, P r ∧ Evn fun k => g k = some r

theorem Drw.bind {α β : Type} {g : Nat → Option (α × Int)} {H : Nat → α × Int → Option β} {p c : Int} {P : α → Prop} {Q : β → Prop}
  (h1 : Dr g p c P) (h2 : ∀ bt : α × Int, P bt.1 → p ≤ bt.2 → bt.2 ≤ p + c → Drw (fun k => H k bt) Q) : Drw (fun k => (g k).bind (H k)) Q := by
 obtain ⟨r, q, hq0, hq1, hr, e⟩ := h1
 obtain ⟨r', hr', e'⟩ := h2 (r, q) hr hq0 hq1
 refine ⟨r', hr', Evn.mp e (Evn.mp e' (Evn.all fun k e' e => ?_))⟩
 dsimp only
 rw [e]
 exact e'

theorem Drw.pure {α : Type} {P : α → Prop} {r : α} (hr : P r) : Drw (fun _ => some r) P := ⟨r, hr, Evn.all fun _ => rfl⟩

theorem Drw.ite {α : Type} {g h : Nat → Option α} {P : α → Prop} {b : Prop} [Decidable b] (h1 : b → Drw g P) (h2 : ¬ b → Drw h P) : Drw (fun k => if b then g k else h k) P := by
 by_cases hb : b
 ·simpa [hb] using h1 hb
 ·simpa [hb] using h2 hb

theorem Drw.run {α β : Type} {g : Nat → Option α} {H : Nat → α → Option β} {Q : β → Prop} {r : α} (h1 : Evn fun k => g k = some r) (h2 : Drw (fun k => H k r) Q) : Drw (fun k => (g k).bind (H k)) Q := by
 obtain ⟨r', hr', e'⟩ := h2
 refine ⟨r', hr', Evn.mp h1 (Evn.mp e' (Evn.all fun k e' e => ?_))⟩
 dsimp only
 rw [e]
 exact e'

theorem Drw.drw {α β : Type} {g : Nat → Option α} {H : Nat → α → Option β} {P : α → Prop} {Q : β → Prop} (h1 : Drw g P) (h2 : ∀ r, P r → Drw (fun k => H k r) Q) : Drw (fun k => (g k).bind (H k)) Q := by
 obtain ⟨r, hr, e⟩ := h1
 exact Drw.run e (h2 r hr)

theorem Drw.some_bind {α β : Type} {H : Nat → α → Option β} {Q : β → Prop} {r : α} (h2 : Drw (fun k => H k r) Q) : Drw (fun k => (some r).bind (H k)) Q := h2

theorem Drw.congr {α : Type} {g h : Nat → Option α} {P : α → Prop} (hg : Drw h P) (e : ∀ k, g k = h k) : Drw g P := by
 obtain ⟨r, hr, e'⟩ := hg
 exact ⟨r, hr, Evn.mp e' (Evn.all fun k e' => (e k).trans e')⟩

theorem Drw.le {α : Type} {g : Nat → Option α} {P Q : α → Prop} (h : Drw g P) (hp : ∀ r, P r → Q r) : Drw g Q := by
 obtain ⟨r, hr, e⟩ := h
 exact ⟨r, hp r hr, e⟩

end Dw
theorem Dw.weight (j : Nat) : ∃ t : Int, spec_l1Weight.f (j : Int) = some t ∧ t ≠ 0 := by
 unfold spec_l1Weight.f
 split
 ·exact ⟨_, rfl, by decide⟩
 ·split
  ·exact ⟨_, rfl, by decide⟩
  ·split
   ·exact ⟨_, rfl, by decide⟩
   ·exact ⟨_, rfl, by decide⟩
theorem Dw.keyat_loop (d : Nat) : ∀ (j : Nat) (x : Int) (y : ByteArray), j + d = 4 → y.size ≤ j → ∃ s, ∀ k, d + 1 ≤ k → spec_KeyAt.l0 k x y (j : Int) = some s := by
 induction d with
 | zero =>
  intro j x y hj hy
  refine ⟨y, fun k hk => ?_⟩
  obtain ⟨k, rfl⟩ : ∃ i, k = i + 1 := ⟨k - 1, by omega⟩
  rw [spec_KeyAt.l0, if_neg (by omega)]
 | succ d ih =>
  intro j x y hj hy
  obtain ⟨t, ht, h0⟩ := Dw.weight j
  have hz : (strOfNums [wrap64 (97 + wrap64 (Int.tdiv x t)) % 256]).size = 1 := by rw [strOfNums_size]; rfl
  by_cases hm : Int.tmod x t = 0
  ·refine ⟨y ++ strOfNums [wrap64 (97 + wrap64 (Int.tdiv x t)) % 256], fun k hk => ?_⟩
   obtain ⟨k, rfl⟩ : ∃ i, k = i + 1 := ⟨k - 1, by omega⟩
   rw [spec_KeyAt.l0, if_pos (by omega), ht]
   simp only [Option.bind_some]
   rw [if_neg h0, if_pos (by omega), if_neg h0, if_pos hm]
  ·obtain ⟨s, hs⟩ := ih (j + 1) (wrap64 (Int.tmod x t - 1)) (y ++ strOfNums [wrap64 (97 + wrap64 (Int.tdiv x t)) % 256]) (by omega) (by rw [ByteArray.size_append]; omega)
   refine ⟨s, fun k hk => ?_⟩
   obtain ⟨k, rfl⟩ : ∃ i, k = i + 1 := ⟨k - 1, by omega⟩
   rw [spec_KeyAt.l0, if_pos (by omega), ht]
   simp only [Option.bind_some]
   rw [if_neg h0, if_pos (by omega), if_neg h0, if_neg hm, w64 (x := (j : Int) + 1) (by omega) (by omega), show (j : Int) + 1 = ((j + 1 : Nat) : Int) by omega]
   exact hs k (by omega)
theorem Dw.keyat (n : Int) : ∃ s, Dw.Evn fun k => spec_KeyAt.f k n = some s := by
 have e : ∃ b, spec_l1In.f n 0 475253 = some b := by
  unfold spec_l1In.f
  split
  ·exact ⟨_, rfl⟩
  ·exact ⟨_, rfl⟩
 obtain ⟨b, hb⟩ := e
 unfold spec_KeyAt.f
 rw [hb]
 simp only [Option.bind_some]
 cases b with
 | true =>
  obtain ⟨s, hs⟩ := Dw.keyat_loop 4 0 n (⟨#[]⟩ : ByteArray) (by omega) (by show 0 ≤ 0; omega)
  exact ⟨s, 5, fun k hk => (if_pos rfl).trans (hs k hk)⟩
 | false => exact ⟨_, Dw.Evn.all fun k => if_neg (by simp)⟩
theorem spec_l20Rd_pick.D (n : Int) (w W0 : World) (g : Nat) (bs : List Int) (p : Int) (hI : IsS119 w W0 g bs p) (hB : Below w.heap.size w W0) (hc : Dw.Code bs) (h0 : 0 ≤ p) (h1 : p ≤ 1099511627776) :
  Calls Try.prog 79 #[.pointer (some ⟨g, 0, none⟩), .int .i64 n] W0 fun e w' => ∃ x p', e = .returned (.int .i64 x) ∧ (0 ≤ x ∧ (1 ≤ n → x < n) ∧ (n ≤ 1 → x = 0)) ∧ Left w W0 g bs p 1 p' w' := by
 obtain ⟨r, q, h2, h3, hr, k, e⟩ := Dw.dr_pick hc n h0 h1
 refine (spec_l20Rd_pick.calls k g bs p n r q w W0 hI hB (e k (Nat.le_refl k))).mono ?_
 rintro e w' ⟨rfl, hi, hb, hk⟩
 exact ⟨r, q, rfl, hr, ⟨h2, h3⟩, hi, hb, kept_keep hk⟩
theorem spec_l20Rd_odd.D (n : Int) (hn : n ≤ 1000000) (w W0 : World) (g : Nat) (bs : List Int) (p : Int) (hI : IsS119 w W0 g bs p) (hB : Below w.heap.size w W0) (hc : Dw.Code bs) (h0 : 0 ≤ p) (h1 : p ≤ 1099511627776) :
  Calls Try.prog 99 #[.pointer (some ⟨g, 0, none⟩), .int .i64 n] W0 fun e w' => ∃ x p', e = .returned (.bool x) ∧ (n ≤ 0 → x = false) ∧ Left w W0 g bs p 1 p' w' := by
 obtain ⟨r, q, h2, h3, hr, k, e⟩ := Dw.dr_odd hc n h0 h1 hn
 refine (spec_l20Rd_odd.calls k g bs p n r q w W0 hI hB (e k (Nat.le_refl k))).mono ?_
 rintro e w' ⟨rfl, hi, hb, hk⟩
 exact ⟨r, q, rfl, hr, ⟨h2, h3⟩, hi, hb, kept_keep hk⟩
theorem spec_KeyAt.D (n : Int) (w : World) : Calls Try.prog 116 #[.int .i64 n] w fun e w' => ∃ x, e = .returned (.string x) ∧ x = x ∧ Below w.heap.size w w' := by
 obtain ⟨r, k, e⟩ := Dw.keyat n
 refine (spec_KeyAt.calls k n r w (e k (Nat.le_refl k))).mono ?_
 rintro e w' ⟨rfl, h⟩
 exact ⟨r, rfl, rfl, h⟩
theorem tdiv8 {x : Int} (h0 : 0 ≤ x) (h1 : x < 9) : 0 ≤ Int.tdiv x 8 ∧ Int.tdiv x 8 < 2 := by
 rw [Int.tdiv_eq_ediv_of_nonneg h0]
 omega
theorem spec_l20Value.D (n : Int) (hn : n ≤ 1000000) (w W0 : World) (g : Nat) (bs : List Int) (p : Int) (hI : IsS119 w W0 g bs p) (hB : Below w.heap.size w W0) (hc : Dw.Code bs) (h0 : 0 ≤ p) (h1 : p ≤ 1099511000000) :
  Calls Try.prog 115 #[.pointer (some ⟨g, 0, none⟩), .int .i64 n] W0 fun e w' => ∃ x p', e = .returned (.int .i64 x) ∧ (True) ∧ Left w W0 g bs p 3 p' w' := by
 have B := Aside0.mk hB
 have HI := Aside0.mk hI
 have HC := Aside0.mk hc
 have KK := Aside0.mk (Kept.refl W0 (RB g))
 clear hB hI hc
 go_enter Try.func115, Try.ntmps115
 go_wp2_with (first
  | (go_at_call 99; (with_reducible refine cg1 (spec_l20Rd_odd.D n (by omega) w _ g bs p HI.out B.out HC.out (by omega) (by omega)) fun x1 p1 hx1 hp1 w1 hk B HI2 => ?_); replace KK := kkr KK hk; replace HI := HI2; clear hk; skip)
  | ((with_reducible refine gate_dst (N := 8) rfl ?_); refine lt (Kd.int .i64) 3 ?hg (N := 8) ?hd ([(-1), (1000)] : List Int) [.int .i64 (-1), .int .i64 (1000)] ?hr (Reps.one (show Kd.M (Kd.int .i64) _ _ _ (-1) [.int .i64 (-1)] from rfl) (Reps.one (show Kd.M (Kd.int .i64) _ _ _ (1000) [.int .i64 (1000)] from rfl) (Reps.none _ _))) (by simp) B ?_; (case hd | hg => rfl); (case hr => go_simp; first | done | rfl); intro z8 hz8 AL8 kL8 w51 hb B RL8 QL8; have MRL8 := mrf QL8 KK; replace HI := hib HI hb; replace KK := kkb KK hb; clear hb QL8)
  | (go_at_call 79; (with_reducible refine cg1 (spec_l20Rd_pick.D 2 w _ g bs p1 HI.out B.out HC.out (by omega) (by omega)) fun x52 p52 hx52 hp52 w52 hk B HI2 => ?_); replace RL8 := rkr RL8 HI (by decide) hk; replace KK := kkr KK hk; replace HI := HI2; clear hk; skip; have hj52 := hx52.1; have hi52 : x52 < (z8.length : Int) := (by rw [← hz8]; have := hx52.2.1 (by omega); simpa using this); obtain ⟨ad52, hA52, y52⟩ := Kd.at_int (rc RL8) x52 hj52 hi52; generalize rd z8 x52 = v52 at *; cases hA52; have fj52 := eq_true hj52; have fi52 := eq_true hi52)
  | (go_at_call 79; (with_reducible refine cg1 (spec_l20Rd_pick.D 20 w _ g bs p1 HI.out B.out HC.out (by omega) (by omega)) fun x101 p101 hx101 hp101 w101 hk B HI2 => ?_); replace KK := kkr KK hk; replace HI := HI2; clear hk; skip)
  | ((with_reducible refine gate_dst (N := 15) rfl ?_); refine lt (Kd.int .i64) 3 ?hg (N := 15) ?hd ([(x101), (999)] : List Int) [.int .i64 (x101), .int .i64 (999)] ?hr (Reps.one (show Kd.M (Kd.int .i64) _ _ _ (x101) [.int .i64 (x101)] from rfl) (Reps.one (show Kd.M (Kd.int .i64) _ _ _ (999) [.int .i64 (999)] from rfl) (Reps.none _ _))) (by simp) B ?_; (case hd | hg => rfl); (case hr => go_simp; first | done | rfl); intro z15 hz15 AL15 kL15 w102 hb B RL15 QL15; have MRL15 := mrf QL15 KK; replace HI := hib HI hb; replace KK := kkb KK hb; clear hb QL15)
  | (go_at_call 79; (with_reducible refine cg1 (spec_l20Rd_pick.D 9 w _ g bs p101 HI.out B.out HC.out (by omega) (by omega)) fun x103 p103 hx103 hp103 w103 hk B HI2 => ?_); replace RL15 := rkr RL15 HI (by decide) hk; replace KK := kkr KK hk; replace HI := HI2; clear hk; skip; obtain ⟨i17, hi17⟩ : ∃ i : Int, Int.tdiv x103 8 = i := ⟨_, rfl⟩; have hb17 := tdiv8 hx103.1 (hx103.2.1 (by omega)); rw [hi17] at hb17; have hv17 : IntKind.i64.wrap i17 = i17 := (i64_w _).trans (w64 (by omega) (by omega)); have hv18 : wrap64 i17 = i17 := (w64 (by omega) (by omega)); have hj17 := hb17.1; have hi17 : i17 < (z15.length : Int) := (by rw [← hz15]; have := hb17.2; simpa using this); obtain ⟨ad17, hA17, y17⟩ := Kd.at_int (rc RL15) i17 hj17 hi17; generalize rd z15 i17 = v17 at *; cases hA17; have fj17 := eq_true hj17; have fi17 := eq_true hi17))
 all_goals go_ret
 all_goals exact ⟨_, _, rfl, trivial, ⟨by omega, by omega⟩, HI.out, B.out, KK.out⟩
theorem spec_l20Key.D (n : Int) (hn : n ≤ 1000000) (w W0 : World) (g : Nat) (bs : List Int) (p : Int) (hI : IsS119 w W0 g bs p) (hB : Below w.heap.size w W0) (hc : Dw.Code bs) (h0 : 0 ≤ p) (h1 : p ≤ 1099511000000) :
  Calls Try.prog 78 #[.pointer (some ⟨g, 0, none⟩), .int .i64 n] W0 fun e w' => ∃ x p', e = .returned (.string x) ∧ (True) ∧ Left w W0 g bs p 6 p' w' := by
 have B := Aside0.mk hB
 have HI := Aside0.mk hI
 have HC := Aside0.mk hc
 have KK := Aside0.mk (Kept.refl W0 (RB g))
 clear hB hI hc
 go_enter Try.func78, Try.ntmps78
 go_wp2_with (first
  | (go_at_call 99; (with_reducible refine cg1 (spec_l20Rd_odd.D n (by omega) w _ g bs p HI.out B.out HC.out (by omega) (by omega)) fun x1 p1 hx1 hp1 w1 hk B HI2 => ?_); replace KK := kkr KK hk; replace HI := HI2; clear hk; skip)
  | ((with_reducible refine gate_dst (N := 10) rfl ?_); refine lt Kd.string 9 ?hg (N := 10) ?hd ([((⟨#[]⟩ : ByteArray)), ((⟨#[65]⟩ : ByteArray)), ((⟨#[97, 49]⟩ : ByteArray)), ((⟨#[97, 98, 99, 100, 101]⟩ : ByteArray)), ((⟨#[98, 123]⟩ : ByteArray)), ((⟨#[97, 32, 98]⟩ : ByteArray))] : List ByteArray) [.string (⟨#[]⟩ : ByteArray), .string (⟨#[65]⟩ : ByteArray), .string (⟨#[97, 49]⟩ : ByteArray), .string (⟨#[97, 98, 99, 100, 101]⟩ : ByteArray), .string (⟨#[98, 123]⟩ : ByteArray), .string (⟨#[97, 32, 98]⟩ : ByteArray)] ?hr (Reps.one (show Kd.M Kd.string _ _ _ ((⟨#[]⟩ : ByteArray)) [.string (⟨#[]⟩ : ByteArray)] from rfl) (Reps.one (show Kd.M Kd.string _ _ _ ((⟨#[65]⟩ : ByteArray)) [.string (⟨#[65]⟩ : ByteArray)] from rfl) (Reps.one (show Kd.M Kd.string _ _ _ ((⟨#[97, 49]⟩ : ByteArray)) [.string (⟨#[97, 49]⟩ : ByteArray)] from rfl) (Reps.one (show Kd.M Kd.string _ _ _ ((⟨#[97, 98, 99, 100, 101]⟩ : ByteArray)) [.string (⟨#[97, 98, 99, 100, 101]⟩ : ByteArray)] from rfl) (Reps.one (show Kd.M Kd.string _ _ _ ((⟨#[98, 123]⟩ : ByteArray)) [.string (⟨#[98, 123]⟩ : ByteArray)] from rfl) (Reps.one (show Kd.M Kd.string _ _ _ ((⟨#[97, 32, 98]⟩ : ByteArray)) [.string (⟨#[97, 32, 98]⟩ : ByteArray)] from rfl) (Reps.none _ _))))))) (by simp) B ?_; (case hd | hg => rfl); (case hr => go_simp; first | done | rfl); intro z10 hz10 AL10 kL10 w51 hb B RL10 QL10; have MRL10 := mrf QL10 KK; replace HI := hib HI hb; replace KK := kkb KK hb; clear hb QL10)
  | (go_at_call 79; (with_reducible refine cg1 (spec_l20Rd_pick.D 6 w _ g bs p1 HI.out B.out HC.out (by omega) (by omega)) fun x52 p52 hx52 hp52 w52 hk B HI2 => ?_); replace RL10 := rkr RL10 HI (by decide) hk; replace KK := kkr KK hk; replace HI := HI2; clear hk; skip; have hi52 : x52 < (z10.length : Int) := (by rw [← hz10]; have := hx52.2.1 (by omega); simpa using this); obtain ⟨ad52, hA52, y52⟩ := Kd.at_string (rc RL10) x52 hx52.1 hi52; have hj52 := hx52.1; generalize rdOf ByteArray.empty z10 x52 = s52 at *; cases hA52; have j52 := eq_true hj52; have i52 := eq_true hi52)
  | (go_at_call 79; (with_reducible refine cg1 (spec_l20Rd_pick.D 12 w _ g bs p1 HI.out B.out HC.out (by omega) (by omega)) fun x101 p101 hx101 hp101 w101 hk B HI2 => ?_); replace KK := kkr KK hk; replace HI := HI2; clear hk; skip)
  | ((with_reducible refine gate_dst (N := 18) rfl ?_); refine lt Kd.string 9 ?hg (N := 18) ?hd ([((⟨#[122, 122, 122, 122]⟩ : ByteArray)), ((⟨#[122, 122, 122]⟩ : ByteArray)), ((⟨#[97, 122, 122, 122]⟩ : ByteArray)), ((⟨#[122]⟩ : ByteArray)), ((⟨#[97, 97, 97, 97]⟩ : ByteArray))] : List ByteArray) [.string (⟨#[122, 122, 122, 122]⟩ : ByteArray), .string (⟨#[122, 122, 122]⟩ : ByteArray), .string (⟨#[97, 122, 122, 122]⟩ : ByteArray), .string (⟨#[122]⟩ : ByteArray), .string (⟨#[97, 97, 97, 97]⟩ : ByteArray)] ?hr (Reps.one (show Kd.M Kd.string _ _ _ ((⟨#[122, 122, 122, 122]⟩ : ByteArray)) [.string (⟨#[122, 122, 122, 122]⟩ : ByteArray)] from rfl) (Reps.one (show Kd.M Kd.string _ _ _ ((⟨#[122, 122, 122]⟩ : ByteArray)) [.string (⟨#[122, 122, 122]⟩ : ByteArray)] from rfl) (Reps.one (show Kd.M Kd.string _ _ _ ((⟨#[97, 122, 122, 122]⟩ : ByteArray)) [.string (⟨#[97, 122, 122, 122]⟩ : ByteArray)] from rfl) (Reps.one (show Kd.M Kd.string _ _ _ ((⟨#[122]⟩ : ByteArray)) [.string (⟨#[122]⟩ : ByteArray)] from rfl) (Reps.one (show Kd.M Kd.string _ _ _ ((⟨#[97, 97, 97, 97]⟩ : ByteArray)) [.string (⟨#[97, 97, 97, 97]⟩ : ByteArray)] from rfl) (Reps.none _ _)))))) (by simp) B ?_; (case hd | hg => rfl); (case hr => go_simp; first | done | rfl); intro z18 hz18 AL18 kL18 w201 hb B RL18 QL18; have MRL18 := mrf QL18 KK; replace HI := hib HI hb; replace KK := kkb KK hb; clear hb QL18)
  | (go_at_call 79; (with_reducible refine cg1 (spec_l20Rd_pick.D 5 w _ g bs p101 HI.out B.out HC.out (by omega) (by omega)) fun x202 p202 hx202 hp202 w202 hk B HI2 => ?_); replace RL18 := rkr RL18 HI (by decide) hk; replace KK := kkr KK hk; replace HI := HI2; clear hk; skip; have hi202 : x202 < (z18.length : Int) := (by rw [← hz18]; have := hx202.2.1 (by omega); simpa using this); obtain ⟨ad202, hA202, y202⟩ := Kd.at_string (rc RL18) x202 hx202.1 hi202; have hj202 := hx202.1; generalize rdOf ByteArray.empty z18 x202 = s202 at *; cases hA202; have j202 := eq_true hj202; have i202 := eq_true hi202)
  | (go_at_call 79; (with_reducible refine cg1 (spec_l20Rd_pick.D 2 w _ g bs p101 HI.out B.out HC.out (by omega) (by omega)) fun x251 p251 hx251 hp251 w251 hk B HI2 => ?_); replace KK := kkr KK hk; replace HI := HI2; clear hk; skip; refine Stop.out ?_))
 all_goals try (go_ret; exact ⟨_, _, rfl, trivial, ⟨by omega, by omega⟩, HI.out, B.out, KK.out⟩; done)
 refine ⟨?_⟩
 have hc0 := hx251.1
 have hc1 := hx251.2.1 (by omega)
 obtain ⟨m0, hm0⟩ : ∃ m : Nat, 1 + x251 = (m : Int) := ⟨(1 + x251).toNat, by omega⟩
 go_wp2
 go_loopg [5, 6] (m0 + 1) (fun kx v5 v6 wr => ∃ (m : Nat) (s : ByteArray) (pp : Int), v5 = .string s ∧ v6 = .int .i64 (m : Int) ∧ m < kx ∧ m ≤ 2 ∧ s.size + m ≤ 4 ∧ (p ≤ pp ∧ pp + (m : Int) ≤ p + 6) ∧ Aside0 (IsS119 w wr g bs pp) ∧ Aside0 (Kept W0 wr (RB g)) ∧ Aside0 (Below w.heap.size w wr))
 case atStart => exact ⟨m0, _, _, rfl, congrArg (Value.int .i64) (by omega), by omega, by omega, by show 0 + m0 ≤ 4; omega, by omega, HI, KK, B⟩
 case round =>
  clear HI KK B hm0
  obtain ⟨m, s, pp, rfl, rfl, hm, hm2, hsz, hpp, HI, KK, B⟩ := hrel
  by_cases hp : 0 < m
  ·obtain ⟨d, rfl⟩ : ∃ d, gk = d + 1 := ⟨gk - 1, by omega⟩
   have cj : decide ((0 : Int) < (m : Int)) = true := decide_eq_true (by omega)
   go_wp2_with (first
    | (go_at_call 79; (with_reducible refine cg1 (spec_l20Rd_pick.D 4 w _ g bs pp HI.out B.out HC.out (by omega) (by omega)) fun x301 p301 hx301 hp301 w301 hk B HI2 => ?_); replace KK := kkr KK hk; replace HI := HI2; clear hk; skip)
    | ((with_reducible refine gate_dst (N := 35) rfl ?_); refine lt (Kd.int .u8) 5 ?hg (N := 35) ?hd ([((97 + x301))] : List Int) [.int .u8 ((97 + x301))] ?hr (Reps.one (show Kd.M (Kd.int .u8) _ _ _ ((97 + x301)) [.int .u8 ((97 + x301))] from rfl) (Reps.none _ _)) (by simp) B ?_; (case hd | hg => rfl); (case hr => go_simp; first | done | rfl); intro z35 hz35 AL35 kL35 w302 hb B RL35 QL35; have MRL35 := mrf QL35 KK; replace HI := hib HI hb; replace KK := kkb KK hb; clear hb QL35; have hcv35 := own_string (P := Try.prog) Try.underlying38 Try.underlying5 Try.underlying9 (Kd.own_of_R RL35.out); have hsz35 : (strOfNums z35).size = 1 := (by rw [← hz35]; rw [strOfNums_size]; rfl); have hle35 : decide (s.size + (strOfNums z35).size ≤ 9223372036854775807) = true := decide_eq_true (by omega)))
   go_roundg d
   case measure => omega
   case rel => exact ⟨m - 1, _, _, rfl, congrArg (Value.int .i64) (by omega), by omega, by omega, by rw [ByteArray.size_append, hsz35]; omega, by omega, HI, KK, B⟩
  ·have cj : decide ((0 : Int) < (m : Int)) = false := decide_eq_false (by omega)
   go_wp2
   go_ret
   exact ⟨_, _, rfl, trivial, ⟨by omega, by omega⟩, HI.out, B.out, KK.out⟩

/-! The place of a key among pairs in order. -/
theorem less_irr : ∀ x : List UInt8, Op.bytesLess x x = false
  | [] => rfl
  | a :: x => by simp [Op.bytesLess, less_irr x]
theorem less_trans : ∀ x y z : List UInt8, Op.bytesLess x y = true → Op.bytesLess y z = true → Op.bytesLess x z = true
  | [], [], _, h, _ => by cases h
  | [], _ :: _, [], _, h => by cases h
  | [], _ :: _, _ :: _, _, _ => rfl
  | _ :: _, [], _, h, _ => by cases h
  | _ :: _, _ :: _, [], _, h => by cases h
  | a :: x, b :: y, c :: z, h, k => by
    simp only [Op.bytesLess, Bool.or_eq_true, Bool.and_eq_true, decide_eq_true_eq, beq_iff_eq] at h k ⊢
    rcases h with h | ⟨h1, h2⟩
    · rcases k with k | ⟨k1, k2⟩
      · exact .inl (UInt8.lt_trans h k)
      · subst k1; exact .inl h
    · subst h1
      rcases k with k | ⟨k1, k2⟩
      · exact .inl k
      · exact .inr ⟨k1, less_trans x y z h2 k2⟩
theorem ltB_irr (a : ByteArray) : ltB a a = false := less_irr _
theorem ltB_trans {a b c : ByteArray} (h : ltB a b = true) (k : ltB b c = true) : ltB a c = true := less_trans _ _ _ h k
theorem ltB_tri {a b : ByteArray} (h : ltB a b = false) (k : ltB b a = false) : a = b := by
  have ht := less_total a.toList b.toList
  unfold ltB at h k
  rw [h, k] at ht
  exact ba_inj (by simpa using ht)
theorem ltB_le {a b c : ByteArray} (h : ltB a b = false) (k : ltB a c = true) : ltB b c = true := by
  cases hb : ltB b a with
  | true => exact ltB_trans hb k
  | false => rw [← ltB_tri h hb]; exact k
theorem prG_all (l : List S61) : ∀ q : ByteArray, prG (some q) l = true → ∀ x ∈ l, ltB q x.f0 = true := by
  induction l with
  | nil => intro q _ x hx; cases hx
  | cons s r ih =>
    intro q h x hx
    simp only [prG, Bool.and_eq_true] at h
    have h1 : ltB q s.f0 = true := h.2.1
    rcases List.mem_cons.mp hx with rfl | hx
    · exact h1
    · exact ltB_trans h1 (ih s.f0 h.2.2 x hx)
theorem prG_order (l : List S61) : ∀ p : Option ByteArray, prG p l = true → l.Pairwise (fun a b => ltB a.f0 b.f0 = true) := by
  induction l with
  | nil => intro p _; exact List.Pairwise.nil
  | cons s r ih =>
    intro p h
    simp only [prG, Bool.and_eq_true] at h
    exact List.Pairwise.cons (prG_all r s.f0 h.2.2) (ih _ h.2.2)
theorem prB_order {l : List S61} (h : prB l = true) : l.Pairwise (fun a b => ltB a.f0 b.f0 = true) := by
  unfold prB at h
  rw [Bool.and_eq_true] at h
  exact prG_order l none h.2
def placeP (l : List S61) (c : ByteArray) : Nat → Nat → Nat → Nat
  | 0, lo, _ => lo
  | d + 1, lo, hi => if lo < hi then (if ltB (rd_T61 l (((lo + hi) / 2 : Nat) : Int)).f0 c = true then placeP l c d ((lo + hi) / 2 + 1) hi else placeP l c d lo ((lo + hi) / 2)) else lo
def atP (l : List S61) (c : ByteArray) : Nat := (l.takeWhile fun p => ltB p.f0 c).length
theorem take_len {α : Type} {p : α → Bool} : ∀ (l : List α) (R : Nat), R ≤ l.length → (∀ i (h : i < l.length), i < R → p l[i] = true) → (∀ h : R < l.length, p l[R] = false) → (l.takeWhile p).length = R
  | [], R, h, _, _ => by simp at h; simp [h]
  | x :: r, 0, _, _, h => by
    have := h (by simp)
    simp only [List.getElem_cons_zero] at this
    simp [List.takeWhile_cons, this]
  | x :: r, R + 1, h, h1, h2 => by
    have h0 := h1 0 (by simp) (by omega)
    simp only [List.getElem_cons_zero] at h0
    rw [List.takeWhile_cons, if_pos h0, List.length_cons, take_len r R (by simpa using h) (fun i hi hR => by have := h1 (i + 1) (by simpa using hi) (by omega); simpa using this) (fun hR => by have := h2 (by simpa using hR); simpa using this)]
theorem atP_le (l : List S61) (c : ByteArray) : atP l c ≤ l.length := by
  unfold atP
  induction l with
  | nil => simp
  | cons x r ih =>
    rw [List.takeWhile_cons]
    split
    · rw [List.length_cons, List.length_cons]; omega
    · simp
theorem placeP_spec {l : List S61} (ho : l.Pairwise (fun a b => ltB a.f0 b.f0 = true)) (c : ByteArray) : ∀ (d lo hi : Nat), lo ≤ hi → hi ≤ l.length → hi - lo ≤ d →
    (∀ i (h : i < l.length), i < lo → ltB l[i].f0 c = true) → (∀ i (h : i < l.length), hi ≤ i → ltB l[i].f0 c = false) →
    placeP l c d lo hi ≤ l.length ∧ (∀ i (h : i < l.length), i < placeP l c d lo hi → ltB l[i].f0 c = true) ∧ (∀ i (h : i < l.length), placeP l c d lo hi ≤ i → ltB l[i].f0 c = false)
  | 0, lo, hi, h1, h2, h3, h4, h5 => by
    obtain rfl : lo = hi := by omega
    exact ⟨h2, h4, h5⟩
  | d + 1, lo, hi, h1, h2, h3, h4, h5 => by
    rw [placeP]
    by_cases hlt : lo < hi
    · rw [if_pos hlt]
      have hm : (lo + hi) / 2 < l.length := by omega
      rw [pr_nat hm]
      have hord : ∀ i j (hi : i < l.length) (hj : j < l.length), i < j → ltB l[i].f0 l[j].f0 = true := fun i j hi hj hij => List.pairwise_iff_getElem.mp ho i j hi hj hij
      by_cases hc : ltB (l[(lo + hi) / 2]'hm).f0 c = true
      · rw [if_pos hc]
        refine placeP_spec ho c d _ _ (by omega) h2 (by omega) (fun i hil hlo => ?_) h5
        rcases Nat.lt_or_eq_of_le (show i ≤ (lo + hi) / 2 by omega) with h | h
        · exact ltB_trans (hord i _ hil hm h) hc
        · subst h; exact hc
      · rw [if_neg hc]
        refine placeP_spec ho c d _ _ (by omega) (by omega) (by omega) h4 (fun i hil hlo => ?_)
        rcases Nat.lt_or_eq_of_le (show (lo + hi) / 2 ≤ i by omega) with h | h
        · cases hh : ltB l[i].f0 c with
          | false => rfl
          | true => exact absurd (ltB_trans (hord _ i hm hil h) hh) hc
        · subst h; exact Bool.eq_false_iff.mpr hc
    · rw [if_neg hlt]
      obtain rfl : lo = hi := by omega
      exact ⟨h2, h4, h5⟩
theorem placeP_at {l : List S61} (h : prB l = true) (c : ByteArray) : placeP l c l.length 0 l.length = atP l c := by
  obtain ⟨h1, h2, h3⟩ := placeP_spec (prB_order h) c l.length 0 l.length (Nat.zero_le _) (Nat.le_refl _) (by omega) (fun i _ hi => absurd hi (Nat.not_lt_zero _)) (fun i hil hi => by omega)
  exact (take_len l _ h1 h2 (fun h => h3 _ h (Nat.le_refl _))).symm
def hitM (l : List S61) (c : ByteArray) : Bool := decide (atP l c < l.length) && decide ((rd_T61 l ((atP l c : Nat) : Int)).f0 = c)
def getM (l : List S61) (c : ByteArray) : Int := if prB l && hitM l c then (rd_T61 l ((atP l c : Nat) : Int)).f1 else -1
def putM (l : List S61) (c : ByteArray) (v : Int) : List S61 × Bool :=
  if prB l && (keyB c && l1B v 0 999) then (if hitM l c then ((l.take (atP l c) ++ [⟨c, v⟩]) ++ l.drop (atP l c + 1), true) else if 48 ≤ l.length then (l, false) else ((l.take (atP l c) ++ [⟨c, v⟩]) ++ l.drop (atP l c), true)) else ([], false)
def dropM (l : List S61) (c : ByteArray) : List S61 × Bool :=
  if prB l then (if hitM l c then (l.take (atP l c) ++ l.drop (atP l c + 1), true) else (l, false)) else ([], false)
theorem hit_true {l : List S61} {c : ByteArray} (h : hitM l c = true) : atP l c < l.length ∧ (rd_T61 l ((atP l c : Nat) : Int)).f0 = c ∧ ((rd_T61 l ((atP l c : Nat) : Int)).f0.toList == c.toList) = true := by
  unfold hitM at h
  rw [Bool.and_eq_true, decide_eq_true_eq, decide_eq_true_eq] at h
  exact ⟨h.1, h.2, by rw [str_beq, decide_eq_true h.2]⟩
theorem hit_false {l : List S61} {c : ByteArray} (h : hitM l c = false) (hlt : atP l c < l.length) : ((rd_T61 l ((atP l c : Nat) : Int)).f0.toList == c.toList) = false := by
  unfold hitM at h
  rw [decide_eq_true hlt, Bool.true_and, decide_eq_false_iff_not] at h
  rw [str_beq, decide_eq_false h]

theorem atP_step {l : List S61} {j : Nat} {c : ByteArray} (h : ∀ i (hi : i < l.length), i < j → ltB l[i].f0 c = true) (hj : j ≤ l.length) (hs : ∀ hl : j < l.length, ltB l[j].f0 c = false) : atP l c = j := take_len l j hj h hs
theorem spec_l4Place.M (A0 : Option Addr) (c0 : Nat) (l : List S61) (c : ByteArray) (w : World) (hr0 : Kd.C k61 w A0 l.length l) : Calls Try.prog 123 #[.slice A0 l.length c0, .string c] w fun e w' => e = .returned (.int .i64 ((atP l c : Nat) : Int)) ∧ Below w.heap.size w w' := by
 have B := Aside0.mk (Below.refl w.heap.size w)
 have HR0 := Aside0.mk hr0
 have L63 := Aside0.mk hr0.2.1
 clear hr0
 go_enter Try.func123, Try.ntmps123
 go_wp2
 go_loopg [5] (l.length + 1) (fun kx v5 wr => ∃ j : Nat, v5 = .int .i64 (j : Int) ∧ j ≤ l.length ∧ l.length < j + kx ∧ Aside0 (Below w.heap.size w wr) ∧ Aside0 (∀ i (hi : i < l.length), i < j → ltB l[i].f0 c = true))
 case atStart => exact ⟨0, rfl, by omega, by omega, B, ⟨fun i _ h => absurd h (Nat.not_lt_zero _)⟩⟩
 case round =>
  clear B
  obtain ⟨j, rfl, hj, hk, B, H⟩ := hrel
  have h63 := L63.out
  by_cases hlt : j < l.length
  ·obtain ⟨d, rfl⟩ : ∃ d, gk = d + 1 := ⟨gk - 1, by omega⟩
   have cj : decide ((j : Int) < (l.length : Int)) = true := decide_eq_true (by omega)
   obtain ⟨ad, hA, y0, y1⟩ := at_T61 (cb HR0 B) (j : Int) (by omega) (by omega)
   cases hA
   rw [Int.toNat_natCast] at y0 y1
   have j1 := eq_true (show (j : Int) < (l.length : Int) by omega)
   have j2 := eq_true hlt
   have hy : rd_T61 l (j : Int) = l[j] := pr_nat hlt
   generalize rd_T61 l (j : Int) = y at *
   have HY := Aside0.mk hy
   clear hy
   cases hb : Op.bytesLess y.f0.toList c.toList with
   | true =>
    go_wp2
    go_roundg d
    case measure => omega
    case rel => exact ⟨j + 1, congrArg (Value.int .i64) (Int.natCast_succ _).symm, by omega, by omega, B, ⟨fun i hi h => by
     rcases Nat.lt_or_eq_of_le (show i ≤ j by omega) with h' | h'
     ·exact H.out i hi h'
     ·subst h'; rw [← HY.out]; exact hb⟩⟩
   | false =>
    have hr := atP_step H.out hj (fun _ => by rw [← HY.out]; exact hb)
    go_wp2
    go_ret
    exact ⟨by rw [hr]; rfl, B.out⟩
  ·have cj : decide ((j : Int) < (l.length : Int)) = false := decide_eq_false (by omega)
   have hr := atP_step H.out hj (fun h => absurd h hlt)
   go_wp2
   go_ret
   exact ⟨by rw [hr]; rfl, B.out⟩

theorem spec_PairPut.M (A0 : Option Addr) (c0 : Nat) (l : List S61) (c : ByteArray) (v : Int) (w : World) (hr0 : Kd.C k61 w A0 l.length l) (hc0 : l.length ≤ c0) : Calls Try.prog 114 #[.slice A0 l.length c0, .string c, .int .i64 v] w fun e w' => ∃ v0, e = .returned (.tuple #[v0, .bool (putM l c v).2]) ∧ Kd.R k61 61 w' w.heap.size (fun _ => True) v0 (putM l c v).1 ∧ Below w.heap.size w w' := by
 have B := Aside0.mk (Below.refl w.heap.size w)
 have hu := Try.underlying61
 have HR0 := Aside0.mk hr0
 have HC0 := Aside0.mk hc0
 have L63 := Aside0.mk hr0.2.1
 clear hr0
 obtain ⟨i0, hif, _, hsz0, _⟩ := info_parts info61
 by_cases hvv : (prB l && (keyB c && l1B v 0 999)) = true
 ·have hu0 : putM l c v = if hitM l c then ((l.take (atP l c) ++ [⟨c, v⟩]) ++ l.drop (atP l c + 1), true) else if 48 ≤ l.length then (l, false) else ((l.take (atP l c) ++ [⟨c, v⟩]) ++ l.drop (atP l c), true) := if_pos hvv
  simp only [Bool.and_eq_true] at hvv
  obtain ⟨hv, hkv, hlv⟩ := hvv
  have h48 := prB_len hv
  have hat := atP_le l c
  cases hh : hitM l c with
  | true =>
   clear hif hsz0 hc0
   have hlt2 : decide (((atP l c : Nat) : Int) < (l.length : Int)) = true := decide_eq_true (by have := hit_true hh; omega)
   obtain ⟨hlt, hf0, hf⟩ := hit_true hh
   have j1 := eq_true (show ((atP l c : Nat) : Int) < (l.length : Int) by omega)
   have j2 := eq_true hlt
   have hM : putM l c v = ((l.take (atP l c) ++ [⟨c, v⟩]) ++ l.drop (atP l c + 1), true) := by rw [hu0, if_pos hh]
   go_enter Try.func114, Try.ntmps114
   go_wp2_with (first
    | ((with_reducible refine gate_dst (N := 10) rfl ?_); refine lt k61 61 ?hg (N := 10) ?hd ([] : List S61) [] ?hr (Reps.none _ _) (by simp) B ?_; (case hd | hg => rfl); (case hr => go_simp; first | done | rfl); intro z10 hz10 AL10 kL10 w1 hb B RL10 QL10; clear hb QL10)
    | (go_at_call 48; with_reducible refine cl (spec_PairsValid.M _ _ l _ (cb HR0 B)) B fun w2 hb B => ?_; replace RL10 := rn RL10 hb; clear hb)
    | (go_at_call 89; with_reducible refine cl (spec_KeyValid.M c _) B fun w3 hb B => ?_; replace RL10 := rn RL10 hb; clear hb)
    | (go_at_call 90; with_reducible refine cl (spec_l1In.M v 0 999 _) B fun w4 hb B => ?_; replace RL10 := rn RL10 hb; clear hb)
    | (go_at_call 123; with_reducible refine cl (spec_l4Place.M _ _ l c _ (cb HR0 B)) B fun w5 hb B => ?_; replace RL10 := rn RL10 hb; clear hb; (obtain ⟨ad, hA, y0, y1⟩ := at_T61 (cb HR0 B) ((atP l c : Nat) : Int) (Int.natCast_nonneg _) (Int.ofNat_lt.mpr hlt); cases hA; rw [Int.toNat_natCast] at y0 y1))
    | ((with_reducible refine gate_builtin (b := .append) (xs := #[.tmp 41, .tmp 42]) rfl ?_); at_builtin; refine apx k61 61 rfl (.tmp 41) (.tmp 42) 31 (.agg #[.string (⟨#[]⟩ : ByteArray), .int .i64 (0)]) 24 rfl Try.underlying31 info61 rfl (by decide) (by omega) rfl rfl RL10 (cb HR0 B) (fun x cs h => by rw [k61_open h]; exact k61_mkM _ _ _ x) (by rw [← hz10]; simp only [List.length_append, List.length_nil, List.length_cons, List.length_take, List.length_drop]; omega) B ?_; intro z43 hz43 AL43 kL43 w6 hg B RL43 hat; clear hg hat; (obtain ⟨g0, hA0, hg0⟩ := rform RL43 (by rw [← hz43, ← hz10, List.nil_append]; omega); subst hA0; have HLT : atP l c < z43.length := (by rw [← hz43, ← hz10, List.nil_append]; exact hlt); obtain ⟨cs, hcl, hMM, hcc, hfz⟩ := rcells z61 RL43 (atP l c) HLT; have hsz : k61.sz = 2 := rfl; obtain ⟨u0, hu0⟩ : ∃ u, cs[1]? = some u := ⟨_, List.getElem?_eq_getElem (by rw [hcl]; decide)⟩; have q0 := hcc 1 u0 hu0; have q1 := hfz 1; rw [hsz] at q0 q1; have j3 := eq_true (show ((atP l c : Nat) : Int) < (z43.length : Int) by omega); have j4 := eq_true HLT))
    | ((with_reducible refine gate_store (t := 3) (p := 48) rfl ?_); refine es (t := 3) (p := 48) (v := ?vo7) ?hg ?ho ?hn (atP l c) 1 [.int .i64 (v)] ⟨(z43.getD (atP l c) z61).f0, v⟩ ?hr RL43 HLT hcl hcc (Nat.le_of_ble_eq_true rfl) (by rw [k61_openM hMM]; exact k61_mkM _ _ _ _) B hg0 ?_; (case ho | hg | hn => rfl); (case hr => go_simp; first | done | rfl); intro w7 hgr B RL43; clear hgr))
   go_ret2; have hZ : z43.set (atP l c) ⟨(z43.getD (atP l c) z61).f0, v⟩ = (l.take (atP l c) ++ [⟨c, v⟩]) ++ l.drop (atP l c + 1) := (by rw [← hz43, ← hz10, List.nil_append, show (l.getD (atP l c) z61).f0 = c from hf0, List.set_eq_take_append_cons_drop, if_pos hlt]; simp); exact ⟨_, by rw [hM]; rfl, by rw [hM, ← hZ]; exact RL43.out, B.out⟩
  | false =>
   by_cases h8 : 48 ≤ l.length
   ·have d8 : decide ((48 : Int) ≤ (l.length : Int)) = true := decide_eq_true (by omega)
    have d9 := eq_true h8
    clear hif hsz0 hc0
    have hM : putM l c v = (l, false) := by rw [hu0, if_neg (by rw [hh]; simp), if_pos h8]
    by_cases hlt : atP l c < l.length
    ·skip
     have hf := hit_false hh hlt
     have j1 := eq_true (show ((atP l c : Nat) : Int) < (l.length : Int) by omega)
     have j2 := eq_true hlt
     have hlt2 : decide (((atP l c : Nat) : Int) < (l.length : Int)) = true := decide_eq_true (by omega)
     go_enter Try.func114, Try.ntmps114
     go_wp2_with (first
      | ((with_reducible refine gate_dst (N := 10) rfl ?_); refine lt k61 61 ?hg (N := 10) ?hd ([] : List S61) [] ?hr (Reps.none _ _) (by simp) B ?_; (case hd | hg => rfl); (case hr => go_simp; first | done | rfl); intro z10 hz10 AL10 kL10 w1 hb B RL10 QL10; clear hb QL10)
      | (go_at_call 48; with_reducible refine cl (spec_PairsValid.M _ _ l _ (cb HR0 B)) B fun w2 hb B => ?_; replace RL10 := rn RL10 hb; clear hb)
      | (go_at_call 89; with_reducible refine cl (spec_KeyValid.M c _) B fun w3 hb B => ?_; replace RL10 := rn RL10 hb; clear hb)
      | (go_at_call 90; with_reducible refine cl (spec_l1In.M v 0 999 _) B fun w4 hb B => ?_; replace RL10 := rn RL10 hb; clear hb)
      | (go_at_call 123; with_reducible refine cl (spec_l4Place.M _ _ l c _ (cb HR0 B)) B fun w5 hb B => ?_; replace RL10 := rn RL10 hb; clear hb; (obtain ⟨ad, hA, y0, y1⟩ := at_T61 (cb HR0 B) ((atP l c : Nat) : Int) (Int.natCast_nonneg _) (Int.ofNat_lt.mpr hlt); cases hA; rw [Int.toNat_natCast] at y0 y1))
      | ((with_reducible refine gate_builtin (b := .append) (xs := #[.tmp 53, .tmp 54]) rfl ?_); at_builtin; refine apx k61 61 rfl (.tmp 53) (.tmp 54) 31 (.agg #[.string (⟨#[]⟩ : ByteArray), .int .i64 (0)]) 24 rfl Try.underlying31 info61 rfl (by decide) (by omega) rfl rfl RL10 (cb HR0 B) (fun x cs h => by rw [k61_open h]; exact k61_mkM _ _ _ x) (by rw [← hz10]; simp only [List.length_append, List.length_nil, List.length_cons, List.length_take, List.length_drop]; omega) B ?_; intro z55 hz55 AL55 kL55 w6 hg B RL55 hat; clear hg hat))
     go_ret2; have hZ : z55 = l := (by rw [← hz55, ← hz10]; try simp); exact ⟨_, by rw [hM]; rfl, by rw [hM, ← hZ]; exact RL55.out, B.out⟩
    ·skip
     have hlt2 : decide (((atP l c : Nat) : Int) < (l.length : Int)) = false := decide_eq_false (by omega)
     go_enter Try.func114, Try.ntmps114
     go_wp2_with (first
      | ((with_reducible refine gate_dst (N := 10) rfl ?_); refine lt k61 61 ?hg (N := 10) ?hd ([] : List S61) [] ?hr (Reps.none _ _) (by simp) B ?_; (case hd | hg => rfl); (case hr => go_simp; first | done | rfl); intro z10 hz10 AL10 kL10 w1 hb B RL10 QL10; clear hb QL10)
      | (go_at_call 48; with_reducible refine cl (spec_PairsValid.M _ _ l _ (cb HR0 B)) B fun w2 hb B => ?_; replace RL10 := rn RL10 hb; clear hb)
      | (go_at_call 89; with_reducible refine cl (spec_KeyValid.M c _) B fun w3 hb B => ?_; replace RL10 := rn RL10 hb; clear hb)
      | (go_at_call 90; with_reducible refine cl (spec_l1In.M v 0 999 _) B fun w4 hb B => ?_; replace RL10 := rn RL10 hb; clear hb)
      | (go_at_call 123; with_reducible refine cl (spec_l4Place.M _ _ l c _ (cb HR0 B)) B fun w5 hb B => ?_; replace RL10 := rn RL10 hb; clear hb)
      | ((with_reducible refine gate_builtin (b := .append) (xs := #[.tmp 53, .tmp 54]) rfl ?_); at_builtin; refine apx k61 61 rfl (.tmp 53) (.tmp 54) 31 (.agg #[.string (⟨#[]⟩ : ByteArray), .int .i64 (0)]) 24 rfl Try.underlying31 info61 rfl (by decide) (by omega) rfl rfl RL10 (cb HR0 B) (fun x cs h => by rw [k61_open h]; exact k61_mkM _ _ _ x) (by rw [← hz10]; simp only [List.length_append, List.length_nil, List.length_cons, List.length_take, List.length_drop]; omega) B ?_; intro z55 hz55 AL55 kL55 w6 hg B RL55 hat; clear hg hat))
     go_ret2; have hZ : z55 = l := (by rw [← hz55, ← hz10]; try simp); exact ⟨_, by rw [hM]; rfl, by rw [hM, ← hZ]; exact RL55.out, B.out⟩
   ·have d8 : decide ((48 : Int) ≤ (l.length : Int)) = false := decide_eq_false (by omega)
    have d9 := eq_false h8
    have hcut1 := cut_to (P := Try.prog) 31 61 .i64 Try.underlying31 hif A0 l.length c0 ((atP l c : Nat) : Int) (by omega) (by omega) hc0
    rw [Int.toNat_natCast] at hcut1
    have C1 := Aside0.mk (fun {W : World} (h : Kd.C k61 W A0 l.length l) => show Kd.C k61 W A0 (atP l c) (l.take (atP l c)) from by
     have := Kd.C_take h (m := atP l c) (by omega)
     rwa [List.length_take, Nat.min_eq_left (by omega)] at this)
    have hcut2 := cut_from (P := Try.prog) 31 61 .i64 Try.underlying31 hif 2 hsz0 A0 l.length c0 (((atP l c : Nat) : Int)) (by omega) (by omega)
    rw [show (((atP l c : Nat) : Int)).toNat = atP l c by omega] at hcut2
    obtain ⟨A2, hA2⟩ : ∃ A2, A2 = (if c0 = atP l c then A0 else A0.map (·.add ((atP l c) * 2))) := ⟨_, rfl⟩
    rw [← hA2] at hcut2
    have C2 := Aside0.mk (fun {W : World} (h : Kd.C k61 W A0 l.length l) => show Kd.C k61 W A2 (l.length - (atP l c)) (l.drop (atP l c)) from by
     have := Kd.C_drop h (m := atP l c) (c := c0) (by omega) hc0
     rw [List.length_drop] at this
     rw [hA2]
     exact this)
    clear hA2
    clear hif hsz0 hc0
    have hM : putM l c v = ((l.take (atP l c) ++ [⟨c, v⟩]) ++ l.drop (atP l c), true) := by rw [hu0, if_neg (by rw [hh]; simp), if_neg h8]
    by_cases hlt : atP l c < l.length
    ·skip
     have hf := hit_false hh hlt
     have j1 := eq_true (show ((atP l c : Nat) : Int) < (l.length : Int) by omega)
     have j2 := eq_true hlt
     have hlt2 : decide (((atP l c : Nat) : Int) < (l.length : Int)) = true := decide_eq_true (by omega)
     go_enter Try.func114, Try.ntmps114
     go_wp2_with (first
      | ((with_reducible refine gate_dst (N := 10) rfl ?_); refine lt k61 61 ?hg (N := 10) ?hd ([] : List S61) [] ?hr (Reps.none _ _) (by simp) B ?_; (case hd | hg => rfl); (case hr => go_simp; first | done | rfl); intro z10 hz10 AL10 kL10 w1 hb B RL10 QL10; clear hb QL10)
      | (go_at_call 48; with_reducible refine cl (spec_PairsValid.M _ _ l _ (cb HR0 B)) B fun w2 hb B => ?_; replace RL10 := rn RL10 hb; clear hb)
      | (go_at_call 89; with_reducible refine cl (spec_KeyValid.M c _) B fun w3 hb B => ?_; replace RL10 := rn RL10 hb; clear hb)
      | (go_at_call 90; with_reducible refine cl (spec_l1In.M v 0 999 _) B fun w4 hb B => ?_; replace RL10 := rn RL10 hb; clear hb)
      | (go_at_call 123; with_reducible refine cl (spec_l4Place.M _ _ l c _ (cb HR0 B)) B fun w5 hb B => ?_; replace RL10 := rn RL10 hb; clear hb; (obtain ⟨ad, hA, y0, y1⟩ := at_T61 (cb HR0 B) ((atP l c : Nat) : Int) (Int.natCast_nonneg _) (Int.ofNat_lt.mpr hlt); cases hA; rw [Int.toNat_natCast] at y0 y1))
      | ((with_reducible refine gate_builtin (b := .append) (xs := #[.tmp 56, .tmp 59]) rfl ?_); at_builtin; refine apx k61 61 rfl (.tmp 56) (.tmp 59) 31 (.agg #[.string (⟨#[]⟩ : ByteArray), .int .i64 (0)]) 24 rfl Try.underlying31 info61 rfl (by decide) (by omega) rfl rfl RL10 (C1.out (cb HR0 B)) (fun x cs h => by rw [k61_open h]; exact k61_mkM _ _ _ x) (by rw [← hz10]; simp only [List.length_append, List.length_nil, List.length_cons, List.length_take, List.length_drop]; omega) B ?_; intro z60 hz60 AL60 kL60 w6 hg B RL60 hat; clear hg hat)
      | ((with_reducible refine gate_dst (N := 65) rfl ?_); refine lt k61 61 ?hg (N := 65) ?hd ([⟨c, v⟩] : List S61) [.string c, .int .i64 (v)] ?hr (Reps.c2 (k61_mkM _ _ _ ⟨c, v⟩) (Reps.none _ _)) (by simp) B ?_; (case hd | hg => rfl); (case hr => go_simp; first | done | rfl); intro z65 hz65 AL65 kL65 w7 hb B RL65 QL65; replace RL60 := rn RL60 hb; clear hb QL65)
      | ((with_reducible refine gate_builtin (b := .append) (xs := #[.tmp 61, .tmp 65]) rfl ?_); at_builtin; refine apx k61 61 rfl (.tmp 61) (.tmp 65) 31 (.agg #[.string (⟨#[]⟩ : ByteArray), .int .i64 (0)]) 24 rfl Try.underlying31 info61 rfl (by decide) (by omega) rfl rfl RL60 (rc RL65) (fun x cs h => by rw [k61_open h]; exact k61_mkM _ _ _ x) (by rw [← hz65, ← hz60, ← hz10]; simp only [List.length_append, List.length_nil, List.length_cons, List.length_take, List.length_drop]; omega) B ?_; intro z66 hz66 AL66 kL66 w8 hg B RL66 hat; clear hg hat)
      | ((with_reducible refine gate_builtin (b := .append) (xs := #[.tmp 67, .tmp 70]) rfl ?_); at_builtin; refine apx k61 61 rfl (.tmp 67) (.tmp 70) 31 (.agg #[.string (⟨#[]⟩ : ByteArray), .int .i64 (0)]) 24 rfl Try.underlying31 info61 rfl (by decide) (by omega) rfl rfl RL66 (C2.out (cb HR0 B)) (fun x cs h => by rw [k61_open h]; exact k61_mkM _ _ _ x) (by rw [← hz66, ← hz65, ← hz60, ← hz10]; simp only [List.length_append, List.length_nil, List.length_cons, List.length_take, List.length_drop]; omega) B ?_; intro z71 hz71 AL71 kL71 w9 hg B RL71 hat; clear hg hat))
     go_ret2; have hZ : z71 = (l.take (atP l c) ++ [⟨c, v⟩]) ++ l.drop (atP l c) := (by rw [← hz71, ← hz66, ← hz65, ← hz60, ← hz10]; try simp); exact ⟨_, by rw [hM]; rfl, by rw [hM, ← hZ]; exact RL71.out, B.out⟩
    ·skip
     have hlt2 : decide (((atP l c : Nat) : Int) < (l.length : Int)) = false := decide_eq_false (by omega)
     go_enter Try.func114, Try.ntmps114
     go_wp2_with (first
      | ((with_reducible refine gate_dst (N := 10) rfl ?_); refine lt k61 61 ?hg (N := 10) ?hd ([] : List S61) [] ?hr (Reps.none _ _) (by simp) B ?_; (case hd | hg => rfl); (case hr => go_simp; first | done | rfl); intro z10 hz10 AL10 kL10 w1 hb B RL10 QL10; clear hb QL10)
      | (go_at_call 48; with_reducible refine cl (spec_PairsValid.M _ _ l _ (cb HR0 B)) B fun w2 hb B => ?_; replace RL10 := rn RL10 hb; clear hb)
      | (go_at_call 89; with_reducible refine cl (spec_KeyValid.M c _) B fun w3 hb B => ?_; replace RL10 := rn RL10 hb; clear hb)
      | (go_at_call 90; with_reducible refine cl (spec_l1In.M v 0 999 _) B fun w4 hb B => ?_; replace RL10 := rn RL10 hb; clear hb)
      | (go_at_call 123; with_reducible refine cl (spec_l4Place.M _ _ l c _ (cb HR0 B)) B fun w5 hb B => ?_; replace RL10 := rn RL10 hb; clear hb)
      | ((with_reducible refine gate_builtin (b := .append) (xs := #[.tmp 56, .tmp 59]) rfl ?_); at_builtin; refine apx k61 61 rfl (.tmp 56) (.tmp 59) 31 (.agg #[.string (⟨#[]⟩ : ByteArray), .int .i64 (0)]) 24 rfl Try.underlying31 info61 rfl (by decide) (by omega) rfl rfl RL10 (C1.out (cb HR0 B)) (fun x cs h => by rw [k61_open h]; exact k61_mkM _ _ _ x) (by rw [← hz10]; simp only [List.length_append, List.length_nil, List.length_cons, List.length_take, List.length_drop]; omega) B ?_; intro z60 hz60 AL60 kL60 w6 hg B RL60 hat; clear hg hat)
      | ((with_reducible refine gate_dst (N := 65) rfl ?_); refine lt k61 61 ?hg (N := 65) ?hd ([⟨c, v⟩] : List S61) [.string c, .int .i64 (v)] ?hr (Reps.c2 (k61_mkM _ _ _ ⟨c, v⟩) (Reps.none _ _)) (by simp) B ?_; (case hd | hg => rfl); (case hr => go_simp; first | done | rfl); intro z65 hz65 AL65 kL65 w7 hb B RL65 QL65; replace RL60 := rn RL60 hb; clear hb QL65)
      | ((with_reducible refine gate_builtin (b := .append) (xs := #[.tmp 61, .tmp 65]) rfl ?_); at_builtin; refine apx k61 61 rfl (.tmp 61) (.tmp 65) 31 (.agg #[.string (⟨#[]⟩ : ByteArray), .int .i64 (0)]) 24 rfl Try.underlying31 info61 rfl (by decide) (by omega) rfl rfl RL60 (rc RL65) (fun x cs h => by rw [k61_open h]; exact k61_mkM _ _ _ x) (by rw [← hz65, ← hz60, ← hz10]; simp only [List.length_append, List.length_nil, List.length_cons, List.length_take, List.length_drop]; omega) B ?_; intro z66 hz66 AL66 kL66 w8 hg B RL66 hat; clear hg hat)
      | ((with_reducible refine gate_builtin (b := .append) (xs := #[.tmp 67, .tmp 70]) rfl ?_); at_builtin; refine apx k61 61 rfl (.tmp 67) (.tmp 70) 31 (.agg #[.string (⟨#[]⟩ : ByteArray), .int .i64 (0)]) 24 rfl Try.underlying31 info61 rfl (by decide) (by omega) rfl rfl RL66 (C2.out (cb HR0 B)) (fun x cs h => by rw [k61_open h]; exact k61_mkM _ _ _ x) (by rw [← hz66, ← hz65, ← hz60, ← hz10]; simp only [List.length_append, List.length_nil, List.length_cons, List.length_take, List.length_drop]; omega) B ?_; intro z71 hz71 AL71 kL71 w9 hg B RL71 hat; clear hg hat))
     go_ret2; have hZ : z71 = (l.take (atP l c) ++ [⟨c, v⟩]) ++ l.drop (atP l c) := (by rw [← hz71, ← hz66, ← hz65, ← hz60, ← hz10]; try simp); exact ⟨_, by rw [hM]; rfl, by rw [hM, ← hZ]; exact RL71.out, B.out⟩
 ·have hM : putM l c v = ([], false) := if_neg hvv
  have hvn : prB l = false ∨ keyB c = false ∨ l1B v 0 999 = false := by grind
  clear hif hsz0 hc0
  go_enter Try.func114, Try.ntmps114
  go_wp2_with (first
   | ((with_reducible refine gate_dst (N := 10) rfl ?_); refine lt k61 61 ?hg (N := 10) ?hd ([] : List S61) [] ?hr (Reps.none _ _) (by simp) B ?_; (case hd | hg => rfl); (case hr => go_simp; first | done | rfl); intro z10 hz10 AL10 kL10 w1 hb B RL10 QL10; clear hb QL10)
   | (go_at_call 48; with_reducible refine cl (spec_PairsValid.M _ _ l _ (cb HR0 B)) B fun w2 hb B => ?_; replace RL10 := rn RL10 hb; clear hb)
   | (go_at_call 89; with_reducible refine cl (spec_KeyValid.M c _) B fun w3 hb B => ?_; replace RL10 := rn RL10 hb; clear hb)
   | (go_at_call 90; with_reducible refine cl (spec_l1In.M v 0 999 _) B fun w4 hb B => ?_; replace RL10 := rn RL10 hb; clear hb))
  all_goals first
   | (go_ret2; have hZ : z10 = [] := (by rw [← hz10]; try simp); exact ⟨_, by rw [hM]; rfl, by rw [hM, ← hZ]; exact RL10.out, B.out⟩)
   | (exfalso; grind)

/-! A pair put makes one more at most. -/
theorem putM_len (l : List S61) (c : ByteArray) (v : Int) : (putM l c v).1.length ≤ l.length + 1 := by
  unfold putM
  have hat := atP_le l c
  split
  · split
    · simp only [List.length_append, List.length_take, List.length_drop, List.length_cons, List.length_nil]; omega
    · split
      · simp only; omega
      · simp only [List.length_append, List.length_take, List.length_drop, List.length_cons, List.length_nil]; omega
  · simp

theorem spec_l20Pairs.D (n : Int) (hn : n ≤ 1000000) (w W0 : World) (g : Nat) (bs : List Int) (p : Int) (hI : IsS119 w W0 g bs p) (hB : Below w.heap.size w W0) (hc : Dw.Code bs) (h0 : 0 ≤ p) (h1 : p ≤ 1099500000000) :
  Calls Try.prog 97 #[.pointer (some ⟨g, 0, none⟩), .int .i64 n] W0 fun e w' => ∃ v0 xs p', e = .returned (v0) ∧ (xs.length ≤ 300) ∧ Kd.R k61 61 w' w.heap.size (fun _ => True) v0 xs ∧ Fr W0 v0 ∧ Left w W0 g bs p 90 p' w' := by
 have hu := Try.underlying61
 have B := Aside0.mk hB
 have HI := Aside0.mk hI
 have HC := Aside0.mk hc
 have KK := Aside0.mk (Kept.refl W0 (RB g))
 clear hB hI hc
 go_enter Try.func97, Try.ntmps97
 go_wp2_with (first
  | ((with_reducible refine gate_dst (N := 12) rfl ?_); refine lt k61 61 ?hg (N := 12) ?hd ([] : List S61) [] ?hr (Reps.none _ _) (by simp) B ?_; (case hd | hg => rfl); (case hr => go_simp; first | done | rfl); intro z12 hz12 AL12 kL12 w1 hb B RL12 QL12; have MRL12 := mrf QL12 KK; replace HI := hib HI hb; replace KK := kkb KK hb; clear hb QL12; subst hz12)
  | (go_at_call 79; (with_reducible refine cg1 (spec_l20Rd_pick.D 9 w _ g bs p HI.out B.out HC.out (by omega) (by omega)) fun x2 p2 hx2 hp2 w2 hk B HI2 => ?_); replace RL12 := rkr RL12 HI (by decide) hk; replace KK := kkr KK hk; replace HI := HI2; clear hk; skip))
 have hx1 := hx2.1
 have hx2 := hx2.2.1 (by omega)
 obtain ⟨m0, rfl⟩ : ∃ m : Nat, x2 = (m : Int) := ⟨x2.toNat, by omega⟩
 go_loopg [5, 6] (m0 + 1) (fun kx v5 v6 wr => ∃ (m : Nat) (xs : List S61) (pp : Int), v6 = .int .i64 (m : Int) ∧ m < kx ∧ m ≤ 8 ∧ xs.length + m ≤ 8 ∧ (p ≤ pp ∧ pp + 9 * (m : Int) ≤ p + 80) ∧ Aside0 (IsS119 w wr g bs pp) ∧ Aside0 (Kept W0 wr (RB g)) ∧ Aside0 (Below w.heap.size w wr) ∧ Aside0 (Ow k61 61 wr w.heap.size v5 xs) ∧ Aside0 (Fr W0 v5))
 case atStart => exact ⟨m0, [], _, rfl, by omega, by omega, by simp only [List.length_nil]; omega, by omega, HI, KK, B, RL12, MRL12⟩
 case round =>
  clear HI KK B RL12 MRL12
  obtain ⟨m, xs, pp, rfl, hm, hm8, hxl, hpp, HI, KK, B, Rp5, MRp5⟩ := hrel
  obtain ⟨A5, k5, rfl⟩ := Kd.R_slice Rp5.out
  by_cases hm0 : 0 < m
  ·obtain ⟨d, rfl⟩ : ∃ d, gk = d + 1 := ⟨gk - 1, by omega⟩
   have cj : decide ((0 : Int) < (m : Int)) = true := decide_eq_true (by omega)
   have hw : wrap64 ((m : Int) - 1) = ((m - 1 : Nat) : Int) := by unfold wrap64; omega
   go_wp2_with (first
    | (go_at_call 78; (with_reducible refine cg1 (spec_l20Key.D 0 (by omega) w _ g bs pp HI.out B.out HC.out (by omega) (by omega)) fun x301 p301 hx301 hp301 w301 hk B HI2 => ?_); replace Rp5 := rkr Rp5 HI (by decide) hk; replace KK := kkr KK hk; replace HI := HI2; clear hk; skip)
    | (go_at_call 115; (with_reducible refine cg1 (spec_l20Value.D 0 (by omega) w _ g bs p301 HI.out B.out HC.out (by omega) (by omega)) fun x302 p302 hx302 hp302 w302 hk B HI2 => ?_); replace Rp5 := rkr Rp5 HI (by decide) hk; replace KK := kkr KK hk; replace HI := HI2; clear hk; skip)
    | (go_at_call 114; with_reducible refine crz (spec_PairPut.M _ _ xs x301 x302 _ (rc Rp5) (rl Rp5)) B fun zC303 hzC303 AC303 kC303 w303 hb B RC303 QC303 => ?_; have MRC303 := mrf QC303 KK; replace Rp5 := rn Rp5 hb; replace HI := hib HI hb; replace KK := kkb KK hb; clear QC303; clear hb))
   go_roundg d
   case measure => omega
   case rel => exact ⟨m - 1, zC303, _, congrArg (Value.int .i64) (by omega), by omega, by omega, by rw [← hzC303]; have := putM_len xs x301 x302; omega, by omega, HI, KK, B, RC303, MRC303⟩
  ·have cj : decide ((0 : Int) < (m : Int)) = false := decide_eq_false (by omega)
   go_wp2_with (first
    | (go_at_call 79; (with_reducible refine cg1 (spec_l20Rd_pick.D 16 w _ g bs pp HI.out B.out HC.out (by omega) (by omega)) fun x501 p501 hx501 hp501 w501 hk B HI2 => ?_); replace Rp5 := rkr Rp5 HI (by decide) hk; replace KK := kkr KK hk; replace HI := HI2; clear hk; skip))
   ·rename_i hb7
    clear hb7 hx501
    go_loopg [5, 9] 201 (fun kx v5 v9 wr => ∃ (i : Nat) (xs : List S61) (pp : Int), v9 = .int .i64 (i : Int) ∧ i ≤ 200 ∧ 200 < i + kx ∧ xs.length ≤ 48 ∧ (p ≤ pp ∧ pp ≤ p + 81) ∧ Aside0 (IsS119 w wr g bs pp) ∧ Aside0 (Kept W0 wr (RB g)) ∧ Aside0 (Below w.heap.size w wr) ∧ Aside0 (Ow k61 61 wr w.heap.size v5 xs) ∧ Aside0 (Fr W0 v5))
    case atStart => exact ⟨0, xs, _, rfl, by omega, by omega, by omega, by omega, HI, KK, B, Rp5, MRp5⟩
    case round =>
     clear HI KK B Rp5 MRp5 hxl hpp hp501
     obtain ⟨i, xs, pp, rfl, hi, hk2, hxl, hpp, HI, KK, B, Rp5, MRp5⟩ := hrel
     obtain ⟨A5, k5, rfl⟩ := Kd.R_slice Rp5.out
     by_cases hgo : xs.length < 48 ∧ i < 200
     ·obtain ⟨d, rfl⟩ : ∃ d, gk = d + 1 := ⟨gk - 1, by omega⟩
      have c1 : decide ((xs.length : Int) < 48) = true := decide_eq_true (by omega)
      have c2 : decide ((i : Int) < 200) = true := decide_eq_true (by omega)
      go_wp2_with (first
       | (go_at_call 116; with_reducible refine cx (spec_KeyAt.D _ _) B fun x701 hx701 w701 hb B => ?_; replace Rp5 := rn Rp5 hb; replace HI := hib HI hb; replace KK := kkb KK hb; clear hb)
       | (go_at_call 114; with_reducible refine crz (spec_PairPut.M _ _ xs x701 (i : Int) _ (rc Rp5) (rl Rp5)) B fun zC702 hzC702 AC702 kC702 w702 hb B RC702 QC702 => ?_; have MRC702 := mrf QC702 KK; replace Rp5 := rn Rp5 hb; replace HI := hib HI hb; replace KK := kkb KK hb; clear QC702; clear hb))
      go_roundg d
      case measure => omega
      case rel => exact ⟨i + 1, zC702, _, congrArg (Value.int .i64) (by omega), by omega, by omega, by rw [← hzC702]; have := putM_len xs x701 (i : Int); omega, by omega, HI, KK, B, RC702, MRC702⟩
     ·have cc : (decide ((xs.length : Int) < 48) && decide ((i : Int) < 200)) = false := by simp only [Bool.and_eq_false_iff, decide_eq_false_iff_not]; omega
      by_cases hl : xs.length < 48
      ·have c1 : decide ((xs.length : Int) < 48) = true := decide_eq_true (by omega)
       have c2 : decide ((i : Int) < 200) = false := decide_eq_false (by omega)
       go_wp2_with (first
        | (go_at_call 99; (with_reducible refine cg1 (spec_l20Rd_odd.D n (by omega) w _ g bs pp HI.out B.out HC.out (by omega) (by omega)) fun x901 p901 hx901 hp901 w901 hk B HI2 => ?_); replace Rp5 := rkr Rp5 HI (by decide) hk; replace KK := kkr KK hk; replace HI := HI2; clear hk; skip)
        | ((with_reducible refine gate_dst (N := 60) rfl ?_); refine lt k61 61 ?hg (N := 60) ?hd ([⟨(⟨#[]⟩ : ByteArray), 0⟩, ⟨(⟨#[122, 122, 122, 122]⟩ : ByteArray), -1⟩, ⟨(⟨#[122, 122, 122, 122]⟩ : ByteArray), 1000⟩, ⟨(⟨#[97]⟩ : ByteArray), 1⟩, ⟨(⟨#[65]⟩ : ByteArray), 0⟩] : List S61) [.string (⟨#[]⟩ : ByteArray), .int .i64 (0), .string (⟨#[122, 122, 122, 122]⟩ : ByteArray), .int .i64 (-1), .string (⟨#[122, 122, 122, 122]⟩ : ByteArray), .int .i64 (1000), .string (⟨#[97]⟩ : ByteArray), .int .i64 (1), .string (⟨#[65]⟩ : ByteArray), .int .i64 (0)] ?hr (Reps.c2 (k61_mkM _ _ _ ⟨(⟨#[]⟩ : ByteArray), 0⟩) (Reps.c2 (k61_mkM _ _ _ ⟨(⟨#[122, 122, 122, 122]⟩ : ByteArray), -1⟩) (Reps.c2 (k61_mkM _ _ _ ⟨(⟨#[122, 122, 122, 122]⟩ : ByteArray), 1000⟩) (Reps.c2 (k61_mkM _ _ _ ⟨(⟨#[97]⟩ : ByteArray), 1⟩) (Reps.c2 (k61_mkM _ _ _ ⟨(⟨#[65]⟩ : ByteArray), 0⟩) (Reps.none _ _)))))) (by simp) B ?_; (case hd | hg => rfl); (case hr => go_simp; first | done | rfl); intro z60 hz60 AL60 kL60 w951 hb B RL60 QL60; have MRL60 := mrf QL60 KK; replace Rp5 := rn Rp5 hb; replace HI := hib HI hb; replace KK := kkb KK hb; clear hb QL60)
        | (go_at_call 79; (with_reducible refine cg1 (spec_l20Rd_pick.D 5 w _ g bs p901 HI.out B.out HC.out (by omega) (by omega)) fun x952 p952 hx952 hp952 w952 hk B HI2 => ?_); replace Rp5 := rkr Rp5 HI (by decide) hk; replace RL60 := rkr RL60 HI (by decide) hk; replace KK := kkr KK hk; replace HI := HI2; clear hk; skip; have hi952 : x952 < (z60.length : Int) := (by rw [← hz60]; have := hx952.2.1 (by omega); simpa using this); obtain ⟨ad952, hA952, y952_0, y952_1⟩ := at_T61 (rc RL60) x952 hx952.1 hi952; have hj952 := hx952.1; generalize rd_T61 z60 x952 = y952 at *; cases hA952; have j952 := eq_true hj952; have i952 := eq_true hi952)
        | ((with_reducible refine gate_dst (N := 65) rfl ?_); refine lt k61 61 ?hg (N := 65) ?hd ([⟨y952.f0, y952.f1⟩] : List S61) [.string y952.f0, .int .i64 (y952.f1)] ?hr (Reps.c2 (k61_mkM _ _ _ ⟨y952.f0, y952.f1⟩) (Reps.none _ _)) (by simp) B ?_; (case hd | hg => rfl); (case hr => go_simp; first | done | rfl); intro z65 hz65 AL65 kL65 w953 hb B RL65 QL65; have MRL65 := mrf QL65 KK; replace Rp5 := rn Rp5 hb; replace HI := hib HI hb; replace KK := kkb KK hb; clear hb QL65)
        | ((with_reducible refine gate_builtin (b := .append) (xs := #[.tmp 54, .tmp 65]) rfl ?_); at_builtin; refine apx k61 61 rfl (.tmp 54) (.tmp 65) 31 (.agg #[.string (⟨#[]⟩ : ByteArray), .int .i64 (0)]) 24 rfl Try.underlying31 info61 rfl (by decide) (by omega) rfl rfl Rp5 (rc RL65) (fun x cs h => by rw [k61_open h]; exact k61_mkM _ _ _ x) (by rw [← hz65]; simp only [List.length_cons, List.length_nil]; omega) B ?_; intro z66 hz66 AL66 kL66 w954 hg B RL66 hat; replace HI := hig HI Rp5 (by decide) hg; have MRL66 := mra hat MRp5 KK; replace KK := kkg KK MRp5 hg; clear hg hat))
       all_goals go_ret
       all_goals first
        | exact ⟨_, _, _, rfl, by omega, Rp5.out, MRp5.out, ⟨by omega, by omega⟩, HI.out, B.out, KK.out⟩
        | exact ⟨_, _, _, rfl, by rw [← hz66, ← hz65]; simp only [List.length_append, List.length_cons, List.length_nil]; omega, RL66.out, MRL66.out, ⟨by omega, by omega⟩, HI.out, B.out, KK.out⟩
      ·have c1 : decide ((xs.length : Int) < 48) = false := decide_eq_false (by omega)
       go_wp2_with (first
        | (go_at_call 99; (with_reducible refine cg1 (spec_l20Rd_odd.D n (by omega) w _ g bs pp HI.out B.out HC.out (by omega) (by omega)) fun x1001 p1001 hx1001 hp1001 w1001 hk B HI2 => ?_); replace Rp5 := rkr Rp5 HI (by decide) hk; replace KK := kkr KK hk; replace HI := HI2; clear hk; skip)
        | ((with_reducible refine gate_dst (N := 60) rfl ?_); refine lt k61 61 ?hg (N := 60) ?hd ([⟨(⟨#[]⟩ : ByteArray), 0⟩, ⟨(⟨#[122, 122, 122, 122]⟩ : ByteArray), -1⟩, ⟨(⟨#[122, 122, 122, 122]⟩ : ByteArray), 1000⟩, ⟨(⟨#[97]⟩ : ByteArray), 1⟩, ⟨(⟨#[65]⟩ : ByteArray), 0⟩] : List S61) [.string (⟨#[]⟩ : ByteArray), .int .i64 (0), .string (⟨#[122, 122, 122, 122]⟩ : ByteArray), .int .i64 (-1), .string (⟨#[122, 122, 122, 122]⟩ : ByteArray), .int .i64 (1000), .string (⟨#[97]⟩ : ByteArray), .int .i64 (1), .string (⟨#[65]⟩ : ByteArray), .int .i64 (0)] ?hr (Reps.c2 (k61_mkM _ _ _ ⟨(⟨#[]⟩ : ByteArray), 0⟩) (Reps.c2 (k61_mkM _ _ _ ⟨(⟨#[122, 122, 122, 122]⟩ : ByteArray), -1⟩) (Reps.c2 (k61_mkM _ _ _ ⟨(⟨#[122, 122, 122, 122]⟩ : ByteArray), 1000⟩) (Reps.c2 (k61_mkM _ _ _ ⟨(⟨#[97]⟩ : ByteArray), 1⟩) (Reps.c2 (k61_mkM _ _ _ ⟨(⟨#[65]⟩ : ByteArray), 0⟩) (Reps.none _ _)))))) (by simp) B ?_; (case hd | hg => rfl); (case hr => go_simp; first | done | rfl); intro z60 hz60 AL60 kL60 w1051 hb B RL60 QL60; have MRL60 := mrf QL60 KK; replace Rp5 := rn Rp5 hb; replace HI := hib HI hb; replace KK := kkb KK hb; clear hb QL60)
        | (go_at_call 79; (with_reducible refine cg1 (spec_l20Rd_pick.D 5 w _ g bs p1001 HI.out B.out HC.out (by omega) (by omega)) fun x1052 p1052 hx1052 hp1052 w1052 hk B HI2 => ?_); replace Rp5 := rkr Rp5 HI (by decide) hk; replace RL60 := rkr RL60 HI (by decide) hk; replace KK := kkr KK hk; replace HI := HI2; clear hk; skip; have hi1052 : x1052 < (z60.length : Int) := (by rw [← hz60]; have := hx1052.2.1 (by omega); simpa using this); obtain ⟨ad1052, hA1052, y1052_0, y1052_1⟩ := at_T61 (rc RL60) x1052 hx1052.1 hi1052; have hj1052 := hx1052.1; generalize rd_T61 z60 x1052 = y1052 at *; cases hA1052; have j1052 := eq_true hj1052; have i1052 := eq_true hi1052)
        | ((with_reducible refine gate_dst (N := 65) rfl ?_); refine lt k61 61 ?hg (N := 65) ?hd ([⟨y1052.f0, y1052.f1⟩] : List S61) [.string y1052.f0, .int .i64 (y1052.f1)] ?hr (Reps.c2 (k61_mkM _ _ _ ⟨y1052.f0, y1052.f1⟩) (Reps.none _ _)) (by simp) B ?_; (case hd | hg => rfl); (case hr => go_simp; first | done | rfl); intro z65 hz65 AL65 kL65 w1053 hb B RL65 QL65; have MRL65 := mrf QL65 KK; replace Rp5 := rn Rp5 hb; replace HI := hib HI hb; replace KK := kkb KK hb; clear hb QL65)
        | ((with_reducible refine gate_builtin (b := .append) (xs := #[.tmp 54, .tmp 65]) rfl ?_); at_builtin; refine apx k61 61 rfl (.tmp 54) (.tmp 65) 31 (.agg #[.string (⟨#[]⟩ : ByteArray), .int .i64 (0)]) 24 rfl Try.underlying31 info61 rfl (by decide) (by omega) rfl rfl Rp5 (rc RL65) (fun x cs h => by rw [k61_open h]; exact k61_mkM _ _ _ x) (by rw [← hz65]; simp only [List.length_cons, List.length_nil]; omega) B ?_; intro z66 hz66 AL66 kL66 w1054 hg B RL66 hat; replace HI := hig HI Rp5 (by decide) hg; have MRL66 := mra hat MRp5 KK; replace KK := kkg KK MRp5 hg; clear hg hat))
       all_goals go_ret
       all_goals first
        | exact ⟨_, _, _, rfl, by omega, Rp5.out, MRp5.out, ⟨by omega, by omega⟩, HI.out, B.out, KK.out⟩
        | exact ⟨_, _, _, rfl, by rw [← hz66, ← hz65]; simp only [List.length_append, List.length_cons, List.length_nil]; omega, RL66.out, MRL66.out, ⟨by omega, by omega⟩, HI.out, B.out, KK.out⟩
   ·go_wp2_with (first
     | (go_at_call 99; (with_reducible refine cg1 (spec_l20Rd_odd.D n (by omega) w _ g bs p501 HI.out B.out HC.out (by omega) (by omega)) fun x1101 p1101 hx1101 hp1101 w1101 hk B HI2 => ?_); replace Rp5 := rkr Rp5 HI (by decide) hk; replace KK := kkr KK hk; replace HI := HI2; clear hk; skip)
     | ((with_reducible refine gate_dst (N := 60) rfl ?_); refine lt k61 61 ?hg (N := 60) ?hd ([⟨(⟨#[]⟩ : ByteArray), 0⟩, ⟨(⟨#[122, 122, 122, 122]⟩ : ByteArray), -1⟩, ⟨(⟨#[122, 122, 122, 122]⟩ : ByteArray), 1000⟩, ⟨(⟨#[97]⟩ : ByteArray), 1⟩, ⟨(⟨#[65]⟩ : ByteArray), 0⟩] : List S61) [.string (⟨#[]⟩ : ByteArray), .int .i64 (0), .string (⟨#[122, 122, 122, 122]⟩ : ByteArray), .int .i64 (-1), .string (⟨#[122, 122, 122, 122]⟩ : ByteArray), .int .i64 (1000), .string (⟨#[97]⟩ : ByteArray), .int .i64 (1), .string (⟨#[65]⟩ : ByteArray), .int .i64 (0)] ?hr (Reps.c2 (k61_mkM _ _ _ ⟨(⟨#[]⟩ : ByteArray), 0⟩) (Reps.c2 (k61_mkM _ _ _ ⟨(⟨#[122, 122, 122, 122]⟩ : ByteArray), -1⟩) (Reps.c2 (k61_mkM _ _ _ ⟨(⟨#[122, 122, 122, 122]⟩ : ByteArray), 1000⟩) (Reps.c2 (k61_mkM _ _ _ ⟨(⟨#[97]⟩ : ByteArray), 1⟩) (Reps.c2 (k61_mkM _ _ _ ⟨(⟨#[65]⟩ : ByteArray), 0⟩) (Reps.none _ _)))))) (by simp) B ?_; (case hd | hg => rfl); (case hr => go_simp; first | done | rfl); intro z60 hz60 AL60 kL60 w1151 hb B RL60 QL60; have MRL60 := mrf QL60 KK; replace Rp5 := rn Rp5 hb; replace HI := hib HI hb; replace KK := kkb KK hb; clear hb QL60)
     | (go_at_call 79; (with_reducible refine cg1 (spec_l20Rd_pick.D 5 w _ g bs p1101 HI.out B.out HC.out (by omega) (by omega)) fun x1152 p1152 hx1152 hp1152 w1152 hk B HI2 => ?_); replace Rp5 := rkr Rp5 HI (by decide) hk; replace RL60 := rkr RL60 HI (by decide) hk; replace KK := kkr KK hk; replace HI := HI2; clear hk; skip; have hi1152 : x1152 < (z60.length : Int) := (by rw [← hz60]; have := hx1152.2.1 (by omega); simpa using this); obtain ⟨ad1152, hA1152, y1152_0, y1152_1⟩ := at_T61 (rc RL60) x1152 hx1152.1 hi1152; have hj1152 := hx1152.1; generalize rd_T61 z60 x1152 = y1152 at *; cases hA1152; have j1152 := eq_true hj1152; have i1152 := eq_true hi1152)
     | ((with_reducible refine gate_dst (N := 65) rfl ?_); refine lt k61 61 ?hg (N := 65) ?hd ([⟨y1152.f0, y1152.f1⟩] : List S61) [.string y1152.f0, .int .i64 (y1152.f1)] ?hr (Reps.c2 (k61_mkM _ _ _ ⟨y1152.f0, y1152.f1⟩) (Reps.none _ _)) (by simp) B ?_; (case hd | hg => rfl); (case hr => go_simp; first | done | rfl); intro z65 hz65 AL65 kL65 w1153 hb B RL65 QL65; have MRL65 := mrf QL65 KK; replace Rp5 := rn Rp5 hb; replace HI := hib HI hb; replace KK := kkb KK hb; clear hb QL65)
     | ((with_reducible refine gate_builtin (b := .append) (xs := #[.tmp 54, .tmp 65]) rfl ?_); at_builtin; refine apx k61 61 rfl (.tmp 54) (.tmp 65) 31 (.agg #[.string (⟨#[]⟩ : ByteArray), .int .i64 (0)]) 24 rfl Try.underlying31 info61 rfl (by decide) (by omega) rfl rfl Rp5 (rc RL65) (fun x cs h => by rw [k61_open h]; exact k61_mkM _ _ _ x) (by rw [← hz65]; simp only [List.length_cons, List.length_nil]; omega) B ?_; intro z66 hz66 AL66 kL66 w1154 hg B RL66 hat; replace HI := hig HI Rp5 (by decide) hg; have MRL66 := mra hat MRp5 KK; replace KK := kkg KK MRp5 hg; clear hg hat))
    all_goals go_ret
    all_goals first
     | exact ⟨_, _, _, rfl, by omega, Rp5.out, MRp5.out, ⟨by omega, by omega⟩, HI.out, B.out, KK.out⟩
     | exact ⟨_, _, _, rfl, by rw [← hz66, ← hz65]; simp only [List.length_append, List.length_cons, List.length_nil]; omega, RL66.out, MRL66.out, ⟨by omega, by omega⟩, HI.out, B.out, KK.out⟩


/-! The models of finding, putting and joining sessions. -/
def findS : List S100 → Int → S100
  | [], _ => z100
  | s :: r, c => if s.f0 = c then s else findS r c
def seqB (l : List S100) (c : Int) : Int := if sesB l = true ∧ 0 ≤ c ∧ c ≤ 3 then (findS l c).f1 else -1
def putL : List S100 → S100 → Bool → List S100
  | [], s, placed => if placed = true then [] else [s]
  | x :: r, s, placed =>
    if placed = false ∧ s.f0 ≤ x.f0 then s :: ((if x.f0 = s.f0 then [] else [x]) ++ putL r s true)
    else (if x.f0 = s.f0 then [] else [x]) ++ putL r s placed
def putB (l : List S100) (s : S100) : List S100 × Bool :=
  if sesB l = true ∧ sesB [s] = true then (if s.f1 ≤ seqB l s.f0 then (l, false) else (putL l s false, true)) else ([], false)
theorem putL_true (s : S100) (l : List S100) : (putL l s true).length ≤ l.length := by
  induction l with
  | nil => simp [putL]
  | cons y q ihq =>
    rw [putL, if_neg (by simp)]
    split <;> simp <;> omega
theorem putL_length (s : S100) (l : List S100) : ∀ b, (putL l s b).length ≤ l.length + 1 := by
  induction l with
  | nil => intro b; cases b <;> simp [putL]
  | cons x r ih =>
    intro b
    have h1 := putL_true s r
    have h2 := ih b
    rw [putL]
    split
    · split <;> simp <;> omega
    · split <;> simp <;> omega
theorem putB_length (l : List S100) (s : S100) : (putB l s).1.length ≤ l.length + 1 := by
  unfold putB
  split
  · split
    · simp
    · exact putL_length s l false
  · simp
theorem sesG_all (l : List S100) : ∀ q : Int, sesG (some q) l = true → ∀ x ∈ l, q < x.f0 := by
  induction l with
  | nil => intro q _ x hx; cases hx
  | cons s r ih =>
    intro q h x hx
    simp only [sesG, Bool.and_eq_true] at h
    have h1 : q < s.f0 := by simpa [above] using h.2.1
    rcases List.mem_cons.mp hx with rfl | hx
    · exact h1
    · exact Int.lt_trans h1 (ih s.f0 h.2.2 x hx)
theorem sesG_order (l : List S100) : ∀ p : Option Int, sesG p l = true → l.Pairwise (fun a b => a.f0 < b.f0) := by
  induction l with
  | nil => intro p _; exact List.Pairwise.nil
  | cons s r ih =>
    intro p h
    simp only [sesG, Bool.and_eq_true] at h
    exact List.Pairwise.cons (sesG_all r s.f0 h.2.2) (ih _ h.2.2)
theorem find_none (c : Int) : ∀ l : List S100, (∀ x ∈ l, x.f0 ≠ c) → findS l c = z100
  | [], _ => rfl
  | s :: r, h => by
    rw [findS, if_neg (h s (by simp))]
    exact find_none c r fun x hx => h x (List.mem_cons_of_mem _ hx)
theorem find_at (c : Int) : ∀ (l : List S100) (R : Nat) (hR : R < l.length), (∀ i (hi : i < R), (l[i]'(by omega)).f0 ≠ c) → l[R].f0 = c → findS l c = l[R]
  | s :: r, 0, _, _, h => by
    have h' : s.f0 = c := h
    rw [findS, if_pos h']
    rfl
  | s :: r, R + 1, hR, hb, h => by
    have h0 := hb 0 (by omega)
    simp only [List.getElem_cons_zero] at h0
    rw [findS, if_neg h0]
    have := find_at c r R (by simpa using hR) (fun i hi => by have := hb (i + 1) (by omega); simpa using this) (by simpa using h)
    simpa using this
theorem sesG_len (l : List S100) : ∀ q : Int, sesG (some q) l = true → (l.length : Int) + q ≤ 3 ∨ l = [] := by
  induction l with
  | nil => intro q _; exact .inr rfl
  | cons s r ih =>
    intro q h
    simp only [sesG, Bool.and_eq_true] at h
    obtain ⟨h1, h2, h3⟩ := h
    unfold okS l1B at h1
    simp only [Bool.and_eq_true, decide_eq_true_eq] at h1
    have hq : q < s.f0 := by simpa [above] using h2
    left
    simp only [List.length_cons]
    rcases ih s.f0 h3 with hr | rfl
    · omega
    · simp only [List.length_nil]
      omega
theorem sesB_len {l : List S100} (h : sesB l = true) : l.length ≤ 4 := by
  cases l with
  | nil => simp
  | cons s r =>
    unfold sesB at h
    simp only [sesG, Bool.and_eq_true] at h
    obtain ⟨h1, _, h3⟩ := h
    unfold okS l1B at h1
    simp only [Bool.and_eq_true, decide_eq_true_eq] at h1
    simp only [List.length_cons]
    rcases sesG_len r s.f0 h3 with hr | rfl
    · omega
    · simp
/-- where the client is, or were, among lo .. hi -/
def placeOf (l : List S100) (c : Int) : Nat → Nat → Nat → Nat
  | 0, lo, _ => lo
  | d + 1, lo, hi => if lo < hi then (if (rd_T100 l (((lo + hi) / 2 : Nat) : Int)).f0 < c then placeOf l c d ((lo + hi) / 2 + 1) hi else placeOf l c d lo ((lo + hi) / 2)) else lo
def plOf (l : List S100) (c : Int) : Nat := placeOf l c l.length 0 l.length
def hitOf (l : List S100) (c : Int) : Bool := decide (placeOf l c l.length 0 l.length < l.length) && decide ((rd_T100 l ((placeOf l c l.length 0 l.length : Nat) : Int)).f0 = c)
theorem placeOf_spec {l : List S100} (ho : l.Pairwise (fun a b => a.f0 < b.f0)) (c : Int) : ∀ (d lo hi : Nat), lo ≤ hi → hi ≤ l.length → hi - lo ≤ d →
    (∀ i (h : i < l.length), i < lo → l[i].f0 < c) → (∀ i (h : i < l.length), hi ≤ i → c ≤ l[i].f0) →
    placeOf l c d lo hi ≤ l.length ∧ (∀ i (h : i < l.length), i < placeOf l c d lo hi → l[i].f0 < c) ∧ (∀ i (h : i < l.length), placeOf l c d lo hi ≤ i → c ≤ l[i].f0)
  | 0, lo, hi, h1, h2, h3, h4, h5 => by
    obtain rfl : lo = hi := by omega
    exact ⟨h2, h4, h5⟩
  | d + 1, lo, hi, h1, h2, h3, h4, h5 => by
    rw [placeOf]
    by_cases hlt : lo < hi
    · rw [if_pos hlt]
      have hm : (lo + hi) / 2 < l.length := by omega
      rw [ses_nat hm]
      have hord : ∀ i j (hi : i < l.length) (hj : j < l.length), i < j → l[i].f0 < l[j].f0 := fun i j hi hj hij => List.pairwise_iff_getElem.mp ho i j hi hj hij
      by_cases hc : (l[(lo + hi) / 2]'hm).f0 < c
      · rw [if_pos hc]
        refine placeOf_spec ho c d _ _ (by omega) h2 (by omega) (fun i hil hlo => ?_) h5
        rcases Nat.lt_or_eq_of_le (show i ≤ (lo + hi) / 2 by omega) with h | h
        · exact Int.lt_trans (hord i _ hil hm h) hc
        · subst h; exact hc
      · rw [if_neg hc]
        refine placeOf_spec ho c d _ _ (by omega) (by omega) (by omega) h4 (fun i hil hlo => ?_)
        rcases Nat.lt_or_eq_of_le (show (lo + hi) / 2 ≤ i by omega) with h | h
        · have := hord _ i hm hil h
          omega
        · subst h; omega
    · rw [if_neg hlt]
      obtain rfl : lo = hi := by omega
      exact ⟨h2, h4, h5⟩
theorem placeOf_find {l : List S100} (h : sesB l = true) (c : Int) : (if hitOf l c = true then (rd_T100 l ((placeOf l c l.length 0 l.length : Nat) : Int)).f1 else 0) = (findS l c).f1 := by
  obtain ⟨h1, h2, h3⟩ := placeOf_spec (sesG_order l none h) c l.length 0 l.length (Nat.zero_le _) (Nat.le_refl _) (by omega) (fun i _ hi => absurd hi (Nat.not_lt_zero _)) (fun i hil hi => by omega)
  unfold hitOf
  generalize placeOf l c l.length 0 l.length = R at h1 h2 h3 ⊢
  by_cases hR : R < l.length
  · rw [decide_eq_true hR, ses_nat hR]
    by_cases hc : l[R].f0 = c
    · rw [decide_eq_true hc, find_at c l R hR (fun i hi => by have := h2 i (by omega) hi; omega) hc]
      rfl
    · rw [decide_eq_false hc, find_none c l fun x hx => ?_]
      · rfl
      · obtain ⟨i, hi, rfl⟩ := List.getElem_of_mem hx
        by_cases hlt : i < R
        · have := h2 i hi hlt; omega
        · have a := h3 R hR (Nat.le_refl _)
          rcases Nat.lt_or_eq_of_le (show R ≤ i by omega) with h' | h'
          · have := List.pairwise_iff_getElem.mp (sesG_order l none h) R i hR hi h'
            omega
          · subst h'; exact hc
  · rw [decide_eq_false hR, find_none c l fun x hx => ?_]
    · rfl
    · obtain ⟨i, hi, rfl⟩ := List.getElem_of_mem hx
      have := h2 i hi (by omega)
      omega
theorem putL_keep (s : S100) : ∀ l : List S100, (∀ x ∈ l, s.f0 < x.f0) → putL l s true = l
  | [], _ => rfl
  | x :: r, h => by
    have h0 := h x (by simp)
    rw [putL, if_neg (by simp), if_neg (by omega), putL_keep s r fun y hy => h y (List.mem_cons_of_mem _ hy)]
    rfl
theorem putL_place (s : S100) : ∀ (l : List S100) (R : Nat), l.Pairwise (fun a b => a.f0 < b.f0) → R ≤ l.length → (∀ i (h : i < l.length), i < R → l[i].f0 < s.f0) → (∀ i (h : i < l.length), R ≤ i → s.f0 ≤ l[i].f0) →
    putL l s false = (l.take R ++ [s]) ++ l.drop (R + (if ∃ h : R < l.length, l[R].f0 = s.f0 then 1 else 0))
  | [], R, _, hR, _, _ => by
    obtain rfl : R = 0 := by simpa using hR
    rw [if_neg (by rintro ⟨h, _⟩; exact absurd h (Nat.not_lt_zero _))]
    rfl
  | x :: r, 0, ho, _, _, h2 => by
    have hx := h2 0 (by simp) (Nat.zero_le _)
    simp only [List.getElem_cons_zero] at hx
    have hr := (List.pairwise_cons.mp ho).1
    have hk : putL r s true = r := putL_keep s r fun y hy => by have := hr y hy; omega
    have hp : putL (x :: r) s false = s :: ((if x.f0 = s.f0 then [] else [x]) ++ putL r s true) := by
      rw [putL]
      exact if_pos ⟨rfl, hx⟩
    rw [hp, hk]
    by_cases hc : x.f0 = s.f0
    · rw [if_pos hc, if_pos ⟨by simp, by simpa using hc⟩]
      rfl
    · rw [if_neg hc, if_neg (by rintro ⟨_, h⟩; exact hc (by simpa using h))]
      rfl
  | x :: r, R + 1, ho, hR, h1, h2 => by
    have hx := h1 0 (by simp) (by omega)
    simp only [List.getElem_cons_zero] at hx
    have hp : putL (x :: r) s false = (if x.f0 = s.f0 then [] else [x]) ++ putL r s false := by
      rw [putL]
      exact if_neg (by omega)
    have ih := putL_place s r R (List.pairwise_cons.mp ho).2 (by simpa using hR) (fun i hi hr => by have := h1 (i + 1) (by simpa using hi) (by omega); simpa using this) (fun i hi hr => by have := h2 (i + 1) (by simpa using hi) (by omega); simpa using this)
    rw [hp, ih, if_neg (by omega)]
    have he : (∃ h : R + 1 < (x :: r).length, (x :: r)[R + 1].f0 = s.f0) ↔ ∃ h : R < r.length, r[R].f0 = s.f0 := by simp
    by_cases hc : ∃ h : R < r.length, r[R].f0 = s.f0
    · rw [if_pos hc, if_pos (he.mpr hc)]
      rfl
    · rw [if_neg hc, if_neg (fun h => hc (he.mp h))]
      rfl
theorem putL_valid (s : S100) (hs : okS s = true) (l : List S100) : ∀ p, sesG p l = true → above p s.f0 = true → sesG p (putL l s false) = true := by
  induction l with
  | nil => intro p _ hp; simp [putL, sesG, hs, hp]
  | cons x r ih =>
    intro p h hp
    have ho := sesG_order _ _ h
    simp only [sesG, Bool.and_eq_true] at h
    obtain ⟨h1, h2, h3⟩ := h
    by_cases hc : s.f0 ≤ x.f0
    · have hk : putL r s true = r := putL_keep s r fun y hy => by have := (List.pairwise_cons.mp ho).1 y hy; omega
      have hp' : putL (x :: r) s false = s :: ((if x.f0 = s.f0 then [] else [x]) ++ putL r s true) := by
        rw [putL]
        exact if_pos ⟨rfl, hc⟩
      rw [hp', hk]
      by_cases he : x.f0 = s.f0
      · rw [if_pos he]
        rw [he] at h3
        simp [sesG, hs, hp, h3]
      · rw [if_neg he]
        have ha : above (some s.f0) x.f0 = true := by simp only [above, decide_eq_true_eq]; omega
        simp [sesG, hs, hp, h1, ha, h3]
    · have hp' : putL (x :: r) s false = (if x.f0 = s.f0 then [] else [x]) ++ putL r s false := by
        rw [putL]
        exact if_neg (by omega)
      rw [hp', if_neg (by omega)]
      have ha : above (some x.f0) s.f0 = true := by simp only [above, decide_eq_true_eq]; omega
      simp [sesG, h1, h2, ih (some x.f0) h3 ha]
theorem putL_find (s : S100) (c : Int) (l : List S100) (ho : l.Pairwise (fun a b => a.f0 < b.f0)) : findS (putL l s false) c = if s.f0 = c then s else findS l c := by
  induction l with
  | nil => simp [putL, findS]
  | cons x r ih =>
    have hr := (List.pairwise_cons.mp ho).1
    by_cases hc : s.f0 ≤ x.f0
    · have hk : putL r s true = r := putL_keep s r fun y hy => by have := hr y hy; omega
      have hp' : putL (x :: r) s false = s :: ((if x.f0 = s.f0 then [] else [x]) ++ putL r s true) := by
        rw [putL]
        exact if_pos ⟨rfl, hc⟩
      rw [hp', hk, findS]
      by_cases e : s.f0 = c
      · rw [if_pos e, if_pos e]
      · rw [if_neg e, if_neg e]
        by_cases he : x.f0 = s.f0
        · rw [if_pos he, findS, if_neg (by omega)]
          rfl
        · rw [if_neg he]
          rfl
    · have hp' : putL (x :: r) s false = (if x.f0 = s.f0 then [] else [x]) ++ putL r s false := by
        rw [putL]
        exact if_neg (by omega)
      rw [hp', if_neg (by omega)]
      simp only [List.cons_append, List.nil_append, findS, ih (List.pairwise_cons.mp ho).2]
      by_cases e : x.f0 = c
      · rw [if_pos e, if_pos e, if_neg (by omega)]
      · rw [if_neg e, if_neg e]
theorem putL_mem (s : S100) (l : List S100) : s ∈ putL l s false := by
  induction l with
  | nil => simp [putL]
  | cons x r ih =>
    rw [putL]
    split
    · simp
    · exact List.mem_append_right _ ih
theorem sesOne (s : S100) : sesB [s] = okS s := by
  unfold sesB
  simp [sesG, above]
def joinL : List S100 → List S100 → List S100
  | acc, [] => acc
  | acc, s :: r => joinL (putB acc s).1 r
def joinB (a b : List S100) : List S100 := if sesB a = true ∧ sesB b = true then joinL a b else []
theorem putB_valid {acc : List S100} {s : S100} (h : sesB acc = true) (hs : okS s = true) :
    sesB (putB acc s).1 = true ∧ (if (putB acc s).2 = true then (putB acc s).1 else acc) = (putB acc s).1 := by
  unfold putB
  rw [if_pos (show sesB acc = true ∧ sesB [s] = true from ⟨h, by rw [sesOne]; exact hs⟩)]
  by_cases hle : s.f1 ≤ seqB acc s.f0
  · rw [if_pos hle]
    exact ⟨h, by simp⟩
  · rw [if_neg hle]
    exact ⟨putL_valid s hs acc none h rfl, by simp⟩
theorem sesG_ok (l : List S100) : ∀ p, sesG p l = true → ∀ s ∈ l, okS s = true := by
  induction l with
  | nil => intro p _ s hs; cases hs
  | cons x r ih =>
    intro p h s hs
    simp only [sesG, Bool.and_eq_true] at h
    rcases List.mem_cons.mp hs with rfl | hs
    · exact h.1
    · exact ih _ h.2.2 s hs
theorem joinL_valid (b : List S100) : ∀ acc, sesB acc = true → (∀ s ∈ b, okS s = true) → sesB (joinL acc b) = true := by
  induction b with
  | nil => intro acc h _; exact h
  | cons s r ih =>
    intro acc h hb
    exact ih _ (putB_valid h (hb s (by simp))).1 fun x hx => hb x (List.mem_cons_of_mem _ hx)

end Go.Proofs.Ytenfiihcdhnamaa.PFnStateValid
