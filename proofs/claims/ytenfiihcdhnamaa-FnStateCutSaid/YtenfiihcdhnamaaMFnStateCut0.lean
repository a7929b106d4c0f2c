/- Walks over models, part 0: base nums strs keys ivm iv scut icut cutt has inside prsm sesm stm spairs sses sstate place ord inm rows spin nbox drs smm prok getm sputm sjoinm stcutm csl. -/
import Derived.Test.YtenfiihcdhnamaaPFnStateCutx0
import Derived.Deep.RegionHeld3
import Derived.Lib.Strings
import Derived.Laws.BytesArg
import Derived.Test.YtenfiihcdhnamaaPFnStateCutx19
import Derived.Test.YtenfiihcdhnamaaPFnStateCutx56
import Derived.Test.YtenfiihcdhnamaaPFnStateCutx18
import Derived.Test.YtenfiihcdhnamaaPFnStateCutx39
import Derived.Test.YtenfiihcdhnamaaPFnStateCutx40
import Derived.Test.YtenfiihcdhnamaaPFnStateCutx38
import Derived.Test.YtenfiihcdhnamaaPFnStateCutx46
import Derived.Test.YtenfiihcdhnamaaPFnStateCutx45
namespace Go.Proofs.Ytenfiihcdhnamaa.PFnStateCut
open Go.RowKit Go.Proofs.YtenfiihcdhnamaaW.PrintWords Go.Proofs.YtenfiihcdhnamaaW.PrintLast Go.Proofs.YtenfiihcdhnamaaW.PrintMore
set_option linter.unusedVariables false
set_option linter.unusedSimpArgs false
set_option maxHeartbeats 4000000
set_option maxRecDepth 100000
def bits (n m : Nat) : Array Bool := ((List.range n).map fun i => m.testBit i).toArray
/-! Words: a call by its contract, boxes and rows carried on. -/
section
variable {P : Program} {F : FuncId} {args : Array Value} {w W W' : World} {v : Value} {Q : Ending → World → Prop}
theorem cl (c : Calls P F args W fun e w' => e = .returned v ∧ Below W.heap.size W w') (B : Aside0 (Below w.heap.size w W))
    (h : ∀ W', Below W.heap.size W W' → Aside0 (Below w.heap.size w W') → Q (.returned v) W') : Calls P F args W Q :=
  c.mono (by rintro e W' ⟨rfl, hb⟩; exact h W' hb ⟨below_step B.out hb⟩)
theorem cx {α : Type} {f : α → Value} {p : α → Prop} (c : Calls P F args W fun e w' => ∃ x, e = .returned (f x) ∧ p x ∧ Below W.heap.size W w') (B : Aside0 (Below w.heap.size w W))
    (h : ∀ x, p x → ∀ W', Below W.heap.size W W' → Aside0 (Below w.heap.size w W') → Q (.returned (f x)) W') : Calls P F args W Q :=
  c.mono (by rintro e W' ⟨x, rfl, hx, hb⟩; exact h x hx W' hb ⟨below_step B.out hb⟩)
theorem clv {v v' : Value} (c : Calls P F args W fun e w' => e = .returned v ∧ Below W.heap.size W w') (hv : v = v') : Calls P F args W fun e w' => e = .returned v' ∧ Below W.heap.size W w' := hv ▸ c
theorem drewB {v : Value} (c : Calls P F args W fun e w' => e = .returned v ∧ ∃ n, w' = W.drewN n) : Calls P F args W fun e w' => e = .returned v ∧ Below W.heap.size W w' :=
  c.mono (by rintro e W' ⟨rfl, n, rfl⟩; exact ⟨rfl, pw_below_drewN (Below.refl _ _) n⟩)
variable {α β : Type} {d : Kd α} {d' : Kd β} {e e' b : Nat} {xs : List α} {ys : List β} {f : Value → Value}
/-- what a row of a call's own is known by -/
def Ow (d : Kd α) (e : Nat) (W : World) (b : Nat) (v : Value) (xs : List α) : Prop := Kd.R d e W b (fun _ => True) v xs
/-- the row lies in a block that was not there before -/
def Fr (W : World) (v : Value) : Prop := ∀ k, v.ownBlock = some k → W.heap.size ≤ k
theorem cr (c : Calls P F args W fun r w' => ∃ v0, r = .returned (f v0) ∧ Kd.R d e w' W.heap.size (fun _ => True) v0 xs ∧ Below W.heap.size W w') (B : Aside0 (Below w.heap.size w W))
    (h : ∀ A kk W', Below W.heap.size W W' → Aside0 (Below w.heap.size w W') → Aside0 (Ow d e W' w.heap.size (.slice A xs.length kk) xs) → Aside0 (Fr W (.slice A xs.length kk)) → Q (.returned (f (.slice A xs.length kk))) W') : Calls P F args W Q :=
  c.mono (by
    rintro r W' ⟨v0, rfl, ho, hb⟩
    obtain ⟨A, kk, rfl⟩ := Kd.R_slice ho
    exact h A kk W' hb ⟨below_step B.out hb⟩ ⟨Kd.R_lower ho (below_size B.out)⟩ ⟨fun k hk => Kd.R_base ho k hk⟩)
theorem crz (c : Calls P F args W fun r w' => ∃ v0, r = .returned (f v0) ∧ Kd.R d e w' W.heap.size (fun _ => True) v0 xs ∧ Below W.heap.size W w') (B : Aside0 (Below w.heap.size w W))
    (h : ∀ zs, xs = zs → ∀ A kk W', Below W.heap.size W W' → Aside0 (Below w.heap.size w W') → Aside0 (Ow d e W' w.heap.size (.slice A zs.length kk) zs) → Aside0 (Fr W (.slice A zs.length kk)) → Q (.returned (f (.slice A zs.length kk))) W') : Calls P F args W Q := cr c B (h xs rfl)
theorem bn {g : Nat} {o : Obj} (F : Aside0 (W.heap[g]? = some o)) (hb : Below W.heap.size W W') : Aside0 (W'.heap[g]? = some o) := ⟨blk_below F.out hb⟩
theorem rn {v : Value} (R : Aside0 (Ow d e W b v xs)) (hb : Below W.heap.size W W') : Aside0 (Ow d e W' b v xs) := ⟨Kd.R_below R.out hb⟩
theorem rc {A : Option Addr} {n c : Nat} (R : Aside0 (Ow d e W b (.slice A n c) xs)) : Kd.C d W A xs.length xs := (Kd.R_reads' R.out).2.2
theorem rl {A : Option Addr} {c : Nat} (R : Aside0 (Ow d e W b (.slice A xs.length c) xs)) : xs.length ≤ c := (Kd.R_reads' R.out).2.1
theorem cb {A : Option Addr} {n : Nat} (H : Aside0 (Kd.C d w A n xs)) (B : Aside0 (Below w.heap.size w W)) : Kd.C d W A n xs := Kd.C_below H.out B.out
theorem cs1 {g t : Nat} {a : Value} (F : Aside0 (W.heap[g]? = some (.cells #[a] t (0, 0)))) : W.cell? ⟨g, 0, none⟩ = some a := (blk_cell F.out 0).trans rfl
theorem cs2 {g t : Nat} {a b : Value} (F : Aside0 (W.heap[g]? = some (.cells #[a, b] t (0, 0)))) : W.cell? ⟨g, 0, none⟩ = some a ∧ W.cell? ⟨g, 1, none⟩ = some b := ⟨(blk_cell F.out 0).trans rfl, (blk_cell F.out 1).trans rfl⟩
theorem cs3 {g t : Nat} {a b c : Value} (F : Aside0 (W.heap[g]? = some (.cells #[a, b, c] t (0, 0)))) : W.cell? ⟨g, 0, none⟩ = some a ∧ W.cell? ⟨g, 1, none⟩ = some b ∧ W.cell? ⟨g, 2, none⟩ = some c := ⟨(blk_cell F.out 0).trans rfl, (blk_cell F.out 1).trans rfl, (blk_cell F.out 2).trans rfl⟩
theorem cs4 {g t : Nat} {a b c d : Value} (F : Aside0 (W.heap[g]? = some (.cells #[a, b, c, d] t (0, 0)))) : W.cell? ⟨g, 0, none⟩ = some a ∧ W.cell? ⟨g, 1, none⟩ = some b ∧ W.cell? ⟨g, 2, none⟩ = some c ∧ W.cell? ⟨g, 3, none⟩ = some d := ⟨(blk_cell F.out 0).trans rfl, (blk_cell F.out 1).trans rfl, (blk_cell F.out 2).trans rfl, (blk_cell F.out 3).trans rfl⟩
theorem cs6 {g t : Nat} {a b c d x y : Value} (F : Aside0 (W.heap[g]? = some (.cells #[a, b, c, d, x, y] t (0, 0)))) : W.cell? ⟨g, 0, none⟩ = some a ∧ W.cell? ⟨g, 1, none⟩ = some b ∧ W.cell? ⟨g, 2, none⟩ = some c ∧ W.cell? ⟨g, 3, none⟩ = some d ∧ W.cell? ⟨g, 4, none⟩ = some x ∧ W.cell? ⟨g, 5, none⟩ = some y :=
  ⟨(blk_cell F.out 0).trans rfl, (blk_cell F.out 1).trans rfl, (blk_cell F.out 2).trans rfl, (blk_cell F.out 3).trans rfl, (blk_cell F.out 4).trans rfl, (blk_cell F.out 5).trans rfl⟩
theorem fz {g t : Nat} {cs : Array Value} (F : Aside0 (W.heap[g]? = some (.cells cs t (0, 0)))) (j : Nat) : W.frozen? ⟨g, j, none⟩ = false := blk_frozen F.out j
theorem cz2 {g t : Nat} {a b : Value} (F : Aside0 (W.heap[g]? = some (.cells #[a, b] t (0, 0)))) : W.cell? ⟨g, 0, none⟩ = some a ∧ W.cell? ⟨g, 1, none⟩ = some b ∧ W.frozen? ⟨g, 0, none⟩ = false ∧ W.frozen? ⟨g, 1, none⟩ = false :=
  ⟨(blk_cell F.out 0).trans rfl, (blk_cell F.out 1).trans rfl, fz F 0, fz F 1⟩
theorem cz3 {g t : Nat} {a b c : Value} (F : Aside0 (W.heap[g]? = some (.cells #[a, b, c] t (0, 0)))) : W.cell? ⟨g, 0, none⟩ = some a ∧ W.cell? ⟨g, 1, none⟩ = some b ∧ W.cell? ⟨g, 2, none⟩ = some c ∧ W.frozen? ⟨g, 0, none⟩ = false ∧ W.frozen? ⟨g, 1, none⟩ = false ∧ W.frozen? ⟨g, 2, none⟩ = false :=
  ⟨(blk_cell F.out 0).trans rfl, (blk_cell F.out 1).trans rfl, (blk_cell F.out 2).trans rfl, fz F 0, fz F 1, fz F 2⟩
theorem cz4 {g t : Nat} {a b c d : Value} (F : Aside0 (W.heap[g]? = some (.cells #[a, b, c, d] t (0, 0)))) : W.cell? ⟨g, 0, none⟩ = some a ∧ W.cell? ⟨g, 1, none⟩ = some b ∧ W.cell? ⟨g, 2, none⟩ = some c ∧ W.cell? ⟨g, 3, none⟩ = some d ∧ W.frozen? ⟨g, 0, none⟩ = false ∧ W.frozen? ⟨g, 1, none⟩ = false ∧ W.frozen? ⟨g, 2, none⟩ = false ∧ W.frozen? ⟨g, 3, none⟩ = false :=
  ⟨(blk_cell F.out 0).trans rfl, (blk_cell F.out 1).trans rfl, (blk_cell F.out 2).trans rfl, (blk_cell F.out 3).trans rfl, fz F 0, fz F 1, fz F 2, fz F 3⟩
theorem cz6 {g t : Nat} {a b c d x y : Value} (F : Aside0 (W.heap[g]? = some (.cells #[a, b, c, d, x, y] t (0, 0)))) : W.cell? ⟨g, 0, none⟩ = some a ∧ W.cell? ⟨g, 1, none⟩ = some b ∧ W.cell? ⟨g, 2, none⟩ = some c ∧ W.cell? ⟨g, 3, none⟩ = some d ∧ W.cell? ⟨g, 4, none⟩ = some x ∧ W.cell? ⟨g, 5, none⟩ = some y ∧ W.frozen? ⟨g, 0, none⟩ = false ∧ W.frozen? ⟨g, 1, none⟩ = false ∧ W.frozen? ⟨g, 2, none⟩ = false ∧ W.frozen? ⟨g, 3, none⟩ = false ∧ W.frozen? ⟨g, 4, none⟩ = false ∧ W.frozen? ⟨g, 5, none⟩ = false :=
  ⟨(blk_cell F.out 0).trans rfl, (blk_cell F.out 1).trans rfl, (blk_cell F.out 2).trans rfl, (blk_cell F.out 3).trans rfl, (blk_cell F.out 4).trans rfl, (blk_cell F.out 5).trans rfl, fz F 0, fz F 1, fz F 2, fz F 3, fz F 4, fz F 5⟩
theorem sets_keep (g : Nat) : ∀ (vs : List Value) (j : Nat) (W1 : World), KeepBut W W1 g none → KeepBut W (W1.setCells g j vs) g none
  | [], _, _, h => h
  | v :: r, j, _, h => sets_keep g r (j + 1) _ (h.set_ j v)
theorem sets_below (g : Nat) (hg : w.heap.size ≤ g) : ∀ (vs : List Value) (j : Nat) (W1 : World), Below w.heap.size w W1 → Below w.heap.size w (W1.setCells g j vs)
  | [], _, _, h => h
  | _ :: r, j, _, h => sets_below g hg r (j + 1) _ (below_set h hg)
theorem sets_blk (g t : Nat) (s : List Value) : ∀ (vs l r : List Value) (W1 : World), r.length = vs.length → W1.heap[g]? = some (.cells (l ++ r ++ s).toArray t (0, 0)) → (W1.setCells g l.length vs).heap[g]? = some (.cells (l ++ vs ++ s).toArray t (0, 0))
  | [], l, r, _, hr, h => by
    obtain rfl : r = [] := List.eq_nil_of_length_eq_zero hr
    exact h
  | v :: vs, l, [], _, hr, h => by cases hr
  | v :: vs, l, x :: r, W1, hr, h => by
    have := sets_blk g t s vs (l ++ [v]) r (W1.setCell ⟨g, l.length, none⟩ v) (by simpa using hr) (by
      rw [blk_set h]
      simp)
    simpa [World.setCells] using this
theorem sets_blk' {g t : Nat} {cs : Array Value} (off : Nat) (ns vs : List Value) (hl : cs.toList.take off ++ ns ++ cs.toList.drop (off + ns.length) = vs) (hs : off + ns.length ≤ cs.size) (F : W.heap[g]? = some (.cells cs t (0, 0))) : (W.setCells g off ns).heap[g]? = some (.cells vs.toArray t (0, 0)) := by
  subst hl
  have h1 : (cs.toList.take off).length = off := by rw [List.length_take, Array.length_toList (xs := cs)]; omega
  have := sets_blk g t (cs.toList.drop (off + ns.length)) ns (cs.toList.take off) ((cs.toList.drop off).take ns.length) W (by rw [List.length_take, List.length_drop, Array.length_toList (xs := cs)]; omega) (by
    rw [F]
    congr 1
    congr 1
    rw [List.append_assoc, ← List.drop_drop, List.take_append_drop, List.take_append_drop])
  rwa [h1] at this
variable {ops ops' : Array Oper} {o : Oper} {rest : List Oper} {a : Act} {QE : Exit → Act → World → Prop}
theorem bx (hgd : o.guard = none) {N : Tmp} (hd : o.dst = some N) {cs : Array Value} {t : TypeId} (hrun : (execOp a.eval o).run P W = .ok (.value (.pointer (some ⟨W.heap.size, 0, none⟩))) (W.alloc (.cells cs t (0, 0))))
    (B : Aside0 (Below w.heap.size w W))
    (h : ∀ g w1, Below W.heap.size W w1 → Aside0 (Below w.heap.size w w1) → Aside0 (w1.heap[g]? = some (.cells cs t (0, 0))) → Aside0 (w.heap.size ≤ g) → Aside0 (g = W.heap.size) → wpList P ops QE rest (a.put o.dst (.pointer (some ⟨g, 0, none⟩))) w1) : wpList P ops QE (o :: rest) a W :=
  box_event hgd hd hrun fun g hg w1 hc hb => h g w1 hb ⟨below_step B.out hb⟩ ⟨hc⟩ ⟨hg ▸ below_size B.out⟩ ⟨hg⟩
theorem sx (hgd : o.guard = none) {t t' : TypeId} {p : Tmp} {v : Operand} (ho : o.op = .store t' (.tmp p) v) (hN : o.dst = none) {g : Nat} {cs : Array Value} (off : Nat) (ns vs : List Value) (hrun : (execOp a.eval o).run P W = .ok .skip (W.setCells g off ns))
    (B : Aside0 (Below w.heap.size w W)) (F : Aside0 (W.heap[g]? = some (.cells cs t (0, 0)))) (L : Aside0 (w.heap.size ≤ g)) (hl : cs.toList.take off ++ ns ++ cs.toList.drop (off + ns.length) = vs) (hs : off + ns.length ≤ cs.size)
    (h : ∀ w', KeepBut W w' g none → Aside0 (Below w.heap.size w w') → Aside0 (w'.heap[g]? = some (.cells vs.toArray t (0, 0))) → wpList P ops QE rest a w') : wpList P ops QE (o :: rest) a W :=
  store_event hgd ho hN hrun fun w' hw => by
    subst hw
    exact h _ (sets_keep g ns off W (KeepBut.refl _ _ _)) ⟨sets_below g L.out ns off W B.out⟩ ⟨sets_blk' off ns vs hl hs F.out⟩
theorem sxs {Kc : Act → World → Prop} {g t : Nat} {cs : Array Value} (off : Nat) (ns vs : List Value) (hw : Region.wanted o (yielded ops' a.tmps) = true) (hN : o.dst = none) (hrun : (execOp a.eval o).run P W = .ok .skip (W.setCells g off ns))
    (B : Aside0 (Below w.heap.size w W)) (F : Aside0 (W.heap[g]? = some (.cells cs t (0, 0)))) (L : Aside0 (w.heap.size ≤ g)) (hl : cs.toList.take off ++ ns ++ cs.toList.drop (off + ns.length) = vs) (hs : off + ns.length ≤ cs.size)
    (h : ∀ w', KeepBut W w' g none → Aside0 (Below w.heap.size w w') → Aside0 (w'.heap[g]? = some (.cells vs.toArray t (0, 0))) → Kc (a.put none undef) w') : if Region.wanted o (yielded ops' a.tmps) = true then Oper.wp P o a W Kc QE else Kc (a.put none undef) W := by
  rw [if_pos hw]
  unfold Oper.wp
  rw [hrun]
  show Kc (a.put o.dst undef) _
  rw [hN]
  exact h _ (sets_keep g ns off W (KeepBut.refl _ _ _)) ⟨sets_below g L.out ns off W B.out⟩ ⟨sets_blk' off ns vs hl hs F.out⟩
theorem rg {S : World → Prop} {ds : List Nat} {id n : Nat} (l : Array Bool) (hm : P.follows .mixedOrders = true) (hn : ops'.size = n) (hl : Array.replicate n false = l) (hS : S W) (hd : S W → S W.drew) (B : Aside0 (Below w.heap.size w W))
    (h : ∀ W', Below W.heap.size W W' → Aside0 (Below w.heap.size w W') → S W' → wpAnyLast P .any ops' QE S ds n l a W') : (Code.region id ops' true).wp P QE a W :=
  start_ l hm hn hl (hd hS) fun hH => h _ (below_drew1 (Below.refl _ _)) ⟨below_drew B.out⟩ hH
theorem sk {S : World → Prop} {md : Region.Mode} {ds : List Nat} {i : Nat} {N : Option Tmp} {oi : Oper} {fuel : Nat} {l : Array Bool} (l' : Array Bool) (hi : ops'[i]? = some oi) (hN : oi.dst = N) (hc : anyB md ops' l l' i = true)
    (hQ : ∀ c a w, QE (.panic c) (a.put oi.dst undef) w → QE (.panic c) a w) (hw : Region.wanted oi (yielded ops' a.tmps) = false) (h : wpAnyLast P md ops' QE S ds fuel l' (a.put N undef) W) : wpAnyLast P md ops' QE S ds (fuel + 1) l a W :=
  pure_ l' hi hN hc hQ (Or.inr ⟨hw, rfl⟩) rfl h
theorem pu {S : World → Prop} {md : Region.Mode} {ds : List Nat} {i : Nat} {N : Option Tmp} {oi : Oper} {v : Value} {fuel : Nat} {l : Array Bool} (l' : Array Bool) (hi : ops'[i]? = some oi) (hN : oi.dst = N) (hc : anyB md ops' l l' i = true)
    (hQ : ∀ c a w, QE (.panic c) (a.put oi.dst v) w → QE (.panic c) a w) (hw : Region.wanted oi (yielded ops' a.tmps) = true) (hy : ∀ w, (execOp a.eval oi).run P w = .ok (.value v) w) (h : wpAnyLast P md ops' QE S ds fuel l' (a.put N v) W) : wpAnyLast P md ops' QE S ds (fuel + 1) l a W :=
  pure_ l' hi hN hc hQ (Or.inl ⟨hw, hy⟩) rfl h
theorem pv {S : World → Prop} {md : Region.Mode} {ds : List Nat} (i : Nat) (N : Option Tmp) {oi : Oper} {v : Value} {fuel : Nat} {l : Array Bool} {T : Bool × List (List Nat × List Nat)} (l' : Array Bool) (HT : Aside0 (rtab md ops' = T)) (hc : anyT T l.toList l'.toList i = true) (hi : ops'[i]? = some oi) (hN : oi.dst = N)
    (hQ : ∀ c a w, QE (.panic c) (a.put oi.dst v) w → QE (.panic c) a w) (hw : Region.wanted oi (yielded ops' a.tmps) = true) (hy : ∀ w, (execOp a.eval oi).run P w = .ok (.value v) w) (h : wpAnyLast P md ops' QE S ds fuel l' (a.put N v) W) : wpAnyLast P md ops' QE S ds (fuel + 1) l a W :=
  pure_ l' hi hN (any_of HT.out hc) hQ (Or.inl ⟨hw, hy⟩) rfl h
theorem sv {S : World → Prop} {md : Region.Mode} {ds : List Nat} (i : Nat) (N : Option Tmp) {oi : Oper} {fuel : Nat} {l : Array Bool} {T : Bool × List (List Nat × List Nat)} (l' : Array Bool) (HT : Aside0 (rtab md ops' = T)) (hc : anyT T l.toList l'.toList i = true) (hi : ops'[i]? = some oi) (hN : oi.dst = N)
    (hQ : ∀ c a w, QE (.panic c) (a.put oi.dst undef) w → QE (.panic c) a w) (hw : Region.wanted oi (yielded ops' a.tmps) = false) (h : wpAnyLast P md ops' QE S ds fuel l' (a.put N undef) W) : wpAnyLast P md ops' QE S ds (fuel + 1) l a W :=
  pure_ l' hi hN (any_of HT.out hc) hQ (Or.inr ⟨hw, rfl⟩) rfl h
theorem tv {S : World → Prop} {md : Region.Mode} {ds : List Nat} (i : Nat) (N : Option Tmp) {oi : Oper} {v : Value} {fuel : Nat} {l : Array Bool} {T : Bool × List (List Nat × List Nat)} {U : List Nat} (l' : Array Bool) (HT : Aside0 (rtab md ops' = T)) (HW : Aside0 (waitsOk T.2 U = true)) (hc : takeW T U ds l.toList l'.toList i = true) (hi : ops'[i]? = some oi) (hN : oi.dst = N)
    (hQ : ∀ c a w, QE (.panic c) (a.put oi.dst v) w → QE (.panic c) a w) (hw : Region.wanted oi (yielded ops' a.tmps) = true) (hS : S W) (hy : ∀ w, S w → (execOp a.eval oi).run P w = .ok (.value v) w) (h : wpAnyLast P md ops' QE S ds fuel l' (a.put N v) W) : wpAnyLast P md ops' QE S ds (fuel + 1) l a W :=
  take_ l' hi hN (take_ofW HT.out HW.out hc) hQ (Or.inl ⟨hw, hy⟩) hS rfl h
theorem za {α : Type} (xs : List α) (i : Nat) (x : α) : xs.toArray.setIfInBounds i x = (xs.set i x).toArray := List.setIfInBounds_toArray ..
theorem zb {α : Type} (x y : α) (xs : List α) : (x :: xs).set 0 y = y :: xs := rfl
theorem zc {α : Type} (x y : α) (xs : List α) (n : Nat) : (x :: xs).set (n + 1) y = x :: xs.set n y := rfl
theorem ta {S : World → Prop} {md : Region.Mode} {ds : List Nat} {i : Nat} {N : Option Tmp} {oi : Oper} {v : Value} {fuel : Nat} {l : Array Bool} (l' : Array Bool) (hi : ops'[i]? = some oi) (hN : oi.dst = N) (hc : takeB md ops' ds l l' i = true)
    (hQ : ∀ c a w, QE (.panic c) (a.put oi.dst v) w → QE (.panic c) a w) (hw : Region.wanted oi (yielded ops' a.tmps) = true) (hS : S W) (hy : ∀ w, S w → (execOp a.eval oi).run P w = .ok (.value v) w) (h : wpAnyLast P md ops' QE S ds fuel l' (a.put N v) W) : wpAnyLast P md ops' QE S ds (fuel + 1) l a W :=
  take_ l' hi hN hc hQ (Or.inl ⟨hw, hy⟩) hS rfl h
theorem ne1 {g g' : Nat} {o : Obj} (E : Aside0 (g = W.heap.size)) (F : Aside0 (W.heap[g']? = some o)) : Aside0 (g' ≠ g) := ⟨Nat.ne_of_lt (E.out ▸ blk_lt F.out)⟩
theorem bk {g g' : Nat} {o : Obj} (F : Aside0 (W.heap[g']? = some o)) (hk : KeepBut W W' g none) (N : g' ≠ g) : Aside0 (W'.heap[g']? = some o) := ⟨hk.blk F.out N (by simp)⟩
theorem rk {v : Value} {g t : Nat} {cs : Array Value} (R : Aside0 (Ow d e W b v xs)) (F : Aside0 (W.heap[g]? = some (.cells cs t (0, 0)))) (ht : ∀ q, q ∈ e :: d.E → q ≠ t) (hk : KeepBut W W' g none) : Aside0 (Ow d e W' b v xs) :=
  ⟨Kd.R_mono (Kd.R_keep (Kd.R_types R.out F.out ht) hk (fun _ q => q.2)) (fun _ q => q.1)⟩
end

theorem w64 {x : Int} (h0 : -9223372036854775808 ≤ x) (h1 : x ≤ 9223372036854775807) : wrap64 x = x := by
  unfold wrap64
  omega
theorem rd_drop {xs : List Int} {j : Nat} (h : j < xs.length) : xs.drop j = rd xs (j : Int) :: xs.drop (j + 1) := by
  rw [List.drop_eq_getElem_cons h]
  simp [rd, List.getD_eq_getElem?_getD, List.getElem?_eq_getElem h]
theorem andF {c x r : Bool} (h : (c && x) = r) (hc : c = false) : Ending.returned (Value.bool false) = Ending.returned (.bool r) := by subst h; rw [hc]; rfl
theorem andT {c x r : Bool} (h : (c && x) = r) (hc : c = true) : x = r := by subst h; rw [hc]; rfl
theorem useEq {α : Type} {a b : α} {p : Prop} (h : a = b) (k : a = b → p) : p := k h

/-! Strings compared. -/
theorem less_total : ∀ x y : List UInt8, (Op.bytesLess x y || x == y) = !(Op.bytesLess y x)
  | [], [] => rfl
  | [], _ :: _ => rfl
  | _ :: _, [] => rfl
  | a :: x, b :: y => by
    have ih := less_total x y
    simp only [Op.bytesLess]
    by_cases h : a = b
    · subst h
      simpa using ih
    · have h2 : (a == b) = false := beq_eq_false_iff_ne.mpr h
      have h3 : (b == a) = false := beq_eq_false_iff_ne.mpr (Ne.symm h)
      have h4 : (a :: x == b :: y) = false := beq_eq_false_iff_ne.mpr fun q => h (List.cons.inj q).1
      rw [h2, h3, h4]
      simp only [Bool.false_and, Bool.or_false]
      by_cases hl : a < b
      · have : ¬ b < a := by rw [UInt8.lt_iff_toNat_lt] at *; omega
        simp [hl, this]
      · have : b < a := by
          rw [UInt8.lt_iff_toNat_lt] at *
          have : a.toNat ≠ b.toNat := fun q => h (UInt8.toNat_inj.mp q)
          omega
        simp [hl, this]
theorem leq_str (t : TypeId) (a b : ByteArray) : binOp .leq t (.string a) (.string b) = pure (.bool !(Op.bytesLess b.toList a.toList)) := by
  rw [← less_total]
  simp [binOp, Op.stringOp]
theorem geq_str (t : TypeId) (a b : ByteArray) : binOp .geq t (.string a) (.string b) = pure (.bool !(Op.bytesLess a.toList b.toList)) := by
  simp [binOp, Op.stringOp]
theorem gtr_str (t : TypeId) (a b : ByteArray) : binOp .gtr t (.string a) (.string b) = pure (.bool (Op.bytesLess b.toList a.toList)) := by
  have h : (!(Op.bytesLess a.toList b.toList || a.toList == b.toList)) = Op.bytesLess b.toList a.toList := by rw [less_total, Bool.not_not]
  rw [← h, Bool.not_or]
  simp [binOp, Op.stringOp]
attribute [local go_sem] leq_str geq_str gtr_str

/-! Keys. -/
theorem ba_toList (s : ByteArray) : s.toList = s.data.toList := Lib.toList_data s
theorem ba_inj {s t : ByteArray} (h : s.toList = t.toList) : s = t := by
  rw [ba_toList, ba_toList] at h
  cases s; cases t; simp only [ByteArray.mk.injEq]; exact Array.toList_inj.mp h
theorem str_beq (a b : ByteArray) : (a.toList == b.toList) = decide (a = b) := by
  by_cases h : a = b
  · subst h; simp
  · rw [decide_eq_false h]; exact beq_eq_false_iff_ne.mpr fun q => h (ba_inj q)
theorem nil_iff (s : ByteArray) : s.toList = ([] : List UInt8) ↔ s.size = 0 := by
  rw [ba_toList]
  refine ⟨fun h => ?_, fun h => ?_⟩
  · have := data_length s
    rw [h] at this
    exact this.symm
  · exact List.eq_nil_of_length_eq_zero (by rw [data_length]; exact h)
def lowB (x : Int) : Bool := decide (97 ≤ x) && decide (x ≤ 122)
def keyB (s : ByteArray) : Bool := decide (1 ≤ s.size) && decide (s.size ≤ 4) && (bytesOf s).all lowB
theorem bt_drop' {s : ByteArray} {j : Nat} (h : j < s.size) : (bytesOf s).drop j = bt s (j : Int) :: (bytesOf s).drop (j + 1) := by
  rw [rd_drop (by rw [bytesOf_length]; exact h), rd_bytesOf]
theorem bytesOf_tail (s : ByteArray) : bytesOf (s.extract 1 s.size) = (bytesOf s).drop 1 := by
  unfold bytesOf
  rw [← List.map_drop]
  refine congrArg _ ?_
  rw [ByteArray.data_extract, Array.toList_extract]
  rw [List.extract_eq_take_drop, List.take_of_length_le (by rw [List.length_drop, data_length]; omega)]
def l1B (n lo hi : Int) : Bool := decide (lo ≤ n) && decide (n ≤ hi)
theorem spec_l1In.M (n lo hi : Int) (w : World) : Calls Try.prog 90 #[.int .i64 n, .int .i64 lo, .int .i64 hi] w fun e w' => e = .returned (.bool (l1B n lo hi)) ∧ Below w.heap.size w w' := by
  go_enter Try.func90, Try.ntmps90
  go_wp2
  all_goals go_ret
  all_goals (refine ⟨?_, Below.refl _ _⟩; unfold l1B; simp_all; try omega)
theorem spec_KeyValid.M (a : ByteArray) (w : World) : Calls Try.prog 89 #[.string a] w fun e w' => e = .returned (.bool (keyB a)) ∧ Below w.heap.size w w' := by
  have B := Aside0.mk (Below.refl w.heap.size w)
  obtain ⟨r, hr⟩ : ∃ r, keyB a = r := ⟨_, rfl⟩
  rw [hr]
  unfold keyB at hr
  by_cases hs : 1 ≤ a.size ∧ a.size ≤ 4
  · have hl : l1B (a.size : Int) 1 4 = true := by unfold l1B; simp; omega
    have H := Aside0.mk (show ((bytesOf a).drop 0).all lowB = r by simpa [hs.1, hs.2] using hr)
    clear hr
    go_enter Try.func89, Try.ntmps89
    go_wp2_with (first
      | (go_at_call 90; with_reducible refine cl (clv (spec_l1In.M _ 1 4 _) (congrArg Value.bool hl)) B fun w1 hb B => ?_; clear hb))
    go_loopg [3] (a.size + 1) (fun kx v3 wr => ∃ j : Nat, v3 = .int .i64 (j : Int) ∧ j ≤ a.size ∧ a.size < j + kx ∧ Aside0 (Below w.heap.size w wr) ∧ Aside0 (((bytesOf a).drop j).all lowB = r))
    case atStart => exact ⟨0, rfl, by omega, by omega, B, H⟩
    case round =>
      clear H B
      obtain ⟨j, rfl, hj, hk, B, H⟩ := hrel
      have H := H.out
      by_cases hlt : j < a.size
      · have p := eq_true (show (0 : Int) ≤ (j : Int) by omega)
        have q := eq_true (show (j : Int) < (a.size : Int) by omega)
        have q' := decide_eq_true (show (j : Int) < (a.size : Int) by omega)
        have hx : ((a[j]'hlt).toNat : Int) = bt a (j : Int) := bt_at a (j : Int) (by rw [Int.toNat_natCast]; exact hlt)
        rw [bt_drop' hlt] at H
        simp only [List.all_cons] at H
        generalize bt a (j : Int) = x at *
        obtain ⟨d, rfl⟩ : ∃ d, gk = d + 1 := ⟨gk - 1, by omega⟩
        by_cases hx : lowB x = true
        · have H' := Aside0.mk (show ((bytesOf a).drop (j + 1)).all lowB = r by simpa [hx] using H)
          clear H
          unfold lowB at hx
          simp only [Bool.and_eq_true, decide_eq_true_eq] at hx
          have d1 : decide (x < 97) = false := decide_eq_false (by omega)
          have d2 : decide (122 < x) = false := decide_eq_false (by omega)
          go_wp2
          go_roundg d
          case measure => omega
          case rel => exact ⟨j + 1, congrArg (Value.int .i64) (Int.natCast_succ _).symm, by omega, by omega, B, H'⟩
        · have hr : r = false := by simpa [hx] using H.symm
          subst hr
          clear H
          unfold lowB at hx
          simp only [Bool.and_eq_true, decide_eq_true_eq] at hx
          by_cases h97 : x < 97
          · have d1 : decide (x < 97) = true := decide_eq_true h97
            go_wp2
            go_ret
            exact ⟨by simp, B.out⟩
          · have d1 : decide (x < 97) = false := decide_eq_false h97
            have d2 : decide (122 < x) = true := decide_eq_true (by omega)
            go_wp2
            go_ret
            exact ⟨by simp, B.out⟩
      · have q' := decide_eq_false (show ¬ (j : Int) < (a.size : Int) by omega)
        have hr : r = true := by
          rw [List.drop_of_length_le (by rw [bytesOf_length]; omega)] at H
          simpa using H.symm
        subst hr
        go_wp2
        go_ret
        exact ⟨by simp, B.out⟩
  · have hl : l1B (a.size : Int) 1 4 = false := by unfold l1B; simp; omega
    have hr : r = false := by
      rw [← hr, Bool.and_eq_false_iff, Bool.and_eq_false_iff, decide_eq_false_iff_not, decide_eq_false_iff_not]
      omega
    subst hr
    go_enter Try.func89, Try.ntmps89
    go_wp2_with (first
      | (go_at_call 90; with_reducible refine cl (clv (spec_l1In.M _ 1 4 _) (congrArg Value.bool hl)) B fun w1 hb B => ?_; clear hb))
    go_ret
    exact ⟨by simp, B.out⟩
theorem impl_lettersOnly.M : ∀ (n : Nat) (a : ByteArray) (w : World), a.size = n → Calls Try.prog 108 #[.string a] w fun e w' => e = .returned (.bool ((bytesOf a).all lowB)) ∧ Below w.heap.size w w'
  | 0, a, w, h => by
    have hn : a.toList = [] := (nil_iff a).mpr h
    go_enter Try.func108, Try.ntmps108
    go_wp2
    all_goals (first | go_ret | skip)
    all_goals (first | exact absurd hn (by assumption) | skip)
    refine ⟨?_, Below.refl _ _⟩
    have : bytesOf a = [] := List.eq_nil_of_length_eq_zero (by rw [bytesOf_length]; exact h)
    rw [this]
    rfl
  | n + 1, a, w, h => by
    have B := Aside0.mk (Below.refl w.heap.size w)
    have hn : ¬ a.toList = [] := fun q => by have := (nil_iff a).mp q; omega
    have IH := Aside0.mk (fun W => impl_lettersOnly.M n (a.extract 1 a.size) W (by simp [h]))
    have hb0 := bt_drop' (s := a) (j := 0) (by omega)
    have h0 : 0 < a.size := by omega
    have hx : ((a[0]'h0).toNat : Int) = bt a ((0 : Nat) : Int) := bt_at a 0 (by simp; omega)
    have p := eq_true (show (0 : Int) < (a.size : Int) by omega)
    have p1 := eq_true (show 0 < a.size by omega)
    have p2 := eq_true (show 1 ≤ a.size by omega)
    rw [List.drop_zero] at hb0
    rw [bytesOf_tail] at IH
    rw [hb0]
    simp only [List.all_cons]
    clear hb0
    rw [Nat.zero_add]
    generalize (List.drop 1 (bytesOf a)).all lowB = r at IH ⊢
    generalize bt a ((0 : Nat) : Int) = x at hx ⊢
    clear h
    go_enter Try.func108, Try.ntmps108
    go_wp2_with (first
      | (go_at_call 108; with_reducible refine cl (IH.out _) B fun w1 hb B => ?_; clear hb))
    all_goals go_ret
    all_goals (refine ⟨?_, B.out⟩; unfold lowB; simp_all; try omega)
theorem impl_KeyValid.M (a : ByteArray) (w : World) : Calls Try.prog 80 #[.string a] w fun e w' => e = .returned (.bool (keyB a)) ∧ Below w.heap.size w w' := by
  have B := Aside0.mk (Below.refl w.heap.size w)
  go_enter Try.func80, Try.ntmps80
  go_wp2_with (first
    | (go_at_call 108; with_reducible refine cl (impl_lettersOnly.M _ a _ rfl) B fun w1 hb B => ?_; clear hb))
  all_goals go_ret
  all_goals (refine ⟨?_, B.out⟩; unfold keyB; simp_all; try omega)

/-! The model of intervals. -/
def ivB (lo hi : ByteArray) : Bool :=
  if lo.toList = ([] : List UInt8) then (if hi.toList = ([] : List UInt8) then true else keyB hi && Op.bytesLess [97] hi.toList)
  else keyB lo && (if hi.toList = ([] : List UInt8) then true else keyB hi && Op.bytesLess lo.toList hi.toList)
def insB (lo hi key : ByteArray) : Bool := !(Op.bytesLess key.toList lo.toList) && (if hi.toList = ([] : List UInt8) then true else Op.bytesLess key.toList hi.toList)
def lowK (a : ByteArray) : ByteArray := if a.toList = ([] : List UInt8) then ⟨#[97]⟩ else a
def cutB (lo hi key : ByteArray) : Bool := ivB lo hi && (keyB key && (ivB lo key && ivB key hi))
def cutV (lo hi key : ByteArray) : ByteArray × ByteArray × ByteArray × ByteArray × Bool := if cutB lo hi key = true then (lo, key, key, hi, true) else (⟨#[]⟩, ⟨#[]⟩, ⟨#[]⟩, ⟨#[]⟩, false)
/-- a key begins with a letter, so it is a or greater -/
theorem key_a {s : ByteArray} (h : keyB s = true) : Op.bytesLess [97] s.toList = (Op.bytesLess [] s.toList && (s.toList != ([97] : List UInt8))) := by
  unfold keyB at h
  rw [Bool.and_eq_true, Bool.and_eq_true, decide_eq_true_eq] at h
  have h2 := h.2
  unfold bytesOf at h2
  rw [ba_toList]
  have hs : s.data.toList.length = s.size := data_length s
  generalize s.data.toList = x at *
  cases x with
  | nil => simp only [List.length_nil] at hs; omega
  | cons b r =>
    simp only [List.map_cons, List.all_cons, Bool.and_eq_true] at h2
    have hb := h2.1
    unfold lowB at hb
    rw [Bool.and_eq_true, decide_eq_true_eq] at hb
    have h97 : (97 : UInt8).toNat ≤ b.toNat := by have := hb.1; show 97 ≤ b.toNat; omega
    rw [show Op.bytesLess [] (b :: r) = true from rfl, Bool.true_and]
    simp only [Op.bytesLess]
    by_cases e : b = 97
    · subst e
      cases r with
      | nil => decide
      | cons c r => simp [Op.bytesLess]
    · have h3 : (97 : UInt8) < b := by
        rw [UInt8.lt_iff_toNat_lt]
        have : b.toNat ≠ (97 : UInt8).toNat := fun h => e (UInt8.toNat_inj.mp h)
        omega
      simp [h3, e]
theorem toL97 : (⟨#[97]⟩ : ByteArray).toList = [97] := by rw [ba_toList]
theorem toL0 : (⟨#[]⟩ : ByteArray).toList = [] := by rw [ba_toList]
theorem less_nil {x : List UInt8} (h : ¬ x = []) : Op.bytesLess [] x = true := by cases x with | nil => exact absurd rfl h | cons => rfl
theorem cutV_ok (lo hi key : ByteArray) : (cutV lo hi key).2.2.2.2 = cutB lo hi key := by
  unfold cutV
  cases cutB lo hi key <;> rfl

theorem spec_IntervalValid.M (a b : ByteArray) (w : World) : Calls Try.prog 47 #[.agg #[.string a, .string b]] w fun e w' => e = .returned (.bool (ivB a b)) ∧ Below w.heap.size w w' := by
 have B := Aside0.mk (Below.refl w.heap.size w)
 have hu := Try.underlying30
 go_enter Try.func47, Try.ntmps47
 go_wp2_with (first
  | ((with_reducible refine gate_dst (N := 1) rfl ?_); refine bx ?hg (N := 1) ?hd (cs := #[.string a, .string b]) (t := 30) ?hr B ?_; (case hd | hg => rfl); (case hr => go_simp; first | done | rfl); intro g1 w1 hb B F1 L1 E1; obtain ⟨c1_0, c1_1⟩ := cs2 F1; clear hb E1)
  | (go_at_call 89; with_reducible refine cl (spec_KeyValid.M a _) B fun w2 hb B => ?_; replace F1 := bn F1 hb; clear c1_0 c1_1; obtain ⟨c1_0, c1_1⟩ := cs2 F1; clear hb)
  | (go_at_call 89; with_reducible refine cl (spec_KeyValid.M b _) B fun w3 hb B => ?_; replace F1 := bn F1 hb; clear c1_0 c1_1; obtain ⟨c1_0, c1_1⟩ := cs2 F1; clear hb))
 all_goals go_ret
 all_goals
  refine ⟨?_, B.out⟩
  unfold ivB
  by_cases ha : a.toList = [] <;> by_cases hb : b.toList = [] <;> cases ka : keyB a <;> cases kb : keyB b <;> simp_all [toL97, toL0, key_a, less_nil] <;> (try omega) <;> (rw [show b.toList.isEmpty = false by simp [hb]]; rfl)
theorem impl_lowestKey.M (a b : ByteArray) (w : World) : Calls Try.prog 93 #[.agg #[.string a, .string b]] w fun e w' => e = .returned (.string (lowK a)) ∧ Below w.heap.size w w' := by
 have B := Aside0.mk (Below.refl w.heap.size w)
 have hu := Try.underlying30
 go_enter Try.func93, Try.ntmps93
 go_wp2_with (first
  | ((with_reducible refine gate_dst (N := 1) rfl ?_); refine bx ?hg (N := 1) ?hd (cs := #[.string a, .string b]) (t := 30) ?hr B ?_; (case hd | hg => rfl); (case hr => go_simp; first | done | rfl); intro g1 w1 hb B F1 L1 E1; obtain ⟨c1_0, c1_1⟩ := cs2 F1; clear hb E1))
 all_goals go_ret
 all_goals (refine ⟨?_, B.out⟩; unfold lowK; simp_all)
def impl_IntervalValid.T3 : Bool × List (List Nat × List Nat) := (true, [([], []), ([0], [0]), ([1], [1]), ([2], [2]), ([3], [3]), ([4, 3, 3], [3, 4]), ([3], [3]), ([6, 3], [3, 6]), ([5, 7, 3], [3, 5, 7]), ([3, 8], [3, 8]), ([9, 5, 0, 1, 2, 3, 4, 5, 6, 7, 8, 9], [9])])
def impl_IntervalValid.B3 : List Nat := [0, 1, 3, 7, 15, 31, 15, 79, 255, 511, 1023]
theorem impl_IntervalValid.tab3 : rtab .any (opsOf Try.f55 3) = impl_IntervalValid.T3 := by kernel_rfl
theorem impl_IntervalValid.bits3 : waitsOk impl_IntervalValid.T3.2 impl_IntervalValid.B3 = true := by kernel_rfl
theorem impl_IntervalValid.M (a b : ByteArray) (w : World) : Calls Try.prog 55 #[.agg #[.string a, .string b]] w fun e w' => e = .returned (.bool (ivB a b)) ∧ Below w.heap.size w w' := by
 have B := Aside0.mk (Below.refl w.heap.size w)
 have hu := Try.underlying30
 go_enter Try.func55, Try.ntmps55
 go_wp2_with (first
  | ((with_reducible refine gate_dst (N := 1) rfl ?_); refine bx ?hg (N := 1) ?hd (cs := #[.string a, .string b]) (t := 30) ?hr B ?_; (case hd | hg => rfl); (case hr => go_simp; first | done | rfl); intro g1 w1 hb B F1 L1 E1; obtain ⟨c1_0, c1_1⟩ := cs2 F1; clear hb E1)
  | (go_at_call 80; with_reducible refine cl (impl_KeyValid.M a _) B fun w2 hb B => ?_; replace F1 := bn F1 hb; clear c1_0 c1_1; obtain ⟨c1_0, c1_1⟩ := cs2 F1; clear hb)
  | (go_at_call 80; with_reducible refine cl (impl_KeyValid.M b _) B fun w3 hb B => ?_; replace F1 := bn F1 hb; clear c1_0 c1_1; obtain ⟨c1_0, c1_1⟩ := cs2 F1; clear hb))
 all_goals try (go_ret; refine ⟨?_, B.out⟩; unfold ivB; (try unfold lowK); by_cases ha : a.toList = [] <;> by_cases hb : b.toList = [] <;> cases ka : keyB a <;> cases kb : keyB b <;> simp_all [toL97, toL0]; done)
 all_goals (
  by_cases hq0 : b.toList = ([] : List UInt8)
  ·first
   | exact absurd hq0 (by assumption)
   | (
    have hd0 : (b.toList == ([] : List UInt8)) = true := by simp [hq0]
    refine rg (n := 11) (S := fun W => W.heap[g1]? = some (.cells #[.string a, .string b] 30 (0, 0))) (ds := []) #[false, false, false, false, false, false, false, false, false, false, false] (by kernel_rfl) rfl rfl F1.out id B (fun w4 hb B hHeld => ?_)
    refine with_tabW impl_IntervalValid.tab3 impl_IntervalValid.bits3 (fun HT_ HW_ => ?_)
    replace F1 := bn F1 hb
    clear hb
    refine pv 0 (some 23) (v := ?_) (bits 11 1) HT_ (by kernel_rfl) rfl rfl (fun _ _ _ h => h) (by kernel_rfl) ?_ ?_; rotate_left; (intro w'; go_simp; with_reducible rfl)
    refine tv 1 (some 24) (v := ?_) (bits 11 3) HT_ HW_ (by kernel_rfl) rfl rfl (fun _ _ _ h => h) (by kernel_rfl) hHeld ?_ ?_; rotate_left; (intro w' hS; have s0 := hS; obtain ⟨q0, q1⟩ := cs2 (Aside0.mk s0); go_simp; with_reducible rfl)
    refine pv 2 (some 25) (v := ?_) (bits 11 7) HT_ (by kernel_rfl) rfl rfl (fun _ _ _ h => h) (by kernel_rfl) ?_ ?_; rotate_left; (intro w'; go_simp; with_reducible rfl)
    refine pv 3 (some 26) (v := ?_) (bits 11 15) HT_ (by kernel_rfl) rfl rfl (fun _ _ _ h => h) (by kernel_rfl) ?_ ?_; rotate_left; (intro w'; go_simp; with_reducible rfl)
    refine sv 4 (some 27) (bits 11 31) HT_ (by kernel_rfl) rfl rfl (fun _ _ _ h => h) (by kernel_rfl) ?_
    refine sv 5 (some 28) (bits 11 63) HT_ (by kernel_rfl) rfl rfl (fun _ _ _ h => h) (by kernel_rfl) ?_
    refine sv 6 (some 29) (bits 11 127) HT_ (by kernel_rfl) rfl rfl (fun _ _ _ h => h) (by kernel_rfl) ?_
    refine sv 7 (some 30) (bits 11 255) HT_ (by kernel_rfl) rfl rfl (fun _ _ _ h => h) (by kernel_rfl) ?_
    refine sv 8 (some 31) (bits 11 511) HT_ (by kernel_rfl) rfl rfl (fun _ _ _ h => h) (by kernel_rfl) ?_
    refine pv 9 (some 32) (v := ?_) (bits 11 1023) HT_ (by kernel_rfl) rfl rfl (fun _ _ _ h => h) (by kernel_rfl) ?_ ?_; rotate_left; (intro w'; go_simp; with_reducible rfl)
    refine pv 10 (some 2) (v := ?_) (bits 11 2047) HT_ (by kernel_rfl) rfl rfl (fun _ _ _ h => h) (by kernel_rfl) ?_ ?_; rotate_left; (intro w'; go_simp; with_reducible rfl)
    refine norm_ (a' := ?_) ?_ ?_
    rotate_left
    ·simp only [Act.put, za, zb, zc, i64_w, i32_w]
     rfl
    refine done_ (done_of HT_.out (by kernel_rfl)) ?_
    try go_wp2
    go_ret
    refine ⟨?_, B.out⟩
    unfold ivB; (try unfold lowK); by_cases ha : a.toList = [] <;> by_cases hb : b.toList = [] <;> cases ka : keyB a <;> cases kb : keyB b <;> simp_all [toL97, toL0]
    )
  ·first
   | exact absurd (by assumption) hq0
   | (
    have hd0 : (b.toList == ([] : List UInt8)) = false := by simp [hq0]
    refine rg (n := 11) (S := fun W => W.heap[g1]? = some (.cells #[.string a, .string b] 30 (0, 0))) (ds := []) #[false, false, false, false, false, false, false, false, false, false, false] (by kernel_rfl) rfl rfl F1.out id B (fun w4 hb B hHeld => ?_)
    refine with_tabW impl_IntervalValid.tab3 impl_IntervalValid.bits3 (fun HT_ HW_ => ?_)
    replace F1 := bn F1 hb
    clear hb
    refine pv 0 (some 23) (v := ?_) (bits 11 1) HT_ (by kernel_rfl) rfl rfl (fun _ _ _ h => h) (by kernel_rfl) ?_ ?_; rotate_left; (intro w'; go_simp; with_reducible rfl)
    refine tv 1 (some 24) (v := ?_) (bits 11 3) HT_ HW_ (by kernel_rfl) rfl rfl (fun _ _ _ h => h) (by kernel_rfl) hHeld ?_ ?_; rotate_left; (intro w' hS; have s0 := hS; obtain ⟨q0, q1⟩ := cs2 (Aside0.mk s0); go_simp; with_reducible rfl)
    refine pv 2 (some 25) (v := ?_) (bits 11 7) HT_ (by kernel_rfl) rfl rfl (fun _ _ _ h => h) (by kernel_rfl) ?_ ?_; rotate_left; (intro w'; go_simp; with_reducible rfl)
    refine pv 3 (some 26) (v := ?_) (bits 11 15) HT_ (by kernel_rfl) rfl rfl (fun _ _ _ h => h) (by kernel_rfl) ?_ ?_; rotate_left; (intro w'; go_simp; with_reducible rfl)
    refine tv 4 (some 27) (v := ?_) (bits 11 31) HT_ HW_ (by kernel_rfl) rfl rfl (fun _ _ _ h => h) (by kernel_rfl) hHeld ?_ ?_; rotate_left; (intro w' hS; have s0 := hS; obtain ⟨q0, q1⟩ := cs2 (Aside0.mk s0); go_simp; with_reducible rfl)
    refine pv 6 (some 29) (v := ?_) (bits 11 95) HT_ (by kernel_rfl) rfl rfl (fun _ _ _ h => h) (by kernel_rfl) ?_ ?_; rotate_left; (intro w'; go_simp; with_reducible rfl)
    refine tv 7 (some 30) (v := ?_) (bits 11 223) HT_ HW_ (by kernel_rfl) rfl rfl (fun _ _ _ h => h) (by kernel_rfl) hHeld ?_ ?_; rotate_left; (intro w' hS; have s0 := hS; obtain ⟨q0, q1⟩ := cs2 (Aside0.mk s0); go_simp; with_reducible rfl)
    refine norm_ (a' := ?_) ?_ ?_
    rotate_left
    ·simp only [Act.put, za, zb, zc, i64_w, i32_w]
     rfl
    refine one_ (i := 5) (N := some 28) (bits 11 255) rfl rfl (one_of HT_.out (by kernel_rfl)) (by decide) (fun K hK => ?_)
    refine goes_ Try.func93 (by kernel_rfl) rfl #[.agg #[.string a, .string b]] (by rfl) rfl rfl (by (try simp only [List.map_toArray, List.map_cons, List.map_nil]); rfl) ?_
    with_reducible refine cl (impl_lowestKey.M a b _) B fun w5 hb B => ?_
    replace F1 := bn F1 hb
    clear hb
    refine ⟨_, rfl, ?_⟩
    refine hK.out _ _ F1.out (fun hHeld => ?_)
    clear hK K
    refine norm_ (a' := ?_) ?_ ?_
    rotate_left
    ·show Act.put _ (some 28) _ = _
     simp only [Act.put, za, zb, zc, i64_w, i32_w]
     rfl
    refine pv 8 (some 31) (v := ?_) (bits 11 511) HT_ (by kernel_rfl) rfl rfl (fun _ _ _ h => h) (by kernel_rfl) ?_ ?_; rotate_left; (intro w'; go_simp; with_reducible rfl)
    refine pv 9 (some 32) (v := ?_) (bits 11 1023) HT_ (by kernel_rfl) rfl rfl (fun _ _ _ h => h) (by kernel_rfl) ?_ ?_; rotate_left; (intro w'; go_simp; with_reducible rfl)
    refine pv 10 (some 2) (v := ?_) (bits 11 2047) HT_ (by kernel_rfl) rfl rfl (fun _ _ _ h => h) (by kernel_rfl) ?_ ?_; rotate_left; (intro w'; go_simp; with_reducible rfl)
    refine norm_ (a' := ?_) ?_ ?_
    rotate_left
    ·simp only [Act.put, za, zb, zc, i64_w, i32_w]
     rfl
    refine done_ (done_of HT_.out (by kernel_rfl)) ?_
    try go_wp2
    go_ret
    refine ⟨?_, B.out⟩
    unfold ivB; (try unfold lowK); by_cases ha : a.toList = [] <;> by_cases hb : b.toList = [] <;> cases ka : keyB a <;> cases kb : keyB b <;> simp_all [toL97, toL0]
    ))
 all_goals try go_wp2
 all_goals try (go_ret; refine ⟨?_, B.out⟩; unfold ivB; (try unfold lowK); by_cases ha : a.toList = [] <;> by_cases hb : b.toList = [] <;> cases ka : keyB a <;> cases kb : keyB b <;> simp_all [toL97, toL0]; done)

def spec_IntervalCut.T5 : Bool × List (List Nat × List Nat) := (true, [([], []), ([], []), ([0, 0], [0]), ([1, 2, 0, 1, 2], [1]), ([3, 0, 1, 2, 3], [])])
def spec_IntervalCut.B5 : List Nat := [0, 0, 1, 7, 15]
theorem spec_IntervalCut.tab5 : rtab .any (opsOf Try.f51 5) = spec_IntervalCut.T5 := by kernel_rfl
theorem spec_IntervalCut.bits5 : waitsOk spec_IntervalCut.T5.2 spec_IntervalCut.B5 = true := by kernel_rfl
theorem spec_IntervalCut.M (a b c : ByteArray) (w : World) : Calls Try.prog 51 #[.agg #[.string a, .string b], .string c] w fun e w' => e = .returned (.tuple #[.agg #[.string (cutV a b c).1, .string (cutV a b c).2.1], .agg #[.string (cutV a b c).2.2.1, .string (cutV a b c).2.2.2.1], .bool (cutV a b c).2.2.2.2]) ∧ Below w.heap.size w w' := by
 have B := Aside0.mk (Below.refl w.heap.size w)
 have hu := Try.underlying30
 go_enter Try.func51, Try.ntmps51
 go_wp2_with (first
  | ((with_reducible refine gate_dst (N := 2) rfl ?_); refine bx ?hg (N := 2) ?hd (cs := #[.string a, .string b]) (t := 30) ?hr B ?_; (case hd | hg => rfl); (case hr => go_simp; first | done | rfl); intro g2 w1 hb B F2 L2 E2; obtain ⟨c2_0, c2_1⟩ := cs2 F2; clear hb E2)
  | ((with_reducible refine gate_dst (N := 4) rfl ?_); refine bx ?hg (N := 4) ?hd (cs := #[.string (⟨#[]⟩ : ByteArray), .string (⟨#[]⟩ : ByteArray)]) (t := 30) ?hr B ?_; (case hd | hg => rfl); (case hr => go_simp; first | done | rfl); intro g4 w2 hb B F4 L4 E4; have N2_4 := ne1 E4 F2; replace F2 := bn F2 hb; clear c2_0 c2_1; obtain ⟨c2_0, c2_1⟩ := cs2 F2; clear hb E4)
  | ((with_reducible refine gate_dst (N := 5) rfl ?_); refine bx ?hg (N := 5) ?hd (cs := #[.string (⟨#[]⟩ : ByteArray), .string (⟨#[]⟩ : ByteArray)]) (t := 30) ?hr B ?_; (case hd | hg => rfl); (case hr => go_simp; first | done | rfl); intro g5 w3 hb B F5 L5 E5; have N2_5 := ne1 E5 F2; have N4_5 := ne1 E5 F4; replace F2 := bn F2 hb; replace F4 := bn F4 hb; clear c2_0 c2_1; obtain ⟨c2_0, c2_1⟩ := cs2 F2; clear hb E5)
  | ((with_reducible refine gate_dst (N := 7) rfl ?_); refine bx ?hg (N := 7) ?hd (cs := #[.string (⟨#[]⟩ : ByteArray), .string (⟨#[]⟩ : ByteArray)]) (t := 30) ?hr B ?_; (case hd | hg => rfl); (case hr => go_simp; first | done | rfl); intro g7 w4 hb B F7 L7 E7; have N2_7 := ne1 E7 F2; have N4_7 := ne1 E7 F4; have N5_7 := ne1 E7 F5; replace F2 := bn F2 hb; replace F4 := bn F4 hb; replace F5 := bn F5 hb; clear c2_0 c2_1; obtain ⟨c2_0, c2_1⟩ := cs2 F2; obtain ⟨c7_0, c7_1⟩ := cs2 F7; clear hb E7)
  | ((with_reducible refine gate_store (t := 30) (p := 7) rfl ?_); obtain ⟨y0, y1, z0, z1⟩ := cz2 F7; refine sx (t := 30) (t' := 30) (p := 7) (v := ?vo5) ?hg ?ho ?hn 0 [.string a, .string c] [.string a, .string c] ?hr B F7 L7 rfl (Nat.le_of_ble_eq_true rfl) ?_; (case ho | hg | hn => rfl); (case hr => go_simp; first | done | rfl); intro w5 hk B G; replace F2 := bk F2 hk N2_7.out; replace F4 := bk F4 hk N4_7.out; replace F5 := bk F5 hk N5_7.out; replace F7 := G; clear c2_0 c2_1; obtain ⟨c2_0, c2_1⟩ := cs2 F2; clear c7_0 c7_1; obtain ⟨c7_0, c7_1⟩ := cs2 F7; clear hk y0 z0 y1 z1)
  | ((with_reducible refine gate_dst (N := 8) rfl ?_); refine bx ?hg (N := 8) ?hd (cs := #[.string (⟨#[]⟩ : ByteArray), .string (⟨#[]⟩ : ByteArray)]) (t := 30) ?hr B ?_; (case hd | hg => rfl); (case hr => go_simp; first | done | rfl); intro g8 w6 hb B F8 L8 E8; have N2_8 := ne1 E8 F2; have N4_8 := ne1 E8 F4; have N5_8 := ne1 E8 F5; have N7_8 := ne1 E8 F7; replace F2 := bn F2 hb; replace F4 := bn F4 hb; replace F5 := bn F5 hb; replace F7 := bn F7 hb; clear c2_0 c2_1; obtain ⟨c2_0, c2_1⟩ := cs2 F2; clear c7_0 c7_1; obtain ⟨c7_0, c7_1⟩ := cs2 F7; obtain ⟨c8_0, c8_1⟩ := cs2 F8; clear hb E8)
  | ((with_reducible refine gate_store (t := 30) (p := 8) rfl ?_); obtain ⟨y0, y1, z0, z1⟩ := cz2 F8; refine sx (t := 30) (t' := 30) (p := 8) (v := ?vo7) ?hg ?ho ?hn 0 [.string c, .string b] [.string c, .string b] ?hr B F8 L8 rfl (Nat.le_of_ble_eq_true rfl) ?_; (case ho | hg | hn => rfl); (case hr => go_simp; first | done | rfl); intro w7 hk B G; replace F2 := bk F2 hk N2_8.out; replace F4 := bk F4 hk N4_8.out; replace F5 := bk F5 hk N5_8.out; replace F7 := bk F7 hk N7_8.out; replace F8 := G; clear c2_0 c2_1; obtain ⟨c2_0, c2_1⟩ := cs2 F2; clear c7_0 c7_1; obtain ⟨c7_0, c7_1⟩ := cs2 F7; clear c8_0 c8_1; obtain ⟨c8_0, c8_1⟩ := cs2 F8; clear hk y0 z0 y1 z1)
  | (go_at_call 47; with_reducible refine cl (spec_IntervalValid.M a b _) B fun w8 hb B => ?_; replace F4 := bn F4 hb; replace F5 := bn F5 hb; replace F7 := bn F7 hb; replace F8 := bn F8 hb; clear c7_0 c7_1; obtain ⟨c7_0, c7_1⟩ := cs2 F7; clear c8_0 c8_1; obtain ⟨c8_0, c8_1⟩ := cs2 F8; clear hb)
  | (go_at_call 89; with_reducible refine cl (spec_KeyValid.M c _) B fun w9 hb B => ?_; replace F4 := bn F4 hb; replace F5 := bn F5 hb; replace F7 := bn F7 hb; replace F8 := bn F8 hb; clear c7_0 c7_1; obtain ⟨c7_0, c7_1⟩ := cs2 F7; clear c8_0 c8_1; obtain ⟨c8_0, c8_1⟩ := cs2 F8; clear hb)
  | (go_at_call 47; with_reducible refine cl (spec_IntervalValid.M a c _) B fun w10 hb B => ?_; replace F4 := bn F4 hb; replace F5 := bn F5 hb; replace F7 := bn F7 hb; replace F8 := bn F8 hb; clear c7_0 c7_1; obtain ⟨c7_0, c7_1⟩ := cs2 F7; clear c8_0 c8_1; obtain ⟨c8_0, c8_1⟩ := cs2 F8; clear hb)
  | (go_at_call 47; with_reducible refine cl (spec_IntervalValid.M c b _) B fun w11 hb B => ?_; replace F4 := bn F4 hb; replace F5 := bn F5 hb; replace F7 := bn F7 hb; replace F8 := bn F8 hb; clear c7_0 c7_1; obtain ⟨c7_0, c7_1⟩ := cs2 F7; clear c8_0 c8_1; obtain ⟨c8_0, c8_1⟩ := cs2 F8; clear hb)
  | ((with_reducible refine gate_store (t := 30) (p := 4) rfl ?_); obtain ⟨y0, y1, z0, z1⟩ := cz2 F4; refine sx (t := 30) (t' := 30) (p := 4) (v := ?vo12) ?hg ?ho ?hn 0 [.string (⟨#[]⟩ : ByteArray), .string (⟨#[]⟩ : ByteArray)] [.string (⟨#[]⟩ : ByteArray), .string (⟨#[]⟩ : ByteArray)] ?hr B F4 L4 rfl (Nat.le_of_ble_eq_true rfl) ?_; (case ho | hg | hn => rfl); (case hr => go_simp; first | done | rfl); intro w12 hk B G; replace F5 := bk F5 hk N4_5.out.symm; replace F7 := bk F7 hk N4_7.out.symm; replace F8 := bk F8 hk N4_8.out.symm; replace F4 := G; clear c7_0 c7_1; obtain ⟨c7_0, c7_1⟩ := cs2 F7; clear c8_0 c8_1; obtain ⟨c8_0, c8_1⟩ := cs2 F8; clear hk y0 z0 y1 z1)
  | ((with_reducible refine gate_store (t := 30) (p := 5) rfl ?_); obtain ⟨y0, y1, z0, z1⟩ := cz2 F5; refine sx (t := 30) (t' := 30) (p := 5) (v := ?vo13) ?hg ?ho ?hn 0 [.string (⟨#[]⟩ : ByteArray), .string (⟨#[]⟩ : ByteArray)] [.string (⟨#[]⟩ : ByteArray), .string (⟨#[]⟩ : ByteArray)] ?hr B F5 L5 rfl (Nat.le_of_ble_eq_true rfl) ?_; (case ho | hg | hn => rfl); (case hr => go_simp; first | done | rfl); intro w13 hk B G; replace F4 := bk F4 hk N4_5.out; replace F7 := bk F7 hk N5_7.out.symm; replace F8 := bk F8 hk N5_8.out.symm; replace F5 := G; clear c7_0 c7_1; obtain ⟨c7_0, c7_1⟩ := cs2 F7; clear c8_0 c8_1; obtain ⟨c8_0, c8_1⟩ := cs2 F8; clear hk y0 z0 y1 z1))
 all_goals try (refine bodyPost_ret (results_list (rs := [.cell 4 30, .cell 5 30, .tmp 6]) rfl (by simp) (.cell g4 30 _ (0, 0) _ rfl F4.out hu rfl (by kernel_rfl) (.cell g5 30 _ (0, 0) _ rfl F5.out hu rfl (by kernel_rfl) (.tmp .nil)))) rfl ?_; refine ⟨?_, B.out⟩; unfold cutV cutB; simp_all; done)
 all_goals (
  refine rg (n := 5) (S := fun W => W.heap[g7]? = some (.cells #[.string a, .string c] 30 (0, 0)) ∧ W.heap[g8]? = some (.cells #[.string c, .string b] 30 (0, 0))) (ds := []) #[false, false, false, false, false] (by kernel_rfl) rfl rfl ⟨F7.out, F8.out⟩ id B (fun w14 hb B hHeld => ?_)
  refine with_tabW spec_IntervalCut.tab5 spec_IntervalCut.bits5 (fun HT_ HW_ => ?_)
  replace F4 := bn F4 hb
  replace F5 := bn F5 hb
  replace F7 := bn F7 hb
  replace F8 := bn F8 hb
  clear hb
  refine tv 0 (some 37) (v := ?_) (bits 5 1) HT_ HW_ (by kernel_rfl) rfl rfl (fun _ _ _ h => h) (by kernel_rfl) hHeld ?_ ?_; rotate_left; (intro w' hS; obtain ⟨s0, s1⟩ := hS; obtain ⟨q0, q1⟩ := cs2 (Aside0.mk s0); go_simp; with_reducible rfl)
  refine tv 1 (some 38) (v := ?_) (bits 5 3) HT_ HW_ (by kernel_rfl) rfl rfl (fun _ _ _ h => h) (by kernel_rfl) hHeld ?_ ?_; rotate_left; (intro w' hS; obtain ⟨s0, s1⟩ := hS; obtain ⟨q0, q1⟩ := cs2 (Aside0.mk s1); go_simp; with_reducible rfl)
  refine norm_ (a' := ?_) ?_ ?_
  rotate_left
  ·simp only [Act.put, za, zb, zc, i64_w, i32_w]
   rfl
  refine one_ (i := 2) (N := none) (bits 5 7) rfl rfl (one_of HT_.out (by kernel_rfl)) (by decide) (fun K hK => ?_)
  obtain ⟨y0, y1, z0, z1⟩ := cz2 F4
  refine sxs (g := g4) 0 [.string a, .string c] [.string a, .string c] (by rfl) rfl ?hr B F4 L4 rfl (Nat.le_of_ble_eq_true rfl) (fun w15 hk B G => ?_)
  (case hr => go_simp; first | done | rfl)
  replace F5 := bk F5 hk N4_5.out.symm
  replace F7 := bk F7 hk N4_7.out.symm
  replace F8 := bk F8 hk N4_8.out.symm
  replace F4 := G
  clear hk y0 z0 y1 z1
  refine hK.out _ _ ⟨F7.out, F8.out⟩ (fun hHeld => ?_)
  clear hK K
  refine one_ (i := 3) (N := none) (bits 5 15) rfl rfl (one_of HT_.out (by kernel_rfl)) (by decide) (fun K hK => ?_)
  obtain ⟨y0, y1, z0, z1⟩ := cz2 F5
  refine sxs (g := g5) 0 [.string c, .string b] [.string c, .string b] (by rfl) rfl ?hr B F5 L5 rfl (Nat.le_of_ble_eq_true rfl) (fun w16 hk B G => ?_)
  (case hr => go_simp; first | done | rfl)
  replace F4 := bk F4 hk N4_5.out
  replace F7 := bk F7 hk N5_7.out.symm
  replace F8 := bk F8 hk N5_8.out.symm
  replace F5 := G
  clear hk y0 z0 y1 z1
  refine hK.out _ _ ⟨F7.out, F8.out⟩ (fun hHeld => ?_)
  clear hK K
  refine pv 4 (some 6) (v := ?_) (bits 5 31) HT_ (by kernel_rfl) rfl rfl (fun _ _ _ h => h) (by kernel_rfl) ?_ ?_; rotate_left; (intro w'; go_simp; with_reducible rfl)
  refine norm_ (a' := ?_) ?_ ?_
  rotate_left
  ·simp only [Act.put, za, zb, zc, i64_w, i32_w]
   rfl
  refine done_ (done_of HT_.out (by kernel_rfl)) ?_)
 all_goals try go_wp2
 all_goals try (refine bodyPost_ret (results_list (rs := [.cell 4 30, .cell 5 30, .tmp 6]) rfl (by simp) (.cell g4 30 _ (0, 0) _ rfl F4.out hu rfl (by kernel_rfl) (.cell g5 30 _ (0, 0) _ rfl F5.out hu rfl (by kernel_rfl) (.tmp .nil)))) rfl ?_; refine ⟨?_, B.out⟩; unfold cutV cutB; simp_all; done)

def impl_IntervalCut.T7 : Bool × List (List Nat × List Nat) := (true, [([], []), ([], []), ([0, 0], [0]), ([1, 2, 0, 1, 2], [1]), ([3, 0, 1, 2, 3], [])])
def impl_IntervalCut.B7 : List Nat := [0, 0, 1, 7, 15]
theorem impl_IntervalCut.tab7 : rtab .any (opsOf Try.f59 7) = impl_IntervalCut.T7 := by kernel_rfl
theorem impl_IntervalCut.bits7 : waitsOk impl_IntervalCut.T7.2 impl_IntervalCut.B7 = true := by kernel_rfl
theorem impl_IntervalCut.M (a b c : ByteArray) (w : World) : Calls Try.prog 59 #[.agg #[.string a, .string b], .string c] w fun e w' => e = .returned (.tuple #[.agg #[.string (cutV a b c).1, .string (cutV a b c).2.1], .agg #[.string (cutV a b c).2.2.1, .string (cutV a b c).2.2.2.1], .bool (cutV a b c).2.2.2.2]) ∧ Below w.heap.size w w' := by
 have B := Aside0.mk (Below.refl w.heap.size w)
 have hu := Try.underlying30
 go_enter Try.func59, Try.ntmps59
 go_wp2_with (first
  | ((with_reducible refine gate_dst (N := 2) rfl ?_); refine bx ?hg (N := 2) ?hd (cs := #[.string a, .string b]) (t := 30) ?hr B ?_; (case hd | hg => rfl); (case hr => go_simp; first | done | rfl); intro g2 w1 hb B F2 L2 E2; obtain ⟨c2_0, c2_1⟩ := cs2 F2; clear hb E2)
  | ((with_reducible refine gate_dst (N := 4) rfl ?_); refine bx ?hg (N := 4) ?hd (cs := #[.string (⟨#[]⟩ : ByteArray), .string (⟨#[]⟩ : ByteArray)]) (t := 30) ?hr B ?_; (case hd | hg => rfl); (case hr => go_simp; first | done | rfl); intro g4 w2 hb B F4 L4 E4; have N2_4 := ne1 E4 F2; replace F2 := bn F2 hb; clear c2_0 c2_1; obtain ⟨c2_0, c2_1⟩ := cs2 F2; clear hb E4)
  | ((with_reducible refine gate_dst (N := 5) rfl ?_); refine bx ?hg (N := 5) ?hd (cs := #[.string (⟨#[]⟩ : ByteArray), .string (⟨#[]⟩ : ByteArray)]) (t := 30) ?hr B ?_; (case hd | hg => rfl); (case hr => go_simp; first | done | rfl); intro g5 w3 hb B F5 L5 E5; have N2_5 := ne1 E5 F2; have N4_5 := ne1 E5 F4; replace F2 := bn F2 hb; replace F4 := bn F4 hb; clear c2_0 c2_1; obtain ⟨c2_0, c2_1⟩ := cs2 F2; clear hb E5)
  | (go_at_call 55; with_reducible refine cl (impl_IntervalValid.M a b _) B fun w4 hb B => ?_; replace F2 := bn F2 hb; replace F4 := bn F4 hb; replace F5 := bn F5 hb; clear c2_0 c2_1; obtain ⟨c2_0, c2_1⟩ := cs2 F2; clear hb)
  | (go_at_call 80; with_reducible refine cl (impl_KeyValid.M c _) B fun w5 hb B => ?_; replace F2 := bn F2 hb; replace F4 := bn F4 hb; replace F5 := bn F5 hb; clear c2_0 c2_1; obtain ⟨c2_0, c2_1⟩ := cs2 F2; clear hb)
  | ((with_reducible refine gate_store (t := 30) (p := 4) rfl ?_); obtain ⟨y0, y1, z0, z1⟩ := cz2 F4; refine sx (t := 30) (t' := 30) (p := 4) (v := ?vo6) ?hg ?ho ?hn 0 [.string (⟨#[]⟩ : ByteArray), .string (⟨#[]⟩ : ByteArray)] [.string (⟨#[]⟩ : ByteArray), .string (⟨#[]⟩ : ByteArray)] ?hr B F4 L4 rfl (Nat.le_of_ble_eq_true rfl) ?_; (case ho | hg | hn => rfl); (case hr => go_simp; first | done | rfl); intro w6 hk B G; replace F2 := bk F2 hk N2_4.out; replace F5 := bk F5 hk N4_5.out.symm; replace F4 := G; clear c2_0 c2_1; obtain ⟨c2_0, c2_1⟩ := cs2 F2; clear hk y0 z0 y1 z1)
  | ((with_reducible refine gate_store (t := 30) (p := 5) rfl ?_); obtain ⟨y0, y1, z0, z1⟩ := cz2 F5; refine sx (t := 30) (t' := 30) (p := 5) (v := ?vo7) ?hg ?ho ?hn 0 [.string (⟨#[]⟩ : ByteArray), .string (⟨#[]⟩ : ByteArray)] [.string (⟨#[]⟩ : ByteArray), .string (⟨#[]⟩ : ByteArray)] ?hr B F5 L5 rfl (Nat.le_of_ble_eq_true rfl) ?_; (case ho | hg | hn => rfl); (case hr => go_simp; first | done | rfl); intro w7 hk B G; replace F2 := bk F2 hk N2_5.out; replace F4 := bk F4 hk N4_5.out; replace F5 := G; clear c2_0 c2_1; obtain ⟨c2_0, c2_1⟩ := cs2 F2; clear hk y0 z0 y1 z1)
  | ((with_reducible refine gate_dst (N := 7) rfl ?_); refine bx ?hg (N := 7) ?hd (cs := #[.string (⟨#[]⟩ : ByteArray), .string (⟨#[]⟩ : ByteArray)]) (t := 30) ?hr B ?_; (case hd | hg => rfl); (case hr => go_simp; first | done | rfl); intro g7 w8 hb B F7 L7 E7; have N2_7 := ne1 E7 F2; have N4_7 := ne1 E7 F4; have N5_7 := ne1 E7 F5; replace F2 := bn F2 hb; replace F4 := bn F4 hb; replace F5 := bn F5 hb; clear c2_0 c2_1; obtain ⟨c2_0, c2_1⟩ := cs2 F2; obtain ⟨c7_0, c7_1⟩ := cs2 F7; clear hb E7)
  | ((with_reducible refine gate_store (t := 30) (p := 7) rfl ?_); obtain ⟨y0, y1, z0, z1⟩ := cz2 F7; refine sx (t := 30) (t' := 30) (p := 7) (v := ?vo9) ?hg ?ho ?hn 0 [.string a, .string c] [.string a, .string c] ?hr B F7 L7 rfl (Nat.le_of_ble_eq_true rfl) ?_; (case ho | hg | hn => rfl); (case hr => go_simp; first | done | rfl); intro w9 hk B G; replace F2 := bk F2 hk N2_7.out; replace F4 := bk F4 hk N4_7.out; replace F5 := bk F5 hk N5_7.out; replace F7 := G; clear c2_0 c2_1; obtain ⟨c2_0, c2_1⟩ := cs2 F2; clear c7_0 c7_1; obtain ⟨c7_0, c7_1⟩ := cs2 F7; clear hk y0 z0 y1 z1)
  | ((with_reducible refine gate_dst (N := 8) rfl ?_); refine bx ?hg (N := 8) ?hd (cs := #[.string (⟨#[]⟩ : ByteArray), .string (⟨#[]⟩ : ByteArray)]) (t := 30) ?hr B ?_; (case hd | hg => rfl); (case hr => go_simp; first | done | rfl); intro g8 w10 hb B F8 L8 E8; have N4_8 := ne1 E8 F4; have N5_8 := ne1 E8 F5; have N7_8 := ne1 E8 F7; replace F4 := bn F4 hb; replace F5 := bn F5 hb; replace F7 := bn F7 hb; clear c7_0 c7_1; obtain ⟨c7_0, c7_1⟩ := cs2 F7; obtain ⟨c8_0, c8_1⟩ := cs2 F8; clear hb E8)
  | ((with_reducible refine gate_store (t := 30) (p := 8) rfl ?_); obtain ⟨y0, y1, z0, z1⟩ := cz2 F8; refine sx (t := 30) (t' := 30) (p := 8) (v := ?vo11) ?hg ?ho ?hn 0 [.string c, .string b] [.string c, .string b] ?hr B F8 L8 rfl (Nat.le_of_ble_eq_true rfl) ?_; (case ho | hg | hn => rfl); (case hr => go_simp; first | done | rfl); intro w11 hk B G; replace F4 := bk F4 hk N4_8.out; replace F5 := bk F5 hk N5_8.out; replace F7 := bk F7 hk N7_8.out; replace F8 := G; clear c7_0 c7_1; obtain ⟨c7_0, c7_1⟩ := cs2 F7; clear c8_0 c8_1; obtain ⟨c8_0, c8_1⟩ := cs2 F8; clear hk y0 z0 y1 z1)
  | (go_at_call 55; with_reducible refine cl (impl_IntervalValid.M a c _) B fun w12 hb B => ?_; replace F4 := bn F4 hb; replace F5 := bn F5 hb; replace F7 := bn F7 hb; replace F8 := bn F8 hb; clear c7_0 c7_1; obtain ⟨c7_0, c7_1⟩ := cs2 F7; clear c8_0 c8_1; obtain ⟨c8_0, c8_1⟩ := cs2 F8; clear hb)
  | (go_at_call 55; with_reducible refine cl (impl_IntervalValid.M c b _) B fun w13 hb B => ?_; replace F4 := bn F4 hb; replace F5 := bn F5 hb; replace F7 := bn F7 hb; replace F8 := bn F8 hb; clear c7_0 c7_1; obtain ⟨c7_0, c7_1⟩ := cs2 F7; clear c8_0 c8_1; obtain ⟨c8_0, c8_1⟩ := cs2 F8; clear hb)
  | ((with_reducible refine gate_store (t := 30) (p := 4) rfl ?_); obtain ⟨y0, y1, z0, z1⟩ := cz2 F4; refine sx (t := 30) (t' := 30) (p := 4) (v := ?vo14) ?hg ?ho ?hn 0 [.string (⟨#[]⟩ : ByteArray), .string (⟨#[]⟩ : ByteArray)] [.string (⟨#[]⟩ : ByteArray), .string (⟨#[]⟩ : ByteArray)] ?hr B F4 L4 rfl (Nat.le_of_ble_eq_true rfl) ?_; (case ho | hg | hn => rfl); (case hr => go_simp; first | done | rfl); intro w14 hk B G; replace F5 := bk F5 hk N4_5.out.symm; replace F7 := bk F7 hk N4_7.out.symm; replace F8 := bk F8 hk N4_8.out.symm; replace F4 := G; clear c7_0 c7_1; obtain ⟨c7_0, c7_1⟩ := cs2 F7; clear c8_0 c8_1; obtain ⟨c8_0, c8_1⟩ := cs2 F8; clear hk y0 z0 y1 z1)
  | ((with_reducible refine gate_store (t := 30) (p := 5) rfl ?_); obtain ⟨y0, y1, z0, z1⟩ := cz2 F5; refine sx (t := 30) (t' := 30) (p := 5) (v := ?vo15) ?hg ?ho ?hn 0 [.string (⟨#[]⟩ : ByteArray), .string (⟨#[]⟩ : ByteArray)] [.string (⟨#[]⟩ : ByteArray), .string (⟨#[]⟩ : ByteArray)] ?hr B F5 L5 rfl (Nat.le_of_ble_eq_true rfl) ?_; (case ho | hg | hn => rfl); (case hr => go_simp; first | done | rfl); intro w15 hk B G; replace F4 := bk F4 hk N4_5.out; replace F7 := bk F7 hk N5_7.out.symm; replace F8 := bk F8 hk N5_8.out.symm; replace F5 := G; clear c7_0 c7_1; obtain ⟨c7_0, c7_1⟩ := cs2 F7; clear c8_0 c8_1; obtain ⟨c8_0, c8_1⟩ := cs2 F8; clear hk y0 z0 y1 z1))
 all_goals try (refine bodyPost_ret (results_list (rs := [.cell 4 30, .cell 5 30, .tmp 6]) rfl (by simp) (.cell g4 30 _ (0, 0) _ rfl F4.out hu rfl (by kernel_rfl) (.cell g5 30 _ (0, 0) _ rfl F5.out hu rfl (by kernel_rfl) (.tmp .nil)))) rfl ?_; refine ⟨?_, B.out⟩; unfold cutV cutB; simp_all; done)
 all_goals (
  refine rg (n := 5) (S := fun W => W.heap[g7]? = some (.cells #[.string a, .string c] 30 (0, 0)) ∧ W.heap[g8]? = some (.cells #[.string c, .string b] 30 (0, 0))) (ds := []) #[false, false, false, false, false] (by kernel_rfl) rfl rfl ⟨F7.out, F8.out⟩ id B (fun w16 hb B hHeld => ?_)
  refine with_tabW impl_IntervalCut.tab7 impl_IntervalCut.bits7 (fun HT_ HW_ => ?_)
  replace F4 := bn F4 hb
  replace F5 := bn F5 hb
  replace F7 := bn F7 hb
  replace F8 := bn F8 hb
  clear hb
  refine tv 0 (some 37) (v := ?_) (bits 5 1) HT_ HW_ (by kernel_rfl) rfl rfl (fun _ _ _ h => h) (by kernel_rfl) hHeld ?_ ?_; rotate_left; (intro w' hS; obtain ⟨s0, s1⟩ := hS; obtain ⟨q0, q1⟩ := cs2 (Aside0.mk s0); go_simp; with_reducible rfl)
  refine tv 1 (some 38) (v := ?_) (bits 5 3) HT_ HW_ (by kernel_rfl) rfl rfl (fun _ _ _ h => h) (by kernel_rfl) hHeld ?_ ?_; rotate_left; (intro w' hS; obtain ⟨s0, s1⟩ := hS; obtain ⟨q0, q1⟩ := cs2 (Aside0.mk s1); go_simp; with_reducible rfl)
  refine norm_ (a' := ?_) ?_ ?_
  rotate_left
  ·simp only [Act.put, za, zb, zc, i64_w, i32_w]
   rfl
  refine one_ (i := 2) (N := none) (bits 5 7) rfl rfl (one_of HT_.out (by kernel_rfl)) (by decide) (fun K hK => ?_)
  obtain ⟨y0, y1, z0, z1⟩ := cz2 F4
  refine sxs (g := g4) 0 [.string a, .string c] [.string a, .string c] (by rfl) rfl ?hr B F4 L4 rfl (Nat.le_of_ble_eq_true rfl) (fun w17 hk B G => ?_)
  (case hr => go_simp; first | done | rfl)
  replace F5 := bk F5 hk N4_5.out.symm
  replace F7 := bk F7 hk N4_7.out.symm
  replace F8 := bk F8 hk N4_8.out.symm
  replace F4 := G
  clear hk y0 z0 y1 z1
  refine hK.out _ _ ⟨F7.out, F8.out⟩ (fun hHeld => ?_)
  clear hK K
  refine one_ (i := 3) (N := none) (bits 5 15) rfl rfl (one_of HT_.out (by kernel_rfl)) (by decide) (fun K hK => ?_)
  obtain ⟨y0, y1, z0, z1⟩ := cz2 F5
  refine sxs (g := g5) 0 [.string c, .string b] [.string c, .string b] (by rfl) rfl ?hr B F5 L5 rfl (Nat.le_of_ble_eq_true rfl) (fun w18 hk B G => ?_)
  (case hr => go_simp; first | done | rfl)
  replace F4 := bk F4 hk N4_5.out
  replace F7 := bk F7 hk N5_7.out.symm
  replace F8 := bk F8 hk N5_8.out.symm
  replace F5 := G
  clear hk y0 z0 y1 z1
  refine hK.out _ _ ⟨F7.out, F8.out⟩ (fun hHeld => ?_)
  clear hK K
  refine pv 4 (some 6) (v := ?_) (bits 5 31) HT_ (by kernel_rfl) rfl rfl (fun _ _ _ h => h) (by kernel_rfl) ?_ ?_; rotate_left; (intro w'; go_simp; with_reducible rfl)
  refine norm_ (a' := ?_) ?_ ?_
  rotate_left
  ·simp only [Act.put, za, zb, zc, i64_w, i32_w]
   rfl
  refine done_ (done_of HT_.out (by kernel_rfl)) ?_)
 all_goals try go_wp2
 all_goals try (refine bodyPost_ret (results_list (rs := [.cell 4 30, .cell 5 30, .tmp 6]) rfl (by simp) (.cell g4 30 _ (0, 0) _ rfl F4.out hu rfl (by kernel_rfl) (.cell g5 30 _ (0, 0) _ rfl F5.out hu rfl (by kernel_rfl) (.tmp .nil)))) rfl ?_; refine ⟨?_, B.out⟩; unfold cutV cutB; simp_all; done)

theorem spec_IntervalCut.Mt (a b c : ByteArray) (hi : cutB a b c = true) (w : World) : Calls Try.prog 51 #[.agg #[.string a, .string b], .string c] w fun e w' => e = .returned (.tuple #[.agg #[.string a, .string c], .agg #[.string c, .string b], .bool true]) ∧ Below w.heap.size w w' := by
 have h := spec_IntervalCut.M a b c w
 unfold cutV at h
 rw [hi] at h
 exact h
theorem spec_IntervalCut.Mf (a b c : ByteArray) (hi : cutB a b c = false) (w : World) : Calls Try.prog 51 #[.agg #[.string a, .string b], .string c] w fun e w' => e = .returned (.tuple #[.agg #[.string (⟨#[]⟩ : ByteArray), .string (⟨#[]⟩ : ByteArray)], .agg #[.string (⟨#[]⟩ : ByteArray), .string (⟨#[]⟩ : ByteArray)], .bool false]) ∧ Below w.heap.size w w' := by
 have h := spec_IntervalCut.M a b c w
 unfold cutV at h
 rw [hi] at h
 exact h
theorem impl_IntervalCut.Mt (a b c : ByteArray) (hi : cutB a b c = true) (w : World) : Calls Try.prog 59 #[.agg #[.string a, .string b], .string c] w fun e w' => e = .returned (.tuple #[.agg #[.string a, .string c], .agg #[.string c, .string b], .bool true]) ∧ Below w.heap.size w w' := by
 have h := impl_IntervalCut.M a b c w
 unfold cutV at h
 rw [hi] at h
 exact h
theorem impl_IntervalCut.Mf (a b c : ByteArray) (hi : cutB a b c = false) (w : World) : Calls Try.prog 59 #[.agg #[.string a, .string b], .string c] w fun e w' => e = .returned (.tuple #[.agg #[.string (⟨#[]⟩ : ByteArray), .string (⟨#[]⟩ : ByteArray)], .agg #[.string (⟨#[]⟩ : ByteArray), .string (⟨#[]⟩ : ByteArray)], .bool false]) ∧ Below w.heap.size w w' := by
 have h := impl_IntervalCut.M a b c w
 unfold cutV at h
 rw [hi] at h
 exact h

def hasB (a b c : ByteArray) : Bool := ivB a b && (keyB c && insB a b c)
theorem spec_IntervalHas.M (a b c : ByteArray) (w : World) : Calls Try.prog 50 #[.agg #[.string a, .string b], .string c] w fun e w' => e = .returned (.bool (hasB a b c)) ∧ Below w.heap.size w w' := by
 have B := Aside0.mk (Below.refl w.heap.size w)
 have hu := Try.underlying30
 go_enter Try.func50, Try.ntmps50
 go_wp2_with (first
  | ((with_reducible refine gate_dst (N := 2) rfl ?_); refine bx ?hg (N := 2) ?hd (cs := #[.string a, .string b]) (t := 30) ?hr B ?_; (case hd | hg => rfl); (case hr => go_simp; first | done | rfl); intro g2 w1 hb B F2 L2 E2; obtain ⟨c2_0, c2_1⟩ := cs2 F2; clear hb E2)
  | (go_at_call 47; with_reducible refine cl (spec_IntervalValid.M a b _) B fun w2 hb B => ?_; replace F2 := bn F2 hb; clear c2_0 c2_1; obtain ⟨c2_0, c2_1⟩ := cs2 F2; clear hb)
  | (go_at_call 89; with_reducible refine cl (spec_KeyValid.M c _) B fun w3 hb B => ?_; replace F2 := bn F2 hb; clear c2_0 c2_1; obtain ⟨c2_0, c2_1⟩ := cs2 F2; clear hb))
 all_goals go_ret
 all_goals (refine ⟨?_, B.out⟩; unfold hasB insB; simp_all)

theorem impl_inside.M (a b c : ByteArray) (w : World) : Calls Try.prog 58 #[.agg #[.string a, .string b], .string c] w fun e w' => e = .returned (.bool (insB a b c)) ∧ Below w.heap.size w w' := by
 have B := Aside0.mk (Below.refl w.heap.size w)
 have hu := Try.underlying30
 go_enter Try.func58, Try.ntmps58
 go_wp2_with (first
  | ((with_reducible refine gate_dst (N := 2) rfl ?_); refine bx ?hg (N := 2) ?hd (cs := #[.string a, .string b]) (t := 30) ?hr B ?_; (case hd | hg => rfl); (case hr => go_simp; first | done | rfl); intro g2 w1 hb B F2 L2 E2; obtain ⟨c2_0, c2_1⟩ := cs2 F2; clear hb E2))
 all_goals go_ret
 all_goals (refine ⟨?_, B.out⟩; unfold insB; simp_all)

/-! The model of pairs. -/
def ltB (a b : ByteArray) : Bool := Op.bytesLess a.toList b.toList
def okP (p : S61) : Bool := keyB p.f0 && l1B p.f1 0 999
def aboveP (p : Option ByteArray) (c : ByteArray) : Bool := match p with
  | none => true
  | some q => ltB q c
def prG : Option ByteArray → List S61 → Bool
  | _, [] => true
  | p, s :: r => okP s && (aboveP p s.f0 && prG (some s.f0) r)
def prB (l : List S61) : Bool := decide (l.length ≤ 48) && prG none l
def prP (l : List S61) (j : Nat) : Option ByteArray := if j = 0 then none else some (l.getD (j - 1) z61).f0
theorem pr_nat {l : List S61} {j : Nat} (h : j < l.length) : rd_T61 l (j : Int) = l[j] := by
  simp [rd_T61, List.getD_eq_getElem?_getD, List.getElem?_eq_getElem h]
theorem pr_drop {l : List S61} {j : Nat} (h : j < l.length) : l.drop j = rd_T61 l (j : Int) :: l.drop (j + 1) := by
  rw [pr_nat h, List.drop_eq_getElem_cons h]
theorem pr_prev (l : List S61) (j : Nat) : prP l (j + 1) = some (rd_T61 l (j : Int)).f0 := by
  unfold prP rd_T61
  rw [if_neg (by omega), Int.toNat_natCast, Nat.add_sub_cancel]
theorem prB_len {l : List S61} (h : prB l = true) : l.length ≤ 48 := by
  unfold prB at h
  rw [Bool.and_eq_true, decide_eq_true_eq] at h
  exact h.1
def prJ (l : List S61) (j : Nat) : Bool := prG (prP l j) (l.drop j)
theorem prJ_end {l : List S61} {j : Nat} (h : ¬ j < l.length) : prJ l j = true := by
  unfold prJ
  rw [List.drop_of_length_le (by omega)]
  rfl
theorem prJ_step {l : List S61} {j : Nat} (h : j < l.length) :
    prJ l j = ((keyB (rd_T61 l (j : Int)).f0 && (l1B (rd_T61 l (j : Int)).f1 0 999 && (if j = 0 then true else ltB (rd_T61 l ((j - 1 : Nat) : Int)).f0 (rd_T61 l (j : Int)).f0))) && prJ l (j + 1)) := by
  unfold prJ
  rw [pr_drop h, pr_prev]
  simp only [prG]
  unfold okP
  by_cases hj : j = 0
  · subst hj
    simp [prP, aboveP, Bool.and_assoc]
  · obtain ⟨i, rfl⟩ : ∃ i, j = i + 1 := ⟨j - 1, by omega⟩
    rw [pr_prev, if_neg hj, Nat.add_sub_cancel]
    simp [aboveP, Bool.and_assoc]

/-! The model of sessions. -/
def okS (s : S100) : Bool := l1B s.f0 0 3 && (l1B s.f1 1 999 && l1B s.f2 (-2) 999)
def above (p : Option Int) (c : Int) : Bool := match p with
  | none => true
  | some q => decide (q < c)
def sesG : Option Int → List S100 → Bool
  | _, [] => true
  | p, s :: r => okS s && (above p s.f0 && sesG (some s.f0) r)
def sesB (l : List S100) : Bool := sesG none l
def sesP (l : List S100) (j : Nat) : Option Int := if j = 0 then none else some (l.getD (j - 1) z100).f0
theorem ses_nat {l : List S100} {j : Nat} (h : j < l.length) : rd_T100 l (j : Int) = l[j] := by
  simp [rd_T100, List.getD_eq_getElem?_getD, List.getElem?_eq_getElem h]
theorem ses_drop {l : List S100} {j : Nat} (h : j < l.length) : l.drop j = rd_T100 l (j : Int) :: l.drop (j + 1) := by
  rw [ses_nat h, List.drop_eq_getElem_cons h]
theorem ses_prev (l : List S100) (j : Nat) : sesP l (j + 1) = some (rd_T100 l (j : Int)).f0 := by
  unfold sesP rd_T100
  rw [if_neg (by omega), Int.toNat_natCast, Nat.add_sub_cancel]
def sesJ (l : List S100) (j : Nat) : Bool := sesG (sesP l j) (l.drop j)
theorem sesJ_end {l : List S100} {j : Nat} (h : ¬ j < l.length) : sesJ l j = true := by
  unfold sesJ
  rw [List.drop_of_length_le (by omega)]
  rfl
theorem sesJ_step {l : List S100} {j : Nat} (h : j < l.length) :
    sesJ l j = ((l1B (rd_T100 l (j : Int)).f0 0 3 && (l1B (rd_T100 l (j : Int)).f1 1 999 && (l1B (rd_T100 l (j : Int)).f2 (-2) 999 && (if j = 0 then true else decide ((rd_T100 l ((j - 1 : Nat) : Int)).f0 < (rd_T100 l (j : Int)).f0))))) && sesJ l (j + 1)) := by
  unfold sesJ
  rw [ses_drop h, ses_prev]
  simp only [sesG]
  unfold okS
  by_cases hj : j = 0
  · subst hj
    simp [sesP, above, Bool.and_assoc]
  · obtain ⟨i, rfl⟩ : ∃ i, j = i + 1 := ⟨j - 1, by omega⟩
    rw [ses_prev, if_neg hj, Nat.add_sub_cancel]
    simp [above, Bool.and_assoc]

/-! The model of states. -/
def tailB (lo hi : ByteArray) (t : Bool) (c : ByteArray) : Bool := if c.toList = ([] : List UInt8) then true else t && cutB lo hi c
def stB (lo hi : ByteArray) (ps : List S61) (ss : List S100) (t : Bool) (c : ByteArray) : Bool :=
  ivB lo hi && (prB ps && (sesB ss && ((ps.all fun p => insB lo hi p.f0) && tailB lo hi t c)))
theorem pr_key {l : List S61} : ∀ p, prG p l = true → ∀ x ∈ l, keyB x.f0 = true := by
  induction l with
  | nil => intro p _ x hx; cases hx
  | cons s r ih =>
    intro p h x hx
    simp only [prG, Bool.and_eq_true] at h
    rcases List.mem_cons.mp hx with rfl | hx
    · have := h.1
      unfold okP at this
      rw [Bool.and_eq_true] at this
      exact this.1
    · exact ih _ h.2.2 x hx
theorem prB_key {l : List S61} (h : prB l = true) : ∀ x ∈ l, keyB x.f0 = true := by
  unfold prB at h
  rw [Bool.and_eq_true] at h
  exact pr_key none h.2
theorem all_has {lo hi : ByteArray} {ps : List S61} (hv : ivB lo hi = true) (hp : prB ps = true) : (ps.all fun p => hasB lo hi p.f0) = ps.all fun p => insB lo hi p.f0 := by
  have hk := prB_key hp
  clear hp
  induction ps with
  | nil => rfl
  | cons x r ih =>
    simp only [List.all_cons]
    rw [ih fun y hy => hk y (List.mem_cons_of_mem _ hy)]
    unfold hasB
    rw [hv, hk x (List.mem_cons_self ..)]
    rfl

def spec_PairsValid.T6 : Bool × List (List Nat × List Nat) := (true, [([], []), ([], []), ([0, 1], [0, 1]), ([2], [2]), ([3], [3]), ([4], [4]), ([5], [5]), ([6, 5], [6]), ([7], [7]), ([7], [7]), ([8, 9, 7], [7, 8, 9]), ([10, 7], [7, 10]), ([11, 7], [7, 11]), ([12, 7, 7], [7, 12]), ([13, 7], [7, 13]), ([7, 14], [7, 14]), ([15, 13], [15]), ([16], [16]), ([17, 16], [16, 17]), ([18, 16, 16], [16, 18]), ([19], [19]), ([19], [19]), ([20, 21, 19], [19, 20, 21]), ([22, 19], [19, 22]), ([23, 19], [19, 23]), ([19], [19]), ([19], [19]), ([26, 19], [19, 26]), ([25, 27, 19], [19, 25, 27]), ([28, 19], [19, 28]), ([29, 19], [19, 29]), ([24, 30, 19], [19, 24, 30]), ([19, 31, 16], [16, 19, 31]), ([16, 32], [16, 32])])
def spec_PairsValid.B6 : List Nat := [0, 0, 3, 7, 15, 31, 63, 127, 255, 255, 1023, 2047, 4095, 8191, 16383, 32767, 65535, 131071, 262143, 524287, 1048575, 1048575, 4194303, 8388607, 16777215, 1048575, 1048575, 68157439, 235929599, 504365055, 1041235967, 2147483647, 4294967295, 8589934591]
theorem spec_PairsValid.tab6 : rtab .any (opsOf Try.f48 6) = spec_PairsValid.T6 := by kernel_rfl
theorem spec_PairsValid.bits6 : waitsOk spec_PairsValid.T6.2 spec_PairsValid.B6 = true := by kernel_rfl
theorem spec_PairsValid.M (A0 : Option Addr) (c0 : Nat) (l : List S61) (w : World) (hr0 : Kd.C k61 w A0 l.length l) : Calls Try.prog 48 #[.slice A0 l.length c0] w fun e w' => e = .returned (.bool (prB l)) ∧ Below w.heap.size w w' := by
 have hu := Try.underlying61
 have B := Aside0.mk (Below.refl w.heap.size w)
 have HR0 := Aside0.mk hr0
 clear hr0
 obtain ⟨r, hr⟩ : ∃ r, prB l = r := ⟨_, rfl⟩
 rw [hr]
 unfold prB at hr
 by_cases hl : l.length ≤ 48
 ·have H := Aside0.mk (show prJ l 0 = r by unfold prJ prP; simpa [hl] using hr)
  have cl0 : decide (48 < (l.length : Int)) = false := decide_eq_false (by omega)
  have L48 := Aside0.mk (show l.length ≤ 4611686018427387904 by omega)
  clear hl hr
  go_enter Try.func48, Try.ntmps48
  go_wp2
  go_loopg [3] (l.length + 1) (fun kx v3 wr => ∃ j : Nat, v3 = .int .i64 (j : Int) ∧ j ≤ l.length ∧ l.length < j + kx ∧ Aside0 (Below w.heap.size w wr) ∧ Aside0 (prJ l j = r))
  case atStart => exact ⟨0, rfl, by omega, by omega, B, H⟩
  case round =>
   clear H B
   obtain ⟨j, rfl, hj, hk, B, H⟩ := hrel
   by_cases hlt : j < l.length
   ·have HS := Aside0.mk ((prJ_step hlt).symm.trans H.out)
    clear H
    obtain ⟨d, rfl⟩ : ∃ d, gk = d + 1 := ⟨gk - 1, by omega⟩
    have h48 := L48.out
    have cj : decide ((j : Int) < (l.length : Int)) = true := decide_eq_true (by omega)
    obtain ⟨ad, hA, y0, y1⟩ := at_T61 (cb HR0 B) (j : Int) (by omega) (by omega)
    cases hA
    rw [Int.toNat_natCast] at y0 y1
    have j1 := eq_true (show (j : Int) < (l.length : Int) by omega)
    have j2 := eq_true hlt
    generalize hy : rd_T61 l (j : Int) = y at *
    try go_wp2
    all_goals try (go_ret; exact ⟨andF HS.out (by grind [l1B, ltB]), B.out⟩)
    all_goals (
     refine rg (n := 34) (S := fun W => Kd.C k61 W (some ad) l.length l) (ds := []) #[false, false, false, false, false, false, false, false, false, false, false, false, false, false, false, false, false, false, false, false, false, false, false, false, false, false, false, false, false, false, false, false, false, false] (by kernel_rfl) rfl rfl (cb HR0 B) id B (fun w1 hb B hHeld => ?_)
     refine with_tabW spec_PairsValid.tab6 spec_PairsValid.bits6 (fun HT_ HW_ => ?_)
     clear hb
     refine pv 0 (some 13) (v := ?_) (bits 34 1) HT_ (by kernel_rfl) rfl rfl (fun _ _ _ h => h) (by kernel_rfl) ?_ ?_; rotate_left; (intro w'; go_simp; with_reducible rfl)
     refine pv 1 (some 14) (v := ?_) (bits 34 3) HT_ (by kernel_rfl) rfl rfl (fun _ _ _ h => h) (by kernel_rfl) ?_ ?_; rotate_left; (intro w'; go_simp; with_reducible rfl)
     refine pv 2 (some 15) (v := ?_) (bits 34 7) HT_ (by kernel_rfl) rfl rfl (fun _ _ _ h => h) (by kernel_rfl) ?_ ?_; rotate_left; (intro w'; go_simp; with_reducible rfl)
     refine pv 3 (some 16) (v := ?_) (bits 34 15) HT_ (by kernel_rfl) rfl rfl (fun _ _ _ h => h) (by kernel_rfl) ?_ ?_; rotate_left; (intro w'; go_simp; with_reducible rfl)
     refine tv 4 (some 17) (v := ?_) (bits 34 31) HT_ HW_ (by kernel_rfl) rfl rfl (fun _ _ _ h => h) (by kernel_rfl) hHeld ?_ ?_; rotate_left; (intro w' hS; have s0 := hS; obtain ⟨_, hA, q0, q1⟩ := at_T61 s0 (j : Int) (by omega) (by omega); cases hA; rw [Int.toNat_natCast] at q0 q1; rw [hy] at q0 q1; go_simp; with_reducible rfl)
     refine norm_ (a' := ?_) ?_ ?_
     rotate_left
     ·simp only [Act.put, za, zb, zc, i64_w, i32_w]
      rfl
     refine one_ (i := 5) (N := some 18) (bits 34 63) rfl rfl (one_of HT_.out (by kernel_rfl)) (by decide) (fun K hK => ?_)
     rcases hq1 : (keyB y.f0) with _ | _
     ·refine goes_ Try.func89 (by kernel_rfl) rfl #[.string y.f0] (by rfl) rfl rfl (by (try simp only [List.map_toArray, List.map_cons, List.map_nil]); rfl) ?_
      with_reducible refine cl (clv (spec_KeyValid.M y.f0 _) (congrArg Value.bool hq1)) B fun w2 hb B => ?_
      clear hb
      refine ⟨_, rfl, ?_⟩
      refine hK.out _ _ (cb HR0 B) (fun hHeld => ?_)
      clear hK K
      refine norm_ (a' := ?_) ?_ ?_
      rotate_left
      ·show Act.put _ (some 18) _ = _
       simp only [Act.put, za, zb, zc, i64_w, i32_w]
       rfl
      refine pv 6 (some 19) (v := ?_) (bits 34 127) HT_ (by kernel_rfl) rfl rfl (fun _ _ _ h => h) (by kernel_rfl) ?_ ?_; rotate_left; (intro w'; go_simp; with_reducible rfl)
      refine pv 7 (some 20) (v := ?_) (bits 34 255) HT_ (by kernel_rfl) rfl rfl (fun _ _ _ h => h) (by kernel_rfl) ?_ ?_; rotate_left; (intro w'; go_simp; with_reducible rfl)
      refine sv 8 (some 21) (bits 34 511) HT_ (by kernel_rfl) rfl rfl (fun _ _ _ h => h) (by kernel_rfl) ?_
      refine sv 9 (some 22) (bits 34 1023) HT_ (by kernel_rfl) rfl rfl (fun _ _ _ h => h) (by kernel_rfl) ?_
      refine sv 10 (some 23) (bits 34 2047) HT_ (by kernel_rfl) rfl rfl (fun _ _ _ h => h) (by kernel_rfl) ?_
      refine sv 11 (some 24) (bits 34 4095) HT_ (by kernel_rfl) rfl rfl (fun _ _ _ h => h) (by kernel_rfl) ?_
      refine sv 12 (some 25) (bits 34 8191) HT_ (by kernel_rfl) rfl rfl (fun _ _ _ h => h) (by kernel_rfl) ?_
      refine sv 13 (some 26) (bits 34 16383) HT_ (by kernel_rfl) rfl rfl (fun _ _ _ h => h) (by kernel_rfl) ?_
      refine sv 14 (some 27) (bits 34 32767) HT_ (by kernel_rfl) rfl rfl (fun _ _ _ h => h) (by kernel_rfl) ?_
      refine pv 15 (some 28) (v := ?_) (bits 34 65535) HT_ (by kernel_rfl) rfl rfl (fun _ _ _ h => h) (by kernel_rfl) ?_ ?_; rotate_left; (intro w'; go_simp; with_reducible rfl)
      refine pv 16 (some 29) (v := ?_) (bits 34 131071) HT_ (by kernel_rfl) rfl rfl (fun _ _ _ h => h) (by kernel_rfl) ?_ ?_; rotate_left; (intro w'; go_simp; with_reducible rfl)
      refine sv 17 (some 30) (bits 34 262143) HT_ (by kernel_rfl) rfl rfl (fun _ _ _ h => h) (by kernel_rfl) ?_
      refine sv 18 (some 31) (bits 34 524287) HT_ (by kernel_rfl) rfl rfl (fun _ _ _ h => h) (by kernel_rfl) ?_
      refine sv 19 (some 32) (bits 34 1048575) HT_ (by kernel_rfl) rfl rfl (fun _ _ _ h => h) (by kernel_rfl) ?_
      refine sv 20 (some 33) (bits 34 2097151) HT_ (by kernel_rfl) rfl rfl (fun _ _ _ h => h) (by kernel_rfl) ?_
      refine sv 21 (some 34) (bits 34 4194303) HT_ (by kernel_rfl) rfl rfl (fun _ _ _ h => h) (by kernel_rfl) ?_
      refine sv 22 (some 35) (bits 34 8388607) HT_ (by kernel_rfl) rfl rfl (fun _ _ _ h => h) (by kernel_rfl) ?_
      refine sv 23 (some 36) (bits 34 16777215) HT_ (by kernel_rfl) rfl rfl (fun _ _ _ h => h) (by kernel_rfl) ?_
      refine sv 24 (some 37) (bits 34 33554431) HT_ (by kernel_rfl) rfl rfl (fun _ _ _ h => h) (by kernel_rfl) ?_
      refine sv 25 (some 38) (bits 34 67108863) HT_ (by kernel_rfl) rfl rfl (fun _ _ _ h => h) (by kernel_rfl) ?_
      refine sv 26 (some 39) (bits 34 134217727) HT_ (by kernel_rfl) rfl rfl (fun _ _ _ h => h) (by kernel_rfl) ?_
      refine sv 27 (some 40) (bits 34 268435455) HT_ (by kernel_rfl) rfl rfl (fun _ _ _ h => h) (by kernel_rfl) ?_
      refine sv 28 (some 41) (bits 34 536870911) HT_ (by kernel_rfl) rfl rfl (fun _ _ _ h => h) (by kernel_rfl) ?_
      refine sv 29 (some 42) (bits 34 1073741823) HT_ (by kernel_rfl) rfl rfl (fun _ _ _ h => h) (by kernel_rfl) ?_
      refine sv 30 (some 43) (bits 34 2147483647) HT_ (by kernel_rfl) rfl rfl (fun _ _ _ h => h) (by kernel_rfl) ?_
      refine sv 31 (some 44) (bits 34 4294967295) HT_ (by kernel_rfl) rfl rfl (fun _ _ _ h => h) (by kernel_rfl) ?_
      refine sv 32 (some 45) (bits 34 8589934591) HT_ (by kernel_rfl) rfl rfl (fun _ _ _ h => h) (by kernel_rfl) ?_
      refine pv 33 (some 46) (v := ?_) (bits 34 17179869183) HT_ (by kernel_rfl) rfl rfl (fun _ _ _ h => h) (by kernel_rfl) ?_ ?_; rotate_left; (intro w'; go_simp; with_reducible rfl)
      refine norm_ (a' := ?_) ?_ ?_
      rotate_left
      ·simp only [Act.put, za, zb, zc, i64_w, i32_w]
       rfl
      refine done_ (done_of HT_.out (by kernel_rfl)) ?_
      try go_wp2
      all_goals first
       | (go_roundg d; (case measure => omega); (case rel => exact ⟨j + 1, congrArg (Value.int .i64) (Int.natCast_succ _).symm, by omega, by omega, B, ⟨andT HS.out (by grind [l1B, ltB])⟩⟩))
       | (go_ret; exact ⟨andF HS.out (by grind [l1B, ltB]), B.out⟩)
     ·refine goes_ Try.func89 (by kernel_rfl) rfl #[.string y.f0] (by rfl) rfl rfl (by (try simp only [List.map_toArray, List.map_cons, List.map_nil]); rfl) ?_
      with_reducible refine cl (clv (spec_KeyValid.M y.f0 _) (congrArg Value.bool hq1)) B fun w2 hb B => ?_
      clear hb
      refine ⟨_, rfl, ?_⟩
      refine hK.out _ _ (cb HR0 B) (fun hHeld => ?_)
      clear hK K
      refine norm_ (a' := ?_) ?_ ?_
      rotate_left
      ·show Act.put _ (some 18) _ = _
       simp only [Act.put, za, zb, zc, i64_w, i32_w]
       rfl
      refine pv 6 (some 19) (v := ?_) (bits 34 127) HT_ (by kernel_rfl) rfl rfl (fun _ _ _ h => h) (by kernel_rfl) ?_ ?_; rotate_left; (intro w'; go_simp; with_reducible rfl)
      refine pv 7 (some 20) (v := ?_) (bits 34 255) HT_ (by kernel_rfl) rfl rfl (fun _ _ _ h => h) (by kernel_rfl) ?_ ?_; rotate_left; (intro w'; go_simp; with_reducible rfl)
      refine pv 8 (some 21) (v := ?_) (bits 34 511) HT_ (by kernel_rfl) rfl rfl (fun _ _ _ h => h) (by kernel_rfl) ?_ ?_; rotate_left; (intro w'; go_simp; with_reducible rfl)
      refine pv 9 (some 22) (v := ?_) (bits 34 1023) HT_ (by kernel_rfl) rfl rfl (fun _ _ _ h => h) (by kernel_rfl) ?_ ?_; rotate_left; (intro w'; go_simp; with_reducible rfl)
      refine pv 10 (some 23) (v := ?_) (bits 34 2047) HT_ (by kernel_rfl) rfl rfl (fun _ _ _ h => h) (by kernel_rfl) ?_ ?_; rotate_left; (intro w'; go_simp; with_reducible rfl)
      refine pv 11 (some 24) (v := ?_) (bits 34 4095) HT_ (by kernel_rfl) rfl rfl (fun _ _ _ h => h) (by kernel_rfl) ?_ ?_; rotate_left; (intro w'; go_simp; with_reducible rfl)
      refine tv 12 (some 25) (v := ?_) (bits 34 8191) HT_ HW_ (by kernel_rfl) rfl rfl (fun _ _ _ h => h) (by kernel_rfl) hHeld ?_ ?_; rotate_left; (intro w' hS; have s0 := hS; obtain ⟨_, hA, q0, q1⟩ := at_T61 s0 (j : Int) (by omega) (by omega); cases hA; rw [Int.toNat_natCast] at q0 q1; rw [hy] at q0 q1; go_simp; with_reducible rfl)
      refine norm_ (a' := ?_) ?_ ?_
      rotate_left
      ·simp only [Act.put, za, zb, zc, i64_w, i32_w]
       rfl
      refine one_ (i := 13) (N := some 26) (bits 34 16383) rfl rfl (one_of HT_.out (by kernel_rfl)) (by decide) (fun K hK => ?_)
      rcases hq2 : (l1B y.f1 0 999) with _ | _
      ·refine goes_ Try.func90 (by kernel_rfl) rfl #[.int .i64 (y.f1), .int .i64 (0), .int .i64 (999)] (by rfl) rfl rfl (by (try simp only [List.map_toArray, List.map_cons, List.map_nil]); rfl) ?_
       with_reducible refine cl (clv (spec_l1In.M y.f1 0 999 _) (congrArg Value.bool hq2)) B fun w3 hb B => ?_
       clear hb
       refine ⟨_, rfl, ?_⟩
       refine hK.out _ _ (cb HR0 B) (fun hHeld => ?_)
       clear hK K
       refine norm_ (a' := ?_) ?_ ?_
       rotate_left
       ·show Act.put _ (some 26) _ = _
        simp only [Act.put, za, zb, zc, i64_w, i32_w]
        rfl
       refine pv 14 (some 27) (v := ?_) (bits 34 32767) HT_ (by kernel_rfl) rfl rfl (fun _ _ _ h => h) (by kernel_rfl) ?_ ?_; rotate_left; (intro w'; go_simp; with_reducible rfl)
       refine pv 15 (some 28) (v := ?_) (bits 34 65535) HT_ (by kernel_rfl) rfl rfl (fun _ _ _ h => h) (by kernel_rfl) ?_ ?_; rotate_left; (intro w'; go_simp; with_reducible rfl)
       refine pv 16 (some 29) (v := ?_) (bits 34 131071) HT_ (by kernel_rfl) rfl rfl (fun _ _ _ h => h) (by kernel_rfl) ?_ ?_; rotate_left; (intro w'; go_simp; with_reducible rfl)
       refine sv 17 (some 30) (bits 34 262143) HT_ (by kernel_rfl) rfl rfl (fun _ _ _ h => h) (by kernel_rfl) ?_
       refine sv 18 (some 31) (bits 34 524287) HT_ (by kernel_rfl) rfl rfl (fun _ _ _ h => h) (by kernel_rfl) ?_
       refine sv 19 (some 32) (bits 34 1048575) HT_ (by kernel_rfl) rfl rfl (fun _ _ _ h => h) (by kernel_rfl) ?_
       refine sv 20 (some 33) (bits 34 2097151) HT_ (by kernel_rfl) rfl rfl (fun _ _ _ h => h) (by kernel_rfl) ?_
       refine sv 21 (some 34) (bits 34 4194303) HT_ (by kernel_rfl) rfl rfl (fun _ _ _ h => h) (by kernel_rfl) ?_
       refine sv 22 (some 35) (bits 34 8388607) HT_ (by kernel_rfl) rfl rfl (fun _ _ _ h => h) (by kernel_rfl) ?_
       refine sv 23 (some 36) (bits 34 16777215) HT_ (by kernel_rfl) rfl rfl (fun _ _ _ h => h) (by kernel_rfl) ?_
       refine sv 24 (some 37) (bits 34 33554431) HT_ (by kernel_rfl) rfl rfl (fun _ _ _ h => h) (by kernel_rfl) ?_
       refine sv 25 (some 38) (bits 34 67108863) HT_ (by kernel_rfl) rfl rfl (fun _ _ _ h => h) (by kernel_rfl) ?_
       refine sv 26 (some 39) (bits 34 134217727) HT_ (by kernel_rfl) rfl rfl (fun _ _ _ h => h) (by kernel_rfl) ?_
       refine sv 27 (some 40) (bits 34 268435455) HT_ (by kernel_rfl) rfl rfl (fun _ _ _ h => h) (by kernel_rfl) ?_
       refine sv 28 (some 41) (bits 34 536870911) HT_ (by kernel_rfl) rfl rfl (fun _ _ _ h => h) (by kernel_rfl) ?_
       refine sv 29 (some 42) (bits 34 1073741823) HT_ (by kernel_rfl) rfl rfl (fun _ _ _ h => h) (by kernel_rfl) ?_
       refine sv 30 (some 43) (bits 34 2147483647) HT_ (by kernel_rfl) rfl rfl (fun _ _ _ h => h) (by kernel_rfl) ?_
       refine sv 31 (some 44) (bits 34 4294967295) HT_ (by kernel_rfl) rfl rfl (fun _ _ _ h => h) (by kernel_rfl) ?_
       refine sv 32 (some 45) (bits 34 8589934591) HT_ (by kernel_rfl) rfl rfl (fun _ _ _ h => h) (by kernel_rfl) ?_
       refine pv 33 (some 46) (v := ?_) (bits 34 17179869183) HT_ (by kernel_rfl) rfl rfl (fun _ _ _ h => h) (by kernel_rfl) ?_ ?_; rotate_left; (intro w'; go_simp; with_reducible rfl)
       refine norm_ (a' := ?_) ?_ ?_
       rotate_left
       ·simp only [Act.put, za, zb, zc, i64_w, i32_w]
        rfl
       refine done_ (done_of HT_.out (by kernel_rfl)) ?_
       try go_wp2
       all_goals first
        | (go_roundg d; (case measure => omega); (case rel => exact ⟨j + 1, congrArg (Value.int .i64) (Int.natCast_succ _).symm, by omega, by omega, B, ⟨andT HS.out (by grind [l1B, ltB])⟩⟩))
        | (go_ret; exact ⟨andF HS.out (by grind [l1B, ltB]), B.out⟩)
      ·refine goes_ Try.func90 (by kernel_rfl) rfl #[.int .i64 (y.f1), .int .i64 (0), .int .i64 (999)] (by rfl) rfl rfl (by (try simp only [List.map_toArray, List.map_cons, List.map_nil]); rfl) ?_
       with_reducible refine cl (clv (spec_l1In.M y.f1 0 999 _) (congrArg Value.bool hq2)) B fun w3 hb B => ?_
       clear hb
       refine ⟨_, rfl, ?_⟩
       refine hK.out _ _ (cb HR0 B) (fun hHeld => ?_)
       clear hK K
       refine norm_ (a' := ?_) ?_ ?_
       rotate_left
       ·show Act.put _ (some 26) _ = _
        simp only [Act.put, za, zb, zc, i64_w, i32_w]
        rfl
       refine pv 14 (some 27) (v := ?_) (bits 34 32767) HT_ (by kernel_rfl) rfl rfl (fun _ _ _ h => h) (by kernel_rfl) ?_ ?_; rotate_left; (intro w'; go_simp; with_reducible rfl)
       refine pv 15 (some 28) (v := ?_) (bits 34 65535) HT_ (by kernel_rfl) rfl rfl (fun _ _ _ h => h) (by kernel_rfl) ?_ ?_; rotate_left; (intro w'; go_simp; with_reducible rfl)
       refine pv 16 (some 29) (v := ?_) (bits 34 131071) HT_ (by kernel_rfl) rfl rfl (fun _ _ _ h => h) (by kernel_rfl) ?_ ?_; rotate_left; (intro w'; go_simp; with_reducible rfl)
       refine pv 17 (some 30) (v := ?_) (bits 34 262143) HT_ (by kernel_rfl) rfl rfl (fun _ _ _ h => h) (by kernel_rfl) ?_ ?_; rotate_left; (intro w'; go_simp; with_reducible rfl)
       by_cases hz : j = 0
       ·rw [if_pos hz] at HS
        have dz : decide (0 < (j : Int)) = false := decide_eq_false (by omega)
        have dz2 : decide (0 < j) = false := decide_eq_false (by omega)
        clear hz
        refine pv 18 (some 31) (v := ?_) (bits 34 524287) HT_ (by kernel_rfl) rfl rfl (fun _ _ _ h => h) (by kernel_rfl) ?_ ?_; rotate_left; (intro w'; go_simp; with_reducible rfl)
        refine pv 19 (some 32) (v := ?_) (bits 34 1048575) HT_ (by kernel_rfl) rfl rfl (fun _ _ _ h => h) (by kernel_rfl) ?_ ?_; rotate_left; (intro w'; go_simp; with_reducible rfl)
        refine sv 20 (some 33) (bits 34 2097151) HT_ (by kernel_rfl) rfl rfl (fun _ _ _ h => h) (by kernel_rfl) ?_
        refine sv 21 (some 34) (bits 34 4194303) HT_ (by kernel_rfl) rfl rfl (fun _ _ _ h => h) (by kernel_rfl) ?_
        refine sv 22 (some 35) (bits 34 8388607) HT_ (by kernel_rfl) rfl rfl (fun _ _ _ h => h) (by kernel_rfl) ?_
        refine sv 23 (some 36) (bits 34 16777215) HT_ (by kernel_rfl) rfl rfl (fun _ _ _ h => h) (by kernel_rfl) ?_
        refine sv 24 (some 37) (bits 34 33554431) HT_ (by kernel_rfl) rfl rfl (fun _ _ _ h => h) (by kernel_rfl) ?_
        refine sv 25 (some 38) (bits 34 67108863) HT_ (by kernel_rfl) rfl rfl (fun _ _ _ h => h) (by kernel_rfl) ?_
        refine sv 26 (some 39) (bits 34 134217727) HT_ (by kernel_rfl) rfl rfl (fun _ _ _ h => h) (by kernel_rfl) ?_
        refine sv 27 (some 40) (bits 34 268435455) HT_ (by kernel_rfl) rfl rfl (fun _ _ _ h => h) (by kernel_rfl) ?_
        refine sv 28 (some 41) (bits 34 536870911) HT_ (by kernel_rfl) rfl rfl (fun _ _ _ h => h) (by kernel_rfl) ?_
        refine sv 29 (some 42) (bits 34 1073741823) HT_ (by kernel_rfl) rfl rfl (fun _ _ _ h => h) (by kernel_rfl) ?_
        refine sv 30 (some 43) (bits 34 2147483647) HT_ (by kernel_rfl) rfl rfl (fun _ _ _ h => h) (by kernel_rfl) ?_
        refine sv 31 (some 44) (bits 34 4294967295) HT_ (by kernel_rfl) rfl rfl (fun _ _ _ h => h) (by kernel_rfl) ?_
        refine pv 32 (some 45) (v := ?_) (bits 34 8589934591) HT_ (by kernel_rfl) rfl rfl (fun _ _ _ h => h) (by kernel_rfl) ?_ ?_; rotate_left; (intro w'; go_simp; with_reducible rfl)
        refine pv 33 (some 46) (v := ?_) (bits 34 17179869183) HT_ (by kernel_rfl) rfl rfl (fun _ _ _ h => h) (by kernel_rfl) ?_ ?_; rotate_left; (intro w'; go_simp; with_reducible rfl)
        refine norm_ (a' := ?_) ?_ ?_
        rotate_left
        ·simp only [Act.put, za, zb, zc, i64_w, i32_w]
         rfl
        refine done_ (done_of HT_.out (by kernel_rfl)) ?_
        try go_wp2
        all_goals first
         | (go_roundg d; (case measure => omega); (case rel => exact ⟨j + 1, congrArg (Value.int .i64) (Int.natCast_succ _).symm, by omega, by omega, B, ⟨andT HS.out (by grind [l1B, ltB])⟩⟩))
         | (go_ret; exact ⟨andF HS.out (by grind [l1B, ltB]), B.out⟩)
       ·rw [if_neg hz] at HS
        have dz : decide (0 < (j : Int)) = true := decide_eq_true (by omega)
        have dz2 : decide (0 < j) = true := decide_eq_true (by omega)
        obtain ⟨i, hi⟩ : ∃ i, j - 1 = i := ⟨_, rfl⟩
        rw [hi] at HS
        have WI := Aside0.mk (show (j : Int) - 1 = (i : Int) by omega)
        have hij : i < l.length := by omega
        have IW := Aside0.mk (show wrap64 (i : Int) = (i : Int) by unfold wrap64; omega)
        have i1 := eq_true (show (i : Int) < (l.length : Int) by omega)
        have i2 := eq_true hij
        generalize hx : rd_T61 l (i : Int) = x at HS
        clear hz hi
        refine pv 18 (some 31) (v := ?_) (bits 34 524287) HT_ (by kernel_rfl) rfl rfl (fun _ _ _ h => h) (by kernel_rfl) ?_ ?_; rotate_left; (intro w'; go_simp; with_reducible rfl)
        refine pv 19 (some 32) (v := ?_) (bits 34 1048575) HT_ (by kernel_rfl) rfl rfl (fun _ _ _ h => h) (by kernel_rfl) ?_ ?_; rotate_left; (intro w'; go_simp; with_reducible rfl)
        refine pv 20 (some 33) (v := ?_) (bits 34 2097151) HT_ (by kernel_rfl) rfl rfl (fun _ _ _ h => h) (by kernel_rfl) ?_ ?_; rotate_left; (intro w'; go_simp; with_reducible rfl)
        refine pv 21 (some 34) (v := ?_) (bits 34 4194303) HT_ (by kernel_rfl) rfl rfl (fun _ _ _ h => h) (by kernel_rfl) ?_ ?_; rotate_left; (intro w'; go_simp; with_reducible rfl)
        refine pv 22 (some 35) (v := ?_) (bits 34 8388607) HT_ (by kernel_rfl) rfl rfl (fun _ _ _ h => h) (by kernel_rfl) ?_ ?_; rotate_left; (intro w'; go_simp; with_reducible rfl)
        refine pv 23 (some 36) (v := ?_) (bits 34 16777215) HT_ (by kernel_rfl) rfl rfl (fun _ _ _ h => h) (by kernel_rfl) ?_ ?_; rotate_left; (intro w'; go_simp; with_reducible rfl)
        refine tv 24 (some 37) (v := ?_) (bits 34 33554431) HT_ HW_ (by kernel_rfl) rfl rfl (fun _ _ _ h => h) (by kernel_rfl) hHeld ?_ ?_; rotate_left; (intro w' hS; have s0 := hS; obtain ⟨_, hA, q0, q1⟩ := at_T61 s0 (j : Int) (by omega) (by omega); cases hA; rw [Int.toNat_natCast] at q0 q1; rw [hy] at q0 q1; go_simp; with_reducible rfl)
        refine pv 25 (some 38) (v := ?_) (bits 34 67108863) HT_ (by kernel_rfl) rfl rfl (fun _ _ _ h => h) (by kernel_rfl) ?_ ?_; rotate_left; (intro w'; go_simp; with_reducible rfl)
        refine pv 26 (some 39) (v := ?_) (bits 34 134217727) HT_ (by kernel_rfl) rfl rfl (fun _ _ _ h => h) (by kernel_rfl) ?_ ?_; rotate_left; (intro w'; go_simp; with_reducible rfl)
        refine pu (i := 27) (N := some 40) (v := .int .i64 ((i : Int))) (bits 34 268435455) rfl rfl (any_of HT_.out (by kernel_rfl)) (fun _ _ _ h => h) (by kernel_rfl) ?_ ?_; (intro w'; go_simp; rw [WI.out]; exact (i64_w _).trans IW.out)
        refine pv 28 (some 41) (v := ?_) (bits 34 536870911) HT_ (by kernel_rfl) rfl rfl (fun _ _ _ h => h) (by kernel_rfl) ?_ ?_; rotate_left; (intro w'; go_simp; with_reducible rfl)
        refine pv 29 (some 42) (v := ?_) (bits 34 1073741823) HT_ (by kernel_rfl) rfl rfl (fun _ _ _ h => h) (by kernel_rfl) ?_ ?_; rotate_left; (intro w'; go_simp; with_reducible rfl)
        refine tv 30 (some 43) (v := ?_) (bits 34 2147483647) HT_ HW_ (by kernel_rfl) rfl rfl (fun _ _ _ h => h) (by kernel_rfl) hHeld ?_ ?_; rotate_left; (intro w' hS; have s0 := hS; obtain ⟨_, hA, q0, q1⟩ := at_T61 s0 (i : Int) (by omega) (by omega); cases hA; rw [Int.toNat_natCast] at q0 q1; rw [hx] at q0 q1; go_simp; with_reducible rfl)
        refine pv 31 (some 44) (v := ?_) (bits 34 4294967295) HT_ (by kernel_rfl) rfl rfl (fun _ _ _ h => h) (by kernel_rfl) ?_ ?_; rotate_left; (intro w'; go_simp; with_reducible rfl)
        refine pv 32 (some 45) (v := ?_) (bits 34 8589934591) HT_ (by kernel_rfl) rfl rfl (fun _ _ _ h => h) (by kernel_rfl) ?_ ?_; rotate_left; (intro w'; go_simp; with_reducible rfl)
        refine pv 33 (some 46) (v := ?_) (bits 34 17179869183) HT_ (by kernel_rfl) rfl rfl (fun _ _ _ h => h) (by kernel_rfl) ?_ ?_; rotate_left; (intro w'; go_simp; with_reducible rfl)
        refine norm_ (a' := ?_) ?_ ?_
        rotate_left
        ·simp only [Act.put, za, zb, zc, i64_w, i32_w]
         rfl
        refine done_ (done_of HT_.out (by kernel_rfl)) ?_
        try go_wp2
        all_goals first
         | (go_roundg d; (case measure => omega); (case rel => exact ⟨j + 1, congrArg (Value.int .i64) (Int.natCast_succ _).symm, by omega, by omega, B, ⟨andT HS.out (by grind [l1B, ltB])⟩⟩))
         | (go_ret; exact ⟨andF HS.out (by grind [l1B, ltB]), B.out⟩))
    all_goals try go_wp2
    all_goals try (go_ret; exact ⟨andF HS.out (by grind [l1B, ltB]), B.out⟩)
   ·have cj : decide ((j : Int) < (l.length : Int)) = false := decide_eq_false (by omega)
    have hr : r = true := by rw [← H.out]; exact prJ_end hlt
    subst hr
    go_wp2
    go_ret
    exact ⟨rfl, B.out⟩
 ·have cl0 : decide (48 < (l.length : Int)) = true := decide_eq_true (by omega)
  have hr : r = false := by rw [← hr, decide_eq_false hl]; rfl
  subst hr
  go_enter Try.func48, Try.ntmps48
  go_wp2
  go_ret
  exact ⟨rfl, B.out⟩

def spec_SessionsValid.T5 : Bool × List (List Nat × List Nat) := (true, [([], []), ([0], [0]), ([1], [1]), ([2], [2]), ([3, 2], [3]), ([4], [4]), ([5, 4], [4, 5]), ([6, 4, 4], [4, 6]), ([7, 4], [4, 7]), ([4, 8], [4, 8]), ([9, 7], [9]), ([10], [10]), ([11, 10], [10, 11]), ([12, 10, 10], [10, 12]), ([13, 10], [10, 13]), ([10, 14], [10, 14]), ([15, 13], [15]), ([16], [16]), ([17, 16], [16, 17]), ([18, 16, 16], [16, 18]), ([19], [19]), ([20, 19], [19, 20]), ([19], [19]), ([19], [19]), ([23, 19], [19, 23]), ([22, 24, 19], [19, 22, 24]), ([25, 19], [19, 25]), ([26, 19], [19, 26]), ([21, 27, 19], [19, 21, 27]), ([19, 28, 16], [16, 19, 28]), ([16, 29], [16, 29])])
def spec_SessionsValid.B5 : List Nat := [0, 1, 3, 7, 15, 31, 63, 127, 255, 511, 1023, 2047, 4095, 8191, 16383, 32767, 65535, 131071, 262143, 524287, 1048575, 2097151, 1048575, 1048575, 9437183, 30408703, 63963135, 131071999, 268435455, 536870911, 1073741823]
theorem spec_SessionsValid.tab5 : rtab .any (opsOf Try.f49 5) = spec_SessionsValid.T5 := by kernel_rfl
theorem spec_SessionsValid.bits5 : waitsOk spec_SessionsValid.T5.2 spec_SessionsValid.B5 = true := by kernel_rfl
theorem spec_SessionsValid.M (A0 : Option Addr) (c0 : Nat) (l : List S100) (w : World) (hr0 : Kd.C k100 w A0 l.length l) : Calls Try.prog 49 #[.slice A0 l.length c0] w fun e w' => e = .returned (.bool (sesB l)) ∧ Below w.heap.size w w' := by
 have hu := Try.underlying100
 have B := Aside0.mk (Below.refl w.heap.size w)
 have HR0 := Aside0.mk hr0
 clear hr0
 obtain ⟨r, hr⟩ : ∃ r, sesB l = r := ⟨_, rfl⟩
 rw [hr]
 unfold sesB at hr
 have H := Aside0.mk (show sesJ l 0 = r from hr)
 have L48 := Aside0.mk (show l.length ≤ 9223372036854775807 from HR0.out.2.1)
 clear hr
 go_enter Try.func49, Try.ntmps49
 go_wp2
 go_loopg [3] (l.length + 1) (fun kx v3 wr => ∃ j : Nat, v3 = .int .i64 (j : Int) ∧ j ≤ l.length ∧ l.length < j + kx ∧ Aside0 (Below w.heap.size w wr) ∧ Aside0 (sesJ l j = r))
 case atStart => exact ⟨0, rfl, by omega, by omega, B, H⟩
 case round =>
  clear H B
  obtain ⟨j, rfl, hj, hk, B, H⟩ := hrel
  by_cases hlt : j < l.length
  ·have HS := Aside0.mk ((sesJ_step hlt).symm.trans H.out)
   clear H
   obtain ⟨d, rfl⟩ : ∃ d, gk = d + 1 := ⟨gk - 1, by omega⟩
   have h48 := L48.out
   have cj : decide ((j : Int) < (l.length : Int)) = true := decide_eq_true (by omega)
   obtain ⟨ad, hA, y0, y1, y2⟩ := at_T100 (cb HR0 B) (j : Int) (by omega) (by omega)
   cases hA
   rw [Int.toNat_natCast] at y0 y1 y2
   have j1 := eq_true (show (j : Int) < (l.length : Int) by omega)
   have j2 := eq_true hlt
   generalize hy : rd_T100 l (j : Int) = y at *
   go_wp2_with (first
    | ((with_reducible refine gate_dst (N := 4) rfl ?_); refine bx ?hg (N := 4) ?hd (cs := #[.int .i64 (0), .int .i64 (0), .int .i64 (0)]) (t := 100) ?hr B ?_; (case hd | hg => rfl); (case hr => go_simp; first | done | rfl); intro g4 w1 hb B F4 L4 E4; obtain ⟨c4_0, c4_1, c4_2⟩ := cs3 F4; clear hb E4)
    | ((with_reducible refine gate_store (t := 100) (p := 4) rfl ?_); obtain ⟨y0, y1, y2, z0, z1, z2⟩ := cz3 F4; refine sx (t := 100) (t' := 100) (p := 4) (v := ?vo2) ?hg ?ho ?hn 0 [.int .i64 (y.f0), .int .i64 (y.f1), .int .i64 (y.f2)] [.int .i64 (y.f0), .int .i64 (y.f1), .int .i64 (y.f2)] ?hr B F4 L4 rfl (Nat.le_of_ble_eq_true rfl) ?_; (case ho | hg | hn => rfl); (case hr => go_simp; first | done | rfl); intro w2 hk B G; replace F4 := G; clear c4_0 c4_1 c4_2; obtain ⟨c4_0, c4_1, c4_2⟩ := cs3 F4; clear hk y0 z0 y1 z1 y2 z2))
   all_goals try (go_ret; exact ⟨andF HS.out (by grind [l1B]), B.out⟩)
   all_goals (
    refine rg (n := 31) (S := fun W => W.heap[g4]? = some (.cells #[.int .i64 (y.f0), .int .i64 (y.f1), .int .i64 (y.f2)] 100 (0, 0)) ∧ Kd.C k100 W (some ad) l.length l) (ds := []) #[false, false, false, false, false, false, false, false, false, false, false, false, false, false, false, false, false, false, false, false, false, false, false, false, false, false, false, false, false, false, false] (by kernel_rfl) rfl rfl ⟨F4.out, (cb HR0 B)⟩ id B (fun w3 hb B hHeld => ?_)
    refine with_tabW spec_SessionsValid.tab5 spec_SessionsValid.bits5 (fun HT_ HW_ => ?_)
    replace F4 := bn F4 hb
    clear hb
    refine pv 0 (some 15) (v := ?_) (bits 31 1) HT_ (by kernel_rfl) rfl rfl (fun _ _ _ h => h) (by kernel_rfl) ?_ ?_; rotate_left; (intro w'; go_simp; with_reducible rfl)
    refine tv 1 (some 16) (v := ?_) (bits 31 3) HT_ HW_ (by kernel_rfl) rfl rfl (fun _ _ _ h => h) (by kernel_rfl) hHeld ?_ ?_; rotate_left; (intro w' hS; obtain ⟨s0, s1⟩ := hS; obtain ⟨q0, q1, q2⟩ := cs3 (Aside0.mk s0); go_simp; with_reducible rfl)
    refine norm_ (a' := ?_) ?_ ?_
    rotate_left
    ·simp only [Act.put, za, zb, zc, i64_w, i32_w]
     rfl
    refine one_ (i := 2) (N := some 17) (bits 31 7) rfl rfl (one_of HT_.out (by kernel_rfl)) (by decide) (fun K hK => ?_)
    rcases hq1 : (l1B y.f0 0 3) with _ | _
    ·refine goes_ Try.func90 (by kernel_rfl) rfl #[.int .i64 (y.f0), .int .i64 (0), .int .i64 (3)] (by rfl) rfl rfl (by (try simp only [List.map_toArray, List.map_cons, List.map_nil]); rfl) ?_
     with_reducible refine cl (clv (spec_l1In.M y.f0 0 3 _) (congrArg Value.bool hq1)) B fun w4 hb B => ?_
     replace F4 := bn F4 hb
     clear hb
     refine ⟨_, rfl, ?_⟩
     refine hK.out _ _ ⟨F4.out, (cb HR0 B)⟩ (fun hHeld => ?_)
     clear hK K
     refine norm_ (a' := ?_) ?_ ?_
     rotate_left
     ·show Act.put _ (some 17) _ = _
      simp only [Act.put, za, zb, zc, i64_w, i32_w]
      rfl
     refine pv 3 (some 18) (v := ?_) (bits 31 15) HT_ (by kernel_rfl) rfl rfl (fun _ _ _ h => h) (by kernel_rfl) ?_ ?_; rotate_left; (intro w'; go_simp; with_reducible rfl)
     refine pv 4 (some 19) (v := ?_) (bits 31 31) HT_ (by kernel_rfl) rfl rfl (fun _ _ _ h => h) (by kernel_rfl) ?_ ?_; rotate_left; (intro w'; go_simp; with_reducible rfl)
     refine sv 5 (some 20) (bits 31 63) HT_ (by kernel_rfl) rfl rfl (fun _ _ _ h => h) (by kernel_rfl) ?_
     refine sv 6 (some 21) (bits 31 127) HT_ (by kernel_rfl) rfl rfl (fun _ _ _ h => h) (by kernel_rfl) ?_
     refine sv 7 (some 22) (bits 31 255) HT_ (by kernel_rfl) rfl rfl (fun _ _ _ h => h) (by kernel_rfl) ?_
     refine sv 8 (some 23) (bits 31 511) HT_ (by kernel_rfl) rfl rfl (fun _ _ _ h => h) (by kernel_rfl) ?_
     refine pv 9 (some 24) (v := ?_) (bits 31 1023) HT_ (by kernel_rfl) rfl rfl (fun _ _ _ h => h) (by kernel_rfl) ?_ ?_; rotate_left; (intro w'; go_simp; with_reducible rfl)
     refine pv 10 (some 25) (v := ?_) (bits 31 2047) HT_ (by kernel_rfl) rfl rfl (fun _ _ _ h => h) (by kernel_rfl) ?_ ?_; rotate_left; (intro w'; go_simp; with_reducible rfl)
     refine sv 11 (some 26) (bits 31 4095) HT_ (by kernel_rfl) rfl rfl (fun _ _ _ h => h) (by kernel_rfl) ?_
     refine sv 12 (some 27) (bits 31 8191) HT_ (by kernel_rfl) rfl rfl (fun _ _ _ h => h) (by kernel_rfl) ?_
     refine sv 13 (some 28) (bits 31 16383) HT_ (by kernel_rfl) rfl rfl (fun _ _ _ h => h) (by kernel_rfl) ?_
     refine sv 14 (some 29) (bits 31 32767) HT_ (by kernel_rfl) rfl rfl (fun _ _ _ h => h) (by kernel_rfl) ?_
     refine pv 15 (some 30) (v := ?_) (bits 31 65535) HT_ (by kernel_rfl) rfl rfl (fun _ _ _ h => h) (by kernel_rfl) ?_ ?_; rotate_left; (intro w'; go_simp; with_reducible rfl)
     refine pv 16 (some 31) (v := ?_) (bits 31 131071) HT_ (by kernel_rfl) rfl rfl (fun _ _ _ h => h) (by kernel_rfl) ?_ ?_; rotate_left; (intro w'; go_simp; with_reducible rfl)
     refine sv 17 (some 32) (bits 31 262143) HT_ (by kernel_rfl) rfl rfl (fun _ _ _ h => h) (by kernel_rfl) ?_
     refine sv 18 (some 33) (bits 31 524287) HT_ (by kernel_rfl) rfl rfl (fun _ _ _ h => h) (by kernel_rfl) ?_
     refine sv 19 (some 34) (bits 31 1048575) HT_ (by kernel_rfl) rfl rfl (fun _ _ _ h => h) (by kernel_rfl) ?_
     refine sv 20 (some 35) (bits 31 2097151) HT_ (by kernel_rfl) rfl rfl (fun _ _ _ h => h) (by kernel_rfl) ?_
     refine sv 21 (some 36) (bits 31 4194303) HT_ (by kernel_rfl) rfl rfl (fun _ _ _ h => h) (by kernel_rfl) ?_
     refine sv 22 (some 37) (bits 31 8388607) HT_ (by kernel_rfl) rfl rfl (fun _ _ _ h => h) (by kernel_rfl) ?_
     refine sv 23 (some 38) (bits 31 16777215) HT_ (by kernel_rfl) rfl rfl (fun _ _ _ h => h) (by kernel_rfl) ?_
     refine sv 24 (some 39) (bits 31 33554431) HT_ (by kernel_rfl) rfl rfl (fun _ _ _ h => h) (by kernel_rfl) ?_
     refine sv 25 (some 40) (bits 31 67108863) HT_ (by kernel_rfl) rfl rfl (fun _ _ _ h => h) (by kernel_rfl) ?_
     refine sv 26 (some 41) (bits 31 134217727) HT_ (by kernel_rfl) rfl rfl (fun _ _ _ h => h) (by kernel_rfl) ?_
     refine sv 27 (some 42) (bits 31 268435455) HT_ (by kernel_rfl) rfl rfl (fun _ _ _ h => h) (by kernel_rfl) ?_
     refine sv 28 (some 43) (bits 31 536870911) HT_ (by kernel_rfl) rfl rfl (fun _ _ _ h => h) (by kernel_rfl) ?_
     refine sv 29 (some 44) (bits 31 1073741823) HT_ (by kernel_rfl) rfl rfl (fun _ _ _ h => h) (by kernel_rfl) ?_
     refine pv 30 (some 45) (v := ?_) (bits 31 2147483647) HT_ (by kernel_rfl) rfl rfl (fun _ _ _ h => h) (by kernel_rfl) ?_ ?_; rotate_left; (intro w'; go_simp; with_reducible rfl)
     refine norm_ (a' := ?_) ?_ ?_
     rotate_left
     ·simp only [Act.put, za, zb, zc, i64_w, i32_w]
      rfl
     refine done_ (done_of HT_.out (by kernel_rfl)) ?_
     try go_wp2
     all_goals first
      | (go_roundg d; (case measure => omega); (case rel => exact ⟨j + 1, congrArg (Value.int .i64) (Int.natCast_succ _).symm, by omega, by omega, B, ⟨andT HS.out (by grind [l1B])⟩⟩))
      | (go_ret; exact ⟨andF HS.out (by grind [l1B]), B.out⟩)
    ·refine goes_ Try.func90 (by kernel_rfl) rfl #[.int .i64 (y.f0), .int .i64 (0), .int .i64 (3)] (by rfl) rfl rfl (by (try simp only [List.map_toArray, List.map_cons, List.map_nil]); rfl) ?_
     with_reducible refine cl (clv (spec_l1In.M y.f0 0 3 _) (congrArg Value.bool hq1)) B fun w4 hb B => ?_
     replace F4 := bn F4 hb
     clear hb
     refine ⟨_, rfl, ?_⟩
     refine hK.out _ _ ⟨F4.out, (cb HR0 B)⟩ (fun hHeld => ?_)
     clear hK K
     refine norm_ (a' := ?_) ?_ ?_
     rotate_left
     ·show Act.put _ (some 17) _ = _
      simp only [Act.put, za, zb, zc, i64_w, i32_w]
      rfl
     refine pv 3 (some 18) (v := ?_) (bits 31 15) HT_ (by kernel_rfl) rfl rfl (fun _ _ _ h => h) (by kernel_rfl) ?_ ?_; rotate_left; (intro w'; go_simp; with_reducible rfl)
     refine pv 4 (some 19) (v := ?_) (bits 31 31) HT_ (by kernel_rfl) rfl rfl (fun _ _ _ h => h) (by kernel_rfl) ?_ ?_; rotate_left; (intro w'; go_simp; with_reducible rfl)
     refine pv 5 (some 20) (v := ?_) (bits 31 63) HT_ (by kernel_rfl) rfl rfl (fun _ _ _ h => h) (by kernel_rfl) ?_ ?_; rotate_left; (intro w'; go_simp; with_reducible rfl)
     refine tv 6 (some 21) (v := ?_) (bits 31 127) HT_ HW_ (by kernel_rfl) rfl rfl (fun _ _ _ h => h) (by kernel_rfl) hHeld ?_ ?_; rotate_left; (intro w' hS; obtain ⟨s0, s1⟩ := hS; obtain ⟨q0, q1, q2⟩ := cs3 (Aside0.mk s0); go_simp; with_reducible rfl)
     refine norm_ (a' := ?_) ?_ ?_
     rotate_left
     ·simp only [Act.put, za, zb, zc, i64_w, i32_w]
      rfl
     refine one_ (i := 7) (N := some 22) (bits 31 255) rfl rfl (one_of HT_.out (by kernel_rfl)) (by decide) (fun K hK => ?_)
     rcases hq2 : (l1B y.f1 1 999) with _ | _
     ·refine goes_ Try.func90 (by kernel_rfl) rfl #[.int .i64 (y.f1), .int .i64 (1), .int .i64 (999)] (by rfl) rfl rfl (by (try simp only [List.map_toArray, List.map_cons, List.map_nil]); rfl) ?_
      with_reducible refine cl (clv (spec_l1In.M y.f1 1 999 _) (congrArg Value.bool hq2)) B fun w5 hb B => ?_
      replace F4 := bn F4 hb
      clear hb
      refine ⟨_, rfl, ?_⟩
      refine hK.out _ _ ⟨F4.out, (cb HR0 B)⟩ (fun hHeld => ?_)
      clear hK K
      refine norm_ (a' := ?_) ?_ ?_
      rotate_left
      ·show Act.put _ (some 22) _ = _
       simp only [Act.put, za, zb, zc, i64_w, i32_w]
       rfl
      refine pv 8 (some 23) (v := ?_) (bits 31 511) HT_ (by kernel_rfl) rfl rfl (fun _ _ _ h => h) (by kernel_rfl) ?_ ?_; rotate_left; (intro w'; go_simp; with_reducible rfl)
      refine pv 9 (some 24) (v := ?_) (bits 31 1023) HT_ (by kernel_rfl) rfl rfl (fun _ _ _ h => h) (by kernel_rfl) ?_ ?_; rotate_left; (intro w'; go_simp; with_reducible rfl)
      refine pv 10 (some 25) (v := ?_) (bits 31 2047) HT_ (by kernel_rfl) rfl rfl (fun _ _ _ h => h) (by kernel_rfl) ?_ ?_; rotate_left; (intro w'; go_simp; with_reducible rfl)
      refine sv 11 (some 26) (bits 31 4095) HT_ (by kernel_rfl) rfl rfl (fun _ _ _ h => h) (by kernel_rfl) ?_
      refine sv 12 (some 27) (bits 31 8191) HT_ (by kernel_rfl) rfl rfl (fun _ _ _ h => h) (by kernel_rfl) ?_
      refine sv 13 (some 28) (bits 31 16383) HT_ (by kernel_rfl) rfl rfl (fun _ _ _ h => h) (by kernel_rfl) ?_
      refine sv 14 (some 29) (bits 31 32767) HT_ (by kernel_rfl) rfl rfl (fun _ _ _ h => h) (by kernel_rfl) ?_
      refine pv 15 (some 30) (v := ?_) (bits 31 65535) HT_ (by kernel_rfl) rfl rfl (fun _ _ _ h => h) (by kernel_rfl) ?_ ?_; rotate_left; (intro w'; go_simp; with_reducible rfl)
      refine pv 16 (some 31) (v := ?_) (bits 31 131071) HT_ (by kernel_rfl) rfl rfl (fun _ _ _ h => h) (by kernel_rfl) ?_ ?_; rotate_left; (intro w'; go_simp; with_reducible rfl)
      refine sv 17 (some 32) (bits 31 262143) HT_ (by kernel_rfl) rfl rfl (fun _ _ _ h => h) (by kernel_rfl) ?_
      refine sv 18 (some 33) (bits 31 524287) HT_ (by kernel_rfl) rfl rfl (fun _ _ _ h => h) (by kernel_rfl) ?_
      refine sv 19 (some 34) (bits 31 1048575) HT_ (by kernel_rfl) rfl rfl (fun _ _ _ h => h) (by kernel_rfl) ?_
      refine sv 20 (some 35) (bits 31 2097151) HT_ (by kernel_rfl) rfl rfl (fun _ _ _ h => h) (by kernel_rfl) ?_
      refine sv 21 (some 36) (bits 31 4194303) HT_ (by kernel_rfl) rfl rfl (fun _ _ _ h => h) (by kernel_rfl) ?_
      refine sv 22 (some 37) (bits 31 8388607) HT_ (by kernel_rfl) rfl rfl (fun _ _ _ h => h) (by kernel_rfl) ?_
      refine sv 23 (some 38) (bits 31 16777215) HT_ (by kernel_rfl) rfl rfl (fun _ _ _ h => h) (by kernel_rfl) ?_
      refine sv 24 (some 39) (bits 31 33554431) HT_ (by kernel_rfl) rfl rfl (fun _ _ _ h => h) (by kernel_rfl) ?_
      refine sv 25 (some 40) (bits 31 67108863) HT_ (by kernel_rfl) rfl rfl (fun _ _ _ h => h) (by kernel_rfl) ?_
      refine sv 26 (some 41) (bits 31 134217727) HT_ (by kernel_rfl) rfl rfl (fun _ _ _ h => h) (by kernel_rfl) ?_
      refine sv 27 (some 42) (bits 31 268435455) HT_ (by kernel_rfl) rfl rfl (fun _ _ _ h => h) (by kernel_rfl) ?_
      refine sv 28 (some 43) (bits 31 536870911) HT_ (by kernel_rfl) rfl rfl (fun _ _ _ h => h) (by kernel_rfl) ?_
      refine sv 29 (some 44) (bits 31 1073741823) HT_ (by kernel_rfl) rfl rfl (fun _ _ _ h => h) (by kernel_rfl) ?_
      refine pv 30 (some 45) (v := ?_) (bits 31 2147483647) HT_ (by kernel_rfl) rfl rfl (fun _ _ _ h => h) (by kernel_rfl) ?_ ?_; rotate_left; (intro w'; go_simp; with_reducible rfl)
      refine norm_ (a' := ?_) ?_ ?_
      rotate_left
      ·simp only [Act.put, za, zb, zc, i64_w, i32_w]
       rfl
      refine done_ (done_of HT_.out (by kernel_rfl)) ?_
      try go_wp2
      all_goals first
       | (go_roundg d; (case measure => omega); (case rel => exact ⟨j + 1, congrArg (Value.int .i64) (Int.natCast_succ _).symm, by omega, by omega, B, ⟨andT HS.out (by grind [l1B])⟩⟩))
       | (go_ret; exact ⟨andF HS.out (by grind [l1B]), B.out⟩)
     ·refine goes_ Try.func90 (by kernel_rfl) rfl #[.int .i64 (y.f1), .int .i64 (1), .int .i64 (999)] (by rfl) rfl rfl (by (try simp only [List.map_toArray, List.map_cons, List.map_nil]); rfl) ?_
      with_reducible refine cl (clv (spec_l1In.M y.f1 1 999 _) (congrArg Value.bool hq2)) B fun w5 hb B => ?_
      replace F4 := bn F4 hb
      clear hb
      refine ⟨_, rfl, ?_⟩
      refine hK.out _ _ ⟨F4.out, (cb HR0 B)⟩ (fun hHeld => ?_)
      clear hK K
      refine norm_ (a' := ?_) ?_ ?_
      rotate_left
      ·show Act.put _ (some 22) _ = _
       simp only [Act.put, za, zb, zc, i64_w, i32_w]
       rfl
      refine pv 8 (some 23) (v := ?_) (bits 31 511) HT_ (by kernel_rfl) rfl rfl (fun _ _ _ h => h) (by kernel_rfl) ?_ ?_; rotate_left; (intro w'; go_simp; with_reducible rfl)
      refine pv 9 (some 24) (v := ?_) (bits 31 1023) HT_ (by kernel_rfl) rfl rfl (fun _ _ _ h => h) (by kernel_rfl) ?_ ?_; rotate_left; (intro w'; go_simp; with_reducible rfl)
      refine pv 10 (some 25) (v := ?_) (bits 31 2047) HT_ (by kernel_rfl) rfl rfl (fun _ _ _ h => h) (by kernel_rfl) ?_ ?_; rotate_left; (intro w'; go_simp; with_reducible rfl)
      refine pv 11 (some 26) (v := ?_) (bits 31 4095) HT_ (by kernel_rfl) rfl rfl (fun _ _ _ h => h) (by kernel_rfl) ?_ ?_; rotate_left; (intro w'; go_simp; with_reducible rfl)
      refine tv 12 (some 27) (v := ?_) (bits 31 8191) HT_ HW_ (by kernel_rfl) rfl rfl (fun _ _ _ h => h) (by kernel_rfl) hHeld ?_ ?_; rotate_left; (intro w' hS; obtain ⟨s0, s1⟩ := hS; obtain ⟨q0, q1, q2⟩ := cs3 (Aside0.mk s0); go_simp; with_reducible rfl)
      refine norm_ (a' := ?_) ?_ ?_
      rotate_left
      ·simp only [Act.put, za, zb, zc, i64_w, i32_w]
       rfl
      refine one_ (i := 13) (N := some 28) (bits 31 16383) rfl rfl (one_of HT_.out (by kernel_rfl)) (by decide) (fun K hK => ?_)
      rcases hq3 : (l1B y.f2 (-2) 999) with _ | _
      ·refine goes_ Try.func90 (by kernel_rfl) rfl #[.int .i64 (y.f2), .int .i64 (-2), .int .i64 (999)] (by rfl) rfl rfl (by (try simp only [List.map_toArray, List.map_cons, List.map_nil]); rfl) ?_
       with_reducible refine cl (clv (spec_l1In.M y.f2 (-2) 999 _) (congrArg Value.bool hq3)) B fun w6 hb B => ?_
       replace F4 := bn F4 hb
       clear hb
       refine ⟨_, rfl, ?_⟩
       refine hK.out _ _ ⟨F4.out, (cb HR0 B)⟩ (fun hHeld => ?_)
       clear hK K
       refine norm_ (a' := ?_) ?_ ?_
       rotate_left
       ·show Act.put _ (some 28) _ = _
        simp only [Act.put, za, zb, zc, i64_w, i32_w]
        rfl
       refine pv 14 (some 29) (v := ?_) (bits 31 32767) HT_ (by kernel_rfl) rfl rfl (fun _ _ _ h => h) (by kernel_rfl) ?_ ?_; rotate_left; (intro w'; go_simp; with_reducible rfl)
       refine pv 15 (some 30) (v := ?_) (bits 31 65535) HT_ (by kernel_rfl) rfl rfl (fun _ _ _ h => h) (by kernel_rfl) ?_ ?_; rotate_left; (intro w'; go_simp; with_reducible rfl)
       refine pv 16 (some 31) (v := ?_) (bits 31 131071) HT_ (by kernel_rfl) rfl rfl (fun _ _ _ h => h) (by kernel_rfl) ?_ ?_; rotate_left; (intro w'; go_simp; with_reducible rfl)
       refine sv 17 (some 32) (bits 31 262143) HT_ (by kernel_rfl) rfl rfl (fun _ _ _ h => h) (by kernel_rfl) ?_
       refine sv 18 (some 33) (bits 31 524287) HT_ (by kernel_rfl) rfl rfl (fun _ _ _ h => h) (by kernel_rfl) ?_
       refine sv 19 (some 34) (bits 31 1048575) HT_ (by kernel_rfl) rfl rfl (fun _ _ _ h => h) (by kernel_rfl) ?_
       refine sv 20 (some 35) (bits 31 2097151) HT_ (by kernel_rfl) rfl rfl (fun _ _ _ h => h) (by kernel_rfl) ?_
       refine sv 21 (some 36) (bits 31 4194303) HT_ (by kernel_rfl) rfl rfl (fun _ _ _ h => h) (by kernel_rfl) ?_
       refine sv 22 (some 37) (bits 31 8388607) HT_ (by kernel_rfl) rfl rfl (fun _ _ _ h => h) (by kernel_rfl) ?_
       refine sv 23 (some 38) (bits 31 16777215) HT_ (by kernel_rfl) rfl rfl (fun _ _ _ h => h) (by kernel_rfl) ?_
       refine sv 24 (some 39) (bits 31 33554431) HT_ (by kernel_rfl) rfl rfl (fun _ _ _ h => h) (by kernel_rfl) ?_
       refine sv 25 (some 40) (bits 31 67108863) HT_ (by kernel_rfl) rfl rfl (fun _ _ _ h => h) (by kernel_rfl) ?_
       refine sv 26 (some 41) (bits 31 134217727) HT_ (by kernel_rfl) rfl rfl (fun _ _ _ h => h) (by kernel_rfl) ?_
       refine sv 27 (some 42) (bits 31 268435455) HT_ (by kernel_rfl) rfl rfl (fun _ _ _ h => h) (by kernel_rfl) ?_
       refine sv 28 (some 43) (bits 31 536870911) HT_ (by kernel_rfl) rfl rfl (fun _ _ _ h => h) (by kernel_rfl) ?_
       refine sv 29 (some 44) (bits 31 1073741823) HT_ (by kernel_rfl) rfl rfl (fun _ _ _ h => h) (by kernel_rfl) ?_
       refine pv 30 (some 45) (v := ?_) (bits 31 2147483647) HT_ (by kernel_rfl) rfl rfl (fun _ _ _ h => h) (by kernel_rfl) ?_ ?_; rotate_left; (intro w'; go_simp; with_reducible rfl)
       refine norm_ (a' := ?_) ?_ ?_
       rotate_left
       ·simp only [Act.put, za, zb, zc, i64_w, i32_w]
        rfl
       refine done_ (done_of HT_.out (by kernel_rfl)) ?_
       try go_wp2
       all_goals first
        | (go_roundg d; (case measure => omega); (case rel => exact ⟨j + 1, congrArg (Value.int .i64) (Int.natCast_succ _).symm, by omega, by omega, B, ⟨andT HS.out (by grind [l1B])⟩⟩))
        | (go_ret; exact ⟨andF HS.out (by grind [l1B]), B.out⟩)
      ·refine goes_ Try.func90 (by kernel_rfl) rfl #[.int .i64 (y.f2), .int .i64 (-2), .int .i64 (999)] (by rfl) rfl rfl (by (try simp only [List.map_toArray, List.map_cons, List.map_nil]); rfl) ?_
       with_reducible refine cl (clv (spec_l1In.M y.f2 (-2) 999 _) (congrArg Value.bool hq3)) B fun w6 hb B => ?_
       replace F4 := bn F4 hb
       clear hb
       refine ⟨_, rfl, ?_⟩
       refine hK.out _ _ ⟨F4.out, (cb HR0 B)⟩ (fun hHeld => ?_)
       clear hK K
       refine norm_ (a' := ?_) ?_ ?_
       rotate_left
       ·show Act.put _ (some 28) _ = _
        simp only [Act.put, za, zb, zc, i64_w, i32_w]
        rfl
       refine pv 14 (some 29) (v := ?_) (bits 31 32767) HT_ (by kernel_rfl) rfl rfl (fun _ _ _ h => h) (by kernel_rfl) ?_ ?_; rotate_left; (intro w'; go_simp; with_reducible rfl)
       refine pv 15 (some 30) (v := ?_) (bits 31 65535) HT_ (by kernel_rfl) rfl rfl (fun _ _ _ h => h) (by kernel_rfl) ?_ ?_; rotate_left; (intro w'; go_simp; with_reducible rfl)
       refine pv 16 (some 31) (v := ?_) (bits 31 131071) HT_ (by kernel_rfl) rfl rfl (fun _ _ _ h => h) (by kernel_rfl) ?_ ?_; rotate_left; (intro w'; go_simp; with_reducible rfl)
       refine pv 17 (some 32) (v := ?_) (bits 31 262143) HT_ (by kernel_rfl) rfl rfl (fun _ _ _ h => h) (by kernel_rfl) ?_ ?_; rotate_left; (intro w'; go_simp; with_reducible rfl)
       by_cases hz : j = 0
       ·rw [if_pos hz] at HS
        have dz : decide (0 < (j : Int)) = false := decide_eq_false (by omega)
        have dz2 : decide (0 < j) = false := decide_eq_false (by omega)
        clear hz
        refine pv 18 (some 33) (v := ?_) (bits 31 524287) HT_ (by kernel_rfl) rfl rfl (fun _ _ _ h => h) (by kernel_rfl) ?_ ?_; rotate_left; (intro w'; go_simp; with_reducible rfl)
        refine pv 19 (some 34) (v := ?_) (bits 31 1048575) HT_ (by kernel_rfl) rfl rfl (fun _ _ _ h => h) (by kernel_rfl) ?_ ?_; rotate_left; (intro w'; go_simp; with_reducible rfl)
        refine sv 20 (some 35) (bits 31 2097151) HT_ (by kernel_rfl) rfl rfl (fun _ _ _ h => h) (by kernel_rfl) ?_
        refine sv 21 (some 36) (bits 31 4194303) HT_ (by kernel_rfl) rfl rfl (fun _ _ _ h => h) (by kernel_rfl) ?_
        refine sv 22 (some 37) (bits 31 8388607) HT_ (by kernel_rfl) rfl rfl (fun _ _ _ h => h) (by kernel_rfl) ?_
        refine sv 23 (some 38) (bits 31 16777215) HT_ (by kernel_rfl) rfl rfl (fun _ _ _ h => h) (by kernel_rfl) ?_
        refine sv 24 (some 39) (bits 31 33554431) HT_ (by kernel_rfl) rfl rfl (fun _ _ _ h => h) (by kernel_rfl) ?_
        refine sv 25 (some 40) (bits 31 67108863) HT_ (by kernel_rfl) rfl rfl (fun _ _ _ h => h) (by kernel_rfl) ?_
        refine sv 26 (some 41) (bits 31 134217727) HT_ (by kernel_rfl) rfl rfl (fun _ _ _ h => h) (by kernel_rfl) ?_
        refine sv 27 (some 42) (bits 31 268435455) HT_ (by kernel_rfl) rfl rfl (fun _ _ _ h => h) (by kernel_rfl) ?_
        refine sv 28 (some 43) (bits 31 536870911) HT_ (by kernel_rfl) rfl rfl (fun _ _ _ h => h) (by kernel_rfl) ?_
        refine pv 29 (some 44) (v := ?_) (bits 31 1073741823) HT_ (by kernel_rfl) rfl rfl (fun _ _ _ h => h) (by kernel_rfl) ?_ ?_; rotate_left; (intro w'; go_simp; with_reducible rfl)
        refine pv 30 (some 45) (v := ?_) (bits 31 2147483647) HT_ (by kernel_rfl) rfl rfl (fun _ _ _ h => h) (by kernel_rfl) ?_ ?_; rotate_left; (intro w'; go_simp; with_reducible rfl)
        refine norm_ (a' := ?_) ?_ ?_
        rotate_left
        ·simp only [Act.put, za, zb, zc, i64_w, i32_w]
         rfl
        refine done_ (done_of HT_.out (by kernel_rfl)) ?_
        try go_wp2
        all_goals first
         | (go_roundg d; (case measure => omega); (case rel => exact ⟨j + 1, congrArg (Value.int .i64) (Int.natCast_succ _).symm, by omega, by omega, B, ⟨andT HS.out (by grind [l1B])⟩⟩))
         | (go_ret; exact ⟨andF HS.out (by grind [l1B]), B.out⟩)
       ·rw [if_neg hz] at HS
        have dz : decide (0 < (j : Int)) = true := decide_eq_true (by omega)
        have dz2 : decide (0 < j) = true := decide_eq_true (by omega)
        obtain ⟨i, hi⟩ : ∃ i, j - 1 = i := ⟨_, rfl⟩
        rw [hi] at HS
        have WI := Aside0.mk (show (j : Int) - 1 = (i : Int) by omega)
        have hij : i < l.length := by omega
        have IW := Aside0.mk (show wrap64 (i : Int) = (i : Int) by unfold wrap64; omega)
        have i1 := eq_true (show (i : Int) < (l.length : Int) by omega)
        have i2 := eq_true hij
        generalize hx : rd_T100 l (i : Int) = x at HS
        clear hz hi
        refine pv 18 (some 33) (v := ?_) (bits 31 524287) HT_ (by kernel_rfl) rfl rfl (fun _ _ _ h => h) (by kernel_rfl) ?_ ?_; rotate_left; (intro w'; go_simp; with_reducible rfl)
        refine pv 19 (some 34) (v := ?_) (bits 31 1048575) HT_ (by kernel_rfl) rfl rfl (fun _ _ _ h => h) (by kernel_rfl) ?_ ?_; rotate_left; (intro w'; go_simp; with_reducible rfl)
        refine pv 20 (some 35) (v := ?_) (bits 31 2097151) HT_ (by kernel_rfl) rfl rfl (fun _ _ _ h => h) (by kernel_rfl) ?_ ?_; rotate_left; (intro w'; go_simp; with_reducible rfl)
        refine tv 21 (some 36) (v := ?_) (bits 31 4194303) HT_ HW_ (by kernel_rfl) rfl rfl (fun _ _ _ h => h) (by kernel_rfl) hHeld ?_ ?_; rotate_left; (intro w' hS; obtain ⟨s0, s1⟩ := hS; obtain ⟨q0, q1, q2⟩ := cs3 (Aside0.mk s0); go_simp; with_reducible rfl)
        refine pv 22 (some 37) (v := ?_) (bits 31 8388607) HT_ (by kernel_rfl) rfl rfl (fun _ _ _ h => h) (by kernel_rfl) ?_ ?_; rotate_left; (intro w'; go_simp; with_reducible rfl)
        refine pv 23 (some 38) (v := ?_) (bits 31 16777215) HT_ (by kernel_rfl) rfl rfl (fun _ _ _ h => h) (by kernel_rfl) ?_ ?_; rotate_left; (intro w'; go_simp; with_reducible rfl)
        refine pu (i := 24) (N := some 39) (v := .int .i64 ((i : Int))) (bits 31 33554431) rfl rfl (any_of HT_.out (by kernel_rfl)) (fun _ _ _ h => h) (by kernel_rfl) ?_ ?_; (intro w'; go_simp; rw [WI.out]; exact (i64_w _).trans IW.out)
        refine pv 25 (some 40) (v := ?_) (bits 31 67108863) HT_ (by kernel_rfl) rfl rfl (fun _ _ _ h => h) (by kernel_rfl) ?_ ?_; rotate_left; (intro w'; go_simp; with_reducible rfl)
        refine pv 26 (some 41) (v := ?_) (bits 31 134217727) HT_ (by kernel_rfl) rfl rfl (fun _ _ _ h => h) (by kernel_rfl) ?_ ?_; rotate_left; (intro w'; go_simp; with_reducible rfl)
        refine tv 27 (some 42) (v := ?_) (bits 31 268435455) HT_ HW_ (by kernel_rfl) rfl rfl (fun _ _ _ h => h) (by kernel_rfl) hHeld ?_ ?_; rotate_left; (intro w' hS; obtain ⟨s0, s1⟩ := hS; obtain ⟨_, hA, q0, q1, q2⟩ := at_T100 s1 (i : Int) (by omega) (by omega); cases hA; rw [Int.toNat_natCast] at q0 q1 q2; rw [hx] at q0 q1 q2; go_simp; with_reducible rfl)
        refine pv 28 (some 43) (v := ?_) (bits 31 536870911) HT_ (by kernel_rfl) rfl rfl (fun _ _ _ h => h) (by kernel_rfl) ?_ ?_; rotate_left; (intro w'; go_simp; with_reducible rfl)
        refine pv 29 (some 44) (v := ?_) (bits 31 1073741823) HT_ (by kernel_rfl) rfl rfl (fun _ _ _ h => h) (by kernel_rfl) ?_ ?_; rotate_left; (intro w'; go_simp; with_reducible rfl)
        refine pv 30 (some 45) (v := ?_) (bits 31 2147483647) HT_ (by kernel_rfl) rfl rfl (fun _ _ _ h => h) (by kernel_rfl) ?_ ?_; rotate_left; (intro w'; go_simp; with_reducible rfl)
        refine norm_ (a' := ?_) ?_ ?_
        rotate_left
        ·simp only [Act.put, za, zb, zc, i64_w, i32_w]
         rfl
        refine done_ (done_of HT_.out (by kernel_rfl)) ?_
        try go_wp2
        all_goals first
         | (go_roundg d; (case measure => omega); (case rel => exact ⟨j + 1, congrArg (Value.int .i64) (Int.natCast_succ _).symm, by omega, by omega, B, ⟨andT HS.out (by grind [l1B])⟩⟩))
         | (go_ret; exact ⟨andF HS.out (by grind [l1B]), B.out⟩))
   all_goals try go_wp2
   all_goals try (go_ret; exact ⟨andF HS.out (by grind [l1B]), B.out⟩)
  ·have cj : decide ((j : Int) < (l.length : Int)) = false := decide_eq_false (by omega)
   have hr : r = true := by rw [← H.out]; exact sesJ_end hlt
   subst hr
   go_wp2
   go_ret
   exact ⟨rfl, B.out⟩

def spec_StateValid.T6 : Bool × List (List Nat × List Nat) := (true, [([], []), ([0], [0]), ([], []), ([2], [2]), ([], []), ([3, 4], [3, 4]), ([5], [5]), ([6], [6]), ([1, 7], [1, 7]), ([8], [8])])
def spec_StateValid.B6 : List Nat := [0, 1, 0, 4, 0, 28, 60, 124, 255, 511]
theorem spec_StateValid.tab6 : rtab .any (opsOf Try.f12 6) = spec_StateValid.T6 := by kernel_rfl
theorem spec_StateValid.bits6 : waitsOk spec_StateValid.T6.2 spec_StateValid.B6 = true := by kernel_rfl
theorem spec_StateValid.M (a b : ByteArray) (AP : Option Addr) (cP : Nat) (ps : List S61) (AS : Option Addr) (cS : Nat) (ss : List S100) (t : Bool) (c : ByteArray) (w : World) (hrp : Kd.C k61 w AP ps.length ps) (hrs : Kd.C k100 w AS ss.length ss) : Calls Try.prog 12 #[.agg #[.string a, .string b, .slice AP ps.length cP, .slice AS ss.length cS, .bool t, .string c]] w fun e w' => e = .returned (.bool (stB a b ps ss t c)) ∧ Below w.heap.size w w' := by
 have B := Aside0.mk (Below.refl w.heap.size w)
 have hu := Try.underlying34
 have hu2 := Try.underlying30
 have HRP := Aside0.mk hrp
 have HRS := Aside0.mk hrs
 clear hrp hrs
 go_enter Try.func12, Try.ntmps12
 go_wp2_with (first
  | ((with_reducible refine gate_dst (N := 1) rfl ?_); refine bx ?hg (N := 1) ?hd (cs := #[.string a, .string b, .slice AP ps.length cP, .slice AS ss.length cS, .bool t, .string c]) (t := 34) ?hr B ?_; (case hd | hg => rfl); (case hr => go_simp; first | done | rfl); intro g1 w1 hb B F1 L1 E1; obtain ⟨c1_0, c1_1, c1_2, c1_3, c1_4, c1_5⟩ := cs6 F1; clear hb E1)
  | (go_at_call 47; with_reducible refine cl (spec_IntervalValid.M a b _) B fun w2 hb B => ?_; replace F1 := bn F1 hb; clear c1_0 c1_1 c1_2 c1_3 c1_4 c1_5; obtain ⟨c1_0, c1_1, c1_2, c1_3, c1_4, c1_5⟩ := cs6 F1; clear hb)
  | (go_at_call 48; with_reducible refine cl (spec_PairsValid.M _ _ ps _ (cb HRP B)) B fun w3 hb B => ?_; replace F1 := bn F1 hb; clear c1_0 c1_1 c1_2 c1_3 c1_4 c1_5; obtain ⟨c1_0, c1_1, c1_2, c1_3, c1_4, c1_5⟩ := cs6 F1; clear hb)
  | (go_at_call 49; with_reducible refine cl (spec_SessionsValid.M _ _ ss _ (cb HRS B)) B fun w4 hb B => ?_; replace F1 := bn F1 hb; clear hb))
 all_goals try (go_ret; exact ⟨congrArg (fun b => Ending.returned (Value.bool b)) (by grind [stB]), B.out⟩)
 have hv : ivB a b = true ∧ prB ps = true ∧ sesB ss = true := by grind
 have hst : stB a b ps ss t c = ((ps.all fun p => hasB a b p.f0) && tailB a b t c) := by
  unfold stB
  rw [all_has hv.1 hv.2.1, hv.1, hv.2.1, hv.2.2]
  rfl
 obtain ⟨q, hq⟩ : ∃ q, (ps.all fun p => hasB a b p.f0) = q := ⟨_, rfl⟩
 rw [hq] at hst
 have H := Aside0.mk (show ((ps.drop 0).all fun p => hasB a b p.f0) = q from hq)
 have L48 := Aside0.mk (prB_len hv.2.1)
 clear hq hv c1_0 c1_1 c1_2 c1_3 c1_4 c1_5
 have HST := Aside0.mk hst
 clear hst
 go_loopg [3] (ps.length + 1) (fun kx v3 wr => ∃ j : Nat, v3 = .int .i64 (j : Int) ∧ j ≤ ps.length ∧ ps.length < j + kx ∧ Aside0 (Below w.heap.size w wr) ∧ Aside0 (wr.heap[g1]? = some (.cells #[.string a, .string b, .slice AP ps.length cP, .slice AS ss.length cS, .bool t, .string c] 34 (0, 0))) ∧ Aside0 (((ps.drop j).all fun p => hasB a b p.f0) = q))
 case atStart => exact ⟨0, rfl, by omega, by omega, B, F1, H⟩
 case round =>
  clear H B F1
  obtain ⟨j, rfl, hj, hk, B, F1, H⟩ := hrel
  have hst := HST.out
  obtain ⟨c1_0, c1_1, c1_2, c1_3, c1_4, c1_5⟩ := cs6 F1
  by_cases hlt : j < ps.length
  ·have HS := H.out
   rw [pr_drop hlt, List.all_cons] at HS
   clear H
   obtain ⟨d, rfl⟩ : ∃ d, gk = d + 1 := ⟨gk - 1, by omega⟩
   have h48 := L48.out
   have cj : decide ((j : Int) < (ps.length : Int)) = true := decide_eq_true (by omega)
   obtain ⟨ad, hA, y0, y1⟩ := at_T61 (cb HRP B) (j : Int) (by omega) (by omega)
   cases hA
   rw [Int.toNat_natCast] at y0 y1
   have j1 := eq_true (show (j : Int) < (ps.length : Int) by omega)
   have j2 := eq_true hlt
   generalize hy : rd_T61 ps (j : Int) = y at *
   try go_wp2
   all_goals (
    refine rg (n := 10) (S := fun W => W.heap[g1]? = some (.cells #[.string a, .string b, .slice (some ad) ps.length cP, .slice AS ss.length cS, .bool t, .string c] 34 (0, 0)) ∧ Kd.C k61 W (some ad) ps.length ps) (ds := []) #[false, false, false, false, false, false, false, false, false, false] (by kernel_rfl) rfl rfl ⟨F1.out, (cb HRP B)⟩ id B (fun w5 hb B hHeld => ?_)
    refine with_tabW spec_StateValid.tab6 spec_StateValid.bits6 (fun HT_ HW_ => ?_)
    replace F1 := bn F1 hb
    clear hb
    refine pv 0 (some 30) (v := ?_) (bits 10 1) HT_ (by kernel_rfl) rfl rfl (fun _ _ _ h => h) (by kernel_rfl) ?_ ?_; rotate_left; (intro w'; go_simp; with_reducible rfl)
    refine tv 1 (some 31) (v := ?_) (bits 10 3) HT_ HW_ (by kernel_rfl) rfl rfl (fun _ _ _ h => h) (by kernel_rfl) hHeld ?_ ?_; rotate_left; (intro w' hS; obtain ⟨s0, s1⟩ := hS; obtain ⟨q0, q1, q2, q3, q4, q5⟩ := cs6 (Aside0.mk s0); go_simp; with_reducible rfl)
    refine pv 2 (some 32) (v := ?_) (bits 10 7) HT_ (by kernel_rfl) rfl rfl (fun _ _ _ h => h) (by kernel_rfl) ?_ ?_; rotate_left; (intro w'; go_simp; with_reducible rfl)
    refine tv 3 (some 33) (v := ?_) (bits 10 15) HT_ HW_ (by kernel_rfl) rfl rfl (fun _ _ _ h => h) (by kernel_rfl) hHeld ?_ ?_; rotate_left; (intro w' hS; obtain ⟨s0, s1⟩ := hS; obtain ⟨q0, q1, q2, q3, q4, q5⟩ := cs6 (Aside0.mk s0); go_simp; with_reducible rfl)
    refine pv 4 (some 34) (v := ?_) (bits 10 31) HT_ (by kernel_rfl) rfl rfl (fun _ _ _ h => h) (by kernel_rfl) ?_ ?_; rotate_left; (intro w'; go_simp; with_reducible rfl)
    refine pv 5 (some 35) (v := ?_) (bits 10 63) HT_ (by kernel_rfl) rfl rfl (fun _ _ _ h => h) (by kernel_rfl) ?_ ?_; rotate_left; (intro w'; go_simp; with_reducible rfl)
    refine pv 6 (some 36) (v := ?_) (bits 10 127) HT_ (by kernel_rfl) rfl rfl (fun _ _ _ h => h) (by kernel_rfl) ?_ ?_; rotate_left; (intro w'; go_simp; with_reducible rfl)
    refine tv 7 (some 37) (v := ?_) (bits 10 255) HT_ HW_ (by kernel_rfl) rfl rfl (fun _ _ _ h => h) (by kernel_rfl) hHeld ?_ ?_; rotate_left; (intro w' hS; obtain ⟨s0, s1⟩ := hS; obtain ⟨_, hA, q0, q1⟩ := at_T61 s1 (j : Int) (by omega) (by omega); cases hA; rw [Int.toNat_natCast] at q0 q1; rw [hy] at q0 q1; go_simp; with_reducible rfl)
    refine norm_ (a' := ?_) ?_ ?_
    rotate_left
    ·simp only [Act.put, za, zb, zc, i64_w, i32_w]
     rfl
    refine one_ (i := 8) (N := some 38) (bits 10 511) rfl rfl (one_of HT_.out (by kernel_rfl)) (by decide) (fun K hK => ?_)
    refine goes_ Try.func50 (by kernel_rfl) rfl #[.agg #[.string a, .string b], .string y.f0] (by rfl) rfl rfl (by (try simp only [List.map_toArray, List.map_cons, List.map_nil]); rfl) ?_
    with_reducible refine cl (spec_IntervalHas.M a b y.f0 _) B fun w6 hb B => ?_
    replace F1 := bn F1 hb
    clear hb
    refine ⟨_, rfl, ?_⟩
    refine hK.out _ _ ⟨F1.out, (cb HRP B)⟩ (fun hHeld => ?_)
    clear hK K
    refine norm_ (a' := ?_) ?_ ?_
    rotate_left
    ·show Act.put _ (some 38) _ = _
     simp only [Act.put, za, zb, zc, i64_w, i32_w]
     rfl
    refine pv 9 (some 39) (v := ?_) (bits 10 1023) HT_ (by kernel_rfl) rfl rfl (fun _ _ _ h => h) (by kernel_rfl) ?_ ?_; rotate_left; (intro w'; go_simp; with_reducible rfl)
    refine norm_ (a' := ?_) ?_ ?_
    rotate_left
    ·simp only [Act.put, za, zb, zc, i64_w, i32_w]
     rfl
    refine done_ (done_of HT_.out (by kernel_rfl)) ?_
    try go_wp2
    all_goals first
     | (go_roundg d; (case measure => omega); (case rel => exact ⟨j + 1, congrArg (Value.int .i64) (Int.natCast_succ _).symm, by omega, by omega, B, F1, ⟨andT HS (by grind)⟩⟩))
     | (go_ret; exact ⟨congrArg (fun b => Ending.returned (Value.bool b)) (by have HS := HS; grind [stB]), B.out⟩))
   all_goals try go_wp2
  ·have cj : decide ((j : Int) < (ps.length : Int)) = false := decide_eq_false (by omega)
   have hr : q = true := by rw [← H.out, List.drop_of_length_le (by omega)]; rfl
   clear H
   go_wp2_with (first
    | (go_at_call 51; with_reducible refine cl (spec_IntervalCut.M a b c _) B fun w1 hb B => ?_; replace F1 := bn F1 hb; clear c1_0 c1_1 c1_2 c1_3 c1_4 c1_5; obtain ⟨c1_0, c1_1, c1_2, c1_3, c1_4, c1_5⟩ := cs6 F1; clear hb)
    | ((with_reducible refine gate_dst (N := 4) rfl ?_); refine bx ?hg (N := 4) ?hd (cs := #[.string (⟨#[]⟩ : ByteArray), .string (⟨#[]⟩ : ByteArray)]) (t := 30) ?hr B ?_; (case hd | hg => rfl); (case hr => go_simp; first | done | rfl); intro g4 w2 hb B F4 L4 E4; have N1_4 := ne1 E4 F1; replace F1 := bn F1 hb; clear c1_0 c1_1 c1_2 c1_3 c1_4 c1_5; obtain ⟨c1_0, c1_1, c1_2, c1_3, c1_4, c1_5⟩ := cs6 F1; clear hb E4)
    | ((with_reducible refine gate_dst (N := 5) rfl ?_); refine bx ?hg (N := 5) ?hd (cs := #[.string (⟨#[]⟩ : ByteArray), .string (⟨#[]⟩ : ByteArray)]) (t := 30) ?hr B ?_; (case hd | hg => rfl); (case hr => go_simp; first | done | rfl); intro g5 w3 hb B F5 L5 E5; have N1_5 := ne1 E5 F1; have N4_5 := ne1 E5 F4; replace F1 := bn F1 hb; replace F4 := bn F4 hb; clear c1_0 c1_1 c1_2 c1_3 c1_4 c1_5; obtain ⟨c1_0, c1_1, c1_2, c1_3, c1_4, c1_5⟩ := cs6 F1; clear hb E5)
    | ((with_reducible refine gate_store (t := 30) (p := 4) rfl ?_); obtain ⟨y0, y1, z0, z1⟩ := cz2 F4; refine sx (t := 30) (t' := 30) (p := 4) (v := ?vo4) ?hg ?ho ?hn 0 [.string (cutV a b c).1, .string (cutV a b c).2.1] [.string (cutV a b c).1, .string (cutV a b c).2.1] ?hr B F4 L4 rfl (Nat.le_of_ble_eq_true rfl) ?_; (case ho | hg | hn => rfl); (case hr => go_simp; first | done | rfl); intro w4 hk B G; replace F1 := bk F1 hk N1_4.out; replace F5 := bk F5 hk N4_5.out.symm; replace F4 := G; clear c1_0 c1_1 c1_2 c1_3 c1_4 c1_5; obtain ⟨c1_0, c1_1, c1_2, c1_3, c1_4, c1_5⟩ := cs6 F1; clear hk y0 z0 y1 z1)
    | ((with_reducible refine gate_store (t := 30) (p := 5) rfl ?_); obtain ⟨y0, y1, z0, z1⟩ := cz2 F5; refine sx (t := 30) (t' := 30) (p := 5) (v := ?vo5) ?hg ?ho ?hn 0 [.string (cutV a b c).2.2.1, .string (cutV a b c).2.2.2.1] [.string (cutV a b c).2.2.1, .string (cutV a b c).2.2.2.1] ?hr B F5 L5 rfl (Nat.le_of_ble_eq_true rfl) ?_; (case ho | hg | hn => rfl); (case hr => go_simp; first | done | rfl); intro w5 hk B G; replace F1 := bk F1 hk N1_5.out; replace F5 := G; clear c1_0 c1_1 c1_2 c1_3 c1_4 c1_5; obtain ⟨c1_0, c1_1, c1_2, c1_3, c1_4, c1_5⟩ := cs6 F1; clear hk y0 z0 y1 z1))
   all_goals go_ret
   all_goals
    refine ⟨congrArg (fun b => Ending.returned (Value.bool b)) ?_, B.out⟩
    rw [hst, hr, Bool.true_and]
    unfold tailB
    grind [cutV_ok]

/-! The place of a key among pairs in order. -/
theorem less_irr : ∀ x : List UInt8, Op.bytesLess x x = false
  | [] => rfl
  | a :: x => by simp [Op.bytesLess, less_irr x]
theorem less_trans : ∀ x y z : List UInt8, Op.bytesLess x y = true → Op.bytesLess y z = true → Op.bytesLess x z = true
  | [], [], _, h, _ => by cases h
  | [], _ :: _, [], _, h => by cases h
  | [], _ :: _, _ :: _, _, _ => rfl
  | _ :: _, [], _, h, _ => by cases h
  | _ :: _, _ :: _, [], _, h => by cases h
  | a :: x, b :: y, c :: z, h, k => by
    simp only [Op.bytesLess, Bool.or_eq_true, Bool.and_eq_true, decide_eq_true_eq, beq_iff_eq] at h k ⊢
    rcases h with h | ⟨h1, h2⟩
    · rcases k with k | ⟨k1, k2⟩
      · exact .inl (UInt8.lt_trans h k)
      · subst k1; exact .inl h
    · subst h1
      rcases k with k | ⟨k1, k2⟩
      · exact .inl k
      · exact .inr ⟨k1, less_trans x y z h2 k2⟩
theorem ltB_irr (a : ByteArray) : ltB a a = false := less_irr _
theorem ltB_trans {a b c : ByteArray} (h : ltB a b = true) (k : ltB b c = true) : ltB a c = true := less_trans _ _ _ h k
theorem ltB_tri {a b : ByteArray} (h : ltB a b = false) (k : ltB b a = false) : a = b := by
  have ht := less_total a.toList b.toList
  unfold ltB at h k
  rw [h, k] at ht
  exact ba_inj (by simpa using ht)
theorem ltB_le {a b c : ByteArray} (h : ltB a b = false) (k : ltB a c = true) : ltB b c = true := by
  cases hb : ltB b a with
  | true => exact ltB_trans hb k
  | false => rw [← ltB_tri h hb]; exact k
theorem prG_all (l : List S61) : ∀ q : ByteArray, prG (some q) l = true → ∀ x ∈ l, ltB q x.f0 = true := by
  induction l with
  | nil => intro q _ x hx; cases hx
  | cons s r ih =>
    intro q h x hx
    simp only [prG, Bool.and_eq_true] at h
    have h1 : ltB q s.f0 = true := h.2.1
    rcases List.mem_cons.mp hx with rfl | hx
    · exact h1
    · exact ltB_trans h1 (ih s.f0 h.2.2 x hx)
theorem prG_order (l : List S61) : ∀ p : Option ByteArray, prG p l = true → l.Pairwise (fun a b => ltB a.f0 b.f0 = true) := by
  induction l with
  | nil => intro p _; exact List.Pairwise.nil
  | cons s r ih =>
    intro p h
    simp only [prG, Bool.and_eq_true] at h
    exact List.Pairwise.cons (prG_all r s.f0 h.2.2) (ih _ h.2.2)
theorem prB_order {l : List S61} (h : prB l = true) : l.Pairwise (fun a b => ltB a.f0 b.f0 = true) := by
  unfold prB at h
  rw [Bool.and_eq_true] at h
  exact prG_order l none h.2
def placeP (l : List S61) (c : ByteArray) : Nat → Nat → Nat → Nat
  | 0, lo, _ => lo
  | d + 1, lo, hi => if lo < hi then (if ltB (rd_T61 l (((lo + hi) / 2 : Nat) : Int)).f0 c = true then placeP l c d ((lo + hi) / 2 + 1) hi else placeP l c d lo ((lo + hi) / 2)) else lo
def atP (l : List S61) (c : ByteArray) : Nat := (l.takeWhile fun p => ltB p.f0 c).length
theorem take_len {α : Type} {p : α → Bool} : ∀ (l : List α) (R : Nat), R ≤ l.length → (∀ i (h : i < l.length), i < R → p l[i] = true) → (∀ h : R < l.length, p l[R] = false) → (l.takeWhile p).length = R
  | [], R, h, _, _ => by simp at h; simp [h]
  | x :: r, 0, _, _, h => by
    have := h (by simp)
    simp only [List.getElem_cons_zero] at this
    simp [List.takeWhile_cons, this]
  | x :: r, R + 1, h, h1, h2 => by
    have h0 := h1 0 (by simp) (by omega)
    simp only [List.getElem_cons_zero] at h0
    rw [List.takeWhile_cons, if_pos h0, List.length_cons, take_len r R (by simpa using h) (fun i hi hR => by have := h1 (i + 1) (by simpa using hi) (by omega); simpa using this) (fun hR => by have := h2 (by simpa using hR); simpa using this)]
theorem atP_le (l : List S61) (c : ByteArray) : atP l c ≤ l.length := by
  unfold atP
  induction l with
  | nil => simp
  | cons x r ih =>
    rw [List.takeWhile_cons]
    split
    · rw [List.length_cons, List.length_cons]; omega
    · simp
theorem placeP_spec {l : List S61} (ho : l.Pairwise (fun a b => ltB a.f0 b.f0 = true)) (c : ByteArray) : ∀ (d lo hi : Nat), lo ≤ hi → hi ≤ l.length → hi - lo ≤ d →
    (∀ i (h : i < l.length), i < lo → ltB l[i].f0 c = true) → (∀ i (h : i < l.length), hi ≤ i → ltB l[i].f0 c = false) →
    placeP l c d lo hi ≤ l.length ∧ (∀ i (h : i < l.length), i < placeP l c d lo hi → ltB l[i].f0 c = true) ∧ (∀ i (h : i < l.length), placeP l c d lo hi ≤ i → ltB l[i].f0 c = false)
  | 0, lo, hi, h1, h2, h3, h4, h5 => by
    obtain rfl : lo = hi := by omega
    exact ⟨h2, h4, h5⟩
  | d + 1, lo, hi, h1, h2, h3, h4, h5 => by
    rw [placeP]
    by_cases hlt : lo < hi
    · rw [if_pos hlt]
      have hm : (lo + hi) / 2 < l.length := by omega
      rw [pr_nat hm]
      have hord : ∀ i j (hi : i < l.length) (hj : j < l.length), i < j → ltB l[i].f0 l[j].f0 = true := fun i j hi hj hij => List.pairwise_iff_getElem.mp ho i j hi hj hij
      by_cases hc : ltB (l[(lo + hi) / 2]'hm).f0 c = true
      · rw [if_pos hc]
        refine placeP_spec ho c d _ _ (by omega) h2 (by omega) (fun i hil hlo => ?_) h5
        rcases Nat.lt_or_eq_of_le (show i ≤ (lo + hi) / 2 by omega) with h | h
        · exact ltB_trans (hord i _ hil hm h) hc
        · subst h; exact hc
      · rw [if_neg hc]
        refine placeP_spec ho c d _ _ (by omega) (by omega) (by omega) h4 (fun i hil hlo => ?_)
        rcases Nat.lt_or_eq_of_le (show (lo + hi) / 2 ≤ i by omega) with h | h
        · cases hh : ltB l[i].f0 c with
          | false => rfl
          | true => exact absurd (ltB_trans (hord _ i hm hil h) hh) hc
        · subst h; exact Bool.eq_false_iff.mpr hc
    · rw [if_neg hlt]
      obtain rfl : lo = hi := by omega
      exact ⟨h2, h4, h5⟩
theorem placeP_at {l : List S61} (h : prB l = true) (c : ByteArray) : placeP l c l.length 0 l.length = atP l c := by
  obtain ⟨h1, h2, h3⟩ := placeP_spec (prB_order h) c l.length 0 l.length (Nat.zero_le _) (Nat.le_refl _) (by omega) (fun i _ hi => absurd hi (Nat.not_lt_zero _)) (fun i hil hi => by omega)
  exact (take_len l _ h1 h2 (fun h => h3 _ h (Nat.le_refl _))).symm
def hitM (l : List S61) (c : ByteArray) : Bool := decide (atP l c < l.length) && decide ((rd_T61 l ((atP l c : Nat) : Int)).f0 = c)
def getM (l : List S61) (c : ByteArray) : Int := if prB l && hitM l c then (rd_T61 l ((atP l c : Nat) : Int)).f1 else -1
def putM (l : List S61) (c : ByteArray) (v : Int) : List S61 × Bool :=
  if prB l && (keyB c && l1B v 0 999) then (if hitM l c then ((l.take (atP l c) ++ [⟨c, v⟩]) ++ l.drop (atP l c + 1), true) else if 48 ≤ l.length then (l, false) else ((l.take (atP l c) ++ [⟨c, v⟩]) ++ l.drop (atP l c), true)) else ([], false)
def dropM (l : List S61) (c : ByteArray) : List S61 × Bool :=
  if prB l then (if hitM l c then (l.take (atP l c) ++ l.drop (atP l c + 1), true) else (l, false)) else ([], false)
theorem hit_true {l : List S61} {c : ByteArray} (h : hitM l c = true) : atP l c < l.length ∧ (rd_T61 l ((atP l c : Nat) : Int)).f0 = c ∧ ((rd_T61 l ((atP l c : Nat) : Int)).f0.toList == c.toList) = true := by
  unfold hitM at h
  rw [Bool.and_eq_true, decide_eq_true_eq, decide_eq_true_eq] at h
  exact ⟨h.1, h.2, by rw [str_beq, decide_eq_true h.2]⟩
theorem hit_false {l : List S61} {c : ByteArray} (h : hitM l c = false) (hlt : atP l c < l.length) : ((rd_T61 l ((atP l c : Nat) : Int)).f0.toList == c.toList) = false := by
  unfold hitM at h
  rw [decide_eq_true hlt, Bool.true_and, decide_eq_false_iff_not] at h
  rw [str_beq, decide_eq_false h]

/-! Pairs in order, cut at a key. -/
theorem cut_sorted {α : Type} (q : α → Bool) : ∀ l : List α, l.Pairwise (fun x y => q y = true → q x = true) → l.take (l.takeWhile q).length = l.filter q ∧ l.drop (l.takeWhile q).length = l.filter (fun x => !q x)
  | [], _ => ⟨rfl, rfl⟩
  | x :: r, h => by
    rw [List.pairwise_cons] at h
    obtain ⟨h1, h2⟩ := cut_sorted q r h.2
    cases hx : q x with
    | true => simp [List.takeWhile_cons, hx, h1, h2]
    | false =>
      have hn : ∀ y ∈ r, q y = false := fun y hy => by
        cases hq : q y with
        | false => rfl
        | true => rw [h.1 y hy hq] at hx; cases hx
      have f1 : r.filter q = [] := List.filter_eq_nil_iff.mpr fun y hy => by simp [hn y hy]
      have f2 : r.filter (fun x => !q x) = r := List.filter_eq_self.mpr fun y hy => by simp [hn y hy]
      simp [List.takeWhile_cons, hx, f1, f2]
theorem ord_lt {l : List S61} (ho : l.Pairwise (fun a b => ltB a.f0 b.f0 = true)) (c : ByteArray) : l.Pairwise (fun x y => ltB y.f0 c = true → ltB x.f0 c = true) :=
  ho.imp fun h k => ltB_trans h k
theorem take_at {l : List S61} (ho : l.Pairwise (fun a b => ltB a.f0 b.f0 = true)) (c : ByteArray) : l.take (atP l c) = l.filter (fun p => ltB p.f0 c) := (cut_sorted _ l (ord_lt ho c)).1
theorem drop_at {l : List S61} (ho : l.Pairwise (fun a b => ltB a.f0 b.f0 = true)) (c : ByteArray) : l.drop (atP l c) = l.filter (fun p => !ltB p.f0 c) := (cut_sorted _ l (ord_lt ho c)).2

/-! The model of the pairs of an interval. -/
def inM (l : List S61) (a b : ByteArray) : List S61 := if prB l && ivB a b then l.filter (fun p => insB a b p.f0) else []
theorem inM_len (l : List S61) (a b : ByteArray) : (inM l a b).length ≤ l.length := by
  unfold inM
  split
  · exact List.length_filter_le _ _
  · simp
def hiP (l : List S61) (b : ByteArray) : Nat := if b.toList = ([] : List UInt8) then l.length else atP l b
theorem hiP_le (l : List S61) (b : ByteArray) : hiP l b ≤ l.length := by
  unfold hiP
  split
  · exact Nat.le_refl _
  · exact atP_le l b
theorem at_mono {l : List S61} {a b : ByteArray} (h : ∀ x : ByteArray, ltB x a = true → ltB x b = true) : atP l a ≤ atP l b := by
  unfold atP
  induction l with
  | nil => simp
  | cons x r ih =>
    rw [List.takeWhile_cons, List.takeWhile_cons]
    cases ha : ltB x.f0 a with
    | false => simp
    | true => simp only [h _ ha, if_true, List.length_cons]; omega
theorem ivB_lt {a b : ByteArray} (h : ivB a b = true) (hb : b.toList ≠ ([] : List UInt8)) : ∀ x : ByteArray, ltB x a = true → ltB x b = true := by
  intro x hx
  unfold ivB at h
  by_cases ha : a.toList = ([] : List UInt8)
  · unfold ltB at hx
    rw [ha] at hx
    cases hx' : x.toList <;> rw [hx'] at hx <;> cases hx
  · rw [if_neg ha, if_neg hb] at h
    simp only [Bool.and_eq_true] at h
    exact ltB_trans hx h.2.2
theorem at_hi {l : List S61} {a b : ByteArray} (h : ivB a b = true) : atP l a ≤ hiP l b := by
  unfold hiP
  split
  · exact atP_le l a
  · rename_i hb; exact at_mono (ivB_lt h hb)
theorem in_slice {l : List S61} {a b : ByteArray} (hv : prB l = true) (h : ivB a b = true) : (l.take (hiP l b)).drop (atP l a) = inM l a b := by
  have ho := prB_order hv
  unfold inM
  rw [hv, h, Bool.true_and, if_pos rfl]
  unfold hiP
  by_cases hb : b.toList = ([] : List UInt8)
  · rw [if_pos hb, List.take_length, drop_at ho]
    refine List.filter_congr fun x _ => ?_
    unfold insB ltB
    rw [if_pos hb, Bool.and_true]
  · rw [if_neg hb, take_at ho]
    have hm := at_mono (l := l) (ivB_lt h hb)
    have e1 : atP (l.filter (fun p => ltB p.f0 b)) a = atP l a := by
      rw [← take_at ho b]
      unfold atP at hm ⊢
      generalize hn : (l.takeWhile fun p => ltB p.f0 b).length = n at hm
      clear hn hv h hb
      induction l generalizing n with
      | nil => simp
      | cons x r ih =>
        cases ha : ltB x.f0 a with
        | false => cases n <;> simp [List.takeWhile_cons, ha]
        | true =>
          simp only [List.takeWhile_cons, ha, if_true, List.length_cons] at hm ⊢
          obtain ⟨n, rfl⟩ : ∃ m, n = m + 1 := ⟨n - 1, by omega⟩
          simp only [List.take_succ_cons, List.takeWhile_cons, ha, if_true, List.length_cons]
          rw [ih (List.Pairwise.of_cons ho) n (by omega)]
    rw [← e1, drop_at (ho.sublist (List.filter_sublist)), List.filter_filter]
    refine List.filter_congr fun x _ => ?_
    unfold insB ltB
    rw [if_neg hb]
theorem has_ins {l : List S61} {a b : ByteArray} (hv : prB l = true) (h : ivB a b = true) {j : Nat} (hj : j < l.length) : hasB a b (rd_T61 l (j : Int)).f0 = insB a b (rd_T61 l (j : Int)).f0 := by
  unfold hasB
  rw [h, prB_key hv _ (by rw [pr_nat hj]; exact List.getElem_mem _)]
  rfl

/-! Rows that are made and written. -/
section
variable {P : Program} {w W W' : World} {α β : Type} {d : Kd α} {e b : Nat} {xs : List α}
variable {ops ops' : Array Oper} {o : Oper} {rest : List Oper} {a : Act} {QE : Exit → Act → World → Prop}
theorem mkr (d : Kd α) (e : Nat) (hgd : o.guard = none) {N : Tmp} (hd : o.dst = some N) (t : TypeId) (x y : Operand) (ho : o.op = .makeSlice t x y) (n : Nat) (hx : a.eval x = .int .i64 (n : Int)) (hy : a.eval y = .int .i64 (n : Int))
    (ht : P.underlying t = some (.slice e)) (z : Value) (bytes : Nat) (hinfo : (P.info? e).map (fun i => (i.zero, i.size, i.bytes)) = some (some z, d.sz, bytes)) (hz : z.cells.size = d.sz) (hs0 : 0 < d.sz) (hb0 : 0 < bytes)
    (z0 : α) (hzero : d.M W W.heap.size (fun _ => True) z0 z.cells.toList) (hl : n * bytes ≤ 281474976710656) (B : Aside0 (Below w.heap.size w W))
    (h : ∀ A kk w1, Below W.heap.size W w1 → Aside0 (Below w.heap.size w w1) → Aside0 (Ow d e w1 w.heap.size (.slice A n kk) (List.replicate n z0)) → Aside0 (Fr W (.slice A n kk)) → wpList P ops QE rest (a.put o.dst (.slice A n kk)) w1) : wpList P ops QE (o :: rest) a W :=
  Kd.R_make d W.heap.size e hgd hd t x y ho n hx hy ht z bytes hinfo hz hs0 hb0 z0 hzero (fun _ h => h) trivial (Int.natCast_nonneg n) (by rwa [Int.toNat_natCast]) (Below.refl _ _) (Nat.le_refl _) fun v1 w1 hR hb hg hnew => by
    rw [Int.toNat_natCast] at hR
    obtain ⟨A, kk, hv⟩ := Kd.R_slice hR
    rw [List.length_replicate] at hv
    subst hv
    exact h A kk w1 hb ⟨below_step B.out hb⟩ ⟨Kd.R_lower hR (below_size B.out)⟩ ⟨fun k hk => Kd.R_base hR k hk⟩
theorem fr {v v' : Value} {β : Type} {d' : Kd β} {e' : Nat} {ys : List β} (q : Aside0 (Fr W v)) (R : Aside0 (Ow d' e' W b v' ys)) : Aside0 (∀ k, v.ownBlock = some k → v'.ownBlock = some k → False) := ⟨fun k h1 h2 => by
  have := q.out k h1
  have := Kd.R_lt R.out k h2
  omega⟩
/-- the form of a row that is not empty -/
theorem rform {A : Option Addr} {n c : Nat} (R : Aside0 (Ow d e W b (.slice A n c) xs)) (hp : 0 < xs.length) : ∃ g, A = some ⟨g, 0, none⟩ ∧ b ≤ g := by
  obtain ⟨g, cap, hv, hb, _⟩ := Kd.R_form R.out hp
  cases hv
  exact ⟨g, rfl, hb⟩
/-- the cells of an element -/
theorem rcells {g n c : Nat} (z : α) (R : Aside0 (Ow d e W b (.slice (some ⟨g, 0, none⟩) n c) xs)) (i : Nat) (hi : i < n) : ∃ cs, cs.length = d.sz ∧ d.M W b (fun k => True ∧ k ≠ g) (xs.getD i z) cs ∧ (∀ j u, cs[j]? = some u → W.cell? ⟨g, i * d.sz + j, none⟩ = some u) ∧ ∀ j, W.frozen? ⟨g, i * d.sz + j, none⟩ = false := by
  have := Kd.R_elem R.out z (i : Int) (Int.natCast_nonneg i) (by omega)
  rwa [Int.toNat_natCast] at this
theorem es {g n c : Nat} {t : TypeId} {p : Tmp} {v : Operand} (hgd : o.guard = none) (ho : o.op = .store t (.tmp p) v) (hN : o.dst = none) (i off : Nat) (seg : List Value) (x' : α) (hrun : (execOp a.eval o).run P W = .ok .skip (W.setCells g (i * d.sz + off) seg))
    (R : Aside0 (Ow d e W b (.slice (some ⟨g, 0, none⟩) n c) xs)) (hi : i < n) {cs : List Value} (hcl : cs.length = d.sz) (hcc : ∀ j u, cs[j]? = some u → W.cell? ⟨g, i * d.sz + j, none⟩ = some u) (hj : off + seg.length ≤ d.sz)
    (hM : d.M W b (fun _ => False) x' (cs.take off ++ seg ++ cs.drop (off + seg.length))) (B : Aside0 (Below w.heap.size w W)) (hb : w.heap.size ≤ g)
    (h : ∀ w', W.grownBy w' (some g) → Aside0 (Below w.heap.size w w') → Aside0 (Ow d e w' b (.slice (some ⟨g, 0, none⟩) n c) (xs.set i x')) → wpList P ops QE rest a w') : wpList P ops QE (o :: rest) a W :=
  store_event hgd ho hN hrun fun w' hw => by
    have hP := Kd.R_seg R.out (i : Int) (Int.natCast_nonneg i) (by omega) (c := cs) (seg := seg) (j := off) (x' := x') (okp := fun _ => False) hcl (by rw [Int.toNat_natCast]; exact hcc) hj hM (fun _ hk => hk.elim)
    rw [Int.toNat_natCast] at hP
    subst hw
    refine h _ hP.2 ⟨pw_below_grown B.out (some g) (below_size B.out) hP.2 (fun k hk => ?_)⟩ ⟨hP.1⟩
    cases hk
    exact hb
theorem bg {g : Nat} {ob : Obj} {row : Option Nat} (F : Aside0 (W.heap[g]? = some ob)) (hg : W.grownBy W' row) (hne : some g ≠ row) : Aside0 (W'.heap[g]? = some ob) := ⟨blk_grown F.out hg hne⟩
theorem fill_set {f : α → β} {z : β} {l : List α} {j : Nat} (h : j < l.length) : ((l.take j).map f ++ List.replicate (l.length - j) z).set j (f l[j]) = (l.take (j + 1)).map f ++ List.replicate (l.length - (j + 1)) z := by
  have h1 : ((l.take j).map f).length = j := by rw [List.length_map, List.length_take]; omega
  rw [List.set_append_right _ _ (by omega), h1, Nat.sub_self, show l.length - j = (l.length - (j + 1)) + 1 by omega, List.replicate_succ, List.set_cons_zero, List.take_succ_eq_append_getElem h, List.map_append, List.append_assoc]
  rfl
theorem fill_end {f : α → β} {z : β} {l : List α} {j : Nat} (h : ¬ j < l.length) : (l.take j).map f ++ List.replicate (l.length - j) z = l.map f := by
  rw [List.take_of_length_le (by omega), show l.length - j = 0 by omega]
  simp
end
section
variable {P : Program} {w W W' : World} {α β : Type} {d : Kd α} {e b : Nat} {xs : List α}
variable {ops ops' : Array Oper} {o : Oper} {rest : List Oper} {a : Act} {QE : Exit → Act → World → Prop}
/-- a literal of records -/
theorem lt (d : Kd α) (e : Nat) (hgd : o.guard = none) {N : Tmp} (hd : o.dst = some N) (xs : List α) (inner : List Value) (hrun : (execOp a.eval o).run P W = .ok (.value (.slice (some ⟨W.heap.size, 0, none⟩) xs.length xs.length)) (W.alloc (.cells inner.toArray e)))
    (hp : Reps (d.M W W.heap.size (fun _ => True)) d.sz xs inner) (hm : xs.length ≤ 9223372036854775807) (B : Aside0 (Below w.heap.size w W))
    (h : ∀ zs, xs = zs → ∀ A kk w1, Below W.heap.size W w1 → Aside0 (Below w.heap.size w w1) → Aside0 (Ow d e w1 w.heap.size (.slice A zs.length kk) zs) → Aside0 (Fr W (.slice A zs.length kk)) → wpList P ops QE rest (a.put o.dst (.slice A zs.length kk)) w1) : wpList P ops QE (o :: rest) a W :=
  Kd.R_lit d (w0 := W) W.heap.size e hgd hd hrun hp (fun _ h => h) trivial (Below.refl _ _) (Nat.le_refl _) hm fun v1 w1 hR hb hg hnew => by
    obtain ⟨A, kk, rfl⟩ := Kd.R_slice hR
    exact h xs rfl A kk w1 hb ⟨below_step B.out hb⟩ ⟨Kd.R_lower hR (below_size B.out)⟩ ⟨fun k hk => Kd.R_base hR k hk⟩
/-- a row is put behind a row of the walk's own -/
theorem apx (d : Kd α) (e : Nat) (hgd : o.guard = none) (s x : Operand) (t : TypeId) (z : Value) (bytes : Nat) (ho : o.op = .call { callee := .builtin .append, args := #[s, x], argTypes := #[t, t] })
    (ht : P.underlying t = some (.slice e)) (hinfo : (P.info? e).map (fun i => (i.zero, i.size, i.bytes)) = some (some z, d.sz, bytes)) (hz : z.cells.size = d.sz) (hs0 : 0 < d.sz) (hb0 : 0 < bytes)
    {v : Value} {ys : List α} {A : Option Addr} {m c : Nat} (hs : a.eval s = v) (hx : a.eval x = .slice A m c) (R : Aside0 (Ow d e W w.heap.size v xs)) (C : d.C W A m ys) (hKM : ∀ x cs, d.K W x cs → d.M W w.heap.size (fun _ => False) x cs)
    (hl : (xs.length + m) * bytes ≤ 140737488355328) (B : Aside0 (Below w.heap.size w W))
    (h : ∀ zs, xs ++ ys = zs → ∀ A' kk w1, W.grownBy w1 v.ownBlock → Aside0 (Below w.heap.size w w1) → Aside0 (Ow d e w1 w.heap.size (.slice A' zs.length kk) zs) → Aside0 ((Value.slice A' zs.length kk).ownBlock = v.ownBlock ∨ ∃ b, (Value.slice A' zs.length kk).ownBlock = some b ∧ W.heap.size ≤ b) → wpList P ops QE rest (a.put o.dst (.slice A' zs.length kk)) w1) : wpList P ops QE (o :: rest) a W :=
  Kd.R_append_rows d (w0 := w) w.heap.size hgd s x t e z bytes ho ht hinfo hz hs0 hb0 v xs ys A m c (fun _ => True) (fun _ => False) hs hx R.out C hKM (fun _ h => h.elim) (fun _ _ => trivial) B.out (below_size B.out) hl fun v1 w1 hR hb hg hat => by
    obtain ⟨A', kk, rfl⟩ := Kd.R_slice hR
    exact h _ rfl A' kk w1 hg ⟨hb⟩ ⟨hR⟩ ⟨hat⟩
/-- what lies elsewhere stays when a row grows -/
theorem bga {g t : Nat} {cs : Array Value} {v : Value} (F : Aside0 (W.heap[g]? = some (.cells cs t (0, 0)))) (hg : W.grownBy W' v.ownBlock) (R : Aside0 (Ow d e W b v xs)) (ht : e ≠ t) : Aside0 (W'.heap[g]? = some (.cells cs t (0, 0))) := ⟨blk_grown F.out hg (Kd.R_ne R.out F.out ht)⟩
theorem rga {d' : Kd β} {e' b' : Nat} {v v' : Value} {ys : List β} (R' : Aside0 (Ow d' e' W b' v' ys)) (hE : d'.E = []) (hg : W.grownBy W' v.ownBlock) (ne : ∀ k, v'.ownBlock = some k → v.ownBlock = some k → False) : Aside0 (Ow d' e' W' b' v' ys) :=
  ⟨Kd.R_mono (Kd.R_grown (Kd.R_tight hE R'.out) hg (fun k h1 h2 => ne k h1.symm h2.symm)) (fun _ _ => trivial)⟩
theorem dty {d' : Kd β} {e' b' : Nat} {v v' : Value} {ys : List β} (R : Aside0 (Ow d e W b v xs)) (R' : Aside0 (Ow d' e' W b' v' ys)) (h : e ≠ e') : ∀ k, v'.ownBlock = some k → v.ownBlock = some k → False := fun k h1 h2 => by
  obtain ⟨_, o1⟩ := Kd.R_own R.out
  obtain ⟨_, o2⟩ := Kd.R_own R'.out
  obtain ⟨c1, t1⟩ := own_typed o1 k h2
  obtain ⟨c2, t2⟩ := own_typed o2 k h1
  rw [t1] at t2
  cases t2
  exact h rfl
theorem nilC (d : Kd α) (W : World) : Kd.C d W none ([] : List α).length [] := ⟨rfl, by simp, fun h => absurd h (Nat.lt_irrefl 0)⟩
end
/-- a row that grew lies apart from the others still -/
theorem dap {W : World} {v v1 v' : Value} {β : Type} {d' : Kd β} {e' b' : Nat} {ys : List β} (hat : Aside0 (v1.ownBlock = v.ownBlock ∨ ∃ b, v1.ownBlock = some b ∧ W.heap.size ≤ b)) (D : Aside0 (∀ k, v.ownBlock = some k → v'.ownBlock = some k → False)) (R : Aside0 (Ow d' e' W b' v' ys)) : Aside0 (∀ k, v1.ownBlock = some k → v'.ownBlock = some k → False) := ⟨fun k h1 h2 => by
  rcases hat.out with h | ⟨b, h, hb⟩
  · exact D.out k (h ▸ h1) h2
  · rw [h] at h1
    cases h1
    have := Kd.R_lt R.out k h2
    omega⟩
theorem dap0 {W : World} {v1 v' : Value} {β : Type} {d' : Kd β} {e' b' : Nat} {ys : List β} (hat : Aside0 (v1.ownBlock = (Value.slice none 0 0).ownBlock ∨ ∃ b, v1.ownBlock = some b ∧ W.heap.size ≤ b)) (R : Aside0 (Ow d' e' W b' v' ys)) : Aside0 (∀ k, v1.ownBlock = some k → v'.ownBlock = some k → False) := ⟨fun k h1 h2 => by
  rcases hat.out with h | ⟨b, h, hb⟩
  · rw [h] at h1
    cases h1
  · rw [h] at h1
    cases h1
    have := Kd.R_lt R.out k h2
    omega⟩
theorem dnB {P : Program} {F : FuncId} {args : Array Value} {W : World} {v : Value} (c : Calls P F args W fun e w' => e = .returned v ∧ Drawn0 W w') : Calls P F args W fun e w' => e = .returned v ∧ Below W.heap.size W w' :=
  c.mono (by rintro e W' ⟨h1, h2⟩; exact ⟨h1, h2.below⟩)

def spec_PairScan.T7 : Bool × List (List Nat × List Nat) := (true, [([], []), ([], []), ([], []), ([1, 2], [1, 2]), ([3], [3]), ([4], [4]), ([0, 5], [0, 5])])
def spec_PairScan.B7 : List Nat := [0, 0, 0, 6, 14, 30, 63]
theorem spec_PairScan.tab7 : rtab .any (opsOf Try.f106 7) = spec_PairScan.T7 := by kernel_rfl
theorem spec_PairScan.bits7 : waitsOk spec_PairScan.T7.2 spec_PairScan.B7 = true := by kernel_rfl
theorem spec_PairScan.M (A0 : Option Addr) (c0 : Nat) (l : List S61) (a b : ByteArray) (w : World) (hr0 : Kd.C k61 w A0 l.length l) (hc0 : l.length ≤ c0) : Calls Try.prog 106 #[.slice A0 l.length c0, .agg #[.string a, .string b], .int .i64 48] w fun e w' => ∃ v0, e = .returned v0 ∧ Kd.R k61 61 w' w.heap.size (fun _ => True) v0 (inM l a b) ∧ Below w.heap.size w w' := by
 have B := Aside0.mk (Below.refl w.heap.size w)
 have hu := Try.underlying30
 have HR0 := Aside0.mk hr0
 have HC0 := Aside0.mk hc0
 have L63 := Aside0.mk hr0.2.1
 clear hr0 hc0
 obtain ⟨r, hr⟩ : ∃ r, inM l a b = r := ⟨_, rfl⟩
 rw [hr]
 have l148 : l1B 48 0 48 = true := by decide
 go_enter Try.func106, Try.ntmps106
 go_wp2_with (first
  | ((with_reducible refine gate_dst (N := 4) rfl ?_); refine bx ?hg (N := 4) ?hd (cs := #[.string a, .string b]) (t := 30) ?hr B ?_; (case hd | hg => rfl); (case hr => go_simp; first | done | rfl); intro g4 w1 hb B F4 L4 E4; obtain ⟨c4_0, c4_1⟩ := cs2 F4; clear hb E4)
  | ((with_reducible refine gate_dst (N := 9) rfl ?_); refine lt k61 61 ?hg (N := 9) ?hd ([] : List S61) [] ?hr (Reps.none _ _) (by simp) B ?_; (case hd | hg => rfl); (case hr => go_simp; first | done | rfl); intro z9 hz9 AL9 kL9 w2 hb B RL9 QL9; replace F4 := bn F4 hb; clear c4_0 c4_1; obtain ⟨c4_0, c4_1⟩ := cs2 F4; clear hb QL9)
  | (go_at_call 48; with_reducible refine cl (spec_PairsValid.M _ _ l _ (cb HR0 B)) B fun w3 hb B => ?_; replace F4 := bn F4 hb; replace RL9 := rn RL9 hb; clear c4_0 c4_1; obtain ⟨c4_0, c4_1⟩ := cs2 F4; clear hb)
  | (go_at_call 47; with_reducible refine cl (spec_IntervalValid.M a b _) B fun w4 hb B => ?_; replace F4 := bn F4 hb; replace RL9 := rn RL9 hb; clear hb)
  | (go_at_call 90; with_reducible refine cl (spec_l1In.M 48 0 48 _) B fun w5 hb B => ?_; replace F4 := bn F4 hb; replace RL9 := rn RL9 hb; clear hb))
 all_goals try (refine useEq (a := r) (b := ([] : List S61)) ?_ (fun hM => ?_); (rw [← hr]; unfold inM; grind); subst hM; subst hz9; go_ret; exact ⟨_, rfl, RL9.out, B.out⟩)
 have hv : prB l = true ∧ ivB a b = true := by grind
 have hrq : l.filter (fun p => insB a b p.f0) = r := by rw [← hr]; unfold inM; simp [hv.1, hv.2]
 subst hz9
 have h48 := prB_len hv.1
 have HV := Aside0.mk hv
 have H := Aside0.mk (show ([] : List S61) ++ (l.drop 0).filter (fun p => insB a b p.f0) = r from hrq)
 clear hr hrq hv c4_0 c4_1
 go_loopg [7, 8] (l.length + 1) (fun kx v7 v8 wr => ∃ (j : Nat) (p : List S61), v8 = .int .i64 (j : Int) ∧ j ≤ l.length ∧ l.length < j + kx ∧ p.length ≤ j ∧ Aside0 (Below w.heap.size w wr) ∧ Aside0 (wr.heap[g4]? = some (.cells #[.string a, .string b] 30 (0, 0))) ∧ Aside0 (Ow k61 61 wr w.heap.size v7 p) ∧ Aside0 (p ++ (l.drop j).filter (fun p => insB a b p.f0) = r))
 case atStart => exact ⟨0, [], rfl, by omega, by omega, by simp, B, F4, RL9, H⟩
 case round =>
  clear H B F4 RL9
  obtain ⟨j, p, rfl, hj, hk, hpl, B, F4, Rp7, H⟩ := hrel
  obtain ⟨A7, k7, rfl⟩ := Kd.R_slice Rp7.out
  obtain ⟨c4_0, c4_1⟩ := cs2 F4
  by_cases hlt : j < l.length
  ·have HS := H.out
   rw [pr_drop hlt, List.filter_cons] at HS
   have hhi := has_ins HV.out.1 HV.out.2 hlt
   clear H
   obtain ⟨d, rfl⟩ : ∃ d, gk = d + 1 := ⟨gk - 1, by omega⟩
   have cj : decide ((j : Int) < (l.length : Int)) = true := decide_eq_true (by omega)
   have cp : decide ((p.length : Int) < 48) = true := decide_eq_true (by omega)
   obtain ⟨ad, hA, y0, y1⟩ := at_T61 (cb HR0 B) (j : Int) (by omega) (by omega)
   cases hA
   rw [Int.toNat_natCast] at y0 y1
   have j1 := eq_true (show (j : Int) < (l.length : Int) by omega)
   have j2 := eq_true hlt
   generalize hy : rd_T61 l (j : Int) = y at *
   have HT := Aside0.mk HS
   have HH := Aside0.mk hhi
   clear HS hhi
   try go_wp2
   all_goals (
    refine rg (n := 7) (S := fun W => W.heap[g4]? = some (.cells #[.string a, .string b] 30 (0, 0)) ∧ Kd.C k61 W (some ad) l.length l) (ds := []) #[false, false, false, false, false, false, false] (by kernel_rfl) rfl rfl ⟨F4.out, (cb HR0 B)⟩ id B (fun w101 hb B hHeld => ?_)
    refine with_tabW spec_PairScan.tab7 spec_PairScan.bits7 (fun HT_ HW_ => ?_)
    replace F4 := bn F4 hb
    replace Rp7 := rn Rp7 hb
    clear hb
    refine tv 0 (some 36) (v := ?_) (bits 7 1) HT_ HW_ (by kernel_rfl) rfl rfl (fun _ _ _ h => h) (by kernel_rfl) hHeld ?_ ?_; rotate_left; (intro w' hS; obtain ⟨s0, s1⟩ := hS; obtain ⟨q0, q1⟩ := cs2 (Aside0.mk s0); go_simp; with_reducible rfl)
    refine pv 1 (some 37) (v := ?_) (bits 7 3) HT_ (by kernel_rfl) rfl rfl (fun _ _ _ h => h) (by kernel_rfl) ?_ ?_; rotate_left; (intro w'; go_simp; with_reducible rfl)
    refine pv 2 (some 38) (v := ?_) (bits 7 7) HT_ (by kernel_rfl) rfl rfl (fun _ _ _ h => h) (by kernel_rfl) ?_ ?_; rotate_left; (intro w'; go_simp; with_reducible rfl)
    refine pv 3 (some 39) (v := ?_) (bits 7 15) HT_ (by kernel_rfl) rfl rfl (fun _ _ _ h => h) (by kernel_rfl) ?_ ?_; rotate_left; (intro w'; go_simp; with_reducible rfl)
    refine pv 4 (some 40) (v := ?_) (bits 7 31) HT_ (by kernel_rfl) rfl rfl (fun _ _ _ h => h) (by kernel_rfl) ?_ ?_; rotate_left; (intro w'; go_simp; with_reducible rfl)
    refine tv 5 (some 41) (v := ?_) (bits 7 63) HT_ HW_ (by kernel_rfl) rfl rfl (fun _ _ _ h => h) (by kernel_rfl) hHeld ?_ ?_; rotate_left; (intro w' hS; obtain ⟨s0, s1⟩ := hS; obtain ⟨_, hA, q0, q1⟩ := at_T61 s1 (j : Int) (by omega) (by omega); cases hA; rw [Int.toNat_natCast] at q0 q1; rw [hy] at q0 q1; go_simp; with_reducible rfl)
    refine norm_ (a' := ?_) ?_ ?_
    rotate_left
    ·simp only [Act.put, za, zb, zc, i64_w, i32_w]
     rfl
    refine one_ (i := 6) (N := some 42) (bits 7 127) rfl rfl (one_of HT_.out (by kernel_rfl)) (by decide) (fun K hK => ?_)
    refine goes_ Try.func50 (by kernel_rfl) rfl #[.agg #[.string a, .string b], .string y.f0] (by rfl) rfl rfl (by (try simp only [List.map_toArray, List.map_cons, List.map_nil]); rfl) ?_
    with_reducible refine cl (spec_IntervalHas.M a b y.f0 _) B fun w102 hb B => ?_
    replace F4 := bn F4 hb
    replace Rp7 := rn Rp7 hb
    clear hb
    refine ⟨_, rfl, ?_⟩
    refine hK.out _ _ ⟨F4.out, (cb HR0 B)⟩ (fun hHeld => ?_)
    clear hK K
    refine norm_ (a' := ?_) ?_ ?_
    rotate_left
    ·show Act.put _ (some 42) _ = _
     simp only [Act.put, za, zb, zc, i64_w, i32_w]
     rfl
    refine done_ (done_of HT_.out (by kernel_rfl)) ?_
    clear y0 y1
    obtain ⟨ad2, hA, y0, y1⟩ := at_T61 (cb HR0 B) (j : Int) (by omega) (by omega)
    cases hA
    rw [Int.toNat_natCast, hy] at y0 y1)
   all_goals go_wp2_with (first
    | ((with_reducible refine gate_dst (N := 48) rfl ?_); refine lt k61 61 ?hg (N := 48) ?hd ([⟨y.f0, y.f1⟩] : List S61) [.string y.f0, .int .i64 (y.f1)] ?hr (Reps.c2 (k61_mkM _ _ _ ⟨y.f0, y.f1⟩) (Reps.none _ _)) (by simp) B ?_; (case hd | hg => rfl); (case hr => go_simp; first | done | rfl); intro z48 hz48 AL48 kL48 w103 hb B RL48 QL48; replace F4 := bn F4 hb; replace Rp7 := rn Rp7 hb; clear hb QL48)
    | ((with_reducible refine gate_builtin (b := .append) (xs := #[.tmp 43, .tmp 48]) rfl ?_); at_builtin; refine apx k61 61 rfl (.tmp 43) (.tmp 48) 31 (.agg #[.string (⟨#[]⟩ : ByteArray), .int .i64 (0)]) 24 rfl Try.underlying31 info61 rfl (by decide) (by omega) rfl rfl Rp7 (rc RL48) (fun x cs h => by rw [k61_open h]; exact k61_mkM _ _ _ x) (by rw [← hz48]; simp only [List.length_cons, List.length_nil]; omega) B ?_; intro z49 hz49 AL49 kL49 w104 hg B RL49 hat; replace F4 := bga F4 hg Rp7 (by decide); clear hg hat))
   all_goals first
    | (refine useEq (a := hasB a b y.f0) (b := true) ?_ (fun hK => ?_); (first | assumption | (simp_all; done)); have HS := HT.out; rw [← HH.out, hK, if_pos rfl] at HS; go_roundg d; (case measure => omega); (case rel => exact ⟨j + 1, z49, congrArg (Value.int .i64) (Int.natCast_succ _).symm, by omega, by omega, (by rw [← hz49, ← hz48]; simp only [List.length_append, List.length_cons, List.length_nil]; omega), B, F4, RL49, ⟨by rw [← hz49, ← hz48, List.append_assoc]; exact HS⟩⟩))
    | (refine useEq (a := hasB a b y.f0) (b := false) ?_ (fun hK => ?_); (first | assumption | (simp_all; done)); have HS := HT.out; rw [← HH.out, hK, if_neg (by simp)] at HS; go_roundg d; (case measure => omega); (case rel => exact ⟨j + 1, p, congrArg (Value.int .i64) (Int.natCast_succ _).symm, by omega, by omega, by omega, B, F4, Rp7, ⟨HS⟩⟩))
  ·have cj : decide ((j : Int) < (l.length : Int)) = false := decide_eq_false (by omega)
   have hr := H.out
   rw [List.drop_of_length_le (by omega), List.filter_nil, List.append_nil] at hr
   subst hr
   clear H
   go_wp2
   go_ret
   exact ⟨_, rfl, Rp7.out, B.out⟩
theorem spec_PairsIn.M (A0 : Option Addr) (c0 : Nat) (l : List S61) (a b : ByteArray) (w : World) (hr0 : Kd.C k61 w A0 l.length l) (hc0 : l.length ≤ c0) : Calls Try.prog 74 #[.slice A0 l.length c0, .agg #[.string a, .string b]] w fun e w' => ∃ v0, e = .returned v0 ∧ Kd.R k61 61 w' w.heap.size (fun _ => True) v0 (inM l a b) ∧ Below w.heap.size w w' := by
 have B := Aside0.mk (Below.refl w.heap.size w)
 have hu := Try.underlying30
 have HR0 := Aside0.mk hr0
 have HC0 := Aside0.mk hc0
 have L63 := Aside0.mk hr0.2.1
 clear hr0 hc0
 go_enter Try.func74, Try.ntmps74
 go_wp2_with (first
  | ((with_reducible refine gate_dst (N := 3) rfl ?_); refine bx ?hg (N := 3) ?hd (cs := #[.string a, .string b]) (t := 30) ?hr B ?_; (case hd | hg => rfl); (case hr => go_simp; first | done | rfl); intro g3 w1 hb B F3 L3 E3; obtain ⟨c3_0, c3_1⟩ := cs2 F3; clear hb E3)
  | (go_at_call 106; with_reducible refine cr (spec_PairScan.M _ _ l a b _ (cb HR0 B) HC0.out) B fun AI2 kI2 w2 hb B RI2 QI2 => ?_; clear QI2; clear hb))
 go_ret
 exact ⟨_, rfl, RI2.out, B.out⟩

/-! A box of the type of a row's elements is no part of the row. -/
section
variable {W W' : World} {v v1 : Value} {g : Nat} {o : Obj}
theorem nb (q : Aside0 (Fr W v)) (F : Aside0 (W.heap[g]? = some o)) : Aside0 (∀ k, v.ownBlock = some k → k ≠ g) := ⟨fun k h e => by
  subst e
  have h1 := q.out k h
  have h2 := blk_lt F.out
  omega⟩
theorem nba (hat : Aside0 (v1.ownBlock = v.ownBlock ∨ ∃ b, v1.ownBlock = some b ∧ W.heap.size ≤ b)) (N : Aside0 (∀ k, v.ownBlock = some k → k ≠ g)) (F : Aside0 (W.heap[g]? = some o)) : Aside0 (∀ k, v1.ownBlock = some k → k ≠ g) := ⟨fun k h e => by
  rcases hat.out with h1 | ⟨b, h1, hb⟩
  · exact N.out k (h1 ▸ h) e
  · rw [h1] at h
    cases h
    subst e
    have h2 := blk_lt F.out
    omega⟩
theorem nba0 (hat : Aside0 (v1.ownBlock = (Value.slice none 0 0).ownBlock ∨ ∃ b, v1.ownBlock = some b ∧ W.heap.size ≤ b)) (F : Aside0 (W.heap[g]? = some o)) : Aside0 (∀ k, v1.ownBlock = some k → k ≠ g) :=
  nba hat ⟨fun k h => nomatch h⟩ F
theorem bgn (F : Aside0 (W.heap[g]? = some o)) (hg : W.grownBy W' v.ownBlock) (N : Aside0 (∀ k, v.ownBlock = some k → k ≠ g)) : Aside0 (W'.heap[g]? = some o) := ⟨blk_grown F.out hg (fun e => N.out g e.symm rfl)⟩
theorem bgn0 (F : Aside0 (W.heap[g]? = some o)) (hg : W.grownBy W' (Value.slice none 0 0).ownBlock) : Aside0 (W'.heap[g]? = some o) := ⟨blk_grown F.out hg (fun e => nomatch e)⟩
theorem rkn {α : Type} {d : Kd α} {e b : Nat} {xs : List α} (R : Aside0 (Ow d e W b v xs)) (hk : KeepBut W W' g none) (N : Aside0 (∀ k, v.ownBlock = some k → k ≠ g)) (hE : d.E = [] := by rfl) : Aside0 (Ow d e W' b v xs) :=
  ⟨Kd.R_mono (Kd.R_keep (Kd.R_tight hE R.out) hk (fun k q => N.out k q.symm)) (fun _ _ => trivial)⟩
theorem nbx {α : Type} {d : Kd α} {e b : Nat} {xs : List α} (E : Aside0 (g = W.heap.size)) (R : Aside0 (Ow d e W b v xs)) : Aside0 (∀ k, v.ownBlock = some k → k ≠ g) := ⟨fun k h e => by
  have h1 := Kd.R_lt R.out k h
  have h2 := E.out
  omega⟩
end

/-! Operations of a region that draws its order, one by one: a box, a literal, a row put behind a row. -/
section
variable {P : Program} {w W : World} {ops' : Array Oper} {o : Oper} {a : Act} {QE : Exit → Act → World → Prop} {Kc : Act → World → Prop}
theorem below_al (W : World) (ob : Obj) : Below W.heap.size W (W.alloc ob) := below_alloc (Below.refl _ _) ob
theorem al_blk (W : World) (ob : Obj) : (W.alloc ob).heap[W.heap.size]? = some ob := by unfold World.alloc; exact Array.getElem?_push_size
theorem bxs {N : Tmp} {cs : Array Value} {t : TypeId} (hw : Region.wanted o (yielded ops' a.tmps) = true) (hd : o.dst = some N) (hrun : (execOp a.eval o).run P W = .ok (.value (.pointer (some ⟨W.heap.size, 0, none⟩))) (W.alloc (.cells cs t (0, 0))))
    (B : Aside0 (Below w.heap.size w W))
    (h : ∀ g w1, Below W.heap.size W w1 → Aside0 (Below w.heap.size w w1) → Aside0 (w1.heap[g]? = some (.cells cs t (0, 0))) → Aside0 (w.heap.size ≤ g) → Aside0 (g = W.heap.size) → Kc (a.put (some N) (.pointer (some ⟨g, 0, none⟩))) w1) :
    if Region.wanted o (yielded ops' a.tmps) = true then Oper.wp P o a W Kc QE else Kc (a.put (some N) undef) W :=
  value_ hw hd hrun (h _ _ (below_al W _) ⟨below_step B.out (below_al W _)⟩ ⟨al_blk W _⟩ ⟨below_size B.out⟩ ⟨rfl⟩)
variable {α β : Type} {b : Nat} {xs : List α}
theorem lts (d : Kd α) (e : Nat) (hw : Region.wanted o (yielded ops' a.tmps) = true) {N : Tmp} (hd : o.dst = some N) (xs : List α) (inner : List Value) (hrun : (execOp a.eval o).run P W = .ok (.value (.slice (some ⟨W.heap.size, 0, none⟩) xs.length xs.length)) (W.alloc (.cells inner.toArray e)))
    (hp : Reps (d.M W W.heap.size (fun _ => True)) d.sz xs inner) (hm : xs.length ≤ 9223372036854775807) (B : Aside0 (Below w.heap.size w W))
    (h : ∀ zs, xs = zs → ∀ A kk w1, Below W.heap.size W w1 → Aside0 (Below w.heap.size w w1) → Aside0 (Ow d e w1 w.heap.size (.slice A zs.length kk) zs) → Aside0 (Fr W (.slice A zs.length kk)) → Kc (a.put (some N) (.slice A zs.length kk)) w1) :
    if Region.wanted o (yielded ops' a.tmps) = true then Oper.wp P o a W Kc QE else Kc (a.put (some N) undef) W := by
  rw [← hd]
  refine Kd.R_lit_step d (w0 := W) W.heap.size e hw hd hrun hp (fun _ h => h) trivial (Below.refl _ _) (Nat.le_refl _) hm fun v1 w1 hR hb hg hnew => ?_
  obtain ⟨A, kk, rfl⟩ := Kd.R_slice hR
  rw [hd]
  exact h xs rfl A kk w1 hb ⟨below_step B.out hb⟩ ⟨Kd.R_lower hR (below_size B.out)⟩ ⟨fun k hk => Kd.R_base hR k hk⟩
theorem aps (d : Kd α) (e : Nat) (hw : Region.wanted o (yielded ops' a.tmps) = true) {N : Tmp} (hd : o.dst = some N) (s x : Operand) (t : TypeId) (z : Value) (bytes : Nat) (ho : o.op = .call { callee := .builtin .append, args := #[s, x], argTypes := #[t, t] })
    (ht : P.underlying t = some (.slice e)) (hinfo : (P.info? e).map (fun i => (i.zero, i.size, i.bytes)) = some (some z, d.sz, bytes)) (hz : z.cells.size = d.sz) (hs0 : 0 < d.sz) (hb0 : 0 < bytes)
    {v : Value} {ys : List α} {A : Option Addr} {m c : Nat} (hs : a.eval s = v) (hx : a.eval x = .slice A m c) (R : Aside0 (Ow d e W w.heap.size v xs)) (C : d.C W A m ys) (hKM : ∀ x cs, d.K W x cs → d.M W w.heap.size (fun _ => False) x cs)
    (hl : (xs.length + m) * bytes ≤ 140737488355328) (B : Aside0 (Below w.heap.size w W))
    (h : ∀ zs, xs ++ ys = zs → ∀ A' kk w1, W.grownBy w1 v.ownBlock → Aside0 (Below w.heap.size w w1) → Aside0 (Ow d e w1 w.heap.size (.slice A' zs.length kk) zs) → Aside0 ((Value.slice A' zs.length kk).ownBlock = v.ownBlock ∨ ∃ b, (Value.slice A' zs.length kk).ownBlock = some b ∧ W.heap.size ≤ b) → Kc (a.put (some N) (.slice A' zs.length kk)) w1) :
    if Region.wanted o (yielded ops' a.tmps) = true then Oper.wp P o a W Kc QE else Kc (a.put (some N) undef) W := by
  rw [← hd]
  refine Kd.R_append_rows_step d (w0 := w) w.heap.size hw s x t e z bytes ho ht hinfo hz hs0 hb0 v xs ys A m c (fun _ => True) (fun _ => False) hs hx R.out C hKM (fun _ h => h.elim) (fun _ _ => trivial) B.out (below_size B.out) hl fun v1 w1 hR hb hg hat => ?_
  obtain ⟨A', kk, rfl⟩ := Kd.R_slice hR
  rw [hd]
  exact h _ rfl A' kk w1 hg ⟨hb⟩ ⟨hR⟩ ⟨hat⟩
end

/-! States. -/
structure SM where
  a : ByteArray
  b : ByteArray
  ps : List S61
  ss : List S100
  t : Bool
  c : ByteArray
def SM.ok (s : SM) : Bool := stB s.a s.b s.ps s.ss s.t s.c
def SM.zero : SM := ⟨⟨#[]⟩, ⟨#[]⟩, [], [], false, ⟨#[]⟩⟩
theorem stB_parts {lo hi : ByteArray} {ps : List S61} {ss : List S100} {t : Bool} {c : ByteArray} : stB lo hi ps ss t c = true ↔ ivB lo hi = true ∧ prB ps = true ∧ sesB ss = true ∧ (∀ p ∈ ps, insB lo hi p.f0 = true) ∧ tailB lo hi t c = true := by
  unfold stB
  simp only [Bool.and_eq_true, List.all_eq_true]

/-! Pairs that are put and dropped stay valid. -/
theorem prG_of : ∀ (l : List S61) (p : Option ByteArray), (∀ x ∈ l, okP x = true) → l.Pairwise (fun a b => ltB a.f0 b.f0 = true) → (∀ q, p = some q → ∀ x ∈ l, ltB q x.f0 = true) → prG p l = true
  | [], _, _, _, _ => by simp [prG]
  | s :: r, p, h1, h2, h3 => by
    rw [List.pairwise_cons] at h2
    simp only [prG, Bool.and_eq_true]
    refine ⟨h1 s (List.mem_cons_self ..), ?_, prG_of r (some s.f0) (fun x hx => h1 x (List.mem_cons_of_mem _ hx)) h2.2 (fun q hq x hx => by cases hq; exact h2.1 x hx)⟩
    cases p with
    | none => rfl
    | some q => exact h3 q rfl s (List.mem_cons_self ..)
theorem prG_ok : ∀ (l : List S61) (p : Option ByteArray), prG p l = true → ∀ x ∈ l, okP x = true
  | [], _, _ => fun x hx => by cases hx
  | s :: r, p, h => fun x hx => by
    simp only [prG, Bool.and_eq_true] at h
    rcases List.mem_cons.mp hx with rfl | hx
    · exact h.1
    · exact prG_ok r _ h.2.2 x hx
theorem prB_parts {l : List S61} (h : prB l = true) : l.length ≤ 48 ∧ (∀ x ∈ l, okP x = true) ∧ l.Pairwise (fun a b => ltB a.f0 b.f0 = true) := by
  have h' := h
  unfold prB at h'
  rw [Bool.and_eq_true] at h'
  exact ⟨prB_len h, prG_ok l none h'.2, prB_order h⟩
theorem prB_of {l : List S61} (h0 : l.length ≤ 48) (h1 : ∀ x ∈ l, okP x = true) (h2 : l.Pairwise (fun a b => ltB a.f0 b.f0 = true)) : prB l = true := by
  unfold prB
  rw [decide_eq_true h0, Bool.true_and]
  exact prG_of l none h1 h2 (fun q hq => by cases hq)
theorem prB_nil : prB ([] : List S61) = true := prB_of (by simp) (fun x hx => by cases hx) List.Pairwise.nil
theorem put_ok {l Z : List S61} {c : ByteArray} {v : Int} (hl : prB l = true) (hk : keyB c = true) (hv : l1B v 0 999 = true) (hz : Z.Sublist l) (hg : ∀ x ∈ Z, ltB c x.f0 = true) (h48 : (l.take (atP l c) ++ [(⟨c, v⟩ : S61)] ++ Z).length ≤ 48) : prB (l.take (atP l c) ++ [(⟨c, v⟩ : S61)] ++ Z) = true := by
  obtain ⟨_, ho, hp⟩ := prB_parts hl
  have hA : ∀ x ∈ l.take (atP l c), ltB x.f0 c = true := fun x hx => by rw [take_at hp] at hx; exact (List.mem_filter.mp hx).2
  refine prB_of h48 (fun x hx => ?_) ?_
  · rw [List.mem_append, List.mem_append, List.mem_singleton] at hx
    rcases hx with (hx | rfl) | hx
    · exact ho x (List.mem_of_mem_take hx)
    · unfold okP; rw [hk, hv]; rfl
    · exact ho x (hz.subset hx)
  · rw [List.pairwise_append, List.pairwise_append]
    refine ⟨⟨hp.sublist (List.take_sublist _ _), List.pairwise_singleton _ _, fun a ha b hb => ?_⟩, hp.sublist hz, fun a ha b hb => ?_⟩
    · rw [List.mem_singleton] at hb; subst hb; exact hA a ha
    · rw [List.mem_append, List.mem_singleton] at ha
      rcases ha with ha | rfl
      · exact ltB_trans (hA a ha) (hg b hb)
      · exact hg b hb
theorem behind_hit {l : List S61} {c : ByteArray} (hl : prB l = true) (hh : hitM l c = true) : ∀ x ∈ l.drop (atP l c + 1), ltB c x.f0 = true := by
  obtain ⟨hlt, he, -⟩ := hit_true hh
  rw [pr_nat hlt] at he
  have hp := (prB_order hl).sublist (List.drop_sublist (atP l c) l)
  rw [List.drop_eq_getElem_cons hlt, List.pairwise_cons] at hp
  intro x hx
  have := hp.1 x hx
  rwa [he] at this
theorem behind_miss {l : List S61} {c : ByteArray} (hl : prB l = true) (hh : hitM l c = false) : ∀ x ∈ l.drop (atP l c), ltB c x.f0 = true := by
  have hp := prB_order hl
  by_cases hlt : atP l c < l.length
  · have hne : l[atP l c].f0 ≠ c := fun e => by
      unfold hitM at hh
      rw [pr_nat hlt, decide_eq_true hlt, decide_eq_true e] at hh
      cases hh
    have hge : ltB l[atP l c].f0 c = false := by
      have hm : l[atP l c] ∈ l.drop (atP l c) := by rw [List.drop_eq_getElem_cons hlt]; exact List.mem_cons_self ..
      rw [drop_at hp] at hm
      simpa using (List.mem_filter.mp hm).2
    have h1 : ltB c l[atP l c].f0 = true := by
      cases h : ltB c l[atP l c].f0 with
      | true => rfl
      | false => exact absurd (ltB_tri hge h) hne
    have hp2 := hp.sublist (List.drop_sublist (atP l c) l)
    intro x hx
    rw [List.drop_eq_getElem_cons hlt] at hp2 hx
    rw [List.pairwise_cons] at hp2
    rcases List.mem_cons.mp hx with rfl | hx
    · exact h1
    · exact ltB_trans h1 (hp2.1 x hx)
  · intro x hx
    rw [List.drop_of_length_le (by omega)] at hx
    cases hx
theorem putM_ok (l : List S61) (c : ByteArray) (v : Int) : prB (putM l c v).1 = true := by
  unfold putM
  split
  · rename_i h
    simp only [Bool.and_eq_true] at h
    obtain ⟨hl, hk, hv⟩ := h
    have h48 := prB_len hl
    have hat := atP_le l c
    split
    · rename_i hh
      have := (hit_true hh).1
      exact put_ok hl hk hv (List.drop_sublist _ _) (behind_hit hl hh) (by simp only [List.length_append, List.length_take, List.length_drop, List.length_singleton]; omega)
    · rename_i hh
      split
      · exact hl
      · exact put_ok hl hk hv (List.drop_sublist _ _) (behind_miss hl (Bool.eq_false_iff.mpr hh)) (by simp only [List.length_append, List.length_take, List.length_drop, List.length_singleton]; omega)
  · exact prB_nil
theorem dropM_ok (l : List S61) (c : ByteArray) : prB (dropM l c).1 = true := by
  unfold dropM
  split
  · rename_i hl
    split
    · obtain ⟨h0, h1, h2⟩ := prB_parts hl
      have hs : (l.take (atP l c) ++ l.drop (atP l c + 1)).Sublist l := by
        have := List.Sublist.append (List.Sublist.refl (l.take (atP l c))) (List.drop_sublist_drop_left l (Nat.le_succ (atP l c)))
        rwa [List.take_append_drop] at this
      exact prB_of (Nat.le_trans hs.length_le h0) (fun x hx => h1 x (hs.subset hx)) (h2.sublist hs)
    · exact hl
  · exact prB_nil

/-! What is found among pairs. -/
theorem getM_mem {l : List S61} (hv : prB l = true) {p : S61} (hp : p ∈ l) : getM l p.f0 = p.f1 := by
  obtain ⟨i, hi, rfl⟩ := List.getElem_of_mem hp
  have ho := prB_order hv
  have hat : atP l l[i].f0 = i := take_len l i (by omega) (fun j hj hji => List.pairwise_iff_getElem.mp ho j i hj hi hji) (fun _ => ltB_irr _)
  unfold getM hitM
  rw [hat, hv, pr_nat hi, decide_eq_true hi, decide_eq_true rfl]
  rfl
theorem getM_none {l : List S61} {c : ByteArray} (h : ∀ p ∈ l, p.f0 ≠ c) : getM l c = -1 := by
  unfold getM
  rw [if_neg]
  intro hh
  rw [Bool.and_eq_true] at hh
  obtain ⟨hlt, he, -⟩ := hit_true hh.2
  rw [pr_nat hlt] at he
  exact h _ (List.getElem_mem hlt) he
theorem getM_hit {l : List S61} {c : ByteArray} (hv : prB l = true) (h : hitM l c = true) : ∃ p ∈ l, p.f0 = c := by
  obtain ⟨hlt, he, -⟩ := hit_true h
  rw [pr_nat hlt] at he
  exact ⟨_, List.getElem_mem hlt, he⟩
theorem hit_of_mem {l : List S61} (hv : prB l = true) {p : S61} (hp : p ∈ l) : hitM l p.f0 = true := by
  obtain ⟨i, hi, rfl⟩ := List.getElem_of_mem hp
  have ho := prB_order hv
  have hat : atP l l[i].f0 = i := take_len l i (by omega) (fun j hj hji => List.pairwise_iff_getElem.mp ho j i hj hi hji) (fun _ => ltB_irr _)
  unfold hitM
  rw [hat, pr_nat hi, decide_eq_true hi, decide_eq_true rfl]
  rfl
/-- what stays of the pairs, but for the place of a key -/
theorem others {l : List S61} {c : ByteArray} (hv : prB l = true) {p : S61} (hp : p ∈ l) (hne : p.f0 ≠ c) (hh : hitM l c = true) : p ∈ l.take (atP l c) ∨ p ∈ l.drop (atP l c + 1) := by
  obtain ⟨hlt, he, -⟩ := hit_true hh
  rw [pr_nat hlt] at he
  have e : l = l.take (atP l c) ++ l[atP l c] :: l.drop (atP l c + 1) := by rw [← List.drop_eq_getElem_cons hlt, List.take_append_drop]
  rw [e] at hp
  rcases List.mem_append.mp hp with h | h
  · exact .inl h
  · rcases List.mem_cons.mp h with h | h
    · exact absurd (h ▸ he) hne
    · exact .inr h
theorem putM_get {l : List S61} {c : ByteArray} {v : Int} (hv : prB l = true) (hk : keyB c = true) (hl : l1B v 0 999 = true) (hfit : hitM l c = true ∨ l.length < 48) : getM (putM l c v).1 c = v ∧ ∀ p ∈ l, p.f0 ≠ c → getM (putM l c v).1 p.f0 = p.f1 := by
  have hok := putM_ok l c v
  have e : putM l c v = if hitM l c then ((l.take (atP l c) ++ [⟨c, v⟩]) ++ l.drop (atP l c + 1), true) else if 48 ≤ l.length then (l, false) else ((l.take (atP l c) ++ [⟨c, v⟩]) ++ l.drop (atP l c), true) := if_pos (by rw [hv, hk, hl]; rfl)
  cases hh : hitM l c with
  | true =>
    rw [hh, if_pos rfl] at e
    rw [e] at hok ⊢
    refine ⟨?_, fun p hp hne => getM_mem hok ?_⟩
    · exact getM_mem hok (p := (⟨c, v⟩ : S61)) (by simp)
    · rcases others hv hp hne hh with h | h
      · simp [h]
      · simp [h]
  | false =>
    have h48 : ¬ 48 ≤ l.length := by
      rcases hfit with h | h
      · rw [hh] at h; cases h
      · omega
    rw [hh, if_neg (by simp), if_neg h48] at e
    rw [e] at hok ⊢
    refine ⟨?_, fun p hp hne => getM_mem hok ?_⟩
    · exact getM_mem hok (p := (⟨c, v⟩ : S61)) (by simp)
    · rw [← List.take_append_drop (atP l c) l] at hp
      rcases List.mem_append.mp hp with h | h
      · simp [h]
      · simp [h]
theorem dropM_get {l : List S61} {c : ByteArray} (hv : prB l = true) : getM (dropM l c).1 c = -1 ∧ ∀ p ∈ l, p.f0 ≠ c → getM (dropM l c).1 p.f0 = p.f1 := by
  have hok := dropM_ok l c
  have e : dropM l c = if hitM l c then (l.take (atP l c) ++ l.drop (atP l c + 1), true) else (l, false) := by unfold dropM; rw [if_pos hv]
  cases hh : hitM l c with
  | true =>
    rw [hh, if_pos rfl] at e
    rw [e] at hok ⊢
    refine ⟨getM_none fun p hp hc => ?_, fun p hp hne => getM_mem hok ?_⟩
    · rcases List.mem_append.mp hp with h | h
      · rw [take_at (prB_order hv)] at h
        have := (List.mem_filter.mp h).2
        rw [hc, ltB_irr] at this
        cases this
      · have := behind_hit hv hh p h
        rw [hc, ltB_irr] at this
        cases this
    · rcases others hv hp hne hh with h | h
      · simp [h]
      · simp [h]
  | false =>
    rw [hh, if_neg (by simp)] at e
    rw [e] at hok ⊢
    refine ⟨?_, fun p hp hne => getM_mem hv hp⟩
    unfold getM
    rw [hh, Bool.and_false, if_neg (by simp)]

/-! The models of finding, putting and joining sessions. -/
def findS : List S100 → Int → S100
  | [], _ => z100
  | s :: r, c => if s.f0 = c then s else findS r c
def seqB (l : List S100) (c : Int) : Int := if sesB l = true ∧ 0 ≤ c ∧ c ≤ 3 then (findS l c).f1 else -1
def putL : List S100 → S100 → Bool → List S100
  | [], s, placed => if placed = true then [] else [s]
  | x :: r, s, placed =>
    if placed = false ∧ s.f0 ≤ x.f0 then s :: ((if x.f0 = s.f0 then [] else [x]) ++ putL r s true)
    else (if x.f0 = s.f0 then [] else [x]) ++ putL r s placed
def putB (l : List S100) (s : S100) : List S100 × Bool :=
  if sesB l = true ∧ sesB [s] = true then (if s.f1 ≤ seqB l s.f0 then (l, false) else (putL l s false, true)) else ([], false)
theorem putL_true (s : S100) (l : List S100) : (putL l s true).length ≤ l.length := by
  induction l with
  | nil => simp [putL]
  | cons y q ihq =>
    rw [putL, if_neg (by simp)]
    split <;> simp <;> omega
theorem putL_length (s : S100) (l : List S100) : ∀ b, (putL l s b).length ≤ l.length + 1 := by
  induction l with
  | nil => intro b; cases b <;> simp [putL]
  | cons x r ih =>
    intro b
    have h1 := putL_true s r
    have h2 := ih b
    rw [putL]
    split
    · split <;> simp <;> omega
    · split <;> simp <;> omega
theorem putB_length (l : List S100) (s : S100) : (putB l s).1.length ≤ l.length + 1 := by
  unfold putB
  split
  · split
    · simp
    · exact putL_length s l false
  · simp
theorem sesG_all (l : List S100) : ∀ q : Int, sesG (some q) l = true → ∀ x ∈ l, q < x.f0 := by
  induction l with
  | nil => intro q _ x hx; cases hx
  | cons s r ih =>
    intro q h x hx
    simp only [sesG, Bool.and_eq_true] at h
    have h1 : q < s.f0 := by simpa [above] using h.2.1
    rcases List.mem_cons.mp hx with rfl | hx
    · exact h1
    · exact Int.lt_trans h1 (ih s.f0 h.2.2 x hx)
theorem sesG_order (l : List S100) : ∀ p : Option Int, sesG p l = true → l.Pairwise (fun a b => a.f0 < b.f0) := by
  induction l with
  | nil => intro p _; exact List.Pairwise.nil
  | cons s r ih =>
    intro p h
    simp only [sesG, Bool.and_eq_true] at h
    exact List.Pairwise.cons (sesG_all r s.f0 h.2.2) (ih _ h.2.2)
theorem find_none (c : Int) : ∀ l : List S100, (∀ x ∈ l, x.f0 ≠ c) → findS l c = z100
  | [], _ => rfl
  | s :: r, h => by
    rw [findS, if_neg (h s (by simp))]
    exact find_none c r fun x hx => h x (List.mem_cons_of_mem _ hx)
theorem find_at (c : Int) : ∀ (l : List S100) (R : Nat) (hR : R < l.length), (∀ i (hi : i < R), (l[i]'(by omega)).f0 ≠ c) → l[R].f0 = c → findS l c = l[R]
  | s :: r, 0, _, _, h => by
    have h' : s.f0 = c := h
    rw [findS, if_pos h']
    rfl
  | s :: r, R + 1, hR, hb, h => by
    have h0 := hb 0 (by omega)
    simp only [List.getElem_cons_zero] at h0
    rw [findS, if_neg h0]
    have := find_at c r R (by simpa using hR) (fun i hi => by have := hb (i + 1) (by omega); simpa using this) (by simpa using h)
    simpa using this
theorem sesG_len (l : List S100) : ∀ q : Int, sesG (some q) l = true → (l.length : Int) + q ≤ 3 ∨ l = [] := by
  induction l with
  | nil => intro q _; exact .inr rfl
  | cons s r ih =>
    intro q h
    simp only [sesG, Bool.and_eq_true] at h
    obtain ⟨h1, h2, h3⟩ := h
    unfold okS l1B at h1
    simp only [Bool.and_eq_true, decide_eq_true_eq] at h1
    have hq : q < s.f0 := by simpa [above] using h2
    left
    simp only [List.length_cons]
    rcases ih s.f0 h3 with hr | rfl
    · omega
    · simp only [List.length_nil]
      omega
theorem sesB_len {l : List S100} (h : sesB l = true) : l.length ≤ 4 := by
  cases l with
  | nil => simp
  | cons s r =>
    unfold sesB at h
    simp only [sesG, Bool.and_eq_true] at h
    obtain ⟨h1, _, h3⟩ := h
    unfold okS l1B at h1
    simp only [Bool.and_eq_true, decide_eq_true_eq] at h1
    simp only [List.length_cons]
    rcases sesG_len r s.f0 h3 with hr | rfl
    · omega
    · simp
/-- where the client is, or were, among lo .. hi -/
def placeOf (l : List S100) (c : Int) : Nat → Nat → Nat → Nat
  | 0, lo, _ => lo
  | d + 1, lo, hi => if lo < hi then (if (rd_T100 l (((lo + hi) / 2 : Nat) : Int)).f0 < c then placeOf l c d ((lo + hi) / 2 + 1) hi else placeOf l c d lo ((lo + hi) / 2)) else lo
def plOf (l : List S100) (c : Int) : Nat := placeOf l c l.length 0 l.length
def hitOf (l : List S100) (c : Int) : Bool := decide (placeOf l c l.length 0 l.length < l.length) && decide ((rd_T100 l ((placeOf l c l.length 0 l.length : Nat) : Int)).f0 = c)
theorem placeOf_spec {l : List S100} (ho : l.Pairwise (fun a b => a.f0 < b.f0)) (c : Int) : ∀ (d lo hi : Nat), lo ≤ hi → hi ≤ l.length → hi - lo ≤ d →
    (∀ i (h : i < l.length), i < lo → l[i].f0 < c) → (∀ i (h : i < l.length), hi ≤ i → c ≤ l[i].f0) →
    placeOf l c d lo hi ≤ l.length ∧ (∀ i (h : i < l.length), i < placeOf l c d lo hi → l[i].f0 < c) ∧ (∀ i (h : i < l.length), placeOf l c d lo hi ≤ i → c ≤ l[i].f0)
  | 0, lo, hi, h1, h2, h3, h4, h5 => by
    obtain rfl : lo = hi := by omega
    exact ⟨h2, h4, h5⟩
  | d + 1, lo, hi, h1, h2, h3, h4, h5 => by
    rw [placeOf]
    by_cases hlt : lo < hi
    · rw [if_pos hlt]
      have hm : (lo + hi) / 2 < l.length := by omega
      rw [ses_nat hm]
      have hord : ∀ i j (hi : i < l.length) (hj : j < l.length), i < j → l[i].f0 < l[j].f0 := fun i j hi hj hij => List.pairwise_iff_getElem.mp ho i j hi hj hij
      by_cases hc : (l[(lo + hi) / 2]'hm).f0 < c
      · rw [if_pos hc]
        refine placeOf_spec ho c d _ _ (by omega) h2 (by omega) (fun i hil hlo => ?_) h5
        rcases Nat.lt_or_eq_of_le (show i ≤ (lo + hi) / 2 by omega) with h | h
        · exact Int.lt_trans (hord i _ hil hm h) hc
        · subst h; exact hc
      · rw [if_neg hc]
        refine placeOf_spec ho c d _ _ (by omega) (by omega) (by omega) h4 (fun i hil hlo => ?_)
        rcases Nat.lt_or_eq_of_le (show (lo + hi) / 2 ≤ i by omega) with h | h
        · have := hord _ i hm hil h
          omega
        · subst h; omega
    · rw [if_neg hlt]
      obtain rfl : lo = hi := by omega
      exact ⟨h2, h4, h5⟩
theorem placeOf_find {l : List S100} (h : sesB l = true) (c : Int) : (if hitOf l c = true then (rd_T100 l ((placeOf l c l.length 0 l.length : Nat) : Int)).f1 else 0) = (findS l c).f1 := by
  obtain ⟨h1, h2, h3⟩ := placeOf_spec (sesG_order l none h) c l.length 0 l.length (Nat.zero_le _) (Nat.le_refl _) (by omega) (fun i _ hi => absurd hi (Nat.not_lt_zero _)) (fun i hil hi => by omega)
  unfold hitOf
  generalize placeOf l c l.length 0 l.length = R at h1 h2 h3 ⊢
  by_cases hR : R < l.length
  · rw [decide_eq_true hR, ses_nat hR]
    by_cases hc : l[R].f0 = c
    · rw [decide_eq_true hc, find_at c l R hR (fun i hi => by have := h2 i (by omega) hi; omega) hc]
      rfl
    · rw [decide_eq_false hc, find_none c l fun x hx => ?_]
      · rfl
      · obtain ⟨i, hi, rfl⟩ := List.getElem_of_mem hx
        by_cases hlt : i < R
        · have := h2 i hi hlt; omega
        · have a := h3 R hR (Nat.le_refl _)
          rcases Nat.lt_or_eq_of_le (show R ≤ i by omega) with h' | h'
          · have := List.pairwise_iff_getElem.mp (sesG_order l none h) R i hR hi h'
            omega
          · subst h'; exact hc
  · rw [decide_eq_false hR, find_none c l fun x hx => ?_]
    · rfl
    · obtain ⟨i, hi, rfl⟩ := List.getElem_of_mem hx
      have := h2 i hi (by omega)
      omega
theorem putL_keep (s : S100) : ∀ l : List S100, (∀ x ∈ l, s.f0 < x.f0) → putL l s true = l
  | [], _ => rfl
  | x :: r, h => by
    have h0 := h x (by simp)
    rw [putL, if_neg (by simp), if_neg (by omega), putL_keep s r fun y hy => h y (List.mem_cons_of_mem _ hy)]
    rfl
theorem putL_place (s : S100) : ∀ (l : List S100) (R : Nat), l.Pairwise (fun a b => a.f0 < b.f0) → R ≤ l.length → (∀ i (h : i < l.length), i < R → l[i].f0 < s.f0) → (∀ i (h : i < l.length), R ≤ i → s.f0 ≤ l[i].f0) →
    putL l s false = (l.take R ++ [s]) ++ l.drop (R + (if ∃ h : R < l.length, l[R].f0 = s.f0 then 1 else 0))
  | [], R, _, hR, _, _ => by
    obtain rfl : R = 0 := by simpa using hR
    rw [if_neg (by rintro ⟨h, _⟩; exact absurd h (Nat.not_lt_zero _))]
    rfl
  | x :: r, 0, ho, _, _, h2 => by
    have hx := h2 0 (by simp) (Nat.zero_le _)
    simp only [List.getElem_cons_zero] at hx
    have hr := (List.pairwise_cons.mp ho).1
    have hk : putL r s true = r := putL_keep s r fun y hy => by have := hr y hy; omega
    have hp : putL (x :: r) s false = s :: ((if x.f0 = s.f0 then [] else [x]) ++ putL r s true) := by
      rw [putL]
      exact if_pos ⟨rfl, hx⟩
    rw [hp, hk]
    by_cases hc : x.f0 = s.f0
    · rw [if_pos hc, if_pos ⟨by simp, by simpa using hc⟩]
      rfl
    · rw [if_neg hc, if_neg (by rintro ⟨_, h⟩; exact hc (by simpa using h))]
      rfl
  | x :: r, R + 1, ho, hR, h1, h2 => by
    have hx := h1 0 (by simp) (by omega)
    simp only [List.getElem_cons_zero] at hx
    have hp : putL (x :: r) s false = (if x.f0 = s.f0 then [] else [x]) ++ putL r s false := by
      rw [putL]
      exact if_neg (by omega)
    have ih := putL_place s r R (List.pairwise_cons.mp ho).2 (by simpa using hR) (fun i hi hr => by have := h1 (i + 1) (by simpa using hi) (by omega); simpa using this) (fun i hi hr => by have := h2 (i + 1) (by simpa using hi) (by omega); simpa using this)
    rw [hp, ih, if_neg (by omega)]
    have he : (∃ h : R + 1 < (x :: r).length, (x :: r)[R + 1].f0 = s.f0) ↔ ∃ h : R < r.length, r[R].f0 = s.f0 := by simp
    by_cases hc : ∃ h : R < r.length, r[R].f0 = s.f0
    · rw [if_pos hc, if_pos (he.mpr hc)]
      rfl
    · rw [if_neg hc, if_neg (fun h => hc (he.mp h))]
      rfl
theorem putL_valid (s : S100) (hs : okS s = true) (l : List S100) : ∀ p, sesG p l = true → above p s.f0 = true → sesG p (putL l s false) = true := by
  induction l with
  | nil => intro p _ hp; simp [putL, sesG, hs, hp]
  | cons x r ih =>
    intro p h hp
    have ho := sesG_order _ _ h
    simp only [sesG, Bool.and_eq_true] at h
    obtain ⟨h1, h2, h3⟩ := h
    by_cases hc : s.f0 ≤ x.f0
    · have hk : putL r s true = r := putL_keep s r fun y hy => by have := (List.pairwise_cons.mp ho).1 y hy; omega
      have hp' : putL (x :: r) s false = s :: ((if x.f0 = s.f0 then [] else [x]) ++ putL r s true) := by
        rw [putL]
        exact if_pos ⟨rfl, hc⟩
      rw [hp', hk]
      by_cases he : x.f0 = s.f0
      · rw [if_pos he]
        rw [he] at h3
        simp [sesG, hs, hp, h3]
      · rw [if_neg he]
        have ha : above (some s.f0) x.f0 = true := by simp only [above, decide_eq_true_eq]; omega
        simp [sesG, hs, hp, h1, ha, h3]
    · have hp' : putL (x :: r) s false = (if x.f0 = s.f0 then [] else [x]) ++ putL r s false := by
        rw [putL]
        exact if_neg (by omega)
      rw [hp', if_neg (by omega)]
      have ha : above (some x.f0) s.f0 = true := by simp only [above, decide_eq_true_eq]; omega
      simp [sesG, h1, h2, ih (some x.f0) h3 ha]
theorem putL_find (s : S100) (c : Int) (l : List S100) (ho : l.Pairwise (fun a b => a.f0 < b.f0)) : findS (putL l s false) c = if s.f0 = c then s else findS l c := by
  induction l with
  | nil => simp [putL, findS]
  | cons x r ih =>
    have hr := (List.pairwise_cons.mp ho).1
    by_cases hc : s.f0 ≤ x.f0
    · have hk : putL r s true = r := putL_keep s r fun y hy => by have := hr y hy; omega
      have hp' : putL (x :: r) s false = s :: ((if x.f0 = s.f0 then [] else [x]) ++ putL r s true) := by
        rw [putL]
        exact if_pos ⟨rfl, hc⟩
      rw [hp', hk, findS]
      by_cases e : s.f0 = c
      · rw [if_pos e, if_pos e]
      · rw [if_neg e, if_neg e]
        by_cases he : x.f0 = s.f0
        · rw [if_pos he, findS, if_neg (by omega)]
          rfl
        · rw [if_neg he]
          rfl
    · have hp' : putL (x :: r) s false = (if x.f0 = s.f0 then [] else [x]) ++ putL r s false := by
        rw [putL]
        exact if_neg (by omega)
      rw [hp', if_neg (by omega)]
      simp only [List.cons_append, List.nil_append, findS, ih (List.pairwise_cons.mp ho).2]
      by_cases e : x.f0 = c
      · rw [if_pos e, if_pos e, if_neg (by omega)]
      · rw [if_neg e, if_neg e]
theorem putL_mem (s : S100) (l : List S100) : s ∈ putL l s false := by
  induction l with
  | nil => simp [putL]
  | cons x r ih =>
    rw [putL]
    split
    · simp
    · exact List.mem_append_right _ ih
theorem sesOne (s : S100) : sesB [s] = okS s := by
  unfold sesB
  simp [sesG, above]
def joinL : List S100 → List S100 → List S100
  | acc, [] => acc
  | acc, s :: r => joinL (putB acc s).1 r
def joinB (a b : List S100) : List S100 := if sesB a = true ∧ sesB b = true then joinL a b else []
theorem putB_valid {acc : List S100} {s : S100} (h : sesB acc = true) (hs : okS s = true) :
    sesB (putB acc s).1 = true ∧ (if (putB acc s).2 = true then (putB acc s).1 else acc) = (putB acc s).1 := by
  unfold putB
  rw [if_pos (show sesB acc = true ∧ sesB [s] = true from ⟨h, by rw [sesOne]; exact hs⟩)]
  by_cases hle : s.f1 ≤ seqB acc s.f0
  · rw [if_pos hle]
    exact ⟨h, by simp⟩
  · rw [if_neg hle]
    exact ⟨putL_valid s hs acc none h rfl, by simp⟩
theorem sesG_ok (l : List S100) : ∀ p, sesG p l = true → ∀ s ∈ l, okS s = true := by
  induction l with
  | nil => intro p _ s hs; cases hs
  | cons x r ih =>
    intro p h s hs
    simp only [sesG, Bool.and_eq_true] at h
    rcases List.mem_cons.mp hs with rfl | hs
    · exact h.1
    · exact ih _ h.2.2 s hs
theorem joinL_valid (b : List S100) : ∀ acc, sesB acc = true → (∀ s ∈ b, okS s = true) → sesB (joinL acc b) = true := by
  induction b with
  | nil => intro acc h _; exact h
  | cons s r ih =>
    intro acc h hb
    exact ih _ (putB_valid h (hb s (by simp))).1 fun x hx => hb x (List.mem_cons_of_mem _ hx)

/-! What joined sessions hold. -/
theorem find_pos (c : Int) (l : List S100) : ∀ p, sesG p l = true → 0 ≤ (findS l c).f1 := by
  induction l with
  | nil => intro p _; exact Int.le_refl 0
  | cons s r ih =>
    intro p h
    simp only [sesG, Bool.and_eq_true] at h
    have h1 := h.1
    unfold okS l1B at h1
    simp only [Bool.and_eq_true, decide_eq_true_eq] at h1
    rw [findS]
    by_cases hc : s.f0 = c
    · rw [if_pos hc]
      omega
    · rw [if_neg hc]
      exact ih _ h.2.2
theorem seq_find {l : List S100} (h : sesB l = true) {c : Int} (h0 : 0 ≤ c) (h1 : c ≤ 3) : seqB l c = (findS l c).f1 := by
  unfold seqB
  exact if_pos ⟨h, h0, h1⟩
theorem okS_client {s : S100} (h : okS s = true) : 0 ≤ s.f0 ∧ s.f0 ≤ 3 := by
  unfold okS l1B at h
  simp only [Bool.and_eq_true, decide_eq_true_eq] at h
  omega
theorem put_find {acc : List S100} {s : S100} (h : sesB acc = true) (hs : okS s = true) (c : Int) :
    (findS (putB acc s).1 c).f1 = if s.f0 = c then max s.f1 (findS acc c).f1 else (findS acc c).f1 := by
  have hc := okS_client hs
  unfold putB
  rw [if_pos (show sesB acc = true ∧ sesB [s] = true from ⟨h, by rw [sesOne]; exact hs⟩), seq_find h hc.1 hc.2]
  by_cases hle : s.f1 ≤ (findS acc s.f0).f1
  · rw [if_pos hle]
    by_cases e : s.f0 = c
    · subst e
      rw [if_pos rfl]
      dsimp only
      omega
    · rw [if_neg e]
  · rw [if_neg hle]
    dsimp only
    rw [putL_find s c acc (sesG_order acc none h)]
    by_cases e : s.f0 = c
    · subst e
      rw [if_pos rfl, if_pos rfl]
      omega
    · rw [if_neg e, if_neg e]
theorem join_find (c : Int) (b : List S100) : ∀ p acc, sesG p b = true → sesB acc = true → (findS (joinL acc b) c).f1 = max (findS acc c).f1 (findS b c).f1 := by
  induction b with
  | nil =>
    intro p acc _ h
    have := find_pos c acc none h
    rw [joinL, show (findS [] c).f1 = 0 from rfl]
    omega
  | cons s r ih =>
    intro p acc hb h
    have hr := (List.pairwise_cons.mp (sesG_order _ _ hb)).1
    simp only [sesG, Bool.and_eq_true] at hb
    have hp := find_pos c r (some s.f0) hb.2.2
    have ha := find_pos c acc none h
    rw [joinL, ih (some s.f0) _ hb.2.2 (putB_valid h hb.1).1, put_find h hb.1 c, findS]
    by_cases e : s.f0 = c
    · rw [if_pos e, if_pos e, find_none c r fun x hx => by have := hr x hx; omega]
      rw [show (z100 : S100).f1 = 0 from rfl]
      omega
    · rw [if_neg e, if_neg e]
theorem join_seq {a b : List S100} (ha : sesB a = true) (hb : sesB b = true) {c : Int} (h0 : 0 ≤ c) (h1 : c ≤ 3) : seqB (joinB a b) c = max (seqB a c) (seqB b c) := by
  have e : joinB a b = joinL a b := by
    unfold joinB
    exact if_pos ⟨ha, hb⟩
  rw [e, seq_find (joinL_valid b a ha (sesG_ok b none hb)) h0 h1, seq_find ha h0 h1, seq_find hb h0 h1]
  exact join_find c b none a hb ha
theorem putL_sub {x s : S100} (l : List S100) : ∀ b, x ∈ putL l s b → x = s ∨ x ∈ l := by
  induction l with
  | nil =>
    intro b h
    rw [putL] at h
    cases b with
    | true => simp at h
    | false => exact .inl (by simpa using h)
  | cons y r ih =>
    intro b h
    have hy : ∀ z, z ∈ (if y.f0 = s.f0 then [] else [y]) → z = y := by
      intro z hz
      split at hz
      · cases hz
      · simpa using hz
    rw [putL] at h
    have rest : ∀ b, x ∈ (if y.f0 = s.f0 then [] else [y]) ++ putL r s b → x = s ∨ x ∈ y :: r := by
      intro b h
      rcases List.mem_append.mp h with h | h
      · exact .inr (by rw [hy x h]; simp)
      · rcases ih b h with h | h
        · exact .inl h
        · exact .inr (List.mem_cons_of_mem _ h)
    split at h
    · rcases List.mem_cons.mp h with h | h
      · exact .inl h
      · exact rest true h
    · exact rest b h
theorem put_sub {x s : S100} {l : List S100} (h : x ∈ (putB l s).1) : x = s ∨ x ∈ l := by
  unfold putB at h
  split at h
  · split at h
    · exact .inr h
    · exact putL_sub l false h
  · cases h
theorem join_sub {x : S100} (b : List S100) : ∀ acc, x ∈ joinL acc b → x ∈ acc ∨ x ∈ b := by
  induction b with
  | nil => intro acc h; exact .inl h
  | cons s r ih =>
    intro acc h
    rcases ih _ h with h | h
    · rcases put_sub h with rfl | h
      · exact .inr (by simp)
      · exact .inl h
    · exact .inr (List.mem_cons_of_mem _ h)
theorem find_mem {l : List S100} (h : sesB l = true) {s : S100} (hs : s ∈ l) : findS l s.f0 = s := by
  obtain ⟨R, hR, rfl⟩ := List.getElem_of_mem hs
  have ho := sesG_order l none h
  exact find_at _ l R hR (fun i hi => by have := List.pairwise_iff_getElem.mp ho i R (by omega) hR hi; omega) rfl
theorem put_same {l : List S100} (h : sesB l = true) {s : S100} (hs : s ∈ l) : (putB l s).1 = l := by
  have ok := sesG_ok l none h s hs
  have hc := okS_client ok
  unfold putB
  rw [if_pos (show sesB l = true ∧ sesB [s] = true from ⟨h, by rw [sesOne]; exact ok⟩), seq_find h hc.1 hc.2, find_mem h hs, if_pos (Int.le_refl _)]
theorem join_same {l : List S100} (h : sesB l = true) : ∀ b : List S100, (∀ s ∈ b, s ∈ l) → joinL l b = l
  | [], _ => rfl
  | s :: r, hb => by
    rw [joinL, put_same h (hb s (by simp))]
    exact join_same h r fun x hx => hb x (List.mem_cons_of_mem _ hx)
theorem put_bad {l : List S100} {s : S100} (h : sesB l = false ∨ sesB [s] = false) : putB l s = ([], false) := by
  unfold putB
  rw [if_neg]
  rintro ⟨h1, h2⟩
  rcases h with h | h
  · rw [h] at h1; cases h1
  · rw [h] at h2; cases h2

/-! The models of cutting and joining states, and what the laws ask of them. -/
def cutOk (s : SM) : Bool := s.ok && (s.t && cutB s.a s.b s.c)
def csM (s : SM) : SM × SM × Bool := if cutOk s then (⟨s.a, s.c, inM s.ps s.a s.c, s.ss, false, ⟨#[]⟩⟩, ⟨s.c, s.b, inM s.ps s.c s.b, s.ss, false, ⟨#[]⟩⟩, true) else (SM.zero, SM.zero, false)
def ijB (a b c d : ByteArray) : Bool := ivB a b && (ivB c d && (!decide (b.toList = ([] : List UInt8)) && decide (b = c)))
def pjB (l m : List S61) : Bool := prB (l ++ m)
def joinOk (s u : SM) : Bool := s.ok && (u.ok && (s.t && (u.t && (decide (s.c.toList = ([] : List UInt8)) && (decide (u.c.toList = ([] : List UInt8)) && (ijB s.a s.b u.a u.b && pjB s.ps u.ps))))))
def sjM (s u : SM) : SM × Bool := if joinOk s u then (⟨s.a, u.b, s.ps ++ u.ps, joinB s.ss u.ss, false, ⟨#[]⟩⟩, true) else (SM.zero, false)
theorem keyB_ne {s : ByteArray} (h : keyB s = true) : s.toList ≠ ([] : List UInt8) := fun e => by
  rw [nil_iff] at e
  unfold keyB at h
  rw [e] at h
  simp at h
theorem cutB_parts {a b c : ByteArray} (h : cutB a b c = true) : ivB a b = true ∧ keyB c = true ∧ ivB a c = true ∧ ivB c b = true := by
  unfold cutB at h
  simp only [Bool.and_eq_true] at h
  exact ⟨h.1, h.2.1, h.2.2.1, h.2.2.2⟩
theorem cutOk_parts {s : SM} (h : cutOk s = true) : s.ok = true ∧ s.t = true ∧ cutB s.a s.b s.c = true := by
  unfold cutOk at h
  simp only [Bool.and_eq_true] at h
  exact ⟨h.1, h.2.1, h.2.2⟩
theorem prB_sub {l m : List S61} (h : prB l = true) (hs : m.Sublist l) : prB m = true := by
  obtain ⟨h0, h1, h2⟩ := prB_parts h
  exact prB_of (Nat.le_trans hs.length_le h0) (fun x hx => h1 x (hs.subset hx)) (h2.sublist hs)
theorem inM_eq {l : List S61} {a b : ByteArray} (hv : prB l = true) (hi : ivB a b = true) : inM l a b = l.filter (fun p => insB a b p.f0) := by
  unfold inM
  rw [hv, hi]
  rfl
theorem inM_ok (l : List S61) (a b : ByteArray) : prB (inM l a b) = true := by
  unfold inM
  split
  · rename_i h
    rw [Bool.and_eq_true] at h
    exact prB_sub h.1 List.filter_sublist
  · exact prB_nil
theorem nil_tail (a b : ByteArray) (t : Bool) : tailB a b t ⟨#[]⟩ = true := by unfold tailB; rw [if_pos toL0]
theorem part_ok {a b d f : ByteArray} {ps : List S61} {ss : List S100} (hp : prB ps = true) (hs : sesB ss = true) (hi : ivB d f = true) (t : Bool) : (SM.mk d f (inM ps d f) ss t ⟨#[]⟩).ok = true :=
  stB_parts.mpr ⟨hi, inM_ok ps d f, hs, fun p hm => by rw [inM_eq hp hi] at hm; exact (List.mem_filter.mp hm).2, nil_tail _ _ _⟩
theorem ins_lt {a c k : ByteArray} (hc : c.toList ≠ ([] : List UInt8)) (h : insB a c k = true) : Op.bytesLess k.toList c.toList = true := by
  unfold insB at h
  rw [if_neg hc, Bool.and_eq_true] at h
  exact h.2
theorem ins_ge {c b k : ByteArray} (h : insB c b k = true) : Op.bytesLess k.toList c.toList = false := by
  unfold insB at h
  rw [Bool.and_eq_true, Bool.not_eq_true'] at h
  exact h.1
theorem cut_get {ps : List S61} {a b c : ByteArray} (hp : prB ps = true) (hk : keyB c = true) (h1 : ivB a c = true) (h2 : ivB c b = true) {p : S61} (hm : p ∈ ps) :
    (hasB a c p.f0 = true → getM (inM ps a c) p.f0 = p.f1 ∧ getM (inM ps c b) p.f0 = -1) ∧ (hasB c b p.f0 = true → getM (inM ps c b) p.f0 = p.f1 ∧ getM (inM ps a c) p.f0 = -1) := by
  have hc := keyB_ne hk
  have hno : ∀ {d f}, ivB d f = true → insB d f p.f0 = false → getM (inM ps d f) p.f0 = -1 := fun hi hn => getM_none fun q hq e => by
    rw [inM_eq hp hi] at hq
    have := (List.mem_filter.mp hq).2
    rw [e, hn] at this
    cases this
  have hyes : ∀ {d f}, ivB d f = true → insB d f p.f0 = true → getM (inM ps d f) p.f0 = p.f1 := fun hi hy => getM_mem (inM_ok ps _ _) (by
    rw [inM_eq hp hi]
    exact List.mem_filter.mpr ⟨hm, hy⟩)
  have hin : ∀ {d f}, hasB d f p.f0 = true → insB d f p.f0 = true := fun h => by
    unfold hasB at h
    simp only [Bool.and_eq_true] at h
    exact h.2.2
  refine ⟨fun h => ⟨hyes h1 (hin h), hno h2 ?_⟩, fun h => ⟨hyes h2 (hin h), hno h1 ?_⟩⟩
  · cases hx : insB c b p.f0 with
    | false => rfl
    | true => have := ins_ge hx; rw [ins_lt hc (hin h)] at this; cases this
  · cases hx : insB a c p.f0 with
    | false => rfl
    | true => have := ins_ge (hin h); rw [ins_lt hc hx] at this; cases this
theorem cut_all {ps : List S61} {a b c : ByteArray} (hp : prB ps = true) (hk : keyB c = true) (h1 : ivB a c = true) (h2 : ivB c b = true) (hin : ∀ p ∈ ps, insB a b p.f0 = true) : inM ps a c ++ inM ps c b = ps := by
  have hc := keyB_ne hk
  have e1 : inM ps a c = ps.take (atP ps c) := by
    rw [inM_eq hp h1, take_at (prB_order hp)]
    refine List.filter_congr fun p hm => ?_
    have h := hin p hm
    unfold insB at h ⊢
    rw [Bool.and_eq_true] at h
    rw [h.1, if_neg hc]
    rfl
  have e2 : inM ps c b = ps.drop (atP ps c) := by
    rw [inM_eq hp h2, drop_at (prB_order hp)]
    refine List.filter_congr fun p hm => ?_
    have h := hin p hm
    unfold insB at h ⊢
    rw [Bool.and_eq_true] at h
    rw [h.2, Bool.and_true]
    rfl
  rw [e1, e2, List.take_append_drop]
theorem joinB_self {l : List S100} (h : sesB l = true) : joinB l l = l := by
  unfold joinB
  rw [if_pos ⟨h, h⟩]
  exact join_same h l fun _ hs => hs
/-- what the law asks of a state that is cut -/
theorem cut_law {s : SM} (h : cutOk s = true) : (csM s).1.ok = true ∧ (csM s).2.1.ok = true ∧ (csM s).1.ss = s.ss ∧ (csM s).2.1.ss = s.ss ∧ (csM s).1.t = false ∧ (csM s).2.1.t = false ∧
    (∀ p ∈ s.ps, (hasB (csM s).1.a (csM s).1.b p.f0 = true → getM (csM s).1.ps p.f0 = p.f1 ∧ getM (csM s).2.1.ps p.f0 = -1) ∧ (hasB (csM s).2.1.a (csM s).2.1.b p.f0 = true → getM (csM s).2.1.ps p.f0 = p.f1 ∧ getM (csM s).1.ps p.f0 = -1)) ∧
    sjM ⟨(csM s).1.a, (csM s).1.b, (csM s).1.ps, (csM s).1.ss, true, (csM s).1.c⟩ ⟨(csM s).2.1.a, (csM s).2.1.b, (csM s).2.1.ps, (csM s).2.1.ss, true, (csM s).2.1.c⟩ = (⟨s.a, s.b, s.ps, s.ss, false, ⟨#[]⟩⟩, true) := by
  obtain ⟨hs, ht, hc⟩ := cutOk_parts h
  obtain ⟨hiv, hp, hss, hin, htl⟩ := stB_parts.mp hs
  obtain ⟨_, hk, h1, h2⟩ := cutB_parts hc
  have e : csM s = (⟨s.a, s.c, inM s.ps s.a s.c, s.ss, false, ⟨#[]⟩⟩, ⟨s.c, s.b, inM s.ps s.c s.b, s.ss, false, ⟨#[]⟩⟩, true) := if_pos h
  rw [e]
  refine ⟨part_ok (a := s.a) (b := s.b) hp hss h1 _, part_ok (a := s.a) (b := s.b) hp hss h2 _, rfl, rfl, rfl, rfl, fun p hm => cut_get hp hk h1 h2 hm, ?_⟩
  have hj : joinOk ⟨s.a, s.c, inM s.ps s.a s.c, s.ss, true, ⟨#[]⟩⟩ ⟨s.c, s.b, inM s.ps s.c s.b, s.ss, true, ⟨#[]⟩⟩ = true := by
    unfold joinOk ijB pjB
    rw [part_ok (a := s.a) (b := s.b) hp hss h1 true, part_ok (a := s.a) (b := s.b) hp hss h2 true]
    simp only [h1, h2, cut_all hp hk h1 h2 hin, hp, decide_eq_false (keyB_ne hk), decide_eq_true toL0]
    simp
  show (if joinOk ⟨s.a, s.c, inM s.ps s.a s.c, s.ss, true, ⟨#[]⟩⟩ ⟨s.c, s.b, inM s.ps s.c s.b, s.ss, true, ⟨#[]⟩⟩ then _ else _) = _
  rw [if_pos hj]
  show (SM.mk s.a s.b (inM s.ps s.a s.c ++ inM s.ps s.c s.b) (joinB s.ss s.ss) false ⟨#[]⟩, true) = _
  rw [cut_all hp hk h1 h2 hin, joinB_self hss]
theorem iv_trans {a b c : ByteArray} (h1 : ivB a c = true) (h2 : ivB c b = true) (hc : c.toList ≠ ([] : List UInt8)) : ivB a b = true := by
  unfold ivB at h1 h2 ⊢
  rw [if_neg hc] at h1 h2
  rw [if_neg hc] at h1
  by_cases hb : b.toList = ([] : List UInt8)
  · rw [if_pos hb] at h2 ⊢
    rw [if_pos hb]
    by_cases ha : a.toList = ([] : List UInt8)
    · rw [if_pos ha]
    · rw [if_neg ha] at h1 ⊢
      rw [Bool.and_eq_true] at h1
      rw [h1.1]
      rfl
  · rw [if_neg hb] at h2 ⊢
    rw [if_neg hb]
    simp only [Bool.and_eq_true] at h2
    by_cases ha : a.toList = ([] : List UInt8)
    · rw [if_pos ha] at h1 ⊢
      simp only [Bool.and_eq_true] at h1
      rw [h2.2.1, less_trans _ _ _ h1.2 h2.2.2]
      rfl
    · rw [if_neg ha] at h1 ⊢
      simp only [Bool.and_eq_true] at h1
      rw [h1.1, h2.2.1, less_trans _ _ _ h1.2.2 h2.2.2]
      rfl
theorem iv_less {a c : ByteArray} (h : ivB a c = true) (hc : c.toList ≠ ([] : List UInt8)) (k : List UInt8) (hk : Op.bytesLess k a.toList = true) : Op.bytesLess k c.toList = true := by
  unfold ivB at h
  by_cases ha : a.toList = ([] : List UInt8)
  · rw [ha] at hk
    cases k <;> cases hk
  · rw [if_neg ha, if_neg hc] at h
    simp only [Bool.and_eq_true] at h
    exact less_trans _ _ _ hk h.2.2
theorem iv_key {a c : ByteArray} (h : ivB a c = true) (hc : c.toList ≠ ([] : List UInt8)) : keyB c = true := by
  unfold ivB at h
  rw [if_neg hc] at h
  split at h
  · rw [Bool.and_eq_true] at h; exact h.1
  · simp only [Bool.and_eq_true] at h; exact h.2.1
theorem joinOk_parts {s u : SM} (h : joinOk s u = true) : s.ok = true ∧ u.ok = true ∧ s.t = true ∧ u.t = true ∧ s.c.toList = ([] : List UInt8) ∧ u.c.toList = ([] : List UInt8) ∧ s.b.toList ≠ ([] : List UInt8) ∧ s.b = u.a ∧ prB (s.ps ++ u.ps) = true := by
  unfold joinOk ijB pjB at h
  simp only [Bool.and_eq_true, decide_eq_true_eq, Bool.not_eq_true', decide_eq_false_iff_not] at h
  obtain ⟨h1, h2, h3, h4, h5, h6, ⟨_, _, h7, h8⟩, h9⟩ := h
  exact ⟨h1, h2, h3, h4, h5, h6, h7, h8, h9⟩
/-- what the law asks of states that are joined -/
theorem join_law {s u : SM} (h : joinOk s u = true) : (sjM s u).1.ok = true ∧ (sjM s u).1.t = false ∧ (∀ c, 0 ≤ c → c ≤ 3 → seqB (sjM s u).1.ss c = max (seqB s.ss c) (seqB u.ss c)) ∧
    (csM ⟨(sjM s u).1.a, (sjM s u).1.b, (sjM s u).1.ps, (sjM s u).1.ss, true, u.a⟩).2.2 = true ∧ (csM ⟨(sjM s u).1.a, (sjM s u).1.b, (sjM s u).1.ps, (sjM s u).1.ss, true, u.a⟩).1 = ⟨s.a, s.b, s.ps, joinB s.ss u.ss, false, ⟨#[]⟩⟩ ∧
    (csM ⟨(sjM s u).1.a, (sjM s u).1.b, (sjM s u).1.ps, (sjM s u).1.ss, true, u.a⟩).2.1 = ⟨u.a, u.b, u.ps, joinB s.ss u.ss, false, ⟨#[]⟩⟩ := by
  obtain ⟨hs, hu, _, _, _, _, hn, hbc, hp⟩ := joinOk_parts h
  obtain ⟨hiv, hp1, hs1, hin1, _⟩ := stB_parts.mp hs
  obtain ⟨hiv2, hp2, hs2, hin2, _⟩ := stB_parts.mp hu
  have e : sjM s u = (⟨s.a, u.b, s.ps ++ u.ps, joinB s.ss u.ss, false, ⟨#[]⟩⟩, true) := if_pos h
  rw [e]
  have hsj : sesB (joinB s.ss u.ss) = true := by
    unfold joinB
    rw [if_pos ⟨hs1, hs2⟩]
    exact joinL_valid u.ss s.ss hs1 (sesG_ok u.ss none hs2)
  rw [hbc] at hn hiv hin1
  have hab := iv_trans hiv hiv2 hn
  have hin : ∀ p ∈ s.ps ++ u.ps, insB s.a u.b p.f0 = true := fun p hm => by
    rcases List.mem_append.mp hm with hm | hm
    · have h1 := hin1 p hm
      have h2 := ins_lt hn h1
      have h3 := ins_ge h1
      unfold insB
      rw [h3]
      by_cases hb : u.b.toList = ([] : List UInt8)
      · rw [if_pos hb]; rfl
      · rw [if_neg hb, iv_less hiv2 hb _ h2]; rfl
    · have h1 := hin2 p hm
      have h3 := ins_ge h1
      have h4 : Op.bytesLess p.f0.toList s.a.toList = false := by
        cases hx : Op.bytesLess p.f0.toList s.a.toList with
        | false => rfl
        | true => rw [iv_less hiv hn _ hx] at h3; cases h3
      unfold insB at h1 ⊢
      rw [Bool.and_eq_true] at h1
      rw [h4, h1.2]
      rfl
  have hk := iv_key hiv hn
  have hcut : cutB s.a u.b u.a = true := by
    unfold cutB
    rw [hab, hk, hiv, hiv2]
    rfl
  have hok2 : cutOk ⟨s.a, u.b, s.ps ++ u.ps, joinB s.ss u.ss, true, u.a⟩ = true := by
    unfold cutOk
    have : (SM.mk s.a u.b (s.ps ++ u.ps) (joinB s.ss u.ss) true u.a).ok = true := stB_parts.mpr ⟨hab, hp, hsj, hin, by unfold tailB; rw [if_neg hn, hcut]; rfl⟩
    rw [this]
    show (true && (true && cutB s.a u.b u.a)) = true
    rw [hcut]
    rfl
  have hf1 : inM (s.ps ++ u.ps) s.a u.a = s.ps := by
    rw [inM_eq hp hiv, List.filter_append, List.filter_eq_self.mpr (fun p hm => hin1 p hm), List.filter_eq_nil_iff.mpr (fun p hm hx => ?_), List.append_nil]
    have := ins_ge (hin2 p hm)
    rw [ins_lt hn hx] at this
    cases this
  have hf2 : inM (s.ps ++ u.ps) u.a u.b = u.ps := by
    rw [inM_eq hp hiv2, List.filter_append, List.filter_eq_self.mpr (fun p hm => hin2 p hm), List.filter_eq_nil_iff.mpr (fun p hm hx => ?_), List.nil_append]
    have := ins_ge hx
    rw [ins_lt hn (hin1 p hm)] at this
    cases this
  have ec : csM ⟨s.a, u.b, s.ps ++ u.ps, joinB s.ss u.ss, true, u.a⟩ = (⟨s.a, u.a, inM (s.ps ++ u.ps) s.a u.a, joinB s.ss u.ss, false, ⟨#[]⟩⟩, ⟨u.a, u.b, inM (s.ps ++ u.ps) u.a u.b, joinB s.ss u.ss, false, ⟨#[]⟩⟩, true) := if_pos hok2
  refine ⟨stB_parts.mpr ⟨hab, hp, hsj, hin, nil_tail _ _ _⟩, rfl, fun c h0 h1 => join_seq hs1 hs2 h0 h1, ?_, ?_, ?_⟩
  · show (csM ⟨s.a, u.b, s.ps ++ u.ps, joinB s.ss u.ss, true, u.a⟩).2.2 = true
    rw [ec]
  · show (csM ⟨s.a, u.b, s.ps ++ u.ps, joinB s.ss u.ss, true, u.a⟩).1 = _
    rw [ec, hf1, hbc]
  · show (csM ⟨s.a, u.b, s.ps ++ u.ps, joinB s.ss u.ss, true, u.a⟩).2.1 = _
    rw [ec, hf2]

theorem cs_bad {s : SM} (h : cutOk s = false) : csM s = (SM.zero, SM.zero, false) := if_neg (by rw [h]; simp)

end Go.Proofs.Ytenfiihcdhnamaa.PFnStateCut
