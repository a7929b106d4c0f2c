/- Walks over models, part 0: base nums txtm strs keys keyval repm numm rri cmdm cmtm wordm rci cof splitm icmd scmd cmtext ireadc drany lawFnCommandText. -/
import Derived.Test.YtnogoanlfmflcaaDoorPFnCommandTextx0
import Derived.Deep.RegionHeld3
import Derived.Test.YtnogoanlfmflcaaDoorPFnCommandTextx68
import Derived.Lib.SplitLaws
import Derived.Test.YtnogoanlfmflcaaDoorShelfB
import Derived.Lib.AtoiTie
import Derived.Lib.ItoaNum
import Derived.Lib.AppendIntMem
import Derived.Test.YtnogoanlfmflcaaDoorShelfA
import Derived.Test.YtnogoanlfmflcaaDoorPFnCommandTextx1
import Derived.Lib.Strings
import Derived.Laws.BytesArg
import Derived.Test.YtnogoanlfmflcaaDoorShelfC
import Derived.Test.YtnogoanlfmflcaaDoorPFnCommandTextx62
import Derived.Test.YtnogoanlfmflcaaDoorPFnCommandTextx63
import Derived.Test.YtnogoanlfmflcaaDoorPFnCommandTextx61
import Derived.Test.YtnogoanlfmflcaaDoorPFnCommandTextx64
import Derived.Test.YtnogoanlfmflcaaDoorPFnCommandTextx65
import Derived.Test.YtnogoanlfmflcaaDoorPFnCommandTextx66
import Derived.Test.YtnogoanlfmflcaaDoorPFnCommandTextx67
import Derived.Test.YtnogoanlfmflcaaDoorPFnCommandTextx60
namespace Go.Proofs.YtnogoanlfmflcaaDoor.PFnCommandText
open Go.RowKit Go.Proofs.YtnogoanlfmflcaaDoorW.PrintWords Go.Proofs.YtnogoanlfmflcaaDoorW.PrintLast Go.Proofs.YtnogoanlfmflcaaDoorW.PrintMore
set_option linter.unusedVariables false
set_option linter.unusedSimpArgs false
set_option maxHeartbeats 4000000
set_option maxRecDepth 100000
def bits (n m : Nat) : Array Bool := ((List.range n).map fun i => m.testBit i).toArray
/-! Words: a call by its contract, boxes and rows carried on. -/
section
variable {P : Program} {F : FuncId} {args : Array Value} {w W W' : World} {v : Value} {Q : Ending → World → Prop}
theorem cl (c : Calls P F args W fun e w' => e = .returned v ∧ Below W.heap.size W w') (B : Aside0 (Below w.heap.size w W))
    (h : ∀ W', Below W.heap.size W W' → Aside0 (Below w.heap.size w W') → Q (.returned v) W') : Calls P F args W Q :=
  c.mono (by rintro e W' ⟨rfl, hb⟩; exact h W' hb ⟨below_step B.out hb⟩)
theorem cx {α : Type} {f : α → Value} {p : α → Prop} (c : Calls P F args W fun e w' => ∃ x, e = .returned (f x) ∧ p x ∧ Below W.heap.size W w') (B : Aside0 (Below w.heap.size w W))
    (h : ∀ x, p x → ∀ W', Below W.heap.size W W' → Aside0 (Below w.heap.size w W') → Q (.returned (f x)) W') : Calls P F args W Q :=
  c.mono (by rintro e W' ⟨x, rfl, hx, hb⟩; exact h x hx W' hb ⟨below_step B.out hb⟩)
theorem clv {v v' : Value} (c : Calls P F args W fun e w' => e = .returned v ∧ Below W.heap.size W w') (hv : v = v') : Calls P F args W fun e w' => e = .returned v' ∧ Below W.heap.size W w' := hv ▸ c
theorem drewB {v : Value} (c : Calls P F args W fun e w' => e = .returned v ∧ ∃ n, w' = W.drewN n) : Calls P F args W fun e w' => e = .returned v ∧ Below W.heap.size W w' :=
  c.mono (by rintro e W' ⟨rfl, n, rfl⟩; exact ⟨rfl, pw_below_drewN (Below.refl _ _) n⟩)
variable {α β : Type} {d : Kd α} {d' : Kd β} {e e' b : Nat} {xs : List α} {ys : List β} {f : Value → Value}
/-- what a row of a call's own is known by -/
def Ow (d : Kd α) (e : Nat) (W : World) (b : Nat) (v : Value) (xs : List α) : Prop := Kd.R d e W b (fun _ => True) v xs
/-- the row lies in a block that was not there before -/
def Fr (W : World) (v : Value) : Prop := ∀ k, v.ownBlock = some k → W.heap.size ≤ k
theorem cr (c : Calls P F args W fun r w' => ∃ v0, r = .returned (f v0) ∧ Kd.R d e w' W.heap.size (fun _ => True) v0 xs ∧ Below W.heap.size W w') (B : Aside0 (Below w.heap.size w W))
    (h : ∀ A kk W', Below W.heap.size W W' → Aside0 (Below w.heap.size w W') → Aside0 (Ow d e W' w.heap.size (.slice A xs.length kk) xs) → Aside0 (Fr W (.slice A xs.length kk)) → Q (.returned (f (.slice A xs.length kk))) W') : Calls P F args W Q :=
  c.mono (by
    rintro r W' ⟨v0, rfl, ho, hb⟩
    obtain ⟨A, kk, rfl⟩ := Kd.R_slice ho
    exact h A kk W' hb ⟨below_step B.out hb⟩ ⟨Kd.R_lower ho (below_size B.out)⟩ ⟨fun k hk => Kd.R_base ho k hk⟩)
theorem crz (c : Calls P F args W fun r w' => ∃ v0, r = .returned (f v0) ∧ Kd.R d e w' W.heap.size (fun _ => True) v0 xs ∧ Below W.heap.size W w') (B : Aside0 (Below w.heap.size w W))
    (h : ∀ zs, xs = zs → ∀ A kk W', Below W.heap.size W W' → Aside0 (Below w.heap.size w W') → Aside0 (Ow d e W' w.heap.size (.slice A zs.length kk) zs) → Aside0 (Fr W (.slice A zs.length kk)) → Q (.returned (f (.slice A zs.length kk))) W') : Calls P F args W Q := cr c B (h xs rfl)
theorem bn {g : Nat} {o : Obj} (F : Aside0 (W.heap[g]? = some o)) (hb : Below W.heap.size W W') : Aside0 (W'.heap[g]? = some o) := ⟨blk_below F.out hb⟩
theorem rn {v : Value} (R : Aside0 (Ow d e W b v xs)) (hb : Below W.heap.size W W') : Aside0 (Ow d e W' b v xs) := ⟨Kd.R_below R.out hb⟩
theorem rc {A : Option Addr} {n c : Nat} (R : Aside0 (Ow d e W b (.slice A n c) xs)) : Kd.C d W A xs.length xs := (Kd.R_reads' R.out).2.2
theorem rl {A : Option Addr} {c : Nat} (R : Aside0 (Ow d e W b (.slice A xs.length c) xs)) : xs.length ≤ c := (Kd.R_reads' R.out).2.1
theorem cb {A : Option Addr} {n : Nat} (H : Aside0 (Kd.C d w A n xs)) (B : Aside0 (Below w.heap.size w W)) : Kd.C d W A n xs := Kd.C_below H.out B.out
theorem cs1 {g t : Nat} {a : Value} (F : Aside0 (W.heap[g]? = some (.cells #[a] t (0, 0)))) : W.cell? ⟨g, 0, none⟩ = some a := (blk_cell F.out 0).trans rfl
theorem cs2 {g t : Nat} {a b : Value} (F : Aside0 (W.heap[g]? = some (.cells #[a, b] t (0, 0)))) : W.cell? ⟨g, 0, none⟩ = some a ∧ W.cell? ⟨g, 1, none⟩ = some b := ⟨(blk_cell F.out 0).trans rfl, (blk_cell F.out 1).trans rfl⟩
theorem cs3 {g t : Nat} {a b c : Value} (F : Aside0 (W.heap[g]? = some (.cells #[a, b, c] t (0, 0)))) : W.cell? ⟨g, 0, none⟩ = some a ∧ W.cell? ⟨g, 1, none⟩ = some b ∧ W.cell? ⟨g, 2, none⟩ = some c := ⟨(blk_cell F.out 0).trans rfl, (blk_cell F.out 1).trans rfl, (blk_cell F.out 2).trans rfl⟩
theorem cs4 {g t : Nat} {a b c d : Value} (F : Aside0 (W.heap[g]? = some (.cells #[a, b, c, d] t (0, 0)))) : W.cell? ⟨g, 0, none⟩ = some a ∧ W.cell? ⟨g, 1, none⟩ = some b ∧ W.cell? ⟨g, 2, none⟩ = some c ∧ W.cell? ⟨g, 3, none⟩ = some d := ⟨(blk_cell F.out 0).trans rfl, (blk_cell F.out 1).trans rfl, (blk_cell F.out 2).trans rfl, (blk_cell F.out 3).trans rfl⟩
theorem cs6 {g t : Nat} {a b c d x y : Value} (F : Aside0 (W.heap[g]? = some (.cells #[a, b, c, d, x, y] t (0, 0)))) : W.cell? ⟨g, 0, none⟩ = some a ∧ W.cell? ⟨g, 1, none⟩ = some b ∧ W.cell? ⟨g, 2, none⟩ = some c ∧ W.cell? ⟨g, 3, none⟩ = some d ∧ W.cell? ⟨g, 4, none⟩ = some x ∧ W.cell? ⟨g, 5, none⟩ = some y :=
  ⟨(blk_cell F.out 0).trans rfl, (blk_cell F.out 1).trans rfl, (blk_cell F.out 2).trans rfl, (blk_cell F.out 3).trans rfl, (blk_cell F.out 4).trans rfl, (blk_cell F.out 5).trans rfl⟩
theorem fz {g t : Nat} {cs : Array Value} (F : Aside0 (W.heap[g]? = some (.cells cs t (0, 0)))) (j : Nat) : W.frozen? ⟨g, j, none⟩ = false := blk_frozen F.out j
theorem sets_keep (g : Nat) : ∀ (vs : List Value) (j : Nat) (W1 : World), KeepBut W W1 g none → KeepBut W (W1.setCells g j vs) g none
  | [], _, _, h => h
  | v :: r, j, _, h => sets_keep g r (j + 1) _ (h.set_ j v)
theorem sets_below (g : Nat) (hg : w.heap.size ≤ g) : ∀ (vs : List Value) (j : Nat) (W1 : World), Below w.heap.size w W1 → Below w.heap.size w (W1.setCells g j vs)
  | [], _, _, h => h
  | _ :: r, j, _, h => sets_below g hg r (j + 1) _ (below_set h hg)
theorem sets_blk (g t : Nat) (s : List Value) : ∀ (vs l r : List Value) (W1 : World), r.length = vs.length → W1.heap[g]? = some (.cells (l ++ r ++ s).toArray t (0, 0)) → (W1.setCells g l.length vs).heap[g]? = some (.cells (l ++ vs ++ s).toArray t (0, 0))
  | [], l, r, _, hr, h => by
    obtain rfl : r = [] := List.eq_nil_of_length_eq_zero hr
    exact h
  | v :: vs, l, [], _, hr, h => by cases hr
  | v :: vs, l, x :: r, W1, hr, h => by
    have := sets_blk g t s vs (l ++ [v]) r (W1.setCell ⟨g, l.length, none⟩ v) (by simpa using hr) (by
      rw [blk_set h]
      simp)
    simpa [World.setCells] using this
theorem sets_blk' {g t : Nat} {cs : Array Value} (off : Nat) (ns vs : List Value) (hl : cs.toList.take off ++ ns ++ cs.toList.drop (off + ns.length) = vs) (hs : off + ns.length ≤ cs.size) (F : W.heap[g]? = some (.cells cs t (0, 0))) : (W.setCells g off ns).heap[g]? = some (.cells vs.toArray t (0, 0)) := by
  subst hl
  have h1 : (cs.toList.take off).length = off := by rw [List.length_take, Array.length_toList (xs := cs)]; omega
  have := sets_blk g t (cs.toList.drop (off + ns.length)) ns (cs.toList.take off) ((cs.toList.drop off).take ns.length) W (by rw [List.length_take, List.length_drop, Array.length_toList (xs := cs)]; omega) (by
    rw [F]
    congr 1
    congr 1
    rw [List.append_assoc, ← List.drop_drop, List.take_append_drop, List.take_append_drop])
  rwa [h1] at this
variable {ops ops' : Array Oper} {o : Oper} {rest : List Oper} {a : Act} {QE : Exit → Act → World → Prop}
theorem bx (hgd : o.guard = none) {N : Tmp} (hd : o.dst = some N) {cs : Array Value} {t : TypeId} (hrun : (execOp a.eval o).run P W = .ok (.value (.pointer (some ⟨W.heap.size, 0, none⟩))) (W.alloc (.cells cs t (0, 0))))
    (B : Aside0 (Below w.heap.size w W))
    (h : ∀ g w1, Below W.heap.size W w1 → Aside0 (Below w.heap.size w w1) → Aside0 (w1.heap[g]? = some (.cells cs t (0, 0))) → Aside0 (w.heap.size ≤ g) → Aside0 (g = W.heap.size) → wpList P ops QE rest (a.put o.dst (.pointer (some ⟨g, 0, none⟩))) w1) : wpList P ops QE (o :: rest) a W :=
  box_event hgd hd hrun fun g hg w1 hc hb => h g w1 hb ⟨below_step B.out hb⟩ ⟨hc⟩ ⟨hg ▸ below_size B.out⟩ ⟨hg⟩
theorem sx (hgd : o.guard = none) {t t' : TypeId} {p : Tmp} {v : Operand} (ho : o.op = .store t' (.tmp p) v) (hN : o.dst = none) {g : Nat} {cs : Array Value} (off : Nat) (ns vs : List Value) (hrun : (execOp a.eval o).run P W = .ok .skip (W.setCells g off ns))
    (B : Aside0 (Below w.heap.size w W)) (F : Aside0 (W.heap[g]? = some (.cells cs t (0, 0)))) (L : Aside0 (w.heap.size ≤ g)) (hl : cs.toList.take off ++ ns ++ cs.toList.drop (off + ns.length) = vs) (hs : off + ns.length ≤ cs.size)
    (h : ∀ w', KeepBut W w' g none → Aside0 (Below w.heap.size w w') → Aside0 (w'.heap[g]? = some (.cells vs.toArray t (0, 0))) → wpList P ops QE rest a w') : wpList P ops QE (o :: rest) a W :=
  store_event hgd ho hN hrun fun w' hw => by
    subst hw
    exact h _ (sets_keep g ns off W (KeepBut.refl _ _ _)) ⟨sets_below g L.out ns off W B.out⟩ ⟨sets_blk' off ns vs hl hs F.out⟩
theorem sxs {Kc : Act → World → Prop} {g t : Nat} {cs : Array Value} (off : Nat) (ns vs : List Value) (hw : Region.wanted o (yielded ops' a.tmps) = true) (hN : o.dst = none) (hrun : (execOp a.eval o).run P W = .ok .skip (W.setCells g off ns))
    (B : Aside0 (Below w.heap.size w W)) (F : Aside0 (W.heap[g]? = some (.cells cs t (0, 0)))) (L : Aside0 (w.heap.size ≤ g)) (hl : cs.toList.take off ++ ns ++ cs.toList.drop (off + ns.length) = vs) (hs : off + ns.length ≤ cs.size)
    (h : ∀ w', KeepBut W w' g none → Aside0 (Below w.heap.size w w') → Aside0 (w'.heap[g]? = some (.cells vs.toArray t (0, 0))) → Kc (a.put none undef) w') : if Region.wanted o (yielded ops' a.tmps) = true then Oper.wp P o a W Kc QE else Kc (a.put none undef) W := by
  rw [if_pos hw]
  unfold Oper.wp
  rw [hrun]
  show Kc (a.put o.dst undef) _
  rw [hN]
  exact h _ (sets_keep g ns off W (KeepBut.refl _ _ _)) ⟨sets_below g L.out ns off W B.out⟩ ⟨sets_blk' off ns vs hl hs F.out⟩
theorem rg {S : World → Prop} {ds : List Nat} {id n : Nat} (l : Array Bool) (hm : P.follows .mixedOrders = true) (hn : ops'.size = n) (hl : Array.replicate n false = l) (hS : S W) (hd : S W → S W.drew) (B : Aside0 (Below w.heap.size w W))
    (h : ∀ W', Below W.heap.size W W' → Aside0 (Below w.heap.size w W') → S W' → wpAnyLast P .any ops' QE S ds n l a W') : (Code.region id ops' true).wp P QE a W :=
  start_ l hm hn hl (hd hS) fun hH => h _ (below_drew1 (Below.refl _ _)) ⟨below_drew B.out⟩ hH
theorem sk {S : World → Prop} {md : Region.Mode} {ds : List Nat} {i : Nat} {N : Option Tmp} {oi : Oper} {fuel : Nat} {l : Array Bool} (l' : Array Bool) (hi : ops'[i]? = some oi) (hN : oi.dst = N) (hc : anyB md ops' l l' i = true)
    (hQ : ∀ c a w, QE (.panic c) (a.put oi.dst undef) w → QE (.panic c) a w) (hw : Region.wanted oi (yielded ops' a.tmps) = false) (h : wpAnyLast P md ops' QE S ds fuel l' (a.put N undef) W) : wpAnyLast P md ops' QE S ds (fuel + 1) l a W :=
  pure_ l' hi hN hc hQ (Or.inr ⟨hw, rfl⟩) rfl h
theorem pu {S : World → Prop} {md : Region.Mode} {ds : List Nat} {i : Nat} {N : Option Tmp} {oi : Oper} {v : Value} {fuel : Nat} {l : Array Bool} (l' : Array Bool) (hi : ops'[i]? = some oi) (hN : oi.dst = N) (hc : anyB md ops' l l' i = true)
    (hQ : ∀ c a w, QE (.panic c) (a.put oi.dst v) w → QE (.panic c) a w) (hw : Region.wanted oi (yielded ops' a.tmps) = true) (hy : ∀ w, (execOp a.eval oi).run P w = .ok (.value v) w) (h : wpAnyLast P md ops' QE S ds fuel l' (a.put N v) W) : wpAnyLast P md ops' QE S ds (fuel + 1) l a W :=
  pure_ l' hi hN hc hQ (Or.inl ⟨hw, hy⟩) rfl h
theorem ta {S : World → Prop} {md : Region.Mode} {ds : List Nat} {i : Nat} {N : Option Tmp} {oi : Oper} {v : Value} {fuel : Nat} {l : Array Bool} (l' : Array Bool) (hi : ops'[i]? = some oi) (hN : oi.dst = N) (hc : takeB md ops' ds l l' i = true)
    (hQ : ∀ c a w, QE (.panic c) (a.put oi.dst v) w → QE (.panic c) a w) (hw : Region.wanted oi (yielded ops' a.tmps) = true) (hS : S W) (hy : ∀ w, S w → (execOp a.eval oi).run P w = .ok (.value v) w) (h : wpAnyLast P md ops' QE S ds fuel l' (a.put N v) W) : wpAnyLast P md ops' QE S ds (fuel + 1) l a W :=
  take_ l' hi hN hc hQ (Or.inl ⟨hw, hy⟩) hS rfl h
theorem ne1 {g g' : Nat} {o : Obj} (E : Aside0 (g = W.heap.size)) (F : Aside0 (W.heap[g']? = some o)) : Aside0 (g' ≠ g) := ⟨Nat.ne_of_lt (E.out ▸ blk_lt F.out)⟩
theorem bk {g g' : Nat} {o : Obj} (F : Aside0 (W.heap[g']? = some o)) (hk : KeepBut W W' g none) (N : g' ≠ g) : Aside0 (W'.heap[g']? = some o) := ⟨hk.blk F.out N (by simp)⟩
theorem rk {v : Value} {g t : Nat} {cs : Array Value} (R : Aside0 (Ow d e W b v xs)) (F : Aside0 (W.heap[g]? = some (.cells cs t (0, 0)))) (ht : ∀ q, q ∈ e :: d.E → q ≠ t) (hk : KeepBut W W' g none) : Aside0 (Ow d e W' b v xs) :=
  ⟨Kd.R_mono (Kd.R_keep (Kd.R_types R.out F.out ht) hk (fun _ q => q.2)) (fun _ q => q.1)⟩
end

theorem w64 {x : Int} (h0 : -9223372036854775808 ≤ x) (h1 : x ≤ 9223372036854775807) : wrap64 x = x := by
  unfold wrap64
  omega
theorem rd_drop {xs : List Int} {j : Nat} (h : j < xs.length) : xs.drop j = rd xs (j : Int) :: xs.drop (j + 1) := by
  rw [List.drop_eq_getElem_cons h]
  simp [rd, List.getD_eq_getElem?_getD, List.getElem?_eq_getElem h]
theorem andF {c x r : Bool} (h : (c && x) = r) (hc : c = false) : Ending.returned (Value.bool false) = Ending.returned (.bool r) := by subst h; rw [hc]; rfl
theorem andT {c x r : Bool} (h : (c && x) = r) (hc : c = true) : x = r := by subst h; rw [hc]; rfl
theorem useEq {α : Type} {a b : α} {p : Prop} (h : a = b) (k : a = b → p) : p := k h

/-! The texts of numbers. -/
def dec3 (u : Nat) : List UInt8 := if u < 10 then [UInt8.ofNat (48 + u)] else if u < 100 then [UInt8.ofNat (48 + u / 10), UInt8.ofNat (48 + u % 10)] else [UInt8.ofNat (48 + u / 10 / 10), UInt8.ofNat (48 + u / 10 % 10), UInt8.ofNat (48 + u % 10)]
theorem dec3_eq {u : Nat} (h : u < 1000) : Lib.decDigits u = dec3 u := by
  unfold dec3
  by_cases h1 : u < 10
  · rw [Lib.decDigits, dif_pos h1, if_pos h1]
  · rw [Lib.decDigits, dif_neg h1, if_neg h1]
    by_cases h2 : u < 100
    · rw [Lib.decDigits, dif_pos (by omega), if_pos h2]
      rfl
    · rw [Lib.decDigits, dif_neg (by omega), Lib.decDigits, dif_pos (by omega), if_neg h2]
      rfl
def txtM (n : Int) : ByteArray := if n < 0 then (⟨#[45, 49]⟩ : ByteArray) else ⟨(dec3 n.toNat).toArray⟩
theorem txtM_size (n : Int) : (txtM n).size ≤ 3 := by
  unfold txtM dec3
  split
  · decide
  · show List.length (List.toArray _).toList ≤ 3
    split
    · simp
    · split <;> simp
theorem txtM_itoa {n : Int} (h0 : -1 ≤ n) (h1 : n ≤ 999) : (⟨(Lib.itoa n).toArray⟩ : ByteArray) = txtM n := by
  unfold txtM Lib.itoa
  by_cases h : n < 0
  · obtain rfl : n = -1 := by omega
    rw [if_pos h, if_pos h, show (-1 : Int).natAbs = 1 from rfl, dec3_eq (by omega)]
    rfl
  · rw [if_neg h, if_neg h, dec3_eq (by omega)]
theorem strN (x : Int) (r : ByteArray) : strOfNums [x] ++ r = ⟨(UInt8.ofNat x.toNat :: r.data.toList).toArray⟩ := by
  apply ByteArray.ext
  rw [ByteArray.data_append]
  apply Array.toList_inj.mp
  simp [strOfNums]
theorem tdig (n : Int) (h0 : 0 ≤ n) : wrap64 (48 + Int.tmod n 10) % 256 = 48 + n % 10 := by
  rw [Int.tmod_eq_emod_of_nonneg h0, w64 (by omega) (by omega)]
  omega
theorem tdiv10 (n : Int) (h0 : 0 ≤ n) (h1 : n ≤ 999) : wrap64 (Int.tdiv n 10) = n / 10 := by
  rw [Int.tdiv_eq_ediv_of_nonneg h0, w64 (by omega) (by omega)]
theorem l7_txt {n : Int} (h0 : -1 ≤ n) (h1 : n ≤ 999) : spec_l7Text.f 3 n = some (txtM n) := by
  unfold spec_l7Text.f txtM
  by_cases h : n < 0
  · rw [if_pos h, if_pos h]
  · rw [if_neg h, if_neg h, tdig n (by omega)]
    unfold dec3
    have e1 : strOfNums [48 + n % 10] = (⟨#[UInt8.ofNat (48 + n % 10).toNat]⟩ : ByteArray) := rfl
    rw [e1]
    by_cases h2 : n < 10
    · rw [if_pos (by omega), spec_l7Text.l0, if_neg (by omega), show (48 + n % 10).toNat = 48 + n.toNat by omega]
    · rw [if_neg (by omega), spec_l7Text.l0, if_pos (by omega), tdiv10 n (by omega) h1, tdig (n / 10) (by omega)]
      simp only [Option.bind_some]
      rw [if_pos (by rw [strOfNums_size]; show 1 + 1 ≤ _; decide), strN]
      by_cases h3 : n < 100
      · rw [if_pos (by omega), spec_l7Text.l0, if_neg (by omega), show (48 + n % 10).toNat = 48 + n.toNat % 10 by omega, show (48 + n / 10 % 10).toNat = 48 + n.toNat / 10 by omega]
      · rw [if_neg (by omega), spec_l7Text.l0, if_pos (by omega), tdiv10 (n / 10) (by omega) (by omega), tdig (n / 10 / 10) (by omega)]
        simp only [Option.bind_some]
        rw [if_pos (by rw [strOfNums_size]; show 1 + 2 ≤ _; decide), strN, spec_l7Text.l0, if_neg (by omega)]
        rw [show (48 + n % 10).toNat = 48 + n.toNat % 10 by omega, show (48 + n / 10 % 10).toNat = 48 + n.toNat / 10 % 10 by omega, show (48 + n / 10 / 10 % 10).toNat = 48 + n.toNat / 10 / 10 by omega]
theorem spec_l7Text.M (n : Int) (w : World) (h : -1 ≤ n ∧ n ≤ 999) : Calls Tryd.prog 29 #[.int .i64 n] w fun e w' => e = .returned (.string (txtM n)) ∧ Below w.heap.size w w' := spec_l7Text.calls 3 n _ w (l7_txt h.1 h.2)
/-- the table of powers of ten, as the row lays it -/
def TT (w : World) : Prop := Lib.TabIs Tryd.prog w "internal/strconv.uint64pow10" .u64 Lib.pow10Tab
theorem tt_on {w W : World} (T : Aside0 (TT w)) (B : Aside0 (Below w.heap.size w W)) : TT W := Lib.tabBelow_of_tabIs T.out W B.out
theorem strconv_Itoa.M (n : Int) (w W : World) (T : Aside0 (TT w)) (B : Aside0 (Below w.heap.size w W)) (h : -1 ≤ n ∧ n ≤ 999) : Calls Tryd.prog 31 #[.int .i64 n] W fun e w' => e = .returned (.string (txtM n)) ∧ Below W.heap.size W w' :=
  (Tryd.strconv_Itoa n (by omega) (by omega) W (tt_on T B)).mono (by
    rintro e w' ⟨rfl, k, os, rfl⟩
    exact ⟨by rw [txtM_itoa h.1 h.2], Lib.below_grow _ _ (Nat.le_refl _) _ _⟩)

/-! Strings compared. -/
theorem less_total : ∀ x y : List UInt8, (Op.bytesLess x y || x == y) = !(Op.bytesLess y x)
  | [], [] => rfl
  | [], _ :: _ => rfl
  | _ :: _, [] => rfl
  | a :: x, b :: y => by
    have ih := less_total x y
    simp only [Op.bytesLess]
    by_cases h : a = b
    · subst h
      simpa using ih
    · have h2 : (a == b) = false := beq_eq_false_iff_ne.mpr h
      have h3 : (b == a) = false := beq_eq_false_iff_ne.mpr (Ne.symm h)
      have h4 : (a :: x == b :: y) = false := beq_eq_false_iff_ne.mpr fun q => h (List.cons.inj q).1
      rw [h2, h3, h4]
      simp only [Bool.false_and, Bool.or_false]
      by_cases hl : a < b
      · have : ¬ b < a := by rw [UInt8.lt_iff_toNat_lt] at *; omega
        simp [hl, this]
      · have : b < a := by
          rw [UInt8.lt_iff_toNat_lt] at *
          have : a.toNat ≠ b.toNat := fun q => h (UInt8.toNat_inj.mp q)
          omega
        simp [hl, this]
theorem leq_str (t : TypeId) (a b : ByteArray) : binOp .leq t (.string a) (.string b) = pure (.bool !(Op.bytesLess b.toList a.toList)) := by
  rw [← less_total]
  simp [binOp, Op.stringOp]
theorem geq_str (t : TypeId) (a b : ByteArray) : binOp .geq t (.string a) (.string b) = pure (.bool !(Op.bytesLess a.toList b.toList)) := by
  simp [binOp, Op.stringOp]
theorem gtr_str (t : TypeId) (a b : ByteArray) : binOp .gtr t (.string a) (.string b) = pure (.bool (Op.bytesLess b.toList a.toList)) := by
  have h : (!(Op.bytesLess a.toList b.toList || a.toList == b.toList)) = Op.bytesLess b.toList a.toList := by rw [less_total, Bool.not_not]
  rw [← h, Bool.not_or]
  simp [binOp, Op.stringOp]
attribute [local go_sem] leq_str geq_str gtr_str

/-! Keys. -/
theorem ba_toList (s : ByteArray) : s.toList = s.data.toList := Lib.toList_data s
theorem ba_inj {s t : ByteArray} (h : s.toList = t.toList) : s = t := by
  rw [ba_toList, ba_toList] at h
  cases s; cases t; simp only [ByteArray.mk.injEq]; exact Array.toList_inj.mp h
theorem str_beq (a b : ByteArray) : (a.toList == b.toList) = decide (a = b) := by
  by_cases h : a = b
  · subst h; simp
  · rw [decide_eq_false h]; exact beq_eq_false_iff_ne.mpr fun q => h (ba_inj q)
theorem nil_iff (s : ByteArray) : s.toList = ([] : List UInt8) ↔ s.size = 0 := by
  rw [ba_toList]
  refine ⟨fun h => ?_, fun h => ?_⟩
  · have := data_length s
    rw [h] at this
    exact this.symm
  · exact List.eq_nil_of_length_eq_zero (by rw [data_length]; exact h)
def lowB (x : Int) : Bool := decide (97 ≤ x) && decide (x ≤ 122)
def keyB (s : ByteArray) : Bool := decide (1 ≤ s.size) && decide (s.size ≤ 4) && (bytesOf s).all lowB
theorem bt_drop' {s : ByteArray} {j : Nat} (h : j < s.size) : (bytesOf s).drop j = bt s (j : Int) :: (bytesOf s).drop (j + 1) := by
  rw [rd_drop (by rw [bytesOf_length]; exact h), rd_bytesOf]
theorem bytesOf_tail (s : ByteArray) : bytesOf (s.extract 1 s.size) = (bytesOf s).drop 1 := by
  unfold bytesOf
  rw [← List.map_drop]
  refine congrArg _ ?_
  rw [ByteArray.data_extract, Array.toList_extract]
  rw [List.extract_eq_take_drop, List.take_of_length_le (by rw [List.length_drop, data_length]; omega)]
def l1B (n lo hi : Int) : Bool := decide (lo ≤ n) && decide (n ≤ hi)
theorem spec_l1In.M (n lo hi : Int) (w : World) : Calls Tryd.prog 28 #[.int .i64 n, .int .i64 lo, .int .i64 hi] w fun e w' => e = .returned (.bool (l1B n lo hi)) ∧ Below w.heap.size w w' := by
  go_enter Tryd.func28, Tryd.ntmps28
  go_wp2
  all_goals go_ret
  all_goals (refine ⟨?_, Below.refl _ _⟩; unfold l1B; simp_all; try omega)
theorem spec_KeyValid.M (a : ByteArray) (w : World) : Calls Tryd.prog 45 #[.string a] w fun e w' => e = .returned (.bool (keyB a)) ∧ Below w.heap.size w w' := by
  have B := Aside0.mk (Below.refl w.heap.size w)
  obtain ⟨r, hr⟩ : ∃ r, keyB a = r := ⟨_, rfl⟩
  rw [hr]
  unfold keyB at hr
  by_cases hs : 1 ≤ a.size ∧ a.size ≤ 4
  · have hl : l1B (a.size : Int) 1 4 = true := by unfold l1B; simp; omega
    have H := Aside0.mk (show ((bytesOf a).drop 0).all lowB = r by simpa [hs.1, hs.2] using hr)
    clear hr
    go_enter Tryd.func45, Tryd.ntmps45
    go_wp2_with (first
      | (go_at_call 28; with_reducible refine cl (clv (spec_l1In.M _ 1 4 _) (congrArg Value.bool hl)) B fun w1 hb B => ?_; clear hb))
    go_loopg [3] (a.size + 1) (fun kx v3 wr => ∃ j : Nat, v3 = .int .i64 (j : Int) ∧ j ≤ a.size ∧ a.size < j + kx ∧ Aside0 (Below w.heap.size w wr) ∧ Aside0 (((bytesOf a).drop j).all lowB = r))
    case atStart => exact ⟨0, rfl, by omega, by omega, B, H⟩
    case round =>
      clear H B
      obtain ⟨j, rfl, hj, hk, B, H⟩ := hrel
      have H := H.out
      by_cases hlt : j < a.size
      · have p := eq_true (show (0 : Int) ≤ (j : Int) by omega)
        have q := eq_true (show (j : Int) < (a.size : Int) by omega)
        have q' := decide_eq_true (show (j : Int) < (a.size : Int) by omega)
        have hx : ((a[j]'hlt).toNat : Int) = bt a (j : Int) := bt_at a (j : Int) (by rw [Int.toNat_natCast]; exact hlt)
        rw [bt_drop' hlt] at H
        simp only [List.all_cons] at H
        generalize bt a (j : Int) = x at *
        obtain ⟨d, rfl⟩ : ∃ d, gk = d + 1 := ⟨gk - 1, by omega⟩
        by_cases hx : lowB x = true
        · have H' := Aside0.mk (show ((bytesOf a).drop (j + 1)).all lowB = r by simpa [hx] using H)
          clear H
          unfold lowB at hx
          simp only [Bool.and_eq_true, decide_eq_true_eq] at hx
          have d1 : decide (x < 97) = false := decide_eq_false (by omega)
          have d2 : decide (122 < x) = false := decide_eq_false (by omega)
          go_wp2
          go_roundg d
          case measure => omega
          case rel => exact ⟨j + 1, congrArg (Value.int .i64) (Int.natCast_succ _).symm, by omega, by omega, B, H'⟩
        · have hr : r = false := by simpa [hx] using H.symm
          subst hr
          clear H
          unfold lowB at hx
          simp only [Bool.and_eq_true, decide_eq_true_eq] at hx
          by_cases h97 : x < 97
          · have d1 : decide (x < 97) = true := decide_eq_true h97
            go_wp2
            go_ret
            exact ⟨by simp, B.out⟩
          · have d1 : decide (x < 97) = false := decide_eq_false h97
            have d2 : decide (122 < x) = true := decide_eq_true (by omega)
            go_wp2
            go_ret
            exact ⟨by simp, B.out⟩
      · have q' := decide_eq_false (show ¬ (j : Int) < (a.size : Int) by omega)
        have hr : r = true := by
          rw [List.drop_of_length_le (by rw [bytesOf_length]; omega)] at H
          simpa using H.symm
        subst hr
        go_wp2
        go_ret
        exact ⟨by simp, B.out⟩
  · have hl : l1B (a.size : Int) 1 4 = false := by unfold l1B; simp; omega
    have hr : r = false := by
      rw [← hr, Bool.and_eq_false_iff, Bool.and_eq_false_iff, decide_eq_false_iff_not, decide_eq_false_iff_not]
      omega
    subst hr
    go_enter Tryd.func45, Tryd.ntmps45
    go_wp2_with (first
      | (go_at_call 28; with_reducible refine cl (clv (spec_l1In.M _ 1 4 _) (congrArg Value.bool hl)) B fun w1 hb B => ?_; clear hb))
    go_ret
    exact ⟨by simp, B.out⟩
theorem impl_lettersOnly.M : ∀ (n : Nat) (a : ByteArray) (w : World), a.size = n → Calls Tryd.prog 52 #[.string a] w fun e w' => e = .returned (.bool ((bytesOf a).all lowB)) ∧ Below w.heap.size w w'
  | 0, a, w, h => by
    have hn : a.toList = [] := (nil_iff a).mpr h
    go_enter Tryd.func52, Tryd.ntmps52
    go_wp2
    all_goals (first | go_ret | skip)
    all_goals (first | exact absurd hn (by assumption) | skip)
    refine ⟨?_, Below.refl _ _⟩
    have : bytesOf a = [] := List.eq_nil_of_length_eq_zero (by rw [bytesOf_length]; exact h)
    rw [this]
    rfl
  | n + 1, a, w, h => by
    have B := Aside0.mk (Below.refl w.heap.size w)
    have hn : ¬ a.toList = [] := fun q => by have := (nil_iff a).mp q; omega
    have IH := Aside0.mk (fun W => impl_lettersOnly.M n (a.extract 1 a.size) W (by simp [h]))
    have hb0 := bt_drop' (s := a) (j := 0) (by omega)
    have h0 : 0 < a.size := by omega
    have hx : ((a[0]'h0).toNat : Int) = bt a ((0 : Nat) : Int) := bt_at a 0 (by simp; omega)
    have p := eq_true (show (0 : Int) < (a.size : Int) by omega)
    have p1 := eq_true (show 0 < a.size by omega)
    have p2 := eq_true (show 1 ≤ a.size by omega)
    rw [List.drop_zero] at hb0
    rw [bytesOf_tail] at IH
    rw [hb0]
    simp only [List.all_cons]
    clear hb0
    rw [Nat.zero_add]
    generalize (List.drop 1 (bytesOf a)).all lowB = r at IH ⊢
    generalize bt a ((0 : Nat) : Int) = x at hx ⊢
    clear h
    go_enter Tryd.func52, Tryd.ntmps52
    go_wp2_with (first
      | (go_at_call 52; with_reducible refine cl (IH.out _) B fun w1 hb B => ?_; clear hb))
    all_goals go_ret
    all_goals (refine ⟨?_, B.out⟩; unfold lowB; simp_all; try omega)
theorem impl_KeyValid.M (a : ByteArray) (w : World) : Calls Tryd.prog 43 #[.string a] w fun e w' => e = .returned (.bool (keyB a)) ∧ Below w.heap.size w w' := by
  have B := Aside0.mk (Below.refl w.heap.size w)
  go_enter Tryd.func43, Tryd.ntmps43
  go_wp2_with (first
    | (go_at_call 52; with_reducible refine cl (impl_lettersOnly.M _ a _ rfl) B fun w1 hb B => ?_; clear hb))
  all_goals go_ret
  all_goals (refine ⟨?_, B.out⟩; unfold keyB; simp_all; try omega)

theorem impl_valueValid.M (n : Int) (w : World) : Calls Tryd.prog 30 #[.int .i64 n] w fun e w' => e = .returned (.bool (l1B n 0 999)) ∧ Below w.heap.size w w' := by
  go_enter Tryd.func30, Tryd.ntmps30
  go_wp2
  all_goals go_ret
  all_goals (refine ⟨?_, Below.refl _ _⟩; unfold l1B; simp_all; try omega)

/-! The texts of replies. -/
def repM (n : Int) : ByteArray := if n = -1 then (⟨#[110, 111, 110, 101]⟩ : ByteArray) else if n = -2 then (⟨#[102, 117, 108, 108]⟩ : ByteArray) else if n = -3 then (⟨#[109, 111, 118, 101, 100]⟩ : ByteArray) else if n = -4 then (⟨#[115, 116, 97, 108, 101]⟩ : ByteArray) else if 0 ≤ n ∧ n ≤ 999 then txtM n else (⟨#[]⟩ : ByteArray)

/-! The numbers that texts spell. -/
def numM (s : ByteArray) : Int := match Lib.atoiAll s.data.toList with
  | .ok v => v
  | _ => -2
theorem dig_val : ∀ d : Fin 10, Lib.digitVal (UInt8.ofNat (48 + d.val)) = some d.val := by decide
theorem dig_nat (d : Nat) (h : d < 10) : Lib.digitVal (UInt8.ofNat (48 + d)) = some d := dig_val ⟨d, h⟩
theorem dig_sign : ∀ d : Fin 10, (UInt8.ofNat (48 + d.val) == 45) = false ∧ (UInt8.ofNat (48 + d.val) == 43) = false := by decide
theorem atoi_dec3 {u : Nat} (h : u < 1000) : Lib.atoi (dec3 u) = some (u : Int) := by
  unfold dec3
  by_cases h1 : u < 10
  · rw [if_pos h1]
    have hs := dig_sign ⟨u, h1⟩
    simp only at hs
    simp only [Lib.atoi, hs.1, hs.2, Lib.decNat, Lib.decFrom, List.isEmpty_cons, dig_nat u h1]
    simp
  · rw [if_neg h1]
    by_cases h2 : u < 100
    · rw [if_pos h2]
      have hs := dig_sign ⟨u / 10, by omega⟩
      simp only at hs
      simp only [Lib.atoi, hs.1, hs.2, Lib.decNat, Lib.decFrom, List.isEmpty_cons, dig_nat (u / 10) (by omega), dig_nat (u % 10) (by omega)]
      simp
      omega
    · rw [if_neg h2]
      have hs := dig_sign ⟨u / 10 / 10, by omega⟩
      simp only at hs
      simp only [Lib.atoi, hs.1, hs.2, Lib.decNat, Lib.decFrom, List.isEmpty_cons, dig_nat (u / 10 / 10) (by omega), dig_nat (u / 10 % 10) (by omega), dig_nat (u % 10) (by omega)]
      simp
      omega
theorem dec3_len (u : Nat) : (dec3 u).length ≤ 3 := by
  unfold dec3
  split
  · simp
  · split <;> simp
theorem numM_txt {n : Int} (h0 : -1 ≤ n) (h1 : n ≤ 999) : numM (txtM n) = n := by
  unfold txtM numM
  by_cases h : n < 0
  · obtain rfl : n = -1 := by omega
    decide +kernel
  · rw [if_neg h]
    show (match Lib.atoiAll (dec3 n.toNat) with | .ok v => v | _ => -2) = n
    rw [Lib.atoiAll_short _ (by have := dec3_len n.toNat; omega), atoi_dec3 (by omega)]
    show ((n.toNat : Nat) : Int) = n
    omega
/-- the variables of the errors hold errors -/
def TE (w : World) : Prop := TT w ∧ (∃ te pe, w.cell? ⟨1, 0, none⟩ = some (.iface te pe)) ∧ ∃ te pe, w.cell? ⟨2, 0, none⟩ = some (.iface te pe)
theorem cell_lt {w : World} {g o : Nat} {v : Value} (h : w.cell? ⟨g, o, none⟩ = some v) : g < w.heap.size := World.block_lt_of_cell? w _ h
theorem te_on {w W : World} (T : Aside0 (TE w)) (B : Aside0 (Below w.heap.size w W)) : TE W := by
  obtain ⟨h1, ⟨te, pe, h2⟩, te', pe', h3⟩ := T.out
  exact ⟨tt_on ⟨h1⟩ B, ⟨te, pe, (B.out.cell (cell_lt h2)).trans h2⟩, te', pe', (B.out.cell (cell_lt h3)).trans h3⟩
theorem te_tt {w W : World} (T : Aside0 (TE w)) (B : Aside0 (Below w.heap.size w W)) : TT W := (te_on T B).1
theorem impl_numberOf.M (s : ByteArray) (w W : World) (T : Aside0 (TE w)) (B : Aside0 (Below w.heap.size w W)) (hs : s.size ≤ 64) : Calls Tryd.prog 34 #[.string s] W fun e w' => e = .returned (.int .i64 (numM s)) ∧ Below W.heap.size W w' := by
  obtain ⟨_, ⟨te, pe, c1⟩, te', pe', c2⟩ := te_on T B
  obtain ⟨r, hr⟩ : ∃ r, numM s = r := ⟨_, rfl⟩
  rw [hr]
  unfold numM at hr
  rcases h : Lib.atoiAll s.data.toList with v | _ | _
  · rw [h] at hr
    replace hr : v = r := hr
    subst hr
    go_enter Tryd.func34, Tryd.ntmps34
    go_wp2_with (first | (go_at_call 46; refine (Tryd.strconv_Atoi_ok s (by omega) v h W).mono ?_; rintro e w1 ⟨rfl, hw⟩))
    go_ret
    refine ⟨rfl, ?_⟩
    rcases hw with rfl | ⟨t, rfl⟩
    · exact Below.refl _ _
    · exact Lib.bytesWorld_below _ _ _
  · rw [h] at hr
    replace hr : -2 = r := hr
    subst hr
    have hns : ∀ e, Lib.atoiAll s.data.toList = e → (∀ v, e ≠ .ok v) ∧ e ≠ .range := by
      intro e he
      rw [h] at he
      subst he
      exact ⟨fun v q => (by cases q), fun q => (by cases q)⟩
    go_enter Tryd.func34, Tryd.ntmps34
    go_wp2_with (first | (go_at_call 46; refine (Tryd.strconv_Atoi_syntax s (by omega) hns _ W c1 (Or.inr ⟨te, pe, rfl⟩)).mono ?_; rintro e w1 ⟨N, rfl, _, _, hw⟩))
    go_ret
    exact ⟨rfl, hw⟩
  · rw [h] at hr
    replace hr : -2 = r := hr
    subst hr
    go_enter Tryd.func34, Tryd.ntmps34
    go_wp2_with (first | (go_at_call 46; refine (Tryd.strconv_Atoi_range s (by omega) h _ W c2 (Or.inr ⟨te', pe', rfl⟩)).mono ?_; rintro e w1 ⟨N, rfl, _, _, hw⟩))
    go_ret
    exact ⟨rfl, hw⟩

/-! What a text of a reply is read as. -/
theorem repM_size (n : Int) : (repM n).size ≤ 5 := by
  unfold repM
  split
  · decide
  · split
    · decide
    · split
      · decide
      · split
        · decide
        · split
          · have := txtM_size n; omega
          · decide
theorem repM_num {n : Int} {s : ByteArray} (hs : s.toList ≠ ([] : List UInt8)) (h : repM n = s) : n = -1 ∨ n = -2 ∨ n = -3 ∨ n = -4 ∨ (0 ≤ n ∧ n ≤ 999 ∧ txtM n = s) := by
  unfold repM at h
  split at h
  · omega
  · split at h
    · omega
    · split at h
      · omega
      · split at h
        · omega
        · split at h
          · rename_i hn; exact .inr (.inr (.inr (.inr ⟨hn.1, hn.2, h⟩)))
          · subst h; exact absurd (by rw [ba_toList]) hs
def rrI (s : ByteArray) : Int × Bool :=
  if repM (-4) = s then (-4, true) else if repM (-3) = s then (-3, true) else if repM (-2) = s then (-2, true) else if repM (-1) = s then (-1, true)
  else if s.toList ≠ ([] : List UInt8) ∧ repM (numM s) = s then (numM s, true) else (0, false)
theorem rrI_long {s : ByteArray} (h : 64 < s.size) : rrI s = (0, false) := by
  have hn : ∀ n, ¬ repM n = s := fun n e => by have := repM_size n; rw [e] at this; omega
  unfold rrI
  rw [if_neg (hn _), if_neg (hn _), if_neg (hn _), if_neg (hn _), if_neg (fun k => hn _ k.2)]
theorem rep_words : (repM (-4)).toList = [115, 116, 97, 108, 101] ∧ (repM (-3)).toList = [109, 111, 118, 101, 100] ∧ (repM (-2)).toList = [102, 117, 108, 108] ∧ (repM (-1)).toList = [110, 111, 110, 101] := by
  refine ⟨?_, ?_, ?_, ?_⟩ <;> (rw [ba_toList]; rfl)

/-! The model of commands. -/
def cmdB (k : Int) (key : ByteArray) (v o : Int) : Bool :=
  (keyB key || (decide (k = 5) && decide (key.toList = ([] : List UInt8)))) &&
  (if k = 2 then l1B v 0 999 && decide (o = 0) else if k = 4 then l1B v 0 999 && l1B o (-1) 999 else decide (1 ≤ k ∧ k ≤ 5) && (decide (v = 0) && decide (o = 0)))

/-! The texts of commands. -/
def cmtM (k : Int) (x : ByteArray) (v o : Int) : ByteArray :=
  if cmdB k x v o then
    (if k = 1 then (⟨#[103, 101, 116, 32]⟩ : ByteArray) ++ x
     else if k = 2 then (((⟨#[112, 117, 116, 32]⟩ : ByteArray) ++ x) ++ (⟨#[32]⟩ : ByteArray)) ++ txtM v
     else if k = 3 then (⟨#[100, 114, 111, 112, 32]⟩ : ByteArray) ++ x
     else if k = 4 then (((((⟨#[115, 119, 97, 112, 32]⟩ : ByteArray) ++ x) ++ (⟨#[32]⟩ : ByteArray)) ++ txtM o) ++ (⟨#[32]⟩ : ByteArray)) ++ txtM v
     else if x.toList = ([] : List UInt8) then (⟨#[115, 101, 97, 108]⟩ : ByteArray) else (⟨#[115, 101, 97, 108, 32]⟩ : ByteArray) ++ x)
  else (⟨#[]⟩ : ByteArray)
theorem cmd_cases {k v o : Int} {x : ByteArray} (h : cmdB k x v o = true) : x.size ≤ 4 ∧ (k = 1 ∨ k = 2 ∨ k = 3 ∨ k = 4 ∨ k = 5) ∧ (-1 ≤ v ∧ v ≤ 999) ∧ (-1 ≤ o ∧ o ≤ 999) := by
  unfold cmdB at h
  rw [Bool.and_eq_true] at h
  obtain ⟨h1, h2⟩ := h
  have hx : x.size ≤ 4 := by
    rw [Bool.or_eq_true] at h1
    rcases h1 with h1 | h1
    · unfold keyB at h1
      simp only [Bool.and_eq_true, decide_eq_true_eq] at h1
      omega
    · simp only [Bool.and_eq_true, decide_eq_true_eq] at h1
      have := (nil_iff x).mp h1.2
      omega
  refine ⟨hx, ?_⟩
  by_cases k2 : k = 2
  · rw [if_pos k2] at h2
    simp only [l1B, Bool.and_eq_true, decide_eq_true_eq] at h2
    omega
  · rw [if_neg k2] at h2
    by_cases k4 : k = 4
    · rw [if_pos k4] at h2
      simp only [l1B, Bool.and_eq_true, decide_eq_true_eq] at h2
      omega
    · rw [if_neg k4] at h2
      simp only [Bool.and_eq_true, decide_eq_true_eq] at h2
      omega

/-! The words of a line. -/
def sp : List UInt8 → List (List UInt8)
  | [] => [[]]
  | b :: r => if b = 32 then [] :: sp r else match sp r with
    | [] => [[b]]
    | h :: t => (b :: h) :: t
theorem sp_ne : ∀ l, sp l ≠ []
  | [] => by simp [sp]
  | b :: r => by
    unfold sp
    split
    · simp
    · split <;> simp
theorem sp_cons {b : UInt8} (hb : b ≠ 32) {r h : List UInt8} {t : List (List UInt8)} (e : sp r = h :: t) : sp (b :: r) = (b :: h) :: t := by
  rw [sp, if_neg hb, e]
theorem sp_one : ∀ a : List UInt8, (∀ b ∈ a, b ≠ 32) → sp a = [a]
  | [], _ => rfl
  | b :: r, h => sp_cons (h b (List.mem_cons_self ..)) (sp_one r fun x hx => h x (List.mem_cons_of_mem _ hx))
theorem sp_app : ∀ (a r : List UInt8), (∀ b ∈ a, b ≠ 32) → sp (a ++ 32 :: r) = a :: sp r
  | [], r, _ => by show sp (32 :: r) = _; rw [sp, if_pos rfl]
  | b :: a, r, h => sp_cons (h b (List.mem_cons_self ..)) (sp_app a r fun x hx => h x (List.mem_cons_of_mem _ hx))
theorem split_sp : ∀ s : List UInt8, Lib.splitK [32] 0 (Lib.count s [32]) s = sp s
  | [] => rfl
  | b :: r => by
    have ih := split_sp r
    by_cases hb : b = 32
    · subst hb
      rw [Lib.count_cons_eq, Nat.add_comm 1]
      have hi : Lib.index (32 :: r) [32] = 0 := by simp [Lib.index]
      rw [Lib.splitK, hi, sp, if_pos rfl]
      simp only [Int.reduceBEq, Bool.false_eq_true, if_false, Int.toNat_zero, Nat.zero_add, List.take_zero, List.length_cons, List.length_nil, List.drop_succ_cons, List.drop_zero]
      rw [ih]
    · rw [Lib.count_cons_ne b 32 r hb]
      cases hk : Lib.count r [32] with
      | zero =>
        rw [hk] at ih
        have e : sp r = [r] := ih.symm
        rw [sp_cons hb e]
        rfl
      | succ k =>
        rw [hk] at ih
        have hpos : Lib.index r [32] ≠ -1 := fun e => by rw [Lib.count_miss e] at hk; cases hk
        have hge := Lib.index_ge r [32]
        obtain ⟨i, hi⟩ : ∃ i : Nat, Lib.index r [32] = (i : Int) := ⟨(Lib.index r [32]).toNat, by omega⟩
        have hb1 : Lib.index (b :: r) [32] = ((i + 1 : Nat) : Int) := by
          simp [Lib.index, Ne.symm hb, hi]
        rw [Lib.splitK, hi] at ih
        rw [if_neg (by rw [beq_iff_eq]; omega)] at ih
        rw [Lib.splitK, hb1, if_neg (by rw [beq_iff_eq]; omega)]
        rw [sp_cons hb ih.symm]
        simp
def mkB (l : List UInt8) : ByteArray := ⟨l.toArray⟩
theorem mkB_data (s : ByteArray) : mkB s.data.toList = s := by cases s; rfl
def wordsM (s : ByteArray) : List ByteArray := (sp s.data.toList).map mkB
theorem splitB_words (s : ByteArray) : Lib.splitB (⟨#[32]⟩ : ByteArray) 0 (Lib.countB s (⟨#[32]⟩ : ByteArray)) s = wordsM s := by
  have h := Lib.splitB_data (⟨#[32]⟩ : ByteArray) 0 (Lib.countB s (⟨#[32]⟩ : ByteArray)) s
  have e : Lib.splitK (⟨#[32]⟩ : ByteArray).data.toList 0 (Lib.countB s (⟨#[32]⟩ : ByteArray)) s.data.toList = sp s.data.toList := split_sp s.data.toList
  rw [e] at h
  unfold wordsM
  rw [← h, List.map_map]
  exact (List.map_id'' (f := mkB ∘ fun x => x.data.toList) mkB_data _).symm
theorem words_len (s : ByteArray) : Lib.countB s (⟨#[32]⟩ : ByteArray) + 1 = (wordsM s).length := by
  rw [← splitB_words]
  exact (Lib.splitB_all _ (by decide) 0 _ s rfl).symm
theorem words_pos (s : ByteArray) : 0 < (wordsM s).length := by rw [← words_len]; omega

/-! What a line is read as. -/
def w_get : ByteArray := ⟨#[103, 101, 116]⟩
def w_put : ByteArray := ⟨#[112, 117, 116]⟩
def w_drop : ByteArray := ⟨#[100, 114, 111, 112]⟩
def w_swap : ByteArray := ⟨#[115, 119, 97, 112]⟩
def w_seal : ByteArray := ⟨#[115, 101, 97, 108]⟩
def elB (W : List ByteArray) (i : Int) : ByteArray := rdOf ByteArray.empty W i
def keyOf (W : List ByteArray) : ByteArray := if 1 < W.length then elB W 1 else (⟨#[]⟩ : ByteArray)
def cOf (W : List ByteArray) : Int × ByteArray × Int × Int :=
  if elB W 0 = w_get then (if W.length = 2 then (1, keyOf W, 0, 0) else (0, keyOf W, 0, 0))
  else if elB W 0 = w_put then (if W.length = 3 then (2, keyOf W, numM (elB W 2), 0) else (0, keyOf W, 0, 0))
  else if elB W 0 = w_drop then (if W.length = 2 then (3, keyOf W, 0, 0) else (0, keyOf W, 0, 0))
  else if elB W 0 = w_swap then (if W.length = 4 then (4, keyOf W, numM (elB W 3), numM (elB W 2)) else (0, keyOf W, 0, 0))
  else if elB W 0 = w_seal then (if W.length ≤ 2 then (5, keyOf W, 0, 0) else (0, keyOf W, 0, 0))
  else (0, keyOf W, 0, 0)
def rcZ : Int × ByteArray × Int × Int := (0, (⟨#[]⟩ : ByteArray), 0, 0)
def rcI (s : ByteArray) : (Int × ByteArray × Int × Int) × Bool :=
  if 64 < s.size then (rcZ, false)
  else if cmdB (cOf (wordsM s)).1 (cOf (wordsM s)).2.1 (cOf (wordsM s)).2.2.1 (cOf (wordsM s)).2.2.2 = true ∧ cmtM (cOf (wordsM s)).1 (cOf (wordsM s)).2.1 (cOf (wordsM s)).2.2.1 (cOf (wordsM s)).2.2.2 = s then (cOf (wordsM s), true) else (rcZ, false)
theorem key_no {x : ByteArray} (h : keyB x = true) : ∀ b ∈ x.data.toList, b ≠ 32 := by
  intro b hb e
  unfold keyB at h
  simp only [Bool.and_eq_true] at h
  have h2 := List.all_eq_true.mp h.2 (b.toNat : Int) (by unfold bytesOf; exact List.mem_map.mpr ⟨b, hb, rfl⟩)
  unfold lowB at h2
  simp only [Bool.and_eq_true, decide_eq_true_eq] at h2
  subst e
  have : (32 : UInt8).toNat = 32 := rfl
  omega
theorem dig_ne : ∀ d : Fin 10, UInt8.ofNat (48 + d.val) ≠ 32 := by decide
theorem txt_no (n : Int) (h0 : -1 ≤ n) (h1 : n ≤ 999) : ∀ b ∈ (txtM n).data.toList, b ≠ 32 := by
  intro b hb
  unfold txtM at hb
  split at hb
  · have hb' : b ∈ ([45, 49] : List UInt8) := hb
    simp only [List.mem_cons, List.not_mem_nil, or_false] at hb'
    rcases hb' with rfl | rfl <;> decide
  · have hb' : b ∈ dec3 n.toNat := hb
    unfold dec3 at hb'
    split at hb'
    · rename_i h
      simp only [List.mem_cons, List.not_mem_nil, or_false] at hb'
      subst hb'
      exact dig_ne ⟨n.toNat, h⟩
    · split at hb'
      · simp only [List.mem_cons, List.not_mem_nil, or_false] at hb'
        rcases hb' with rfl | rfl
        · exact dig_ne ⟨n.toNat / 10, by omega⟩
        · exact dig_ne ⟨n.toNat % 10, by omega⟩
      · simp only [List.mem_cons, List.not_mem_nil, or_false] at hb'
        rcases hb' with rfl | rfl | rfl
        · exact dig_ne ⟨n.toNat / 10 / 10, by omega⟩
        · exact dig_ne ⟨n.toNat / 10 % 10, by omega⟩
        · exact dig_ne ⟨n.toNat % 10, by omega⟩
theorem cmd_more {k v o : Int} {x : ByteArray} (h : cmdB k x v o = true) : (k ≠ 5 → keyB x = true) ∧ (k ≠ 2 ∧ k ≠ 4 → v = 0) ∧ (k ≠ 4 → o = 0) ∧ (k = 2 ∨ k = 4 → 0 ≤ v) ∧ (k = 5 → keyB x = true ∨ x.toList = ([] : List UInt8)) := by
  unfold cmdB at h
  rw [Bool.and_eq_true] at h
  obtain ⟨h1, h2⟩ := h
  simp only [Bool.or_eq_true, Bool.and_eq_true, decide_eq_true_eq] at h1
  refine ⟨fun k5 => ?_, ?_, ?_, ?_, fun k5 => ?_⟩
  · rcases h1 with h1 | h1
    · exact h1
    · exact absurd h1.1 k5
  · intro hk; rw [if_neg hk.1, if_neg hk.2] at h2; simp only [Bool.and_eq_true, decide_eq_true_eq] at h2; exact h2.2.1
  · intro hk
    by_cases k2 : k = 2
    · rw [if_pos k2] at h2; simp only [Bool.and_eq_true, decide_eq_true_eq] at h2; exact h2.2
    · rw [if_neg k2, if_neg hk] at h2; simp only [Bool.and_eq_true, decide_eq_true_eq] at h2; exact h2.2.2
  · intro hk
    by_cases k2 : k = 2
    · rw [if_pos k2] at h2; simp only [l1B, Bool.and_eq_true, decide_eq_true_eq] at h2; omega
    · rw [if_neg k2, if_pos (by omega)] at h2; simp only [l1B, Bool.and_eq_true, decide_eq_true_eq] at h2; omega
  · rcases h1 with h1 | h1
    · exact .inl h1
    · exact .inr h1.2
theorem w_one (a : List UInt8) (h : ∀ b ∈ a, b ≠ 32) : (sp a).map mkB = [mkB a] := by rw [sp_one a h]; rfl
/-- the words of a command's text -/
theorem words_cmt {k v o : Int} {x : ByteArray} (h : cmdB k x v o = true) :
    (k = 1 ∧ wordsM (cmtM k x v o) = [w_get, x]) ∨ (k = 2 ∧ wordsM (cmtM k x v o) = [w_put, x, txtM v]) ∨ (k = 3 ∧ wordsM (cmtM k x v o) = [w_drop, x]) ∨ (k = 4 ∧ wordsM (cmtM k x v o) = [w_swap, x, txtM o, txtM v]) ∨ (k = 5 ∧ x.toList ≠ ([] : List UInt8) ∧ wordsM (cmtM k x v o) = [w_seal, x]) ∨ (k = 5 ∧ x.toList = ([] : List UInt8) ∧ wordsM (cmtM k x v o) = [w_seal]) := by
  obtain ⟨hx, hk, hvv, hoo⟩ := cmd_cases h
  obtain ⟨m1, m2, m3, m4, m5⟩ := cmd_more h
  unfold wordsM cmtM
  rw [if_pos h]
  have hv := txt_no v hvv.1 hvv.2
  have ho := txt_no o hoo.1 hoo.2
  rcases hk with rfl | rfl | rfl | rfl | rfl
  · refine .inl ⟨rfl, ?_⟩
    have hkx := key_no (m1 (by decide))
    rw [if_pos rfl, show (((⟨#[103, 101, 116, 32]⟩ : ByteArray) ++ x).data.toList) = [103, 101, 116] ++ 32 :: x.data.toList by simp, sp_app _ _ (by decide), List.map_cons, w_one _ hkx, mkB_data]
    rfl
  · refine .inr (.inl ⟨rfl, ?_⟩)
    have hkx := key_no (m1 (by decide))
    rw [if_neg (by decide), if_pos rfl, show (((((⟨#[112, 117, 116, 32]⟩ : ByteArray) ++ x) ++ (⟨#[32]⟩ : ByteArray)) ++ txtM v).data.toList) = [112, 117, 116] ++ 32 :: (x.data.toList ++ 32 :: (txtM v).data.toList) by simp, sp_app _ _ (by decide), sp_app _ _ hkx, List.map_cons, List.map_cons, w_one _ hv, mkB_data, mkB_data]
    rfl
  · refine .inr (.inr (.inl ⟨rfl, ?_⟩))
    have hkx := key_no (m1 (by decide))
    rw [if_neg (by decide), if_neg (by decide), if_pos rfl, show (((⟨#[100, 114, 111, 112, 32]⟩ : ByteArray) ++ x).data.toList) = [100, 114, 111, 112] ++ 32 :: x.data.toList by simp, sp_app _ _ (by decide), List.map_cons, w_one _ hkx, mkB_data]
    rfl
  · refine .inr (.inr (.inr (.inl ⟨rfl, ?_⟩)))
    have hkx := key_no (m1 (by decide))
    rw [if_neg (by decide), if_neg (by decide), if_neg (by decide), if_pos rfl, show (((((((⟨#[115, 119, 97, 112, 32]⟩ : ByteArray) ++ x) ++ (⟨#[32]⟩ : ByteArray)) ++ txtM o) ++ (⟨#[32]⟩ : ByteArray)) ++ txtM v).data.toList) = [115, 119, 97, 112] ++ 32 :: (x.data.toList ++ 32 :: ((txtM o).data.toList ++ 32 :: (txtM v).data.toList)) by simp, sp_app _ _ (by decide), sp_app _ _ hkx, sp_app _ _ ho, List.map_cons, List.map_cons, List.map_cons, w_one _ hv, mkB_data, mkB_data, mkB_data]
    rfl
  · refine .inr (.inr (.inr (.inr ?_)))
    rw [if_neg (by decide), if_neg (by decide), if_neg (by decide), if_neg (by decide)]
    by_cases hz : x.toList = ([] : List UInt8)
    · exact .inr ⟨rfl, hz, by rw [if_pos hz]; rfl⟩
    · refine .inl ⟨rfl, hz, ?_⟩
      have hkx := key_no ((m5 rfl).resolve_right hz)
      rw [if_neg hz, show (((⟨#[115, 101, 97, 108, 32]⟩ : ByteArray) ++ x).data.toList) = [115, 101, 97, 108] ++ 32 :: x.data.toList by simp, sp_app _ _ (by decide), List.map_cons, w_one _ hkx, mkB_data]
      rfl
theorem empty_of {x : ByteArray} (h : x.toList = ([] : List UInt8)) : x = (⟨#[]⟩ : ByteArray) := ba_inj (by rw [h, ba_toList])
theorem cOf_ok {k v o : Int} {x : ByteArray} (h : cmdB k x v o = true) : cOf (wordsM (cmtM k x v o)) = (k, x, v, o) := by
  obtain ⟨hx, hk, hvv, hoo⟩ := cmd_cases h
  obtain ⟨m1, m2, m3, m4, m5⟩ := cmd_more h
  have nv := numM_txt hvv.1 hvv.2
  have no := numM_txt hoo.1 hoo.2
  rcases words_cmt h with ⟨rfl, e⟩ | ⟨rfl, e⟩ | ⟨rfl, e⟩ | ⟨rfl, e⟩ | ⟨rfl, hz, e⟩ | ⟨rfl, hz, e⟩
  all_goals rw [e]
  · rw [m2 (by decide), m3 (by decide)]; rfl
  · rw [m3 (by decide)]
    show (2, x, numM (txtM v), (0 : Int)) = _
    rw [nv]
  · rw [m2 (by decide), m3 (by decide)]; rfl
  · show (4, x, numM (txtM v), numM (txtM o)) = _
    rw [nv, no]
  · rw [m2 (by decide), m3 (by decide)]; rfl
  · rw [m2 (by decide), m3 (by decide), empty_of hz]; rfl
theorem cmt_size {k v o : Int} {x : ByteArray} (h : cmdB k x v o = true) : (cmtM k x v o).size ≤ 64 ∧ (cmtM k x v o).toList ≠ ([] : List UInt8) := by
  obtain ⟨hx, hk, -, -⟩ := cmd_cases h
  have h3v := txtM_size v
  have h3o := txtM_size o
  have key : ∀ a : ByteArray, 1 ≤ a.size → a.size ≤ 64 → a.size ≤ 64 ∧ a.toList ≠ ([] : List UInt8) := fun a h1 h2 => ⟨h2, fun e => by rw [nil_iff] at e; omega⟩
  have s0 : (⟨#[103, 101, 116, 32]⟩ : ByteArray).size = 4 ∧ (⟨#[112, 117, 116, 32]⟩ : ByteArray).size = 4 ∧ (⟨#[100, 114, 111, 112, 32]⟩ : ByteArray).size = 5 ∧ (⟨#[115, 119, 97, 112, 32]⟩ : ByteArray).size = 5 ∧ (⟨#[115, 101, 97, 108, 32]⟩ : ByteArray).size = 5 ∧ (⟨#[32]⟩ : ByteArray).size = 1 ∧ (⟨#[115, 101, 97, 108]⟩ : ByteArray).size = 4 := ⟨rfl, rfl, rfl, rfl, rfl, rfl, rfl⟩
  unfold cmtM
  rw [if_pos h]
  rcases hk with rfl | rfl | rfl | rfl | rfl
  · rw [if_pos rfl]; apply key <;> (simp only [ByteArray.size_append]; omega)
  · rw [if_neg (by decide), if_pos rfl]; apply key <;> (simp only [ByteArray.size_append]; omega)
  · rw [if_neg (by decide), if_neg (by decide), if_pos rfl]; apply key <;> (simp only [ByteArray.size_append]; omega)
  · rw [if_neg (by decide), if_neg (by decide), if_neg (by decide), if_pos rfl]; apply key <;> (simp only [ByteArray.size_append]; omega)
  · rw [if_neg (by decide), if_neg (by decide), if_neg (by decide), if_neg (by decide)]
    split
    · apply key <;> omega
    · apply key <;> (simp only [ByteArray.size_append]; omega)
theorem rcI_ok {k v o : Int} {x : ByteArray} (h : cmdB k x v o = true) : rcI (cmtM k x v o) = ((k, x, v, o), true) := by
  unfold rcI
  rw [if_neg (by have := (cmt_size h).1; omega), cOf_ok h, if_pos ⟨h, rfl⟩]
theorem rcI_back (s : ByteArray) : ((rcI s).2 = true → cmdB (rcI s).1.1 (rcI s).1.2.1 (rcI s).1.2.2.1 (rcI s).1.2.2.2 = true ∧ cmtM (rcI s).1.1 (rcI s).1.2.1 (rcI s).1.2.2.1 (rcI s).1.2.2.2 = s) ∧ ((rcI s).2 = false → (rcI s).1 = rcZ) := by
  unfold rcI
  split
  · exact ⟨fun k => (by cases k), fun _ => rfl⟩
  · split
    · rename_i h; exact ⟨fun _ => h, fun k => (by cases k)⟩
    · exact ⟨fun k => (by cases k), fun _ => rfl⟩

theorem strat0 {w W : World} {ad : Addr} {n : Nat} {l : List ByteArray} (HR : Aside0 (Kd.C Kd.string w (some ad) n l)) (B : Aside0 (Below w.heap.size w W)) (hi : 0 < n) : W.cell? ad = some (.string (elB l 0)) := by
  have := Kd.foot_string (cb HR B) 0 (by omega) (by omega)
  rw [show (0 : Int).toNat = 0 from rfl, Addr.add, if_pos rfl] at this
  exact this
theorem strat {w W : World} {ad : Addr} {n : Nat} {l : List ByteArray} (HR : Aside0 (Kd.C Kd.string w (some ad) n l)) (B : Aside0 (Below w.heap.size w W)) (i : Nat) (h0 : 0 < i) (hi : i < n) : W.cell? { block := ad.block, off := ad.off + i } = some (.string (elB l (i : Int))) := by
  have := Kd.foot_string (cb HR B) (i : Int) (Int.natCast_nonneg _) (by omega)
  rw [Int.toNat_natCast, Addr.add, if_neg (by omega)] at this
  exact this
theorem impl_commandOf.M (A0 : Option Addr) (c0 : Nat) (W : List ByteArray) (w : World) (ht : TE w) (hr0 : Kd.C Kd.string w A0 W.length W) (hp : 0 < W.length) (hz : ∀ s ∈ W, s.size ≤ 64) : Calls Tryd.prog 36 #[.slice A0 W.length c0] w fun e w' => e = .returned (.agg #[.int .i64 (cOf W).1, .string (cOf W).2.1, .int .i64 (cOf W).2.2.1, .int .i64 (cOf W).2.2.2]) ∧ Below w.heap.size w w' := by
  have B := Aside0.mk (Below.refl w.heap.size w)
  have hu := Tryd.underlying28
  have HT := Aside0.mk ht
  have HR0 := Aside0.mk hr0
  clear ht hr0
  obtain ⟨r, hr⟩ : ∃ r, cOf W = r := ⟨_, rfl⟩
  rw [hr]
  obtain ⟨ad, hA, -⟩ := Kd.at_string HR0.out 0 (by omega) (by omega)
  subst hA
  have hn62 := HR0.out.2.1
  have zs : ∀ i : Nat, i < W.length → (elB W (i : Int)).size ≤ 64 := fun i hi => hz _ (by unfold elB rdOf; rw [Int.toNat_natCast, List.getD_eq_getElem?_getD, List.getElem?_eq_getElem hi]; exact List.getElem_mem hi)
  by_cases h0 : elB W 0 = w_get
  · have hw : (elB W 0).toList = [103, 101, 116] := by rw [h0, ba_toList]; rfl
    by_cases hn : W.length = 2
    · skip
      have d1 : decide (1 < (W.length : Int)) = true := decide_eq_true (by omega)
      have e2 : ((W.length : Int) == 2) = true := by rw [hn]; rfl
      have hM : r = (1, elB W 1, 0, 0) := by rw [← hr]; unfold cOf keyOf; rw [if_pos h0, if_pos hn, if_pos (by omega)]
      clear hr h0
      have q0 := strat0 HR0 B (by omega)
      have q1 := strat HR0 B 1 (by decide) (by omega)
      go_enter Tryd.func36, Tryd.ntmps36
      go_wp2_with (first
        | ((with_reducible refine gate_dst (N := 2) rfl ?_); refine bx ?hg (N := 2) ?hd (cs := #[.int .i64 (0), .string (⟨#[]⟩ : ByteArray), .int .i64 (0), .int .i64 (0)]) (t := 28) ?hr B ?_; (case hd => rfl); (case hg => rfl); (case hr => first | (go_simp; done) | (go_simp; rfl)); intro g2 w101 hb B F2 L2 E2; ((try clear q0); (try clear q1); (try clear q2); (try clear q3); have q0 := strat0 HR0 B (by omega); have q1 := strat HR0 B 1 (by decide) (by omega)); clear hb E2)
        | ((with_reducible refine gate_dst (N := 3) rfl ?_); refine bx ?hg (N := 3) ?hd (cs := #[.int .i64 (0), .string (⟨#[]⟩ : ByteArray), .int .i64 (0), .int .i64 (0)]) (t := 28) ?hr B ?_; (case hd => rfl); (case hg => rfl); (case hr => first | (go_simp; done) | (go_simp; rfl)); intro g3 w102 hb B F3 L3 E3; have N2_3 := ne1 E3 F2; replace F2 := bn F2 hb; obtain ⟨c3_0, c3_1, c3_2, c3_3⟩ := cs4 F3; ((try clear q0); (try clear q1); (try clear q2); (try clear q3); have q0 := strat0 HR0 B (by omega); have q1 := strat HR0 B 1 (by decide) (by omega)); clear hb E3)
        | ((with_reducible refine gate_store (t := 9) (p := 10) rfl ?_); obtain ⟨y0, y1, y2, y3⟩ := cs4 F3; have z0 := fz F3 0; have z1 := fz F3 1; have z2 := fz F3 2; have z3 := fz F3 3; refine sx (t := 28) (t' := 9) (p := 10) (v := ?vo103) ?hg ?ho ?hn 1 [.string (elB W 1)] [.int .i64 (0), .string (elB W 1), .int .i64 (0), .int .i64 (0)] ?hr B F3 L3 rfl (Nat.le_of_ble_eq_true rfl) ?_; (case ho => rfl); (case hg => rfl); (case hn => rfl); (case hr => first | (go_simp; done) | (go_simp; rfl)); intro w103 hk B G; replace F2 := bk F2 hk N2_3.out; replace F3 := G; clear c3_0 c3_1 c3_2 c3_3; obtain ⟨c3_0, c3_1, c3_2, c3_3⟩ := cs4 F3; ((try clear q0); (try clear q1); (try clear q2); (try clear q3); have q0 := strat0 HR0 B (by omega); have q1 := strat HR0 B 1 (by decide) (by omega)); clear hk y0 z0 y1 z1 y2 z2 y3 z3)
        | ((with_reducible refine gate_store (t := 3) (p := 21) rfl ?_); obtain ⟨y0, y1, y2, y3⟩ := cs4 F3; have z0 := fz F3 0; have z1 := fz F3 1; have z2 := fz F3 2; have z3 := fz F3 3; refine sx (t := 28) (t' := 3) (p := 21) (v := ?vo104) ?hg ?ho ?hn 0 [.int .i64 (1)] [.int .i64 (1), .string (elB W 1), .int .i64 (0), .int .i64 (0)] ?hr B F3 L3 rfl (Nat.le_of_ble_eq_true rfl) ?_; (case ho => rfl); (case hg => rfl); (case hn => rfl); (case hr => first | (go_simp; done) | (go_simp; rfl)); intro w104 hk B G; replace F2 := bk F2 hk N2_3.out; replace F3 := G; clear c3_0 c3_1 c3_2 c3_3; obtain ⟨c3_0, c3_1, c3_2, c3_3⟩ := cs4 F3; ((try clear q0); (try clear q1); (try clear q2); (try clear q3); have q0 := strat0 HR0 B (by omega); have q1 := strat HR0 B 1 (by decide) (by omega)); clear hk y0 z0 y1 z1 y2 z2 y3 z3)
        | ((with_reducible refine gate_store (t := 28) (p := 2) rfl ?_); obtain ⟨y0, y1, y2, y3⟩ := cs4 F2; have z0 := fz F2 0; have z1 := fz F2 1; have z2 := fz F2 2; have z3 := fz F2 3; refine sx (t := 28) (t' := 28) (p := 2) (v := ?vo105) ?hg ?ho ?hn 0 [.int .i64 (1), .string (elB W 1), .int .i64 (0), .int .i64 (0)] [.int .i64 (1), .string (elB W 1), .int .i64 (0), .int .i64 (0)] ?hr B F2 L2 rfl (Nat.le_of_ble_eq_true rfl) ?_; (case ho => rfl); (case hg => rfl); (case hn => rfl); (case hr => first | (go_simp; done) | (go_simp; rfl)); intro w105 hk B G; replace F3 := bk F3 hk N2_3.out.symm; replace F2 := G; clear hk y0 z0 y1 z1 y2 z2 y3 z3))
      refine bodyPost_ret (results_single rfl (.cell g2 28 _ (0, 0) _ rfl F2.out hu rfl (by kernel_rfl) .nil)) rfl ?_
      subst hM
      exact ⟨rfl, B.out⟩
    · by_cases hn1 : W.length = 1
      · skip
        have d1 : decide (1 < (W.length : Int)) = false := decide_eq_false (by omega)
        have e2 : ((W.length : Int) == 2) = false := by exact beq_eq_false_iff_ne.mpr (by omega)
        have hM : r = (0, (⟨#[]⟩ : ByteArray), 0, 0) := by rw [← hr]; unfold cOf keyOf; rw [if_pos h0, if_neg hn, if_neg (by omega)]
        clear hr h0
        have q0 := strat0 HR0 B (by omega)
        go_enter Tryd.func36, Tryd.ntmps36
        go_wp2_with (first
          | ((with_reducible refine gate_dst (N := 2) rfl ?_); refine bx ?hg (N := 2) ?hd (cs := #[.int .i64 (0), .string (⟨#[]⟩ : ByteArray), .int .i64 (0), .int .i64 (0)]) (t := 28) ?hr B ?_; (case hd => rfl); (case hg => rfl); (case hr => first | (go_simp; done) | (go_simp; rfl)); intro g2 w201 hb B F2 L2 E2; ((try clear q0); (try clear q1); (try clear q2); (try clear q3); have q0 := strat0 HR0 B (by omega)); clear hb E2)
          | ((with_reducible refine gate_dst (N := 3) rfl ?_); refine bx ?hg (N := 3) ?hd (cs := #[.int .i64 (0), .string (⟨#[]⟩ : ByteArray), .int .i64 (0), .int .i64 (0)]) (t := 28) ?hr B ?_; (case hd => rfl); (case hg => rfl); (case hr => first | (go_simp; done) | (go_simp; rfl)); intro g3 w202 hb B F3 L3 E3; have N2_3 := ne1 E3 F2; replace F2 := bn F2 hb; obtain ⟨c3_0, c3_1, c3_2, c3_3⟩ := cs4 F3; ((try clear q0); (try clear q1); (try clear q2); (try clear q3); have q0 := strat0 HR0 B (by omega)); clear hb E3)
          | ((with_reducible refine gate_store (t := 28) (p := 2) rfl ?_); obtain ⟨y0, y1, y2, y3⟩ := cs4 F2; have z0 := fz F2 0; have z1 := fz F2 1; have z2 := fz F2 2; have z3 := fz F2 3; refine sx (t := 28) (t' := 28) (p := 2) (v := ?vo203) ?hg ?ho ?hn 0 [.int .i64 (0), .string (⟨#[]⟩ : ByteArray), .int .i64 (0), .int .i64 (0)] [.int .i64 (0), .string (⟨#[]⟩ : ByteArray), .int .i64 (0), .int .i64 (0)] ?hr B F2 L2 rfl (Nat.le_of_ble_eq_true rfl) ?_; (case ho => rfl); (case hg => rfl); (case hn => rfl); (case hr => first | (go_simp; done) | (go_simp; rfl)); intro w203 hk B G; replace F3 := bk F3 hk N2_3.out.symm; replace F2 := G; clear hk y0 z0 y1 z1 y2 z2 y3 z3))
        refine bodyPost_ret (results_single rfl (.cell g2 28 _ (0, 0) _ rfl F2.out hu rfl (by kernel_rfl) .nil)) rfl ?_
        subst hM
        exact ⟨rfl, B.out⟩
      · skip
        have d1 : decide (1 < (W.length : Int)) = true := decide_eq_true (by omega)
        have e2 : ((W.length : Int) == 2) = false := by exact beq_eq_false_iff_ne.mpr (by omega)
        have hM : r = (0, elB W 1, 0, 0) := by rw [← hr]; unfold cOf keyOf; rw [if_pos h0, if_neg hn, if_pos (by omega)]
        clear hr h0
        have q0 := strat0 HR0 B (by omega)
        have q1 := strat HR0 B 1 (by decide) (by omega)
        go_enter Tryd.func36, Tryd.ntmps36
        go_wp2_with (first
          | ((with_reducible refine gate_dst (N := 2) rfl ?_); refine bx ?hg (N := 2) ?hd (cs := #[.int .i64 (0), .string (⟨#[]⟩ : ByteArray), .int .i64 (0), .int .i64 (0)]) (t := 28) ?hr B ?_; (case hd => rfl); (case hg => rfl); (case hr => first | (go_simp; done) | (go_simp; rfl)); intro g2 w301 hb B F2 L2 E2; ((try clear q0); (try clear q1); (try clear q2); (try clear q3); have q0 := strat0 HR0 B (by omega); have q1 := strat HR0 B 1 (by decide) (by omega)); clear hb E2)
          | ((with_reducible refine gate_dst (N := 3) rfl ?_); refine bx ?hg (N := 3) ?hd (cs := #[.int .i64 (0), .string (⟨#[]⟩ : ByteArray), .int .i64 (0), .int .i64 (0)]) (t := 28) ?hr B ?_; (case hd => rfl); (case hg => rfl); (case hr => first | (go_simp; done) | (go_simp; rfl)); intro g3 w302 hb B F3 L3 E3; have N2_3 := ne1 E3 F2; replace F2 := bn F2 hb; obtain ⟨c3_0, c3_1, c3_2, c3_3⟩ := cs4 F3; ((try clear q0); (try clear q1); (try clear q2); (try clear q3); have q0 := strat0 HR0 B (by omega); have q1 := strat HR0 B 1 (by decide) (by omega)); clear hb E3)
          | ((with_reducible refine gate_store (t := 9) (p := 10) rfl ?_); obtain ⟨y0, y1, y2, y3⟩ := cs4 F3; have z0 := fz F3 0; have z1 := fz F3 1; have z2 := fz F3 2; have z3 := fz F3 3; refine sx (t := 28) (t' := 9) (p := 10) (v := ?vo303) ?hg ?ho ?hn 1 [.string (elB W 1)] [.int .i64 (0), .string (elB W 1), .int .i64 (0), .int .i64 (0)] ?hr B F3 L3 rfl (Nat.le_of_ble_eq_true rfl) ?_; (case ho => rfl); (case hg => rfl); (case hn => rfl); (case hr => first | (go_simp; done) | (go_simp; rfl)); intro w303 hk B G; replace F2 := bk F2 hk N2_3.out; replace F3 := G; clear c3_0 c3_1 c3_2 c3_3; obtain ⟨c3_0, c3_1, c3_2, c3_3⟩ := cs4 F3; ((try clear q0); (try clear q1); (try clear q2); (try clear q3); have q0 := strat0 HR0 B (by omega); have q1 := strat HR0 B 1 (by decide) (by omega)); clear hk y0 z0 y1 z1 y2 z2 y3 z3)
          | ((with_reducible refine gate_store (t := 28) (p := 2) rfl ?_); obtain ⟨y0, y1, y2, y3⟩ := cs4 F2; have z0 := fz F2 0; have z1 := fz F2 1; have z2 := fz F2 2; have z3 := fz F2 3; refine sx (t := 28) (t' := 28) (p := 2) (v := ?vo304) ?hg ?ho ?hn 0 [.int .i64 (0), .string (elB W 1), .int .i64 (0), .int .i64 (0)] [.int .i64 (0), .string (elB W 1), .int .i64 (0), .int .i64 (0)] ?hr B F2 L2 rfl (Nat.le_of_ble_eq_true rfl) ?_; (case ho => rfl); (case hg => rfl); (case hn => rfl); (case hr => first | (go_simp; done) | (go_simp; rfl)); intro w304 hk B G; replace F3 := bk F3 hk N2_3.out.symm; replace F2 := G; clear hk y0 z0 y1 z1 y2 z2 y3 z3))
        refine bodyPost_ret (results_single rfl (.cell g2 28 _ (0, 0) _ rfl F2.out hu rfl (by kernel_rfl) .nil)) rfl ?_
        subst hM
        exact ⟨rfl, B.out⟩
  · skip
    by_cases h1 : elB W 0 = w_put
    · have hw : (elB W 0).toList = [112, 117, 116] := by rw [h1, ba_toList]; rfl
      by_cases hn : W.length = 3
      · skip
        have d1 : decide (1 < (W.length : Int)) = true := decide_eq_true (by omega)
        have e3 : ((W.length : Int) == 3) = true := by rw [hn]; rfl
        have z2 : (elB W 2).size ≤ 64 := zs 2 (by omega)
        have hM : r = (2, elB W 1, numM (elB W 2), 0) := by rw [← hr]; unfold cOf keyOf; rw [if_neg h0, if_pos h1, if_pos hn, if_pos (by omega)]
        clear hr h0 h1
        have q0 := strat0 HR0 B (by omega)
        have q1 := strat HR0 B 1 (by decide) (by omega)
        have q2 := strat HR0 B 2 (by decide) (by omega)
        go_enter Tryd.func36, Tryd.ntmps36
        go_wp2_with (first
          | ((with_reducible refine gate_dst (N := 2) rfl ?_); refine bx ?hg (N := 2) ?hd (cs := #[.int .i64 (0), .string (⟨#[]⟩ : ByteArray), .int .i64 (0), .int .i64 (0)]) (t := 28) ?hr B ?_; (case hd => rfl); (case hg => rfl); (case hr => first | (go_simp; done) | (go_simp; rfl)); intro g2 w401 hb B F2 L2 E2; ((try clear q0); (try clear q1); (try clear q2); (try clear q3); have q0 := strat0 HR0 B (by omega); have q1 := strat HR0 B 1 (by decide) (by omega); have q2 := strat HR0 B 2 (by decide) (by omega)); clear hb E2)
          | ((with_reducible refine gate_dst (N := 3) rfl ?_); refine bx ?hg (N := 3) ?hd (cs := #[.int .i64 (0), .string (⟨#[]⟩ : ByteArray), .int .i64 (0), .int .i64 (0)]) (t := 28) ?hr B ?_; (case hd => rfl); (case hg => rfl); (case hr => first | (go_simp; done) | (go_simp; rfl)); intro g3 w402 hb B F3 L3 E3; have N2_3 := ne1 E3 F2; replace F2 := bn F2 hb; obtain ⟨c3_0, c3_1, c3_2, c3_3⟩ := cs4 F3; ((try clear q0); (try clear q1); (try clear q2); (try clear q3); have q0 := strat0 HR0 B (by omega); have q1 := strat HR0 B 1 (by decide) (by omega); have q2 := strat HR0 B 2 (by decide) (by omega)); clear hb E3)
          | ((with_reducible refine gate_store (t := 9) (p := 10) rfl ?_); obtain ⟨y0, y1, y2, y3⟩ := cs4 F3; have z0 := fz F3 0; have z1 := fz F3 1; have z2 := fz F3 2; have z3 := fz F3 3; refine sx (t := 28) (t' := 9) (p := 10) (v := ?vo403) ?hg ?ho ?hn 1 [.string (elB W 1)] [.int .i64 (0), .string (elB W 1), .int .i64 (0), .int .i64 (0)] ?hr B F3 L3 rfl (Nat.le_of_ble_eq_true rfl) ?_; (case ho => rfl); (case hg => rfl); (case hn => rfl); (case hr => first | (go_simp; done) | (go_simp; rfl)); intro w403 hk B G; replace F2 := bk F2 hk N2_3.out; replace F3 := G; clear c3_0 c3_1 c3_2 c3_3; obtain ⟨c3_0, c3_1, c3_2, c3_3⟩ := cs4 F3; ((try clear q0); (try clear q1); (try clear q2); (try clear q3); have q0 := strat0 HR0 B (by omega); have q1 := strat HR0 B 1 (by decide) (by omega); have q2 := strat HR0 B 2 (by decide) (by omega)); clear hk y0 z0 y1 z1 y2 z2 y3 z3)
          | ((with_reducible refine gate_store (t := 3) (p := 32) rfl ?_); obtain ⟨y0, y1, y2, y3⟩ := cs4 F3; have z0 := fz F3 0; have z1 := fz F3 1; have z2 := fz F3 2; have z3 := fz F3 3; refine sx (t := 28) (t' := 3) (p := 32) (v := ?vo404) ?hg ?ho ?hn 0 [.int .i64 (2)] [.int .i64 (2), .string (elB W 1), .int .i64 (0), .int .i64 (0)] ?hr B F3 L3 rfl (Nat.le_of_ble_eq_true rfl) ?_; (case ho => rfl); (case hg => rfl); (case hn => rfl); (case hr => first | (go_simp; done) | (go_simp; rfl)); intro w404 hk B G; replace F2 := bk F2 hk N2_3.out; replace F3 := G; clear c3_0 c3_1 c3_2 c3_3; obtain ⟨c3_0, c3_1, c3_2, c3_3⟩ := cs4 F3; ((try clear q0); (try clear q1); (try clear q2); (try clear q3); have q0 := strat0 HR0 B (by omega); have q1 := strat HR0 B 1 (by decide) (by omega); have q2 := strat HR0 B 2 (by decide) (by omega)); clear hk y0 z0 y1 z1 y2 z2 y3 z3)
          | (go_at_call 34; with_reducible refine cl (impl_numberOf.M (elB W 2) w _ HT B (by omega)) B fun w405 hb B => ?_; replace F2 := bn F2 hb; replace F3 := bn F3 hb; clear c3_0 c3_1 c3_2 c3_3; obtain ⟨c3_0, c3_1, c3_2, c3_3⟩ := cs4 F3; ((try clear q0); (try clear q1); (try clear q2); (try clear q3); have q0 := strat0 HR0 B (by omega); have q1 := strat HR0 B 1 (by decide) (by omega); have q2 := strat HR0 B 2 (by decide) (by omega)); clear hb)
          | ((with_reducible refine gate_store (t := 3) (p := 37) rfl ?_); obtain ⟨y0, y1, y2, y3⟩ := cs4 F3; have z0 := fz F3 0; have z1 := fz F3 1; have z2 := fz F3 2; have z3 := fz F3 3; refine sx (t := 28) (t' := 3) (p := 37) (v := ?vo406) ?hg ?ho ?hn 2 [.int .i64 ((numM (elB W 2)))] [.int .i64 (2), .string (elB W 1), .int .i64 ((numM (elB W 2))), .int .i64 (0)] ?hr B F3 L3 rfl (Nat.le_of_ble_eq_true rfl) ?_; (case ho => rfl); (case hg => rfl); (case hn => rfl); (case hr => first | (go_simp; done) | (go_simp; rfl)); intro w406 hk B G; replace F2 := bk F2 hk N2_3.out; replace F3 := G; clear c3_0 c3_1 c3_2 c3_3; obtain ⟨c3_0, c3_1, c3_2, c3_3⟩ := cs4 F3; ((try clear q0); (try clear q1); (try clear q2); (try clear q3); have q0 := strat0 HR0 B (by omega); have q1 := strat HR0 B 1 (by decide) (by omega); have q2 := strat HR0 B 2 (by decide) (by omega)); clear hk y0 z0 y1 z1 y2 z2 y3 z3)
          | ((with_reducible refine gate_store (t := 28) (p := 2) rfl ?_); obtain ⟨y0, y1, y2, y3⟩ := cs4 F2; have z0 := fz F2 0; have z1 := fz F2 1; have z2 := fz F2 2; have z3 := fz F2 3; refine sx (t := 28) (t' := 28) (p := 2) (v := ?vo407) ?hg ?ho ?hn 0 [.int .i64 (2), .string (elB W 1), .int .i64 ((numM (elB W 2))), .int .i64 (0)] [.int .i64 (2), .string (elB W 1), .int .i64 ((numM (elB W 2))), .int .i64 (0)] ?hr B F2 L2 rfl (Nat.le_of_ble_eq_true rfl) ?_; (case ho => rfl); (case hg => rfl); (case hn => rfl); (case hr => first | (go_simp; done) | (go_simp; rfl)); intro w407 hk B G; replace F3 := bk F3 hk N2_3.out.symm; replace F2 := G; clear hk y0 z0 y1 z1 y2 z2 y3 z3))
        refine bodyPost_ret (results_single rfl (.cell g2 28 _ (0, 0) _ rfl F2.out hu rfl (by kernel_rfl) .nil)) rfl ?_
        subst hM
        exact ⟨rfl, B.out⟩
      · by_cases hn1 : W.length = 1
        · skip
          have d1 : decide (1 < (W.length : Int)) = false := decide_eq_false (by omega)
          have e3 : ((W.length : Int) == 3) = false := by exact beq_eq_false_iff_ne.mpr (by omega)
          have hM : r = (0, (⟨#[]⟩ : ByteArray), 0, 0) := by rw [← hr]; unfold cOf keyOf; rw [if_neg h0, if_pos h1, if_neg hn, if_neg (by omega)]
          clear hr h0 h1
          have q0 := strat0 HR0 B (by omega)
          go_enter Tryd.func36, Tryd.ntmps36
          go_wp2_with (first
            | ((with_reducible refine gate_dst (N := 2) rfl ?_); refine bx ?hg (N := 2) ?hd (cs := #[.int .i64 (0), .string (⟨#[]⟩ : ByteArray), .int .i64 (0), .int .i64 (0)]) (t := 28) ?hr B ?_; (case hd => rfl); (case hg => rfl); (case hr => first | (go_simp; done) | (go_simp; rfl)); intro g2 w501 hb B F2 L2 E2; ((try clear q0); (try clear q1); (try clear q2); (try clear q3); have q0 := strat0 HR0 B (by omega)); clear hb E2)
            | ((with_reducible refine gate_dst (N := 3) rfl ?_); refine bx ?hg (N := 3) ?hd (cs := #[.int .i64 (0), .string (⟨#[]⟩ : ByteArray), .int .i64 (0), .int .i64 (0)]) (t := 28) ?hr B ?_; (case hd => rfl); (case hg => rfl); (case hr => first | (go_simp; done) | (go_simp; rfl)); intro g3 w502 hb B F3 L3 E3; have N2_3 := ne1 E3 F2; replace F2 := bn F2 hb; obtain ⟨c3_0, c3_1, c3_2, c3_3⟩ := cs4 F3; ((try clear q0); (try clear q1); (try clear q2); (try clear q3); have q0 := strat0 HR0 B (by omega)); clear hb E3)
            | ((with_reducible refine gate_store (t := 28) (p := 2) rfl ?_); obtain ⟨y0, y1, y2, y3⟩ := cs4 F2; have z0 := fz F2 0; have z1 := fz F2 1; have z2 := fz F2 2; have z3 := fz F2 3; refine sx (t := 28) (t' := 28) (p := 2) (v := ?vo503) ?hg ?ho ?hn 0 [.int .i64 (0), .string (⟨#[]⟩ : ByteArray), .int .i64 (0), .int .i64 (0)] [.int .i64 (0), .string (⟨#[]⟩ : ByteArray), .int .i64 (0), .int .i64 (0)] ?hr B F2 L2 rfl (Nat.le_of_ble_eq_true rfl) ?_; (case ho => rfl); (case hg => rfl); (case hn => rfl); (case hr => first | (go_simp; done) | (go_simp; rfl)); intro w503 hk B G; replace F3 := bk F3 hk N2_3.out.symm; replace F2 := G; clear hk y0 z0 y1 z1 y2 z2 y3 z3))
          refine bodyPost_ret (results_single rfl (.cell g2 28 _ (0, 0) _ rfl F2.out hu rfl (by kernel_rfl) .nil)) rfl ?_
          subst hM
          exact ⟨rfl, B.out⟩
        · skip
          have d1 : decide (1 < (W.length : Int)) = true := decide_eq_true (by omega)
          have e3 : ((W.length : Int) == 3) = false := by exact beq_eq_false_iff_ne.mpr (by omega)
          have hM : r = (0, elB W 1, 0, 0) := by rw [← hr]; unfold cOf keyOf; rw [if_neg h0, if_pos h1, if_neg hn, if_pos (by omega)]
          clear hr h0 h1
          have q0 := strat0 HR0 B (by omega)
          have q1 := strat HR0 B 1 (by decide) (by omega)
          go_enter Tryd.func36, Tryd.ntmps36
          go_wp2_with (first
            | ((with_reducible refine gate_dst (N := 2) rfl ?_); refine bx ?hg (N := 2) ?hd (cs := #[.int .i64 (0), .string (⟨#[]⟩ : ByteArray), .int .i64 (0), .int .i64 (0)]) (t := 28) ?hr B ?_; (case hd => rfl); (case hg => rfl); (case hr => first | (go_simp; done) | (go_simp; rfl)); intro g2 w601 hb B F2 L2 E2; ((try clear q0); (try clear q1); (try clear q2); (try clear q3); have q0 := strat0 HR0 B (by omega); have q1 := strat HR0 B 1 (by decide) (by omega)); clear hb E2)
            | ((with_reducible refine gate_dst (N := 3) rfl ?_); refine bx ?hg (N := 3) ?hd (cs := #[.int .i64 (0), .string (⟨#[]⟩ : ByteArray), .int .i64 (0), .int .i64 (0)]) (t := 28) ?hr B ?_; (case hd => rfl); (case hg => rfl); (case hr => first | (go_simp; done) | (go_simp; rfl)); intro g3 w602 hb B F3 L3 E3; have N2_3 := ne1 E3 F2; replace F2 := bn F2 hb; obtain ⟨c3_0, c3_1, c3_2, c3_3⟩ := cs4 F3; ((try clear q0); (try clear q1); (try clear q2); (try clear q3); have q0 := strat0 HR0 B (by omega); have q1 := strat HR0 B 1 (by decide) (by omega)); clear hb E3)
            | ((with_reducible refine gate_store (t := 9) (p := 10) rfl ?_); obtain ⟨y0, y1, y2, y3⟩ := cs4 F3; have z0 := fz F3 0; have z1 := fz F3 1; have z2 := fz F3 2; have z3 := fz F3 3; refine sx (t := 28) (t' := 9) (p := 10) (v := ?vo603) ?hg ?ho ?hn 1 [.string (elB W 1)] [.int .i64 (0), .string (elB W 1), .int .i64 (0), .int .i64 (0)] ?hr B F3 L3 rfl (Nat.le_of_ble_eq_true rfl) ?_; (case ho => rfl); (case hg => rfl); (case hn => rfl); (case hr => first | (go_simp; done) | (go_simp; rfl)); intro w603 hk B G; replace F2 := bk F2 hk N2_3.out; replace F3 := G; clear c3_0 c3_1 c3_2 c3_3; obtain ⟨c3_0, c3_1, c3_2, c3_3⟩ := cs4 F3; ((try clear q0); (try clear q1); (try clear q2); (try clear q3); have q0 := strat0 HR0 B (by omega); have q1 := strat HR0 B 1 (by decide) (by omega)); clear hk y0 z0 y1 z1 y2 z2 y3 z3)
            | ((with_reducible refine gate_store (t := 28) (p := 2) rfl ?_); obtain ⟨y0, y1, y2, y3⟩ := cs4 F2; have z0 := fz F2 0; have z1 := fz F2 1; have z2 := fz F2 2; have z3 := fz F2 3; refine sx (t := 28) (t' := 28) (p := 2) (v := ?vo604) ?hg ?ho ?hn 0 [.int .i64 (0), .string (elB W 1), .int .i64 (0), .int .i64 (0)] [.int .i64 (0), .string (elB W 1), .int .i64 (0), .int .i64 (0)] ?hr B F2 L2 rfl (Nat.le_of_ble_eq_true rfl) ?_; (case ho => rfl); (case hg => rfl); (case hn => rfl); (case hr => first | (go_simp; done) | (go_simp; rfl)); intro w604 hk B G; replace F3 := bk F3 hk N2_3.out.symm; replace F2 := G; clear hk y0 z0 y1 z1 y2 z2 y3 z3))
          refine bodyPost_ret (results_single rfl (.cell g2 28 _ (0, 0) _ rfl F2.out hu rfl (by kernel_rfl) .nil)) rfl ?_
          subst hM
          exact ⟨rfl, B.out⟩
    · skip
      by_cases h2 : elB W 0 = w_drop
      · have hw : (elB W 0).toList = [100, 114, 111, 112] := by rw [h2, ba_toList]; rfl
        by_cases hn : W.length = 2
        · skip
          have d1 : decide (1 < (W.length : Int)) = true := decide_eq_true (by omega)
          have e2 : ((W.length : Int) == 2) = true := by rw [hn]; rfl
          have hM : r = (3, elB W 1, 0, 0) := by rw [← hr]; unfold cOf keyOf; rw [if_neg h0, if_neg h1, if_pos h2, if_pos hn, if_pos (by omega)]
          clear hr h0 h1 h2
          have q0 := strat0 HR0 B (by omega)
          have q1 := strat HR0 B 1 (by decide) (by omega)
          go_enter Tryd.func36, Tryd.ntmps36
          go_wp2_with (first
            | ((with_reducible refine gate_dst (N := 2) rfl ?_); refine bx ?hg (N := 2) ?hd (cs := #[.int .i64 (0), .string (⟨#[]⟩ : ByteArray), .int .i64 (0), .int .i64 (0)]) (t := 28) ?hr B ?_; (case hd => rfl); (case hg => rfl); (case hr => first | (go_simp; done) | (go_simp; rfl)); intro g2 w701 hb B F2 L2 E2; ((try clear q0); (try clear q1); (try clear q2); (try clear q3); have q0 := strat0 HR0 B (by omega); have q1 := strat HR0 B 1 (by decide) (by omega)); clear hb E2)
            | ((with_reducible refine gate_dst (N := 3) rfl ?_); refine bx ?hg (N := 3) ?hd (cs := #[.int .i64 (0), .string (⟨#[]⟩ : ByteArray), .int .i64 (0), .int .i64 (0)]) (t := 28) ?hr B ?_; (case hd => rfl); (case hg => rfl); (case hr => first | (go_simp; done) | (go_simp; rfl)); intro g3 w702 hb B F3 L3 E3; have N2_3 := ne1 E3 F2; replace F2 := bn F2 hb; obtain ⟨c3_0, c3_1, c3_2, c3_3⟩ := cs4 F3; ((try clear q0); (try clear q1); (try clear q2); (try clear q3); have q0 := strat0 HR0 B (by omega); have q1 := strat HR0 B 1 (by decide) (by omega)); clear hb E3)
            | ((with_reducible refine gate_store (t := 9) (p := 10) rfl ?_); obtain ⟨y0, y1, y2, y3⟩ := cs4 F3; have z0 := fz F3 0; have z1 := fz F3 1; have z2 := fz F3 2; have z3 := fz F3 3; refine sx (t := 28) (t' := 9) (p := 10) (v := ?vo703) ?hg ?ho ?hn 1 [.string (elB W 1)] [.int .i64 (0), .string (elB W 1), .int .i64 (0), .int .i64 (0)] ?hr B F3 L3 rfl (Nat.le_of_ble_eq_true rfl) ?_; (case ho => rfl); (case hg => rfl); (case hn => rfl); (case hr => first | (go_simp; done) | (go_simp; rfl)); intro w703 hk B G; replace F2 := bk F2 hk N2_3.out; replace F3 := G; clear c3_0 c3_1 c3_2 c3_3; obtain ⟨c3_0, c3_1, c3_2, c3_3⟩ := cs4 F3; ((try clear q0); (try clear q1); (try clear q2); (try clear q3); have q0 := strat0 HR0 B (by omega); have q1 := strat HR0 B 1 (by decide) (by omega)); clear hk y0 z0 y1 z1 y2 z2 y3 z3)
            | ((with_reducible refine gate_store (t := 3) (p := 48) rfl ?_); obtain ⟨y0, y1, y2, y3⟩ := cs4 F3; have z0 := fz F3 0; have z1 := fz F3 1; have z2 := fz F3 2; have z3 := fz F3 3; refine sx (t := 28) (t' := 3) (p := 48) (v := ?vo704) ?hg ?ho ?hn 0 [.int .i64 (3)] [.int .i64 (3), .string (elB W 1), .int .i64 (0), .int .i64 (0)] ?hr B F3 L3 rfl (Nat.le_of_ble_eq_true rfl) ?_; (case ho => rfl); (case hg => rfl); (case hn => rfl); (case hr => first | (go_simp; done) | (go_simp; rfl)); intro w704 hk B G; replace F2 := bk F2 hk N2_3.out; replace F3 := G; clear c3_0 c3_1 c3_2 c3_3; obtain ⟨c3_0, c3_1, c3_2, c3_3⟩ := cs4 F3; ((try clear q0); (try clear q1); (try clear q2); (try clear q3); have q0 := strat0 HR0 B (by omega); have q1 := strat HR0 B 1 (by decide) (by omega)); clear hk y0 z0 y1 z1 y2 z2 y3 z3)
            | ((with_reducible refine gate_store (t := 28) (p := 2) rfl ?_); obtain ⟨y0, y1, y2, y3⟩ := cs4 F2; have z0 := fz F2 0; have z1 := fz F2 1; have z2 := fz F2 2; have z3 := fz F2 3; refine sx (t := 28) (t' := 28) (p := 2) (v := ?vo705) ?hg ?ho ?hn 0 [.int .i64 (3), .string (elB W 1), .int .i64 (0), .int .i64 (0)] [.int .i64 (3), .string (elB W 1), .int .i64 (0), .int .i64 (0)] ?hr B F2 L2 rfl (Nat.le_of_ble_eq_true rfl) ?_; (case ho => rfl); (case hg => rfl); (case hn => rfl); (case hr => first | (go_simp; done) | (go_simp; rfl)); intro w705 hk B G; replace F3 := bk F3 hk N2_3.out.symm; replace F2 := G; clear hk y0 z0 y1 z1 y2 z2 y3 z3))
          refine bodyPost_ret (results_single rfl (.cell g2 28 _ (0, 0) _ rfl F2.out hu rfl (by kernel_rfl) .nil)) rfl ?_
          subst hM
          exact ⟨rfl, B.out⟩
        · by_cases hn1 : W.length = 1
          · skip
            have d1 : decide (1 < (W.length : Int)) = false := decide_eq_false (by omega)
            have e2 : ((W.length : Int) == 2) = false := by exact beq_eq_false_iff_ne.mpr (by omega)
            have hM : r = (0, (⟨#[]⟩ : ByteArray), 0, 0) := by rw [← hr]; unfold cOf keyOf; rw [if_neg h0, if_neg h1, if_pos h2, if_neg hn, if_neg (by omega)]
            clear hr h0 h1 h2
            have q0 := strat0 HR0 B (by omega)
            go_enter Tryd.func36, Tryd.ntmps36
            go_wp2_with (first
              | ((with_reducible refine gate_dst (N := 2) rfl ?_); refine bx ?hg (N := 2) ?hd (cs := #[.int .i64 (0), .string (⟨#[]⟩ : ByteArray), .int .i64 (0), .int .i64 (0)]) (t := 28) ?hr B ?_; (case hd => rfl); (case hg => rfl); (case hr => first | (go_simp; done) | (go_simp; rfl)); intro g2 w801 hb B F2 L2 E2; ((try clear q0); (try clear q1); (try clear q2); (try clear q3); have q0 := strat0 HR0 B (by omega)); clear hb E2)
              | ((with_reducible refine gate_dst (N := 3) rfl ?_); refine bx ?hg (N := 3) ?hd (cs := #[.int .i64 (0), .string (⟨#[]⟩ : ByteArray), .int .i64 (0), .int .i64 (0)]) (t := 28) ?hr B ?_; (case hd => rfl); (case hg => rfl); (case hr => first | (go_simp; done) | (go_simp; rfl)); intro g3 w802 hb B F3 L3 E3; have N2_3 := ne1 E3 F2; replace F2 := bn F2 hb; obtain ⟨c3_0, c3_1, c3_2, c3_3⟩ := cs4 F3; ((try clear q0); (try clear q1); (try clear q2); (try clear q3); have q0 := strat0 HR0 B (by omega)); clear hb E3)
              | ((with_reducible refine gate_store (t := 28) (p := 2) rfl ?_); obtain ⟨y0, y1, y2, y3⟩ := cs4 F2; have z0 := fz F2 0; have z1 := fz F2 1; have z2 := fz F2 2; have z3 := fz F2 3; refine sx (t := 28) (t' := 28) (p := 2) (v := ?vo803) ?hg ?ho ?hn 0 [.int .i64 (0), .string (⟨#[]⟩ : ByteArray), .int .i64 (0), .int .i64 (0)] [.int .i64 (0), .string (⟨#[]⟩ : ByteArray), .int .i64 (0), .int .i64 (0)] ?hr B F2 L2 rfl (Nat.le_of_ble_eq_true rfl) ?_; (case ho => rfl); (case hg => rfl); (case hn => rfl); (case hr => first | (go_simp; done) | (go_simp; rfl)); intro w803 hk B G; replace F3 := bk F3 hk N2_3.out.symm; replace F2 := G; clear hk y0 z0 y1 z1 y2 z2 y3 z3))
            refine bodyPost_ret (results_single rfl (.cell g2 28 _ (0, 0) _ rfl F2.out hu rfl (by kernel_rfl) .nil)) rfl ?_
            subst hM
            exact ⟨rfl, B.out⟩
          · skip
            have d1 : decide (1 < (W.length : Int)) = true := decide_eq_true (by omega)
            have e2 : ((W.length : Int) == 2) = false := by exact beq_eq_false_iff_ne.mpr (by omega)
            have hM : r = (0, elB W 1, 0, 0) := by rw [← hr]; unfold cOf keyOf; rw [if_neg h0, if_neg h1, if_pos h2, if_neg hn, if_pos (by omega)]
            clear hr h0 h1 h2
            have q0 := strat0 HR0 B (by omega)
            have q1 := strat HR0 B 1 (by decide) (by omega)
            go_enter Tryd.func36, Tryd.ntmps36
            go_wp2_with (first
              | ((with_reducible refine gate_dst (N := 2) rfl ?_); refine bx ?hg (N := 2) ?hd (cs := #[.int .i64 (0), .string (⟨#[]⟩ : ByteArray), .int .i64 (0), .int .i64 (0)]) (t := 28) ?hr B ?_; (case hd => rfl); (case hg => rfl); (case hr => first | (go_simp; done) | (go_simp; rfl)); intro g2 w901 hb B F2 L2 E2; ((try clear q0); (try clear q1); (try clear q2); (try clear q3); have q0 := strat0 HR0 B (by omega); have q1 := strat HR0 B 1 (by decide) (by omega)); clear hb E2)
              | ((with_reducible refine gate_dst (N := 3) rfl ?_); refine bx ?hg (N := 3) ?hd (cs := #[.int .i64 (0), .string (⟨#[]⟩ : ByteArray), .int .i64 (0), .int .i64 (0)]) (t := 28) ?hr B ?_; (case hd => rfl); (case hg => rfl); (case hr => first | (go_simp; done) | (go_simp; rfl)); intro g3 w902 hb B F3 L3 E3; have N2_3 := ne1 E3 F2; replace F2 := bn F2 hb; obtain ⟨c3_0, c3_1, c3_2, c3_3⟩ := cs4 F3; ((try clear q0); (try clear q1); (try clear q2); (try clear q3); have q0 := strat0 HR0 B (by omega); have q1 := strat HR0 B 1 (by decide) (by omega)); clear hb E3)
              | ((with_reducible refine gate_store (t := 9) (p := 10) rfl ?_); obtain ⟨y0, y1, y2, y3⟩ := cs4 F3; have z0 := fz F3 0; have z1 := fz F3 1; have z2 := fz F3 2; have z3 := fz F3 3; refine sx (t := 28) (t' := 9) (p := 10) (v := ?vo903) ?hg ?ho ?hn 1 [.string (elB W 1)] [.int .i64 (0), .string (elB W 1), .int .i64 (0), .int .i64 (0)] ?hr B F3 L3 rfl (Nat.le_of_ble_eq_true rfl) ?_; (case ho => rfl); (case hg => rfl); (case hn => rfl); (case hr => first | (go_simp; done) | (go_simp; rfl)); intro w903 hk B G; replace F2 := bk F2 hk N2_3.out; replace F3 := G; clear c3_0 c3_1 c3_2 c3_3; obtain ⟨c3_0, c3_1, c3_2, c3_3⟩ := cs4 F3; ((try clear q0); (try clear q1); (try clear q2); (try clear q3); have q0 := strat0 HR0 B (by omega); have q1 := strat HR0 B 1 (by decide) (by omega)); clear hk y0 z0 y1 z1 y2 z2 y3 z3)
              | ((with_reducible refine gate_store (t := 28) (p := 2) rfl ?_); obtain ⟨y0, y1, y2, y3⟩ := cs4 F2; have z0 := fz F2 0; have z1 := fz F2 1; have z2 := fz F2 2; have z3 := fz F2 3; refine sx (t := 28) (t' := 28) (p := 2) (v := ?vo904) ?hg ?ho ?hn 0 [.int .i64 (0), .string (elB W 1), .int .i64 (0), .int .i64 (0)] [.int .i64 (0), .string (elB W 1), .int .i64 (0), .int .i64 (0)] ?hr B F2 L2 rfl (Nat.le_of_ble_eq_true rfl) ?_; (case ho => rfl); (case hg => rfl); (case hn => rfl); (case hr => first | (go_simp; done) | (go_simp; rfl)); intro w904 hk B G; replace F3 := bk F3 hk N2_3.out.symm; replace F2 := G; clear hk y0 z0 y1 z1 y2 z2 y3 z3))
            refine bodyPost_ret (results_single rfl (.cell g2 28 _ (0, 0) _ rfl F2.out hu rfl (by kernel_rfl) .nil)) rfl ?_
            subst hM
            exact ⟨rfl, B.out⟩
      · skip
        by_cases h3 : elB W 0 = w_swap
        · have hw : (elB W 0).toList = [115, 119, 97, 112] := by rw [h3, ba_toList]; rfl
          by_cases hn : W.length = 4
          · skip
            have d1 : decide (1 < (W.length : Int)) = true := decide_eq_true (by omega)
            have e4 : ((W.length : Int) == 4) = true := by rw [hn]; rfl
            have z2 : (elB W 2).size ≤ 64 := zs 2 (by omega)
            have z3 : (elB W 3).size ≤ 64 := zs 3 (by omega)
            have hM : r = (4, elB W 1, numM (elB W 3), numM (elB W 2)) := by rw [← hr]; unfold cOf keyOf; rw [if_neg h0, if_neg h1, if_neg h2, if_pos h3, if_pos hn, if_pos (by omega)]
            clear hr h0 h1 h2 h3
            have q0 := strat0 HR0 B (by omega)
            have q1 := strat HR0 B 1 (by decide) (by omega)
            have q2 := strat HR0 B 2 (by decide) (by omega)
            have q3 := strat HR0 B 3 (by decide) (by omega)
            go_enter Tryd.func36, Tryd.ntmps36
            go_wp2_with (first
              | ((with_reducible refine gate_dst (N := 2) rfl ?_); refine bx ?hg (N := 2) ?hd (cs := #[.int .i64 (0), .string (⟨#[]⟩ : ByteArray), .int .i64 (0), .int .i64 (0)]) (t := 28) ?hr B ?_; (case hd => rfl); (case hg => rfl); (case hr => first | (go_simp; done) | (go_simp; rfl)); intro g2 w1001 hb B F2 L2 E2; ((try clear q0); (try clear q1); (try clear q2); (try clear q3); have q0 := strat0 HR0 B (by omega); have q1 := strat HR0 B 1 (by decide) (by omega); have q2 := strat HR0 B 2 (by decide) (by omega); have q3 := strat HR0 B 3 (by decide) (by omega)); clear hb E2)
              | ((with_reducible refine gate_dst (N := 3) rfl ?_); refine bx ?hg (N := 3) ?hd (cs := #[.int .i64 (0), .string (⟨#[]⟩ : ByteArray), .int .i64 (0), .int .i64 (0)]) (t := 28) ?hr B ?_; (case hd => rfl); (case hg => rfl); (case hr => first | (go_simp; done) | (go_simp; rfl)); intro g3 w1002 hb B F3 L3 E3; have N2_3 := ne1 E3 F2; replace F2 := bn F2 hb; obtain ⟨c3_0, c3_1, c3_2, c3_3⟩ := cs4 F3; ((try clear q0); (try clear q1); (try clear q2); (try clear q3); have q0 := strat0 HR0 B (by omega); have q1 := strat HR0 B 1 (by decide) (by omega); have q2 := strat HR0 B 2 (by decide) (by omega); have q3 := strat HR0 B 3 (by decide) (by omega)); clear hb E3)
              | ((with_reducible refine gate_store (t := 9) (p := 10) rfl ?_); obtain ⟨y0, y1, y2, y3⟩ := cs4 F3; have z0 := fz F3 0; have z1 := fz F3 1; have z2 := fz F3 2; have z3 := fz F3 3; refine sx (t := 28) (t' := 9) (p := 10) (v := ?vo1003) ?hg ?ho ?hn 1 [.string (elB W 1)] [.int .i64 (0), .string (elB W 1), .int .i64 (0), .int .i64 (0)] ?hr B F3 L3 rfl (Nat.le_of_ble_eq_true rfl) ?_; (case ho => rfl); (case hg => rfl); (case hn => rfl); (case hr => first | (go_simp; done) | (go_simp; rfl)); intro w1003 hk B G; replace F2 := bk F2 hk N2_3.out; replace F3 := G; clear c3_0 c3_1 c3_2 c3_3; obtain ⟨c3_0, c3_1, c3_2, c3_3⟩ := cs4 F3; ((try clear q0); (try clear q1); (try clear q2); (try clear q3); have q0 := strat0 HR0 B (by omega); have q1 := strat HR0 B 1 (by decide) (by omega); have q2 := strat HR0 B 2 (by decide) (by omega); have q3 := strat HR0 B 3 (by decide) (by omega)); clear hk y0 z0 y1 z1 y2 z2 y3 z3)
              | ((with_reducible refine gate_store (t := 3) (p := 59) rfl ?_); obtain ⟨y0, y1, y2, y3⟩ := cs4 F3; have z0 := fz F3 0; have z1 := fz F3 1; have z2 := fz F3 2; have z3 := fz F3 3; refine sx (t := 28) (t' := 3) (p := 59) (v := ?vo1004) ?hg ?ho ?hn 0 [.int .i64 (4)] [.int .i64 (4), .string (elB W 1), .int .i64 (0), .int .i64 (0)] ?hr B F3 L3 rfl (Nat.le_of_ble_eq_true rfl) ?_; (case ho => rfl); (case hg => rfl); (case hn => rfl); (case hr => first | (go_simp; done) | (go_simp; rfl)); intro w1004 hk B G; replace F2 := bk F2 hk N2_3.out; replace F3 := G; clear c3_0 c3_1 c3_2 c3_3; obtain ⟨c3_0, c3_1, c3_2, c3_3⟩ := cs4 F3; ((try clear q0); (try clear q1); (try clear q2); (try clear q3); have q0 := strat0 HR0 B (by omega); have q1 := strat HR0 B 1 (by decide) (by omega); have q2 := strat HR0 B 2 (by decide) (by omega); have q3 := strat HR0 B 3 (by decide) (by omega)); clear hk y0 z0 y1 z1 y2 z2 y3 z3)
              | (go_at_call 34; with_reducible refine cl (impl_numberOf.M (elB W 2) w _ HT B (by omega)) B fun w1005 hb B => ?_; replace F2 := bn F2 hb; replace F3 := bn F3 hb; clear c3_0 c3_1 c3_2 c3_3; obtain ⟨c3_0, c3_1, c3_2, c3_3⟩ := cs4 F3; ((try clear q0); (try clear q1); (try clear q2); (try clear q3); have q0 := strat0 HR0 B (by omega); have q1 := strat HR0 B 1 (by decide) (by omega); have q2 := strat HR0 B 2 (by decide) (by omega); have q3 := strat HR0 B 3 (by decide) (by omega)); clear hb)
              | ((with_reducible refine gate_store (t := 3) (p := 64) rfl ?_); obtain ⟨y0, y1, y2, y3⟩ := cs4 F3; have z0 := fz F3 0; have z1 := fz F3 1; have z2 := fz F3 2; have z3 := fz F3 3; refine sx (t := 28) (t' := 3) (p := 64) (v := ?vo1006) ?hg ?ho ?hn 3 [.int .i64 ((numM (elB W 2)))] [.int .i64 (4), .string (elB W 1), .int .i64 (0), .int .i64 ((numM (elB W 2)))] ?hr B F3 L3 rfl (Nat.le_of_ble_eq_true rfl) ?_; (case ho => rfl); (case hg => rfl); (case hn => rfl); (case hr => first | (go_simp; done) | (go_simp; rfl)); intro w1006 hk B G; replace F2 := bk F2 hk N2_3.out; replace F3 := G; clear c3_0 c3_1 c3_2 c3_3; obtain ⟨c3_0, c3_1, c3_2, c3_3⟩ := cs4 F3; ((try clear q0); (try clear q1); (try clear q2); (try clear q3); have q0 := strat0 HR0 B (by omega); have q1 := strat HR0 B 1 (by decide) (by omega); have q2 := strat HR0 B 2 (by decide) (by omega); have q3 := strat HR0 B 3 (by decide) (by omega)); clear hk y0 z0 y1 z1 y2 z2 y3 z3)
              | (go_at_call 34; with_reducible refine cl (impl_numberOf.M (elB W 3) w _ HT B (by omega)) B fun w1007 hb B => ?_; replace F2 := bn F2 hb; replace F3 := bn F3 hb; clear c3_0 c3_1 c3_2 c3_3; obtain ⟨c3_0, c3_1, c3_2, c3_3⟩ := cs4 F3; ((try clear q0); (try clear q1); (try clear q2); (try clear q3); have q0 := strat0 HR0 B (by omega); have q1 := strat HR0 B 1 (by decide) (by omega); have q2 := strat HR0 B 2 (by decide) (by omega); have q3 := strat HR0 B 3 (by decide) (by omega)); clear hb)
              | ((with_reducible refine gate_store (t := 3) (p := 69) rfl ?_); obtain ⟨y0, y1, y2, y3⟩ := cs4 F3; have z0 := fz F3 0; have z1 := fz F3 1; have z2 := fz F3 2; have z3 := fz F3 3; refine sx (t := 28) (t' := 3) (p := 69) (v := ?vo1008) ?hg ?ho ?hn 2 [.int .i64 ((numM (elB W 3)))] [.int .i64 (4), .string (elB W 1), .int .i64 ((numM (elB W 3))), .int .i64 ((numM (elB W 2)))] ?hr B F3 L3 rfl (Nat.le_of_ble_eq_true rfl) ?_; (case ho => rfl); (case hg => rfl); (case hn => rfl); (case hr => first | (go_simp; done) | (go_simp; rfl)); intro w1008 hk B G; replace F2 := bk F2 hk N2_3.out; replace F3 := G; clear c3_0 c3_1 c3_2 c3_3; obtain ⟨c3_0, c3_1, c3_2, c3_3⟩ := cs4 F3; ((try clear q0); (try clear q1); (try clear q2); (try clear q3); have q0 := strat0 HR0 B (by omega); have q1 := strat HR0 B 1 (by decide) (by omega); have q2 := strat HR0 B 2 (by decide) (by omega); have q3 := strat HR0 B 3 (by decide) (by omega)); clear hk y0 z0 y1 z1 y2 z2 y3 z3)
              | ((with_reducible refine gate_store (t := 28) (p := 2) rfl ?_); obtain ⟨y0, y1, y2, y3⟩ := cs4 F2; have z0 := fz F2 0; have z1 := fz F2 1; have z2 := fz F2 2; have z3 := fz F2 3; refine sx (t := 28) (t' := 28) (p := 2) (v := ?vo1009) ?hg ?ho ?hn 0 [.int .i64 (4), .string (elB W 1), .int .i64 ((numM (elB W 3))), .int .i64 ((numM (elB W 2)))] [.int .i64 (4), .string (elB W 1), .int .i64 ((numM (elB W 3))), .int .i64 ((numM (elB W 2)))] ?hr B F2 L2 rfl (Nat.le_of_ble_eq_true rfl) ?_; (case ho => rfl); (case hg => rfl); (case hn => rfl); (case hr => first | (go_simp; done) | (go_simp; rfl)); intro w1009 hk B G; replace F3 := bk F3 hk N2_3.out.symm; replace F2 := G; clear hk y0 z0 y1 z1 y2 z2 y3 z3))
            refine bodyPost_ret (results_single rfl (.cell g2 28 _ (0, 0) _ rfl F2.out hu rfl (by kernel_rfl) .nil)) rfl ?_
            subst hM
            exact ⟨rfl, B.out⟩
          · by_cases hn1 : W.length = 1
            · skip
              have d1 : decide (1 < (W.length : Int)) = false := decide_eq_false (by omega)
              have e4 : ((W.length : Int) == 4) = false := by exact beq_eq_false_iff_ne.mpr (by omega)
              have hM : r = (0, (⟨#[]⟩ : ByteArray), 0, 0) := by rw [← hr]; unfold cOf keyOf; rw [if_neg h0, if_neg h1, if_neg h2, if_pos h3, if_neg hn, if_neg (by omega)]
              clear hr h0 h1 h2 h3
              have q0 := strat0 HR0 B (by omega)
              go_enter Tryd.func36, Tryd.ntmps36
              go_wp2_with (first
                | ((with_reducible refine gate_dst (N := 2) rfl ?_); refine bx ?hg (N := 2) ?hd (cs := #[.int .i64 (0), .string (⟨#[]⟩ : ByteArray), .int .i64 (0), .int .i64 (0)]) (t := 28) ?hr B ?_; (case hd => rfl); (case hg => rfl); (case hr => first | (go_simp; done) | (go_simp; rfl)); intro g2 w1101 hb B F2 L2 E2; ((try clear q0); (try clear q1); (try clear q2); (try clear q3); have q0 := strat0 HR0 B (by omega)); clear hb E2)
                | ((with_reducible refine gate_dst (N := 3) rfl ?_); refine bx ?hg (N := 3) ?hd (cs := #[.int .i64 (0), .string (⟨#[]⟩ : ByteArray), .int .i64 (0), .int .i64 (0)]) (t := 28) ?hr B ?_; (case hd => rfl); (case hg => rfl); (case hr => first | (go_simp; done) | (go_simp; rfl)); intro g3 w1102 hb B F3 L3 E3; have N2_3 := ne1 E3 F2; replace F2 := bn F2 hb; obtain ⟨c3_0, c3_1, c3_2, c3_3⟩ := cs4 F3; ((try clear q0); (try clear q1); (try clear q2); (try clear q3); have q0 := strat0 HR0 B (by omega)); clear hb E3)
                | ((with_reducible refine gate_store (t := 28) (p := 2) rfl ?_); obtain ⟨y0, y1, y2, y3⟩ := cs4 F2; have z0 := fz F2 0; have z1 := fz F2 1; have z2 := fz F2 2; have z3 := fz F2 3; refine sx (t := 28) (t' := 28) (p := 2) (v := ?vo1103) ?hg ?ho ?hn 0 [.int .i64 (0), .string (⟨#[]⟩ : ByteArray), .int .i64 (0), .int .i64 (0)] [.int .i64 (0), .string (⟨#[]⟩ : ByteArray), .int .i64 (0), .int .i64 (0)] ?hr B F2 L2 rfl (Nat.le_of_ble_eq_true rfl) ?_; (case ho => rfl); (case hg => rfl); (case hn => rfl); (case hr => first | (go_simp; done) | (go_simp; rfl)); intro w1103 hk B G; replace F3 := bk F3 hk N2_3.out.symm; replace F2 := G; clear hk y0 z0 y1 z1 y2 z2 y3 z3))
              refine bodyPost_ret (results_single rfl (.cell g2 28 _ (0, 0) _ rfl F2.out hu rfl (by kernel_rfl) .nil)) rfl ?_
              subst hM
              exact ⟨rfl, B.out⟩
            · skip
              have d1 : decide (1 < (W.length : Int)) = true := decide_eq_true (by omega)
              have e4 : ((W.length : Int) == 4) = false := by exact beq_eq_false_iff_ne.mpr (by omega)
              have hM : r = (0, elB W 1, 0, 0) := by rw [← hr]; unfold cOf keyOf; rw [if_neg h0, if_neg h1, if_neg h2, if_pos h3, if_neg hn, if_pos (by omega)]
              clear hr h0 h1 h2 h3
              have q0 := strat0 HR0 B (by omega)
              have q1 := strat HR0 B 1 (by decide) (by omega)
              go_enter Tryd.func36, Tryd.ntmps36
              go_wp2_with (first
                | ((with_reducible refine gate_dst (N := 2) rfl ?_); refine bx ?hg (N := 2) ?hd (cs := #[.int .i64 (0), .string (⟨#[]⟩ : ByteArray), .int .i64 (0), .int .i64 (0)]) (t := 28) ?hr B ?_; (case hd => rfl); (case hg => rfl); (case hr => first | (go_simp; done) | (go_simp; rfl)); intro g2 w1201 hb B F2 L2 E2; ((try clear q0); (try clear q1); (try clear q2); (try clear q3); have q0 := strat0 HR0 B (by omega); have q1 := strat HR0 B 1 (by decide) (by omega)); clear hb E2)
                | ((with_reducible refine gate_dst (N := 3) rfl ?_); refine bx ?hg (N := 3) ?hd (cs := #[.int .i64 (0), .string (⟨#[]⟩ : ByteArray), .int .i64 (0), .int .i64 (0)]) (t := 28) ?hr B ?_; (case hd => rfl); (case hg => rfl); (case hr => first | (go_simp; done) | (go_simp; rfl)); intro g3 w1202 hb B F3 L3 E3; have N2_3 := ne1 E3 F2; replace F2 := bn F2 hb; obtain ⟨c3_0, c3_1, c3_2, c3_3⟩ := cs4 F3; ((try clear q0); (try clear q1); (try clear q2); (try clear q3); have q0 := strat0 HR0 B (by omega); have q1 := strat HR0 B 1 (by decide) (by omega)); clear hb E3)
                | ((with_reducible refine gate_store (t := 9) (p := 10) rfl ?_); obtain ⟨y0, y1, y2, y3⟩ := cs4 F3; have z0 := fz F3 0; have z1 := fz F3 1; have z2 := fz F3 2; have z3 := fz F3 3; refine sx (t := 28) (t' := 9) (p := 10) (v := ?vo1203) ?hg ?ho ?hn 1 [.string (elB W 1)] [.int .i64 (0), .string (elB W 1), .int .i64 (0), .int .i64 (0)] ?hr B F3 L3 rfl (Nat.le_of_ble_eq_true rfl) ?_; (case ho => rfl); (case hg => rfl); (case hn => rfl); (case hr => first | (go_simp; done) | (go_simp; rfl)); intro w1203 hk B G; replace F2 := bk F2 hk N2_3.out; replace F3 := G; clear c3_0 c3_1 c3_2 c3_3; obtain ⟨c3_0, c3_1, c3_2, c3_3⟩ := cs4 F3; ((try clear q0); (try clear q1); (try clear q2); (try clear q3); have q0 := strat0 HR0 B (by omega); have q1 := strat HR0 B 1 (by decide) (by omega)); clear hk y0 z0 y1 z1 y2 z2 y3 z3)
                | ((with_reducible refine gate_store (t := 28) (p := 2) rfl ?_); obtain ⟨y0, y1, y2, y3⟩ := cs4 F2; have z0 := fz F2 0; have z1 := fz F2 1; have z2 := fz F2 2; have z3 := fz F2 3; refine sx (t := 28) (t' := 28) (p := 2) (v := ?vo1204) ?hg ?ho ?hn 0 [.int .i64 (0), .string (elB W 1), .int .i64 (0), .int .i64 (0)] [.int .i64 (0), .string (elB W 1), .int .i64 (0), .int .i64 (0)] ?hr B F2 L2 rfl (Nat.le_of_ble_eq_true rfl) ?_; (case ho => rfl); (case hg => rfl); (case hn => rfl); (case hr => first | (go_simp; done) | (go_simp; rfl)); intro w1204 hk B G; replace F3 := bk F3 hk N2_3.out.symm; replace F2 := G; clear hk y0 z0 y1 z1 y2 z2 y3 z3))
              refine bodyPost_ret (results_single rfl (.cell g2 28 _ (0, 0) _ rfl F2.out hu rfl (by kernel_rfl) .nil)) rfl ?_
              subst hM
              exact ⟨rfl, B.out⟩
        · skip
          by_cases h4 : elB W 0 = w_seal
          · have hw : (elB W 0).toList = [115, 101, 97, 108] := by rw [h4, ba_toList]; rfl
            by_cases hn1 : W.length = 1
            · skip
              have d1 : decide (1 < (W.length : Int)) = false := decide_eq_false (by omega)
              have l2 : decide ((W.length : Int) ≤ 2) = true := decide_eq_true (by omega)
              have hM : r = (5, (⟨#[]⟩ : ByteArray), 0, 0) := by rw [← hr]; unfold cOf keyOf; rw [if_neg h0, if_neg h1, if_neg h2, if_neg h3, if_pos h4, if_pos (by omega), if_neg (by omega)]
              clear hr h0 h1 h2 h3 h4
              have q0 := strat0 HR0 B (by omega)
              go_enter Tryd.func36, Tryd.ntmps36
              go_wp2_with (first
                | ((with_reducible refine gate_dst (N := 2) rfl ?_); refine bx ?hg (N := 2) ?hd (cs := #[.int .i64 (0), .string (⟨#[]⟩ : ByteArray), .int .i64 (0), .int .i64 (0)]) (t := 28) ?hr B ?_; (case hd => rfl); (case hg => rfl); (case hr => first | (go_simp; done) | (go_simp; rfl)); intro g2 w1301 hb B F2 L2 E2; ((try clear q0); (try clear q1); (try clear q2); (try clear q3); have q0 := strat0 HR0 B (by omega)); clear hb E2)
                | ((with_reducible refine gate_dst (N := 3) rfl ?_); refine bx ?hg (N := 3) ?hd (cs := #[.int .i64 (0), .string (⟨#[]⟩ : ByteArray), .int .i64 (0), .int .i64 (0)]) (t := 28) ?hr B ?_; (case hd => rfl); (case hg => rfl); (case hr => first | (go_simp; done) | (go_simp; rfl)); intro g3 w1302 hb B F3 L3 E3; have N2_3 := ne1 E3 F2; replace F2 := bn F2 hb; obtain ⟨c3_0, c3_1, c3_2, c3_3⟩ := cs4 F3; ((try clear q0); (try clear q1); (try clear q2); (try clear q3); have q0 := strat0 HR0 B (by omega)); clear hb E3)
                | ((with_reducible refine gate_store (t := 3) (p := 80) rfl ?_); obtain ⟨y0, y1, y2, y3⟩ := cs4 F3; have z0 := fz F3 0; have z1 := fz F3 1; have z2 := fz F3 2; have z3 := fz F3 3; refine sx (t := 28) (t' := 3) (p := 80) (v := ?vo1303) ?hg ?ho ?hn 0 [.int .i64 (5)] [.int .i64 (5), .string (⟨#[]⟩ : ByteArray), .int .i64 (0), .int .i64 (0)] ?hr B F3 L3 rfl (Nat.le_of_ble_eq_true rfl) ?_; (case ho => rfl); (case hg => rfl); (case hn => rfl); (case hr => first | (go_simp; done) | (go_simp; rfl)); intro w1303 hk B G; replace F2 := bk F2 hk N2_3.out; replace F3 := G; clear c3_0 c3_1 c3_2 c3_3; obtain ⟨c3_0, c3_1, c3_2, c3_3⟩ := cs4 F3; ((try clear q0); (try clear q1); (try clear q2); (try clear q3); have q0 := strat0 HR0 B (by omega)); clear hk y0 z0 y1 z1 y2 z2 y3 z3)
                | ((with_reducible refine gate_store (t := 28) (p := 2) rfl ?_); obtain ⟨y0, y1, y2, y3⟩ := cs4 F2; have z0 := fz F2 0; have z1 := fz F2 1; have z2 := fz F2 2; have z3 := fz F2 3; refine sx (t := 28) (t' := 28) (p := 2) (v := ?vo1304) ?hg ?ho ?hn 0 [.int .i64 (5), .string (⟨#[]⟩ : ByteArray), .int .i64 (0), .int .i64 (0)] [.int .i64 (5), .string (⟨#[]⟩ : ByteArray), .int .i64 (0), .int .i64 (0)] ?hr B F2 L2 rfl (Nat.le_of_ble_eq_true rfl) ?_; (case ho => rfl); (case hg => rfl); (case hn => rfl); (case hr => first | (go_simp; done) | (go_simp; rfl)); intro w1304 hk B G; replace F3 := bk F3 hk N2_3.out.symm; replace F2 := G; clear hk y0 z0 y1 z1 y2 z2 y3 z3))
              refine bodyPost_ret (results_single rfl (.cell g2 28 _ (0, 0) _ rfl F2.out hu rfl (by kernel_rfl) .nil)) rfl ?_
              subst hM
              exact ⟨rfl, B.out⟩
            · by_cases hn : W.length = 2
              · skip
                have d1 : decide (1 < (W.length : Int)) = true := decide_eq_true (by omega)
                have l2 : decide ((W.length : Int) ≤ 2) = true := decide_eq_true (by omega)
                have hM : r = (5, elB W 1, 0, 0) := by rw [← hr]; unfold cOf keyOf; rw [if_neg h0, if_neg h1, if_neg h2, if_neg h3, if_pos h4, if_pos (by omega), if_pos (by omega)]
                clear hr h0 h1 h2 h3 h4
                have q0 := strat0 HR0 B (by omega)
                have q1 := strat HR0 B 1 (by decide) (by omega)
                go_enter Tryd.func36, Tryd.ntmps36
                go_wp2_with (first
                  | ((with_reducible refine gate_dst (N := 2) rfl ?_); refine bx ?hg (N := 2) ?hd (cs := #[.int .i64 (0), .string (⟨#[]⟩ : ByteArray), .int .i64 (0), .int .i64 (0)]) (t := 28) ?hr B ?_; (case hd => rfl); (case hg => rfl); (case hr => first | (go_simp; done) | (go_simp; rfl)); intro g2 w1401 hb B F2 L2 E2; ((try clear q0); (try clear q1); (try clear q2); (try clear q3); have q0 := strat0 HR0 B (by omega); have q1 := strat HR0 B 1 (by decide) (by omega)); clear hb E2)
                  | ((with_reducible refine gate_dst (N := 3) rfl ?_); refine bx ?hg (N := 3) ?hd (cs := #[.int .i64 (0), .string (⟨#[]⟩ : ByteArray), .int .i64 (0), .int .i64 (0)]) (t := 28) ?hr B ?_; (case hd => rfl); (case hg => rfl); (case hr => first | (go_simp; done) | (go_simp; rfl)); intro g3 w1402 hb B F3 L3 E3; have N2_3 := ne1 E3 F2; replace F2 := bn F2 hb; obtain ⟨c3_0, c3_1, c3_2, c3_3⟩ := cs4 F3; ((try clear q0); (try clear q1); (try clear q2); (try clear q3); have q0 := strat0 HR0 B (by omega); have q1 := strat HR0 B 1 (by decide) (by omega)); clear hb E3)
                  | ((with_reducible refine gate_store (t := 9) (p := 10) rfl ?_); obtain ⟨y0, y1, y2, y3⟩ := cs4 F3; have z0 := fz F3 0; have z1 := fz F3 1; have z2 := fz F3 2; have z3 := fz F3 3; refine sx (t := 28) (t' := 9) (p := 10) (v := ?vo1403) ?hg ?ho ?hn 1 [.string (elB W 1)] [.int .i64 (0), .string (elB W 1), .int .i64 (0), .int .i64 (0)] ?hr B F3 L3 rfl (Nat.le_of_ble_eq_true rfl) ?_; (case ho => rfl); (case hg => rfl); (case hn => rfl); (case hr => first | (go_simp; done) | (go_simp; rfl)); intro w1403 hk B G; replace F2 := bk F2 hk N2_3.out; replace F3 := G; clear c3_0 c3_1 c3_2 c3_3; obtain ⟨c3_0, c3_1, c3_2, c3_3⟩ := cs4 F3; ((try clear q0); (try clear q1); (try clear q2); (try clear q3); have q0 := strat0 HR0 B (by omega); have q1 := strat HR0 B 1 (by decide) (by omega)); clear hk y0 z0 y1 z1 y2 z2 y3 z3)
                  | ((with_reducible refine gate_store (t := 3) (p := 80) rfl ?_); obtain ⟨y0, y1, y2, y3⟩ := cs4 F3; have z0 := fz F3 0; have z1 := fz F3 1; have z2 := fz F3 2; have z3 := fz F3 3; refine sx (t := 28) (t' := 3) (p := 80) (v := ?vo1404) ?hg ?ho ?hn 0 [.int .i64 (5)] [.int .i64 (5), .string (elB W 1), .int .i64 (0), .int .i64 (0)] ?hr B F3 L3 rfl (Nat.le_of_ble_eq_true rfl) ?_; (case ho => rfl); (case hg => rfl); (case hn => rfl); (case hr => first | (go_simp; done) | (go_simp; rfl)); intro w1404 hk B G; replace F2 := bk F2 hk N2_3.out; replace F3 := G; clear c3_0 c3_1 c3_2 c3_3; obtain ⟨c3_0, c3_1, c3_2, c3_3⟩ := cs4 F3; ((try clear q0); (try clear q1); (try clear q2); (try clear q3); have q0 := strat0 HR0 B (by omega); have q1 := strat HR0 B 1 (by decide) (by omega)); clear hk y0 z0 y1 z1 y2 z2 y3 z3)
                  | ((with_reducible refine gate_store (t := 28) (p := 2) rfl ?_); obtain ⟨y0, y1, y2, y3⟩ := cs4 F2; have z0 := fz F2 0; have z1 := fz F2 1; have z2 := fz F2 2; have z3 := fz F2 3; refine sx (t := 28) (t' := 28) (p := 2) (v := ?vo1405) ?hg ?ho ?hn 0 [.int .i64 (5), .string (elB W 1), .int .i64 (0), .int .i64 (0)] [.int .i64 (5), .string (elB W 1), .int .i64 (0), .int .i64 (0)] ?hr B F2 L2 rfl (Nat.le_of_ble_eq_true rfl) ?_; (case ho => rfl); (case hg => rfl); (case hn => rfl); (case hr => first | (go_simp; done) | (go_simp; rfl)); intro w1405 hk B G; replace F3 := bk F3 hk N2_3.out.symm; replace F2 := G; clear hk y0 z0 y1 z1 y2 z2 y3 z3))
                refine bodyPost_ret (results_single rfl (.cell g2 28 _ (0, 0) _ rfl F2.out hu rfl (by kernel_rfl) .nil)) rfl ?_
                subst hM
                exact ⟨rfl, B.out⟩
              · skip
                have d1 : decide (1 < (W.length : Int)) = true := decide_eq_true (by omega)
                have l2 : decide ((W.length : Int) ≤ 2) = false := decide_eq_false (by omega)
                have hM : r = (0, elB W 1, 0, 0) := by rw [← hr]; unfold cOf keyOf; rw [if_neg h0, if_neg h1, if_neg h2, if_neg h3, if_pos h4, if_neg (by omega), if_pos (by omega)]
                clear hr h0 h1 h2 h3 h4
                have q0 := strat0 HR0 B (by omega)
                have q1 := strat HR0 B 1 (by decide) (by omega)
                go_enter Tryd.func36, Tryd.ntmps36
                go_wp2_with (first
                  | ((with_reducible refine gate_dst (N := 2) rfl ?_); refine bx ?hg (N := 2) ?hd (cs := #[.int .i64 (0), .string (⟨#[]⟩ : ByteArray), .int .i64 (0), .int .i64 (0)]) (t := 28) ?hr B ?_; (case hd => rfl); (case hg => rfl); (case hr => first | (go_simp; done) | (go_simp; rfl)); intro g2 w1501 hb B F2 L2 E2; ((try clear q0); (try clear q1); (try clear q2); (try clear q3); have q0 := strat0 HR0 B (by omega); have q1 := strat HR0 B 1 (by decide) (by omega)); clear hb E2)
                  | ((with_reducible refine gate_dst (N := 3) rfl ?_); refine bx ?hg (N := 3) ?hd (cs := #[.int .i64 (0), .string (⟨#[]⟩ : ByteArray), .int .i64 (0), .int .i64 (0)]) (t := 28) ?hr B ?_; (case hd => rfl); (case hg => rfl); (case hr => first | (go_simp; done) | (go_simp; rfl)); intro g3 w1502 hb B F3 L3 E3; have N2_3 := ne1 E3 F2; replace F2 := bn F2 hb; obtain ⟨c3_0, c3_1, c3_2, c3_3⟩ := cs4 F3; ((try clear q0); (try clear q1); (try clear q2); (try clear q3); have q0 := strat0 HR0 B (by omega); have q1 := strat HR0 B 1 (by decide) (by omega)); clear hb E3)
                  | ((with_reducible refine gate_store (t := 9) (p := 10) rfl ?_); obtain ⟨y0, y1, y2, y3⟩ := cs4 F3; have z0 := fz F3 0; have z1 := fz F3 1; have z2 := fz F3 2; have z3 := fz F3 3; refine sx (t := 28) (t' := 9) (p := 10) (v := ?vo1503) ?hg ?ho ?hn 1 [.string (elB W 1)] [.int .i64 (0), .string (elB W 1), .int .i64 (0), .int .i64 (0)] ?hr B F3 L3 rfl (Nat.le_of_ble_eq_true rfl) ?_; (case ho => rfl); (case hg => rfl); (case hn => rfl); (case hr => first | (go_simp; done) | (go_simp; rfl)); intro w1503 hk B G; replace F2 := bk F2 hk N2_3.out; replace F3 := G; clear c3_0 c3_1 c3_2 c3_3; obtain ⟨c3_0, c3_1, c3_2, c3_3⟩ := cs4 F3; ((try clear q0); (try clear q1); (try clear q2); (try clear q3); have q0 := strat0 HR0 B (by omega); have q1 := strat HR0 B 1 (by decide) (by omega)); clear hk y0 z0 y1 z1 y2 z2 y3 z3)
                  | ((with_reducible refine gate_store (t := 28) (p := 2) rfl ?_); obtain ⟨y0, y1, y2, y3⟩ := cs4 F2; have z0 := fz F2 0; have z1 := fz F2 1; have z2 := fz F2 2; have z3 := fz F2 3; refine sx (t := 28) (t' := 28) (p := 2) (v := ?vo1504) ?hg ?ho ?hn 0 [.int .i64 (0), .string (elB W 1), .int .i64 (0), .int .i64 (0)] [.int .i64 (0), .string (elB W 1), .int .i64 (0), .int .i64 (0)] ?hr B F2 L2 rfl (Nat.le_of_ble_eq_true rfl) ?_; (case ho => rfl); (case hg => rfl); (case hn => rfl); (case hr => first | (go_simp; done) | (go_simp; rfl)); intro w1504 hk B G; replace F3 := bk F3 hk N2_3.out.symm; replace F2 := G; clear hk y0 z0 y1 z1 y2 z2 y3 z3))
                refine bodyPost_ret (results_single rfl (.cell g2 28 _ (0, 0) _ rfl F2.out hu rfl (by kernel_rfl) .nil)) rfl ?_
                subst hM
                exact ⟨rfl, B.out⟩
          · skip
            have b0 : ((elB W 0).toList == [103, 101, 116]) = false := by rw [show ([103, 101, 116] : List UInt8) = w_get.toList by rw [ba_toList]; rfl, str_beq, decide_eq_false h0]
            have b1 : ((elB W 0).toList == [112, 117, 116]) = false := by rw [show ([112, 117, 116] : List UInt8) = w_put.toList by rw [ba_toList]; rfl, str_beq, decide_eq_false h1]
            have b2 : ((elB W 0).toList == [100, 114, 111, 112]) = false := by rw [show ([100, 114, 111, 112] : List UInt8) = w_drop.toList by rw [ba_toList]; rfl, str_beq, decide_eq_false h2]
            have b3 : ((elB W 0).toList == [115, 119, 97, 112]) = false := by rw [show ([115, 119, 97, 112] : List UInt8) = w_swap.toList by rw [ba_toList]; rfl, str_beq, decide_eq_false h3]
            have b4 : ((elB W 0).toList == [115, 101, 97, 108]) = false := by rw [show ([115, 101, 97, 108] : List UInt8) = w_seal.toList by rw [ba_toList]; rfl, str_beq, decide_eq_false h4]
            by_cases hn1 : W.length = 1
            · skip
              have d1 : decide (1 < (W.length : Int)) = false := decide_eq_false (by omega)
              have hM : r = (0, (⟨#[]⟩ : ByteArray), 0, 0) := by rw [← hr]; unfold cOf keyOf; rw [if_neg h0, if_neg h1, if_neg h2, if_neg h3, if_neg h4, if_neg (by omega)]
              clear hr h0 h1 h2 h3 h4
              have q0 := strat0 HR0 B (by omega)
              go_enter Tryd.func36, Tryd.ntmps36
              go_wp2_with (first
                | ((with_reducible refine gate_dst (N := 2) rfl ?_); refine bx ?hg (N := 2) ?hd (cs := #[.int .i64 (0), .string (⟨#[]⟩ : ByteArray), .int .i64 (0), .int .i64 (0)]) (t := 28) ?hr B ?_; (case hd => rfl); (case hg => rfl); (case hr => first | (go_simp; done) | (go_simp; rfl)); intro g2 w1601 hb B F2 L2 E2; ((try clear q0); (try clear q1); (try clear q2); (try clear q3); have q0 := strat0 HR0 B (by omega)); clear hb E2)
                | ((with_reducible refine gate_dst (N := 3) rfl ?_); refine bx ?hg (N := 3) ?hd (cs := #[.int .i64 (0), .string (⟨#[]⟩ : ByteArray), .int .i64 (0), .int .i64 (0)]) (t := 28) ?hr B ?_; (case hd => rfl); (case hg => rfl); (case hr => first | (go_simp; done) | (go_simp; rfl)); intro g3 w1602 hb B F3 L3 E3; have N2_3 := ne1 E3 F2; replace F2 := bn F2 hb; obtain ⟨c3_0, c3_1, c3_2, c3_3⟩ := cs4 F3; ((try clear q0); (try clear q1); (try clear q2); (try clear q3); have q0 := strat0 HR0 B (by omega)); clear hb E3)
                | ((with_reducible refine gate_store (t := 28) (p := 2) rfl ?_); obtain ⟨y0, y1, y2, y3⟩ := cs4 F2; have z0 := fz F2 0; have z1 := fz F2 1; have z2 := fz F2 2; have z3 := fz F2 3; refine sx (t := 28) (t' := 28) (p := 2) (v := ?vo1603) ?hg ?ho ?hn 0 [.int .i64 (0), .string (⟨#[]⟩ : ByteArray), .int .i64 (0), .int .i64 (0)] [.int .i64 (0), .string (⟨#[]⟩ : ByteArray), .int .i64 (0), .int .i64 (0)] ?hr B F2 L2 rfl (Nat.le_of_ble_eq_true rfl) ?_; (case ho => rfl); (case hg => rfl); (case hn => rfl); (case hr => first | (go_simp; done) | (go_simp; rfl)); intro w1603 hk B G; replace F3 := bk F3 hk N2_3.out.symm; replace F2 := G; clear hk y0 z0 y1 z1 y2 z2 y3 z3))
              refine bodyPost_ret (results_single rfl (.cell g2 28 _ (0, 0) _ rfl F2.out hu rfl (by kernel_rfl) .nil)) rfl ?_
              subst hM
              exact ⟨rfl, B.out⟩
            · skip
              have d1 : decide (1 < (W.length : Int)) = true := decide_eq_true (by omega)
              have hM : r = (0, elB W 1, 0, 0) := by rw [← hr]; unfold cOf keyOf; rw [if_neg h0, if_neg h1, if_neg h2, if_neg h3, if_neg h4, if_pos (by omega)]
              clear hr h0 h1 h2 h3 h4
              have q0 := strat0 HR0 B (by omega)
              have q1 := strat HR0 B 1 (by decide) (by omega)
              go_enter Tryd.func36, Tryd.ntmps36
              go_wp2_with (first
                | ((with_reducible refine gate_dst (N := 2) rfl ?_); refine bx ?hg (N := 2) ?hd (cs := #[.int .i64 (0), .string (⟨#[]⟩ : ByteArray), .int .i64 (0), .int .i64 (0)]) (t := 28) ?hr B ?_; (case hd => rfl); (case hg => rfl); (case hr => first | (go_simp; done) | (go_simp; rfl)); intro g2 w1701 hb B F2 L2 E2; ((try clear q0); (try clear q1); (try clear q2); (try clear q3); have q0 := strat0 HR0 B (by omega); have q1 := strat HR0 B 1 (by decide) (by omega)); clear hb E2)
                | ((with_reducible refine gate_dst (N := 3) rfl ?_); refine bx ?hg (N := 3) ?hd (cs := #[.int .i64 (0), .string (⟨#[]⟩ : ByteArray), .int .i64 (0), .int .i64 (0)]) (t := 28) ?hr B ?_; (case hd => rfl); (case hg => rfl); (case hr => first | (go_simp; done) | (go_simp; rfl)); intro g3 w1702 hb B F3 L3 E3; have N2_3 := ne1 E3 F2; replace F2 := bn F2 hb; obtain ⟨c3_0, c3_1, c3_2, c3_3⟩ := cs4 F3; ((try clear q0); (try clear q1); (try clear q2); (try clear q3); have q0 := strat0 HR0 B (by omega); have q1 := strat HR0 B 1 (by decide) (by omega)); clear hb E3)
                | ((with_reducible refine gate_store (t := 9) (p := 10) rfl ?_); obtain ⟨y0, y1, y2, y3⟩ := cs4 F3; have z0 := fz F3 0; have z1 := fz F3 1; have z2 := fz F3 2; have z3 := fz F3 3; refine sx (t := 28) (t' := 9) (p := 10) (v := ?vo1703) ?hg ?ho ?hn 1 [.string (elB W 1)] [.int .i64 (0), .string (elB W 1), .int .i64 (0), .int .i64 (0)] ?hr B F3 L3 rfl (Nat.le_of_ble_eq_true rfl) ?_; (case ho => rfl); (case hg => rfl); (case hn => rfl); (case hr => first | (go_simp; done) | (go_simp; rfl)); intro w1703 hk B G; replace F2 := bk F2 hk N2_3.out; replace F3 := G; clear c3_0 c3_1 c3_2 c3_3; obtain ⟨c3_0, c3_1, c3_2, c3_3⟩ := cs4 F3; ((try clear q0); (try clear q1); (try clear q2); (try clear q3); have q0 := strat0 HR0 B (by omega); have q1 := strat HR0 B 1 (by decide) (by omega)); clear hk y0 z0 y1 z1 y2 z2 y3 z3)
                | ((with_reducible refine gate_store (t := 28) (p := 2) rfl ?_); obtain ⟨y0, y1, y2, y3⟩ := cs4 F2; have z0 := fz F2 0; have z1 := fz F2 1; have z2 := fz F2 2; have z3 := fz F2 3; refine sx (t := 28) (t' := 28) (p := 2) (v := ?vo1704) ?hg ?ho ?hn 0 [.int .i64 (0), .string (elB W 1), .int .i64 (0), .int .i64 (0)] [.int .i64 (0), .string (elB W 1), .int .i64 (0), .int .i64 (0)] ?hr B F2 L2 rfl (Nat.le_of_ble_eq_true rfl) ?_; (case ho => rfl); (case hg => rfl); (case hn => rfl); (case hr => first | (go_simp; done) | (go_simp; rfl)); intro w1704 hk B G; replace F3 := bk F3 hk N2_3.out.symm; replace F2 := G; clear hk y0 z0 y1 z1 y2 z2 y3 z3))
              refine bodyPost_ret (results_single rfl (.cell g2 28 _ (0, 0) _ rfl F2.out hu rfl (by kernel_rfl) .nil)) rfl ?_
              subst hM
              exact ⟨rfl, B.out⟩

/-! A line cut into its words. -/
def TS (w : World) : Prop := TE w ∧ ∃ m, w.cell? ⟨3, 0, none⟩ = some (.int .i64 m)
theorem ts_on {w W : World} (T : Aside0 (TS w)) (B : Aside0 (Below w.heap.size w W)) : TS W := by
  obtain ⟨h1, m, h2⟩ := T.out
  exact ⟨te_on ⟨h1⟩ B, m, (B.out.cell (cell_lt h2)).trans h2⟩
theorem ts_te {w W : World} (T : Aside0 (TS w)) (B : Aside0 (Below w.heap.size w W)) : TE W := (ts_on T B).1
theorem ts_tt {w W : World} (T : Aside0 (TS w)) (B : Aside0 (Below w.heap.size w W)) : TT W := (ts_on T B).1.1
theorem lit_row (l : List ByteArray) (w : World) (hl : l.length ≤ 9223372036854775807) : Kd.C Kd.string (w.alloc (.cells (l.map Value.string).toArray 9)) (some ⟨w.heap.size, 0, none⟩) l.length l := by
  have hb : (w.alloc (.cells (l.map Value.string).toArray 9)).heap[w.heap.size]? = some (.cells (l.map Value.string).toArray 9 (0, 0)) := by
    show (w.heap.push _)[w.heap.size]? = _
    exact Array.getElem?_push_size
  refine ⟨rfl, hl, fun _ => ⟨_, rfl, fun j p hp => ⟨[.string p], rfl, rfl, fun i u hu => ?_⟩⟩⟩
  have hi : i = 0 := by cases i with
    | zero => rfl
    | succ i => simp at hu
  subst hi
  have hu' : u = .string p := by simpa using hu.symm
  subst hu'
  have e : (Addr.add ⟨w.heap.size, 0, none⟩ (j * 1 + 0)) = ⟨w.heap.size, j, none⟩ := by
    unfold Addr.add
    by_cases hj : j = 0
    · subst hj; rfl
    · rw [if_neg (by omega)]; simp
  show World.cell? _ (Addr.add ⟨w.heap.size, 0, none⟩ (j * 1 + 0)) = _
  rw [e, blk_cell hb]
  simp [hp]
theorem sp_small : ∀ (l h : List UInt8), h ∈ sp l → h.length ≤ l.length
  | [], h, hm => by simp [sp] at hm; subst hm; simp
  | b :: r, h, hm => by
    have ih := sp_small r
    have hn := sp_ne r
    by_cases hb : b = 32
    · subst hb
      rw [sp, if_pos rfl] at hm
      rcases List.mem_cons.mp hm with rfl | hm
      · simp
      · have := ih h hm; simp only [List.length_cons]; omega
    · cases e : sp r with
      | nil => exact absurd e hn
      | cons a t =>
        rw [sp_cons hb e] at hm
        rcases List.mem_cons.mp hm with rfl | hm
        · have := ih a (by rw [e]; exact List.mem_cons_self ..); simp only [List.length_cons]; omega
        · have := ih h (by rw [e]; exact List.mem_cons_of_mem _ hm); simp only [List.length_cons]; omega
theorem words_small {s : ByteArray} (hs : s.size ≤ 64) : ∀ x ∈ wordsM s, x.size ≤ 64 := by
  intro x hx
  unfold wordsM at hx
  obtain ⟨h, hm, rfl⟩ := List.mem_map.mp hx
  have := sp_small _ h hm
  rw [data_length] at this
  show h.toArray.size ≤ 64
  simp
  omega
theorem sp_len : ∀ l : List UInt8, (sp l).length ≤ l.length + 1
  | [] => by simp [sp]
  | b :: r => by
    have ih := sp_len r
    unfold sp
    split
    · simp only [List.length_cons]; omega
    · split <;> (rename_i e; rw [e] at ih; simp only [List.length_cons, List.length_nil] at ih ⊢; omega)
theorem words_le (s : ByteArray) : (wordsM s).length ≤ s.size + 1 := by
  unfold wordsM
  rw [List.length_map]
  have := sp_len s.data.toList
  rw [data_length] at this
  exact this
theorem strings_Split.M (s : ByteArray) (w W : World) (T : Aside0 (TS w)) (B : Aside0 (Below w.heap.size w W)) (hs : s.size ≤ 64) : Calls Tryd.prog 37 #[.string s, .string (⟨#[32]⟩ : ByteArray)] W fun e w' => ∃ ad cc, e = .returned (.slice (some ad) (wordsM s).length cc) ∧ Kd.C Kd.string w' (some ad) (wordsM s).length (wordsM s) ∧ Below W.heap.size W w' := by
  obtain ⟨_, m, hm⟩ := ts_on T B
  refine (Tryd.strings_Split s (⟨#[32]⟩ : ByteArray) m W (by omega) hm (by decide)).mono ?_
  rintro e w' ⟨rfl, rfl⟩
  rw [splitB_words, words_len]
  have hl := words_le s
  exact ⟨_, _, rfl, lit_row _ _ (by omega), below_alloc (Below.refl _ _) _⟩
theorem csp {P : Program} {F : FuncId} {args : Array Value} {w W : World} {Q : Ending → World → Prop} {l : List ByteArray} (c : Calls P F args W fun e w' => ∃ ad cc, e = .returned (.slice (some ad) l.length cc) ∧ Kd.C Kd.string w' (some ad) l.length l ∧ Below W.heap.size W w') (B : Aside0 (Below w.heap.size w W))
    (h : ∀ ad cc W', Below W.heap.size W W' → Aside0 (Below w.heap.size w W') → Aside0 (Kd.C Kd.string W' (some ad) l.length l) → Q (.returned (.slice (some ad) l.length cc)) W') : Calls P F args W Q :=
  c.mono (by rintro e W' ⟨ad, cc, rfl, hc, hb⟩; exact h ad cc W' hb ⟨below_step B.out hb⟩ ⟨hc⟩)

theorem impl_CommandValid.M (k : Int) (x : ByteArray) (v o : Int) (w : World) : Calls Tryd.prog 26 #[.agg #[.int .i64 k, .string x, .int .i64 v, .int .i64 o]] w fun e w' => e = .returned (.bool (cmdB k x v o)) ∧ Below w.heap.size w w' := by
  have B := Aside0.mk (Below.refl w.heap.size w)
  have hu := Tryd.underlying28
  go_enter Tryd.func26, Tryd.ntmps26
  go_wp2_with (first
    | ((with_reducible refine gate_dst (N := 1) rfl ?_); refine bx ?hg (N := 1) ?hd (cs := #[.int .i64 (k), .string x, .int .i64 (v), .int .i64 (o)]) (t := 28) ?hr B ?_; (case hd => rfl); (case hg => rfl); (case hr => first | (go_simp; done) | (go_simp; rfl)); intro g1 w1 hb B F1 L1 E1; obtain ⟨c1_0, c1_1, c1_2, c1_3⟩ := cs4 F1; clear hb E1)
    | (go_at_call 43; with_reducible refine cl (impl_KeyValid.M x _) B fun w2 hb B => ?_; replace F1 := bn F1 hb; clear c1_0 c1_1 c1_2 c1_3; obtain ⟨c1_0, c1_1, c1_2, c1_3⟩ := cs4 F1; clear hb)
    | (go_at_call 30; with_reducible refine cl (impl_valueValid.M v _) B fun w3 hb B => ?_; replace F1 := bn F1 hb; clear c1_0 c1_1 c1_2 c1_3; obtain ⟨c1_0, c1_1, c1_2, c1_3⟩ := cs4 F1; clear hb)
    | (go_at_call 30; with_reducible refine cl (impl_valueValid.M v _) B fun w4 hb B => ?_; replace F1 := bn F1 hb; clear c1_0 c1_1 c1_2 c1_3; obtain ⟨c1_0, c1_1, c1_2, c1_3⟩ := cs4 F1; clear hb)
    | (go_at_call 30; with_reducible refine cl (impl_valueValid.M o _) B fun w5 hb B => ?_; replace F1 := bn F1 hb; clear c1_0 c1_1 c1_2 c1_3; obtain ⟨c1_0, c1_1, c1_2, c1_3⟩ := cs4 F1; clear hb))
  all_goals (go_ret; exact ⟨congrArg (fun b => Ending.returned (Value.bool b)) (by unfold cmdB; grind [l1B]), B.out⟩)

theorem spec_CommandValid.M (k : Int) (x : ByteArray) (v o : Int) (w : World) : Calls Tryd.prog 32 #[.agg #[.int .i64 k, .string x, .int .i64 v, .int .i64 o]] w fun e w' => e = .returned (.bool (cmdB k x v o)) ∧ Below w.heap.size w w' := by
  have B := Aside0.mk (Below.refl w.heap.size w)
  have hu := Tryd.underlying28
  go_enter Tryd.func32, Tryd.ntmps32
  go_wp2_with (first
    | ((with_reducible refine gate_dst (N := 1) rfl ?_); refine bx ?hg (N := 1) ?hd (cs := #[.int .i64 (k), .string x, .int .i64 (v), .int .i64 (o)]) (t := 28) ?hr B ?_; (case hd => rfl); (case hg => rfl); (case hr => first | (go_simp; done) | (go_simp; rfl)); intro g1 w1 hb B F1 L1 E1; obtain ⟨c1_0, c1_1, c1_2, c1_3⟩ := cs4 F1; clear hb E1)
    | (go_at_call 45; with_reducible refine cl (spec_KeyValid.M x _) B fun w2 hb B => ?_; replace F1 := bn F1 hb; clear c1_0 c1_1 c1_2 c1_3; obtain ⟨c1_0, c1_1, c1_2, c1_3⟩ := cs4 F1; clear hb)
    | (go_at_call 28; with_reducible refine cl (spec_l1In.M v 0 999 _) B fun w3 hb B => ?_; replace F1 := bn F1 hb; clear c1_0 c1_1 c1_2 c1_3; obtain ⟨c1_0, c1_1, c1_2, c1_3⟩ := cs4 F1; clear hb)
    | (go_at_call 28; with_reducible refine cl (spec_l1In.M v 0 999 _) B fun w4 hb B => ?_; replace F1 := bn F1 hb; clear c1_0 c1_1 c1_2 c1_3; obtain ⟨c1_0, c1_1, c1_2, c1_3⟩ := cs4 F1; clear hb)
    | (go_at_call 28; with_reducible refine cl (spec_l1In.M o (-1) 999 _) B fun w5 hb B => ?_; replace F1 := bn F1 hb; clear hb))
  all_goals (go_ret; exact ⟨congrArg (fun b => Ending.returned (Value.bool b)) (by unfold cmdB; grind [l1B]), B.out⟩)

def spec_CommandText.T7 : Bool × List (List Nat × List Nat) := (true, [([], []), ([0], [0]), ([1], [1]), ([2], [2]), ([], []), ([4], [4]), ([5], [5]), ([3, 6], [3, 6]), ([7, 6, 0, 1, 2, 3, 4, 5, 6, 7], [7])])
def spec_CommandText.B7 : List Nat := [0, 1, 3, 7, 0, 16, 48, 127, 255]
theorem spec_CommandText.tab7 : rtab .any (opsOf Tryd.f14 7) = spec_CommandText.T7 := by kernel_rfl
theorem spec_CommandText.bits7 : waitsOk spec_CommandText.T7.2 spec_CommandText.B7 = true := by kernel_rfl
def spec_CommandText.T11 : Bool × List (List Nat × List Nat) := (true, [([], []), ([0], [0]), ([1], [1]), ([2], [2]), ([], []), ([4], [4]), ([5], [5]), ([3, 6], [3, 6]), ([7], [7]), ([], []), ([9], [9]), ([10, 6], [10]), ([8, 11], [8, 11]), ([12, 11, 0, 1, 2, 3, 4, 5, 6, 7, 8, 9, 10, 11, 12], [12])])
def spec_CommandText.B11 : List Nat := [0, 1, 3, 7, 0, 16, 48, 127, 255, 0, 512, 1648, 4095, 8191]
theorem spec_CommandText.tab11 : rtab .any (opsOf Tryd.f14 11) = spec_CommandText.T11 := by kernel_rfl
theorem spec_CommandText.bits11 : waitsOk spec_CommandText.T11.2 spec_CommandText.B11 = true := by kernel_rfl
theorem spec_CommandText.M (k : Int) (x : ByteArray) (v o : Int) (w : World) : Calls Tryd.prog 14 #[.agg #[.int .i64 k, .string x, .int .i64 v, .int .i64 o]] w fun e w' => e = .returned (.string (cmtM k x v o)) ∧ Below w.heap.size w w' := by
  have B := Aside0.mk (Below.refl w.heap.size w)
  have hu := Tryd.underlying28
  obtain ⟨r, hr⟩ : ∃ r, cmtM k x v o = r := ⟨_, rfl⟩
  rw [hr]
  by_cases hv : cmdB k x v o = true
  · obtain ⟨hx, hk, hvv, hoo⟩ := cmd_cases hv
    have h3v := txtM_size v
    have h3o := txtM_size o
    unfold cmtM at hr
    rw [if_pos hv] at hr
    rcases hk with rfl | rfl | rfl | rfl | rfl
    · (try subst hr)
      go_enter Tryd.func14, Tryd.ntmps14
      go_wp2_with (first
        | ((with_reducible refine gate_dst (N := 1) rfl ?_); refine bx ?hg (N := 1) ?hd (cs := #[.int .i64 (1), .string x, .int .i64 (v), .int .i64 (o)]) (t := 28) ?hr B ?_; (case hd => rfl); (case hg => rfl); (case hr => first | (go_simp; done) | (go_simp; rfl)); intro g1 w1 hb B F1 L1 E1; obtain ⟨c1_0, c1_1, c1_2, c1_3⟩ := cs4 F1; clear hb E1)
        | (go_at_call 32; with_reducible refine cl (spec_CommandValid.M 1 x v o _) B fun w2 hb B => ?_; replace F1 := bn F1 hb; clear c1_0 c1_1 c1_2 c1_3; obtain ⟨c1_0, c1_1, c1_2, c1_3⟩ := cs4 F1; clear hb))
      all_goals go_ret
      all_goals ((try subst hr); exact ⟨rfl, B.out⟩)
    · (try subst hr)
      go_enter Tryd.func14, Tryd.ntmps14
      go_wp2_with (first
        | ((with_reducible refine gate_dst (N := 1) rfl ?_); refine bx ?hg (N := 1) ?hd (cs := #[.int .i64 (2), .string x, .int .i64 (v), .int .i64 (o)]) (t := 28) ?hr B ?_; (case hd => rfl); (case hg => rfl); (case hr => first | (go_simp; done) | (go_simp; rfl)); intro g1 w1 hb B F1 L1 E1; obtain ⟨c1_0, c1_1, c1_2, c1_3⟩ := cs4 F1; clear hb E1)
        | (go_at_call 32; with_reducible refine cl (spec_CommandValid.M 2 x v o _) B fun w2 hb B => ?_; replace F1 := bn F1 hb; clear c1_0 c1_1 c1_2 c1_3; obtain ⟨c1_0, c1_1, c1_2, c1_3⟩ := cs4 F1; clear hb))
      all_goals (
        refine rg (n := 9) (S := fun W => W.heap[g1]? = some (.cells #[.int .i64 (2), .string x, .int .i64 (v), .int .i64 (o)] 28 (0, 0))) (ds := []) #[false, false, false, false, false, false, false, false, false] (by kernel_rfl) rfl rfl F1.out id B (fun w3 hb B hHeld => ?_)
        refine with_tabW spec_CommandText.tab7 spec_CommandText.bits7 (fun HT_ HW_ => ?_)
        replace F1 := bn F1 hb
        clear hb
        refine pu (i := 0) (N := some 15) (v := ?_) (bits 9 1) rfl rfl (any_of HT_.out (by kernel_rfl)) (fun _ _ _ h => h) (by kernel_rfl) ?_ ?_; rotate_left; (intro w'; go_simp; with_reducible rfl)
        refine ta (i := 1) (N := some 16) (v := ?_) (bits 9 3) rfl rfl (take_ofW HT_.out HW_.out (by kernel_rfl)) (fun _ _ _ h => h) (by kernel_rfl) hHeld ?_ ?_; rotate_left; (intro w' hS; have s0 := hS; obtain ⟨q0, q1, q2, q3⟩ := cs4 (Aside0.mk s0); go_simp; with_reducible rfl)
        refine pu (i := 2) (N := some 17) (v := .string ((⟨#[112, 117, 116, 32]⟩ : ByteArray) ++ x)) (bits 9 7) rfl rfl (any_of HT_.out (by kernel_rfl)) (fun _ _ _ h => h) (by kernel_rfl) ?_ ?_; (intro w'; go_simp; first | omega | rfl | (simp only [ByteArray.size_append] at *; omega))
        refine pu (i := 3) (N := some 18) (v := .string (((⟨#[112, 117, 116, 32]⟩ : ByteArray) ++ x) ++ (⟨#[32]⟩ : ByteArray))) (bits 9 15) rfl rfl (any_of HT_.out (by kernel_rfl)) (fun _ _ _ h => h) (by kernel_rfl) ?_ ?_; (intro w'; go_simp; first | omega | rfl | (simp only [ByteArray.size_append] at *; omega))
        refine pu (i := 4) (N := some 19) (v := ?_) (bits 9 31) rfl rfl (any_of HT_.out (by kernel_rfl)) (fun _ _ _ h => h) (by kernel_rfl) ?_ ?_; rotate_left; (intro w'; go_simp; with_reducible rfl)
        refine ta (i := 5) (N := some 20) (v := ?_) (bits 9 63) rfl rfl (take_ofW HT_.out HW_.out (by kernel_rfl)) (fun _ _ _ h => h) (by kernel_rfl) hHeld ?_ ?_; rotate_left; (intro w' hS; have s0 := hS; obtain ⟨q0, q1, q2, q3⟩ := cs4 (Aside0.mk s0); go_simp; with_reducible rfl)
        refine norm_ (a' := ?_) ?_ ?_
        rotate_left
        · simp only [Act.put, List.setIfInBounds_toArray, List.set_cons_zero, List.set_cons_succ, i64_w, i32_w]
          rfl
        refine one_ (i := 6) (N := some 21) (bits 9 127) rfl rfl (one_of HT_.out (by kernel_rfl)) (by decide) (fun K hK => ?_)
        refine goes_ Tryd.func29 (by kernel_rfl) rfl #[.int .i64 (v)] (by rfl) rfl rfl (by (try simp only [List.map_toArray, List.map_cons, List.map_nil]); rfl) ?_
        with_reducible refine cl (spec_l7Text.M v _ (by omega)) B fun w4 hb B => ?_
        replace F1 := bn F1 hb
        clear hb
        refine ⟨_, rfl, ?_⟩
        refine hK.out _ _ F1.out (fun hHeld => ?_)
        clear hK K
        refine norm_ (a' := ?_) ?_ ?_
        rotate_left
        · show Act.put _ (some 21) _ = _
          simp only [Act.put, List.setIfInBounds_toArray, List.set_cons_zero, List.set_cons_succ, i64_w, i32_w]
          rfl
        refine pu (i := 7) (N := some 22) (v := .string ((((⟨#[112, 117, 116, 32]⟩ : ByteArray) ++ x) ++ (⟨#[32]⟩ : ByteArray)) ++ txtM v)) (bits 9 255) rfl rfl (any_of HT_.out (by kernel_rfl)) (fun _ _ _ h => h) (by kernel_rfl) ?_ ?_; (intro w'; go_simp; first | omega | rfl | (simp only [ByteArray.size_append] at *; omega))
        refine pu (i := 8) (N := some 2) (v := ?_) (bits 9 511) rfl rfl (any_of HT_.out (by kernel_rfl)) (fun _ _ _ h => h) (by kernel_rfl) ?_ ?_; rotate_left; (intro w'; go_simp; with_reducible rfl)
        refine norm_ (a' := ?_) ?_ ?_
        rotate_left
        · simp only [Act.put, List.setIfInBounds_toArray, List.set_cons_zero, List.set_cons_succ, i64_w, i32_w]
          rfl
        refine done_ (done_of HT_.out (by kernel_rfl)) ?_)
      all_goals try go_wp2
      all_goals go_ret
      all_goals ((try subst hr); exact ⟨rfl, B.out⟩)
    · (try subst hr)
      go_enter Tryd.func14, Tryd.ntmps14
      go_wp2_with (first
        | ((with_reducible refine gate_dst (N := 1) rfl ?_); refine bx ?hg (N := 1) ?hd (cs := #[.int .i64 (3), .string x, .int .i64 (v), .int .i64 (o)]) (t := 28) ?hr B ?_; (case hd => rfl); (case hg => rfl); (case hr => first | (go_simp; done) | (go_simp; rfl)); intro g1 w1 hb B F1 L1 E1; obtain ⟨c1_0, c1_1, c1_2, c1_3⟩ := cs4 F1; clear hb E1)
        | (go_at_call 32; with_reducible refine cl (spec_CommandValid.M 3 x v o _) B fun w2 hb B => ?_; replace F1 := bn F1 hb; clear c1_0 c1_1 c1_2 c1_3; obtain ⟨c1_0, c1_1, c1_2, c1_3⟩ := cs4 F1; clear hb))
      all_goals go_ret
      all_goals ((try subst hr); exact ⟨rfl, B.out⟩)
    · (try subst hr)
      go_enter Tryd.func14, Tryd.ntmps14
      go_wp2_with (first
        | ((with_reducible refine gate_dst (N := 1) rfl ?_); refine bx ?hg (N := 1) ?hd (cs := #[.int .i64 (4), .string x, .int .i64 (v), .int .i64 (o)]) (t := 28) ?hr B ?_; (case hd => rfl); (case hg => rfl); (case hr => first | (go_simp; done) | (go_simp; rfl)); intro g1 w1 hb B F1 L1 E1; obtain ⟨c1_0, c1_1, c1_2, c1_3⟩ := cs4 F1; clear hb E1)
        | (go_at_call 32; with_reducible refine cl (spec_CommandValid.M 4 x v o _) B fun w2 hb B => ?_; replace F1 := bn F1 hb; clear c1_0 c1_1 c1_2 c1_3; obtain ⟨c1_0, c1_1, c1_2, c1_3⟩ := cs4 F1; clear hb))
      all_goals (
        refine rg (n := 14) (S := fun W => W.heap[g1]? = some (.cells #[.int .i64 (4), .string x, .int .i64 (v), .int .i64 (o)] 28 (0, 0))) (ds := []) #[false, false, false, false, false, false, false, false, false, false, false, false, false, false] (by kernel_rfl) rfl rfl F1.out id B (fun w3 hb B hHeld => ?_)
        refine with_tabW spec_CommandText.tab11 spec_CommandText.bits11 (fun HT_ HW_ => ?_)
        replace F1 := bn F1 hb
        clear hb
        refine pu (i := 0) (N := some 30) (v := ?_) (bits 14 1) rfl rfl (any_of HT_.out (by kernel_rfl)) (fun _ _ _ h => h) (by kernel_rfl) ?_ ?_; rotate_left; (intro w'; go_simp; with_reducible rfl)
        refine ta (i := 1) (N := some 31) (v := ?_) (bits 14 3) rfl rfl (take_ofW HT_.out HW_.out (by kernel_rfl)) (fun _ _ _ h => h) (by kernel_rfl) hHeld ?_ ?_; rotate_left; (intro w' hS; have s0 := hS; obtain ⟨q0, q1, q2, q3⟩ := cs4 (Aside0.mk s0); go_simp; with_reducible rfl)
        refine pu (i := 2) (N := some 32) (v := .string ((⟨#[115, 119, 97, 112, 32]⟩ : ByteArray) ++ x)) (bits 14 7) rfl rfl (any_of HT_.out (by kernel_rfl)) (fun _ _ _ h => h) (by kernel_rfl) ?_ ?_; (intro w'; go_simp; first | omega | rfl | (simp only [ByteArray.size_append] at *; omega))
        refine pu (i := 3) (N := some 33) (v := .string (((⟨#[115, 119, 97, 112, 32]⟩ : ByteArray) ++ x) ++ (⟨#[32]⟩ : ByteArray))) (bits 14 15) rfl rfl (any_of HT_.out (by kernel_rfl)) (fun _ _ _ h => h) (by kernel_rfl) ?_ ?_; (intro w'; go_simp; first | omega | rfl | (simp only [ByteArray.size_append] at *; omega))
        refine pu (i := 4) (N := some 34) (v := ?_) (bits 14 31) rfl rfl (any_of HT_.out (by kernel_rfl)) (fun _ _ _ h => h) (by kernel_rfl) ?_ ?_; rotate_left; (intro w'; go_simp; with_reducible rfl)
        refine ta (i := 5) (N := some 35) (v := ?_) (bits 14 63) rfl rfl (take_ofW HT_.out HW_.out (by kernel_rfl)) (fun _ _ _ h => h) (by kernel_rfl) hHeld ?_ ?_; rotate_left; (intro w' hS; have s0 := hS; obtain ⟨q0, q1, q2, q3⟩ := cs4 (Aside0.mk s0); go_simp; with_reducible rfl)
        refine pu (i := 9) (N := some 39) (v := ?_) (bits 14 575) rfl rfl (any_of HT_.out (by kernel_rfl)) (fun _ _ _ h => h) (by kernel_rfl) ?_ ?_; rotate_left; (intro w'; go_simp; with_reducible rfl)
        refine ta (i := 10) (N := some 40) (v := ?_) (bits 14 1599) rfl rfl (take_ofW HT_.out HW_.out (by kernel_rfl)) (fun _ _ _ h => h) (by kernel_rfl) hHeld ?_ ?_; rotate_left; (intro w' hS; have s0 := hS; obtain ⟨q0, q1, q2, q3⟩ := cs4 (Aside0.mk s0); go_simp; with_reducible rfl)
        refine norm_ (a' := ?_) ?_ ?_
        rotate_left
        · simp only [Act.put, List.setIfInBounds_toArray, List.set_cons_zero, List.set_cons_succ, i64_w, i32_w]
          rfl
        refine one_ (i := 6) (N := some 36) (bits 14 1663) rfl rfl (one_of HT_.out (by kernel_rfl)) (by decide) (fun K hK => ?_)
        refine goes_ Tryd.func29 (by kernel_rfl) rfl #[.int .i64 (o)] (by rfl) rfl rfl (by (try simp only [List.map_toArray, List.map_cons, List.map_nil]); rfl) ?_
        with_reducible refine cl (spec_l7Text.M o _ (by omega)) B fun w4 hb B => ?_
        replace F1 := bn F1 hb
        clear hb
        refine ⟨_, rfl, ?_⟩
        refine hK.out _ _ F1.out (fun hHeld => ?_)
        clear hK K
        refine norm_ (a' := ?_) ?_ ?_
        rotate_left
        · show Act.put _ (some 36) _ = _
          simp only [Act.put, List.setIfInBounds_toArray, List.set_cons_zero, List.set_cons_succ, i64_w, i32_w]
          rfl
        refine pu (i := 7) (N := some 37) (v := .string ((((⟨#[115, 119, 97, 112, 32]⟩ : ByteArray) ++ x) ++ (⟨#[32]⟩ : ByteArray)) ++ txtM o)) (bits 14 1791) rfl rfl (any_of HT_.out (by kernel_rfl)) (fun _ _ _ h => h) (by kernel_rfl) ?_ ?_; (intro w'; go_simp; first | omega | rfl | (simp only [ByteArray.size_append] at *; omega))
        refine pu (i := 8) (N := some 38) (v := .string (((((⟨#[115, 119, 97, 112, 32]⟩ : ByteArray) ++ x) ++ (⟨#[32]⟩ : ByteArray)) ++ txtM o) ++ (⟨#[32]⟩ : ByteArray))) (bits 14 2047) rfl rfl (any_of HT_.out (by kernel_rfl)) (fun _ _ _ h => h) (by kernel_rfl) ?_ ?_; (intro w'; go_simp; first | omega | rfl | (simp only [ByteArray.size_append] at *; omega))
        refine norm_ (a' := ?_) ?_ ?_
        rotate_left
        · simp only [Act.put, List.setIfInBounds_toArray, List.set_cons_zero, List.set_cons_succ, i64_w, i32_w]
          rfl
        refine one_ (i := 11) (N := some 41) (bits 14 4095) rfl rfl (one_of HT_.out (by kernel_rfl)) (by decide) (fun K hK => ?_)
        refine goes_ Tryd.func29 (by kernel_rfl) rfl #[.int .i64 (v)] (by rfl) rfl rfl (by (try simp only [List.map_toArray, List.map_cons, List.map_nil]); rfl) ?_
        with_reducible refine cl (spec_l7Text.M v _ (by omega)) B fun w5 hb B => ?_
        replace F1 := bn F1 hb
        clear hb
        refine ⟨_, rfl, ?_⟩
        refine hK.out _ _ F1.out (fun hHeld => ?_)
        clear hK K
        refine norm_ (a' := ?_) ?_ ?_
        rotate_left
        · show Act.put _ (some 41) _ = _
          simp only [Act.put, List.setIfInBounds_toArray, List.set_cons_zero, List.set_cons_succ, i64_w, i32_w]
          rfl
        refine pu (i := 12) (N := some 42) (v := .string ((((((⟨#[115, 119, 97, 112, 32]⟩ : ByteArray) ++ x) ++ (⟨#[32]⟩ : ByteArray)) ++ txtM o) ++ (⟨#[32]⟩ : ByteArray)) ++ txtM v)) (bits 14 8191) rfl rfl (any_of HT_.out (by kernel_rfl)) (fun _ _ _ h => h) (by kernel_rfl) ?_ ?_; (intro w'; go_simp; first | omega | rfl | (simp only [ByteArray.size_append] at *; omega))
        refine pu (i := 13) (N := some 2) (v := ?_) (bits 14 16383) rfl rfl (any_of HT_.out (by kernel_rfl)) (fun _ _ _ h => h) (by kernel_rfl) ?_ ?_; rotate_left; (intro w'; go_simp; with_reducible rfl)
        refine norm_ (a' := ?_) ?_ ?_
        rotate_left
        · simp only [Act.put, List.setIfInBounds_toArray, List.set_cons_zero, List.set_cons_succ, i64_w, i32_w]
          rfl
        refine done_ (done_of HT_.out (by kernel_rfl)) ?_)
      all_goals try go_wp2
      all_goals go_ret
      all_goals ((try subst hr); exact ⟨rfl, B.out⟩)
    · rw [if_neg (by decide), if_neg (by decide), if_neg (by decide), if_neg (by decide)] at hr
      go_enter Tryd.func14, Tryd.ntmps14
      go_wp2_with (first
        | ((with_reducible refine gate_dst (N := 1) rfl ?_); refine bx ?hg (N := 1) ?hd (cs := #[.int .i64 (5), .string x, .int .i64 (v), .int .i64 (o)]) (t := 28) ?hr B ?_; (case hd => rfl); (case hg => rfl); (case hr => first | (go_simp; done) | (go_simp; rfl)); intro g1 w1 hb B F1 L1 E1; obtain ⟨c1_0, c1_1, c1_2, c1_3⟩ := cs4 F1; clear hb E1)
        | (go_at_call 32; with_reducible refine cl (spec_CommandValid.M 5 x v o _) B fun w2 hb B => ?_; replace F1 := bn F1 hb; clear c1_0 c1_1 c1_2 c1_3; obtain ⟨c1_0, c1_1, c1_2, c1_3⟩ := cs4 F1; clear hb))
      all_goals go_ret
      all_goals ((refine ⟨?_, B.out⟩; rw [← hr]; first | (rw [if_pos (by simp_all)]; rfl) | (rw [if_neg (by simp_all)]; rfl)))
  · have hM : r = (⟨#[]⟩ : ByteArray) := by rw [← hr]; unfold cmtM; rw [if_neg hv]
    replace hv := Bool.eq_false_iff.mpr hv
    clear hr
    go_enter Tryd.func14, Tryd.ntmps14
    go_wp2_with (first
      | ((with_reducible refine gate_dst (N := 1) rfl ?_); refine bx ?hg (N := 1) ?hd (cs := #[.int .i64 (k), .string x, .int .i64 (v), .int .i64 (o)]) (t := 28) ?hr B ?_; (case hd => rfl); (case hg => rfl); (case hr => first | (go_simp; done) | (go_simp; rfl)); intro g1 w1 hb B F1 L1 E1; obtain ⟨c1_0, c1_1, c1_2, c1_3⟩ := cs4 F1; clear hb E1)
      | (go_at_call 32; with_reducible refine cl (spec_CommandValid.M k x v o _) B fun w2 hb B => ?_; replace F1 := bn F1 hb; clear hb))
    all_goals go_ret
    all_goals (subst hM; exact ⟨rfl, B.out⟩)
def impl_CommandText.T7 : Bool × List (List Nat × List Nat) := (true, [([], []), ([0], [0]), ([1], [1]), ([2], [2]), ([], []), ([4], [4]), ([5], [5]), ([3, 6], [3, 6]), ([7, 6, 0, 1, 2, 3, 4, 5, 6, 7], [7])])
def impl_CommandText.B7 : List Nat := [0, 1, 3, 7, 0, 16, 48, 127, 255]
theorem impl_CommandText.tab7 : rtab .any (opsOf Tryd.f16 7) = impl_CommandText.T7 := by kernel_rfl
theorem impl_CommandText.bits7 : waitsOk impl_CommandText.T7.2 impl_CommandText.B7 = true := by kernel_rfl
def impl_CommandText.T11 : Bool × List (List Nat × List Nat) := (true, [([], []), ([0], [0]), ([1], [1]), ([2], [2]), ([], []), ([4], [4]), ([5], [5]), ([3, 6], [3, 6]), ([7], [7]), ([], []), ([9], [9]), ([10, 6], [10]), ([8, 11], [8, 11]), ([12, 11, 0, 1, 2, 3, 4, 5, 6, 7, 8, 9, 10, 11, 12], [12])])
def impl_CommandText.B11 : List Nat := [0, 1, 3, 7, 0, 16, 48, 127, 255, 0, 512, 1648, 4095, 8191]
theorem impl_CommandText.tab11 : rtab .any (opsOf Tryd.f16 11) = impl_CommandText.T11 := by kernel_rfl
theorem impl_CommandText.bits11 : waitsOk impl_CommandText.T11.2 impl_CommandText.B11 = true := by kernel_rfl
theorem impl_CommandText.M (k : Int) (x : ByteArray) (v o : Int) (w : World) (ht : TT w) : Calls Tryd.prog 16 #[.agg #[.int .i64 k, .string x, .int .i64 v, .int .i64 o]] w fun e w' => e = .returned (.string (cmtM k x v o)) ∧ Below w.heap.size w w' := by
  have B := Aside0.mk (Below.refl w.heap.size w)
  have hu := Tryd.underlying28
  have HT := Aside0.mk ht
  clear ht
  obtain ⟨r, hr⟩ : ∃ r, cmtM k x v o = r := ⟨_, rfl⟩
  rw [hr]
  by_cases hv : cmdB k x v o = true
  · obtain ⟨hx, hk, hvv, hoo⟩ := cmd_cases hv
    have h3v := txtM_size v
    have h3o := txtM_size o
    unfold cmtM at hr
    rw [if_pos hv] at hr
    rcases hk with rfl | rfl | rfl | rfl | rfl
    · (try subst hr)
      go_enter Tryd.func16, Tryd.ntmps16
      go_wp2_with (first
        | ((with_reducible refine gate_dst (N := 1) rfl ?_); refine bx ?hg (N := 1) ?hd (cs := #[.int .i64 (1), .string x, .int .i64 (v), .int .i64 (o)]) (t := 28) ?hr B ?_; (case hd => rfl); (case hg => rfl); (case hr => first | (go_simp; done) | (go_simp; rfl)); intro g1 w1 hb B F1 L1 E1; obtain ⟨c1_0, c1_1, c1_2, c1_3⟩ := cs4 F1; clear hb E1)
        | (go_at_call 26; with_reducible refine cl (impl_CommandValid.M 1 x v o _) B fun w2 hb B => ?_; replace F1 := bn F1 hb; clear c1_0 c1_1 c1_2 c1_3; obtain ⟨c1_0, c1_1, c1_2, c1_3⟩ := cs4 F1; clear hb))
      all_goals go_ret
      all_goals ((try subst hr); exact ⟨rfl, B.out⟩)
    · (try subst hr)
      go_enter Tryd.func16, Tryd.ntmps16
      go_wp2_with (first
        | ((with_reducible refine gate_dst (N := 1) rfl ?_); refine bx ?hg (N := 1) ?hd (cs := #[.int .i64 (2), .string x, .int .i64 (v), .int .i64 (o)]) (t := 28) ?hr B ?_; (case hd => rfl); (case hg => rfl); (case hr => first | (go_simp; done) | (go_simp; rfl)); intro g1 w1 hb B F1 L1 E1; obtain ⟨c1_0, c1_1, c1_2, c1_3⟩ := cs4 F1; clear hb E1)
        | (go_at_call 26; with_reducible refine cl (impl_CommandValid.M 2 x v o _) B fun w2 hb B => ?_; replace F1 := bn F1 hb; clear c1_0 c1_1 c1_2 c1_3; obtain ⟨c1_0, c1_1, c1_2, c1_3⟩ := cs4 F1; clear hb))
      all_goals (
        refine rg (n := 9) (S := fun W => W.heap[g1]? = some (.cells #[.int .i64 (2), .string x, .int .i64 (v), .int .i64 (o)] 28 (0, 0))) (ds := []) #[false, false, false, false, false, false, false, false, false] (by kernel_rfl) rfl rfl F1.out id B (fun w3 hb B hHeld => ?_)
        refine with_tabW impl_CommandText.tab7 impl_CommandText.bits7 (fun HT_ HW_ => ?_)
        replace F1 := bn F1 hb
        clear hb
        refine pu (i := 0) (N := some 15) (v := ?_) (bits 9 1) rfl rfl (any_of HT_.out (by kernel_rfl)) (fun _ _ _ h => h) (by kernel_rfl) ?_ ?_; rotate_left; (intro w'; go_simp; with_reducible rfl)
        refine ta (i := 1) (N := some 16) (v := ?_) (bits 9 3) rfl rfl (take_ofW HT_.out HW_.out (by kernel_rfl)) (fun _ _ _ h => h) (by kernel_rfl) hHeld ?_ ?_; rotate_left; (intro w' hS; have s0 := hS; obtain ⟨q0, q1, q2, q3⟩ := cs4 (Aside0.mk s0); go_simp; with_reducible rfl)
        refine pu (i := 2) (N := some 17) (v := .string ((⟨#[112, 117, 116, 32]⟩ : ByteArray) ++ x)) (bits 9 7) rfl rfl (any_of HT_.out (by kernel_rfl)) (fun _ _ _ h => h) (by kernel_rfl) ?_ ?_; (intro w'; go_simp; first | omega | rfl | (simp only [ByteArray.size_append] at *; omega))
        refine pu (i := 3) (N := some 18) (v := .string (((⟨#[112, 117, 116, 32]⟩ : ByteArray) ++ x) ++ (⟨#[32]⟩ : ByteArray))) (bits 9 15) rfl rfl (any_of HT_.out (by kernel_rfl)) (fun _ _ _ h => h) (by kernel_rfl) ?_ ?_; (intro w'; go_simp; first | omega | rfl | (simp only [ByteArray.size_append] at *; omega))
        refine pu (i := 4) (N := some 19) (v := ?_) (bits 9 31) rfl rfl (any_of HT_.out (by kernel_rfl)) (fun _ _ _ h => h) (by kernel_rfl) ?_ ?_; rotate_left; (intro w'; go_simp; with_reducible rfl)
        refine ta (i := 5) (N := some 20) (v := ?_) (bits 9 63) rfl rfl (take_ofW HT_.out HW_.out (by kernel_rfl)) (fun _ _ _ h => h) (by kernel_rfl) hHeld ?_ ?_; rotate_left; (intro w' hS; have s0 := hS; obtain ⟨q0, q1, q2, q3⟩ := cs4 (Aside0.mk s0); go_simp; with_reducible rfl)
        refine norm_ (a' := ?_) ?_ ?_
        rotate_left
        · simp only [Act.put, List.setIfInBounds_toArray, List.set_cons_zero, List.set_cons_succ, i64_w, i32_w]
          rfl
        refine one_ (i := 6) (N := some 21) (bits 9 127) rfl rfl (one_of HT_.out (by kernel_rfl)) (by decide) (fun K hK => ?_)
        refine goes_ Tryd.func31 (by kernel_rfl) rfl #[.int .i64 (v)] (by rfl) rfl rfl (by (try simp only [List.map_toArray, List.map_cons, List.map_nil]); rfl) ?_
        with_reducible refine cl (strconv_Itoa.M v w _ HT B (by omega)) B fun w4 hb B => ?_
        replace F1 := bn F1 hb
        clear hb
        refine ⟨_, rfl, ?_⟩
        refine hK.out _ _ F1.out (fun hHeld => ?_)
        clear hK K
        refine norm_ (a' := ?_) ?_ ?_
        rotate_left
        · show Act.put _ (some 21) _ = _
          simp only [Act.put, List.setIfInBounds_toArray, List.set_cons_zero, List.set_cons_succ, i64_w, i32_w]
          rfl
        refine pu (i := 7) (N := some 22) (v := .string ((((⟨#[112, 117, 116, 32]⟩ : ByteArray) ++ x) ++ (⟨#[32]⟩ : ByteArray)) ++ txtM v)) (bits 9 255) rfl rfl (any_of HT_.out (by kernel_rfl)) (fun _ _ _ h => h) (by kernel_rfl) ?_ ?_; (intro w'; go_simp; first | omega | rfl | (simp only [ByteArray.size_append] at *; omega))
        refine pu (i := 8) (N := some 2) (v := ?_) (bits 9 511) rfl rfl (any_of HT_.out (by kernel_rfl)) (fun _ _ _ h => h) (by kernel_rfl) ?_ ?_; rotate_left; (intro w'; go_simp; with_reducible rfl)
        refine norm_ (a' := ?_) ?_ ?_
        rotate_left
        · simp only [Act.put, List.setIfInBounds_toArray, List.set_cons_zero, List.set_cons_succ, i64_w, i32_w]
          rfl
        refine done_ (done_of HT_.out (by kernel_rfl)) ?_)
      all_goals try go_wp2
      all_goals go_ret
      all_goals ((try subst hr); exact ⟨rfl, B.out⟩)
    · (try subst hr)
      go_enter Tryd.func16, Tryd.ntmps16
      go_wp2_with (first
        | ((with_reducible refine gate_dst (N := 1) rfl ?_); refine bx ?hg (N := 1) ?hd (cs := #[.int .i64 (3), .string x, .int .i64 (v), .int .i64 (o)]) (t := 28) ?hr B ?_; (case hd => rfl); (case hg => rfl); (case hr => first | (go_simp; done) | (go_simp; rfl)); intro g1 w1 hb B F1 L1 E1; obtain ⟨c1_0, c1_1, c1_2, c1_3⟩ := cs4 F1; clear hb E1)
        | (go_at_call 26; with_reducible refine cl (impl_CommandValid.M 3 x v o _) B fun w2 hb B => ?_; replace F1 := bn F1 hb; clear c1_0 c1_1 c1_2 c1_3; obtain ⟨c1_0, c1_1, c1_2, c1_3⟩ := cs4 F1; clear hb))
      all_goals go_ret
      all_goals ((try subst hr); exact ⟨rfl, B.out⟩)
    · (try subst hr)
      go_enter Tryd.func16, Tryd.ntmps16
      go_wp2_with (first
        | ((with_reducible refine gate_dst (N := 1) rfl ?_); refine bx ?hg (N := 1) ?hd (cs := #[.int .i64 (4), .string x, .int .i64 (v), .int .i64 (o)]) (t := 28) ?hr B ?_; (case hd => rfl); (case hg => rfl); (case hr => first | (go_simp; done) | (go_simp; rfl)); intro g1 w1 hb B F1 L1 E1; obtain ⟨c1_0, c1_1, c1_2, c1_3⟩ := cs4 F1; clear hb E1)
        | (go_at_call 26; with_reducible refine cl (impl_CommandValid.M 4 x v o _) B fun w2 hb B => ?_; replace F1 := bn F1 hb; clear c1_0 c1_1 c1_2 c1_3; obtain ⟨c1_0, c1_1, c1_2, c1_3⟩ := cs4 F1; clear hb))
      all_goals (
        refine rg (n := 14) (S := fun W => W.heap[g1]? = some (.cells #[.int .i64 (4), .string x, .int .i64 (v), .int .i64 (o)] 28 (0, 0))) (ds := []) #[false, false, false, false, false, false, false, false, false, false, false, false, false, false] (by kernel_rfl) rfl rfl F1.out id B (fun w3 hb B hHeld => ?_)
        refine with_tabW impl_CommandText.tab11 impl_CommandText.bits11 (fun HT_ HW_ => ?_)
        replace F1 := bn F1 hb
        clear hb
        refine pu (i := 0) (N := some 30) (v := ?_) (bits 14 1) rfl rfl (any_of HT_.out (by kernel_rfl)) (fun _ _ _ h => h) (by kernel_rfl) ?_ ?_; rotate_left; (intro w'; go_simp; with_reducible rfl)
        refine ta (i := 1) (N := some 31) (v := ?_) (bits 14 3) rfl rfl (take_ofW HT_.out HW_.out (by kernel_rfl)) (fun _ _ _ h => h) (by kernel_rfl) hHeld ?_ ?_; rotate_left; (intro w' hS; have s0 := hS; obtain ⟨q0, q1, q2, q3⟩ := cs4 (Aside0.mk s0); go_simp; with_reducible rfl)
        refine pu (i := 2) (N := some 32) (v := .string ((⟨#[115, 119, 97, 112, 32]⟩ : ByteArray) ++ x)) (bits 14 7) rfl rfl (any_of HT_.out (by kernel_rfl)) (fun _ _ _ h => h) (by kernel_rfl) ?_ ?_; (intro w'; go_simp; first | omega | rfl | (simp only [ByteArray.size_append] at *; omega))
        refine pu (i := 3) (N := some 33) (v := .string (((⟨#[115, 119, 97, 112, 32]⟩ : ByteArray) ++ x) ++ (⟨#[32]⟩ : ByteArray))) (bits 14 15) rfl rfl (any_of HT_.out (by kernel_rfl)) (fun _ _ _ h => h) (by kernel_rfl) ?_ ?_; (intro w'; go_simp; first | omega | rfl | (simp only [ByteArray.size_append] at *; omega))
        refine pu (i := 4) (N := some 34) (v := ?_) (bits 14 31) rfl rfl (any_of HT_.out (by kernel_rfl)) (fun _ _ _ h => h) (by kernel_rfl) ?_ ?_; rotate_left; (intro w'; go_simp; with_reducible rfl)
        refine ta (i := 5) (N := some 35) (v := ?_) (bits 14 63) rfl rfl (take_ofW HT_.out HW_.out (by kernel_rfl)) (fun _ _ _ h => h) (by kernel_rfl) hHeld ?_ ?_; rotate_left; (intro w' hS; have s0 := hS; obtain ⟨q0, q1, q2, q3⟩ := cs4 (Aside0.mk s0); go_simp; with_reducible rfl)
        refine pu (i := 9) (N := some 39) (v := ?_) (bits 14 575) rfl rfl (any_of HT_.out (by kernel_rfl)) (fun _ _ _ h => h) (by kernel_rfl) ?_ ?_; rotate_left; (intro w'; go_simp; with_reducible rfl)
        refine ta (i := 10) (N := some 40) (v := ?_) (bits 14 1599) rfl rfl (take_ofW HT_.out HW_.out (by kernel_rfl)) (fun _ _ _ h => h) (by kernel_rfl) hHeld ?_ ?_; rotate_left; (intro w' hS; have s0 := hS; obtain ⟨q0, q1, q2, q3⟩ := cs4 (Aside0.mk s0); go_simp; with_reducible rfl)
        refine norm_ (a' := ?_) ?_ ?_
        rotate_left
        · simp only [Act.put, List.setIfInBounds_toArray, List.set_cons_zero, List.set_cons_succ, i64_w, i32_w]
          rfl
        refine one_ (i := 6) (N := some 36) (bits 14 1663) rfl rfl (one_of HT_.out (by kernel_rfl)) (by decide) (fun K hK => ?_)
        refine goes_ Tryd.func31 (by kernel_rfl) rfl #[.int .i64 (o)] (by rfl) rfl rfl (by (try simp only [List.map_toArray, List.map_cons, List.map_nil]); rfl) ?_
        with_reducible refine cl (strconv_Itoa.M o w _ HT B (by omega)) B fun w4 hb B => ?_
        replace F1 := bn F1 hb
        clear hb
        refine ⟨_, rfl, ?_⟩
        refine hK.out _ _ F1.out (fun hHeld => ?_)
        clear hK K
        refine norm_ (a' := ?_) ?_ ?_
        rotate_left
        · show Act.put _ (some 36) _ = _
          simp only [Act.put, List.setIfInBounds_toArray, List.set_cons_zero, List.set_cons_succ, i64_w, i32_w]
          rfl
        refine pu (i := 7) (N := some 37) (v := .string ((((⟨#[115, 119, 97, 112, 32]⟩ : ByteArray) ++ x) ++ (⟨#[32]⟩ : ByteArray)) ++ txtM o)) (bits 14 1791) rfl rfl (any_of HT_.out (by kernel_rfl)) (fun _ _ _ h => h) (by kernel_rfl) ?_ ?_; (intro w'; go_simp; first | omega | rfl | (simp only [ByteArray.size_append] at *; omega))
        refine pu (i := 8) (N := some 38) (v := .string (((((⟨#[115, 119, 97, 112, 32]⟩ : ByteArray) ++ x) ++ (⟨#[32]⟩ : ByteArray)) ++ txtM o) ++ (⟨#[32]⟩ : ByteArray))) (bits 14 2047) rfl rfl (any_of HT_.out (by kernel_rfl)) (fun _ _ _ h => h) (by kernel_rfl) ?_ ?_; (intro w'; go_simp; first | omega | rfl | (simp only [ByteArray.size_append] at *; omega))
        refine norm_ (a' := ?_) ?_ ?_
        rotate_left
        · simp only [Act.put, List.setIfInBounds_toArray, List.set_cons_zero, List.set_cons_succ, i64_w, i32_w]
          rfl
        refine one_ (i := 11) (N := some 41) (bits 14 4095) rfl rfl (one_of HT_.out (by kernel_rfl)) (by decide) (fun K hK => ?_)
        refine goes_ Tryd.func31 (by kernel_rfl) rfl #[.int .i64 (v)] (by rfl) rfl rfl (by (try simp only [List.map_toArray, List.map_cons, List.map_nil]); rfl) ?_
        with_reducible refine cl (strconv_Itoa.M v w _ HT B (by omega)) B fun w5 hb B => ?_
        replace F1 := bn F1 hb
        clear hb
        refine ⟨_, rfl, ?_⟩
        refine hK.out _ _ F1.out (fun hHeld => ?_)
        clear hK K
        refine norm_ (a' := ?_) ?_ ?_
        rotate_left
        · show Act.put _ (some 41) _ = _
          simp only [Act.put, List.setIfInBounds_toArray, List.set_cons_zero, List.set_cons_succ, i64_w, i32_w]
          rfl
        refine pu (i := 12) (N := some 42) (v := .string ((((((⟨#[115, 119, 97, 112, 32]⟩ : ByteArray) ++ x) ++ (⟨#[32]⟩ : ByteArray)) ++ txtM o) ++ (⟨#[32]⟩ : ByteArray)) ++ txtM v)) (bits 14 8191) rfl rfl (any_of HT_.out (by kernel_rfl)) (fun _ _ _ h => h) (by kernel_rfl) ?_ ?_; (intro w'; go_simp; first | omega | rfl | (simp only [ByteArray.size_append] at *; omega))
        refine pu (i := 13) (N := some 2) (v := ?_) (bits 14 16383) rfl rfl (any_of HT_.out (by kernel_rfl)) (fun _ _ _ h => h) (by kernel_rfl) ?_ ?_; rotate_left; (intro w'; go_simp; with_reducible rfl)
        refine norm_ (a' := ?_) ?_ ?_
        rotate_left
        · simp only [Act.put, List.setIfInBounds_toArray, List.set_cons_zero, List.set_cons_succ, i64_w, i32_w]
          rfl
        refine done_ (done_of HT_.out (by kernel_rfl)) ?_)
      all_goals try go_wp2
      all_goals go_ret
      all_goals ((try subst hr); exact ⟨rfl, B.out⟩)
    · rw [if_neg (by decide), if_neg (by decide), if_neg (by decide), if_neg (by decide)] at hr
      go_enter Tryd.func16, Tryd.ntmps16
      go_wp2_with (first
        | ((with_reducible refine gate_dst (N := 1) rfl ?_); refine bx ?hg (N := 1) ?hd (cs := #[.int .i64 (5), .string x, .int .i64 (v), .int .i64 (o)]) (t := 28) ?hr B ?_; (case hd => rfl); (case hg => rfl); (case hr => first | (go_simp; done) | (go_simp; rfl)); intro g1 w1 hb B F1 L1 E1; obtain ⟨c1_0, c1_1, c1_2, c1_3⟩ := cs4 F1; clear hb E1)
        | (go_at_call 26; with_reducible refine cl (impl_CommandValid.M 5 x v o _) B fun w2 hb B => ?_; replace F1 := bn F1 hb; clear c1_0 c1_1 c1_2 c1_3; obtain ⟨c1_0, c1_1, c1_2, c1_3⟩ := cs4 F1; clear hb))
      all_goals go_ret
      all_goals ((refine ⟨?_, B.out⟩; rw [← hr]; first | (rw [if_pos (by simp_all)]; rfl) | (rw [if_neg (by simp_all)]; rfl)))
  · have hM : r = (⟨#[]⟩ : ByteArray) := by rw [← hr]; unfold cmtM; rw [if_neg hv]
    replace hv := Bool.eq_false_iff.mpr hv
    clear hr
    go_enter Tryd.func16, Tryd.ntmps16
    go_wp2_with (first
      | ((with_reducible refine gate_dst (N := 1) rfl ?_); refine bx ?hg (N := 1) ?hd (cs := #[.int .i64 (k), .string x, .int .i64 (v), .int .i64 (o)]) (t := 28) ?hr B ?_; (case hd => rfl); (case hg => rfl); (case hr => first | (go_simp; done) | (go_simp; rfl)); intro g1 w1 hb B F1 L1 E1; obtain ⟨c1_0, c1_1, c1_2, c1_3⟩ := cs4 F1; clear hb E1)
      | (go_at_call 26; with_reducible refine cl (impl_CommandValid.M k x v o _) B fun w2 hb B => ?_; replace F1 := bn F1 hb; clear hb))
    all_goals go_ret
    all_goals (subst hM; exact ⟨rfl, B.out⟩)

theorem impl_commandOf.M2 (A0 : Option Addr) (c0 : Nat) (W : List ByteArray) (c : Int × ByteArray × Int × Int) (w : World) (hcc : cOf W = c) (ht : TE w) (hr0 : Kd.C Kd.string w A0 W.length W) (hp : 0 < W.length) (hz : ∀ s ∈ W, s.size ≤ 64) : Calls Tryd.prog 36 #[.slice A0 W.length c0] w fun e w' => e = .returned (.agg #[.int .i64 c.1, .string c.2.1, .int .i64 c.2.2.1, .int .i64 c.2.2.2]) ∧ Below w.heap.size w w' := by
  subst hcc
  exact impl_commandOf.M A0 c0 W w ht hr0 hp hz
theorem impl_ReadCommand.M (s : ByteArray) (w : World) (ht : TS w) : Calls Tryd.prog 20 #[.string s] w fun e w' => e = .returned (.tuple #[.agg #[.int .i64 (rcI s).1.1, .string (rcI s).1.2.1, .int .i64 (rcI s).1.2.2.1, .int .i64 (rcI s).1.2.2.2], .bool (rcI s).2]) ∧ Below w.heap.size w w' := by
  have B := Aside0.mk (Below.refl w.heap.size w)
  have hu := Tryd.underlying28
  have HT := Aside0.mk ht
  clear ht
  obtain ⟨r, hr⟩ : ∃ r, rcI s = r := ⟨_, rfl⟩
  rw [hr]
  by_cases hl : 64 < s.size
  · skip
    have hM : r = (rcZ, false) := by rw [← hr]; unfold rcI; rw [if_pos hl]
    have d0 : decide (64 < (s.size : Int)) = true := decide_eq_true (by omega)
    clear hr
    go_enter Tryd.func20, Tryd.ntmps20
    go_wp2_with (first
      | ((with_reducible refine gate_dst (N := 2) rfl ?_); refine bx ?hg (N := 2) ?hd (cs := #[.int .i64 (0), .string (⟨#[]⟩ : ByteArray), .int .i64 (0), .int .i64 (0)]) (t := 28) ?hr B ?_; (case hd => rfl); (case hg => rfl); (case hr => first | (go_simp; done) | (go_simp; rfl)); intro g2 w101 hb B F2 L2 E2; clear hb E2)
      | ((with_reducible refine gate_store (t := 28) (p := 2) rfl ?_); obtain ⟨y0, y1, y2, y3⟩ := cs4 F2; have z0 := fz F2 0; have z1 := fz F2 1; have z2 := fz F2 2; have z3 := fz F2 3; refine sx (t := 28) (t' := 28) (p := 2) (v := ?vo102) ?hg ?ho ?hn 0 [.int .i64 (0), .string (⟨#[]⟩ : ByteArray), .int .i64 (0), .int .i64 (0)] [.int .i64 (0), .string (⟨#[]⟩ : ByteArray), .int .i64 (0), .int .i64 (0)] ?hr B F2 L2 rfl (Nat.le_of_ble_eq_true rfl) ?_; (case ho => rfl); (case hg => rfl); (case hn => rfl); (case hr => first | (go_simp; done) | (go_simp; rfl)); intro w102 hk B G; replace F2 := G; clear hk y0 z0 y1 z1 y2 z2 y3 z3))
    refine bodyPost_ret (results_list (rs := [.cell 2 28, .tmp 3]) rfl (by simp) (.cell g2 28 _ (0, 0) _ rfl F2.out hu rfl (by kernel_rfl) (.tmp .nil))) rfl ?_
    subst hM
    exact ⟨rfl, B.out⟩
  · have d0 : decide (64 < (s.size : Int)) = false := decide_eq_false (by omega)
    have hp := words_pos s
    have hz := words_small (s := s) (by omega)
    obtain ⟨c, hcc⟩ : ∃ c, cOf (wordsM s) = c := ⟨_, rfl⟩
    by_cases hv : cmdB c.1 c.2.1 c.2.2.1 c.2.2.2 = true
    · by_cases hq : cmtM c.1 c.2.1 c.2.2.1 c.2.2.2 = s
      · skip
        have hM : r = (c, true) := by rw [← hr]; unfold rcI; rw [if_neg hl, hcc, if_pos ⟨hv, hq⟩]
        have hb : ((cmtM c.1 c.2.1 c.2.2.1 c.2.2.2).toList == s.toList) = true := by rw [hq]; simp
        clear hr hq
        go_enter Tryd.func20, Tryd.ntmps20
        go_wp2_with (first
          | ((with_reducible refine gate_dst (N := 2) rfl ?_); refine bx ?hg (N := 2) ?hd (cs := #[.int .i64 (0), .string (⟨#[]⟩ : ByteArray), .int .i64 (0), .int .i64 (0)]) (t := 28) ?hr B ?_; (case hd => rfl); (case hg => rfl); (case hr => first | (go_simp; done) | (go_simp; rfl)); intro g2 w401 hb B F2 L2 E2; clear hb E2)
          | (go_at_call 37; with_reducible refine csp (strings_Split.M s w _ HT B (by omega)) B fun ad cc w402 hb B RC => ?_; replace F2 := bn F2 hb; clear hb)
          | (go_at_call 36; with_reducible refine cl (impl_commandOf.M2 _ _ (wordsM s) c _ hcc (ts_te HT B) RC.out hp hz) B fun w403 hb B => ?_; replace F2 := bn F2 hb; clear hb)
          | ((with_reducible refine gate_dst (N := 4) rfl ?_); refine bx ?hg (N := 4) ?hd (cs := #[.int .i64 (0), .string (⟨#[]⟩ : ByteArray), .int .i64 (0), .int .i64 (0)]) (t := 28) ?hr B ?_; (case hd => rfl); (case hg => rfl); (case hr => first | (go_simp; done) | (go_simp; rfl)); intro g4 w404 hb B F4 L4 E4; have N2_4 := ne1 E4 F2; replace F2 := bn F2 hb; obtain ⟨c4_0, c4_1, c4_2, c4_3⟩ := cs4 F4; clear hb E4)
          | ((with_reducible refine gate_store (t := 28) (p := 4) rfl ?_); obtain ⟨y0, y1, y2, y3⟩ := cs4 F4; have z0 := fz F4 0; have z1 := fz F4 1; have z2 := fz F4 2; have z3 := fz F4 3; refine sx (t := 28) (t' := 28) (p := 4) (v := ?vo405) ?hg ?ho ?hn 0 [.int .i64 (c.1), .string c.2.1, .int .i64 (c.2.2.1), .int .i64 (c.2.2.2)] [.int .i64 (c.1), .string c.2.1, .int .i64 (c.2.2.1), .int .i64 (c.2.2.2)] ?hr B F4 L4 rfl (Nat.le_of_ble_eq_true rfl) ?_; (case ho => rfl); (case hg => rfl); (case hn => rfl); (case hr => first | (go_simp; done) | (go_simp; rfl)); intro w405 hk B G; replace F2 := bk F2 hk N2_4.out; replace F4 := G; clear c4_0 c4_1 c4_2 c4_3; obtain ⟨c4_0, c4_1, c4_2, c4_3⟩ := cs4 F4; clear hk y0 z0 y1 z1 y2 z2 y3 z3)
          | (go_at_call 26; with_reducible refine cl (impl_CommandValid.M c.1 c.2.1 c.2.2.1 c.2.2.2 _) B fun w406 hb B => ?_; replace F2 := bn F2 hb; replace F4 := bn F4 hb; clear c4_0 c4_1 c4_2 c4_3; obtain ⟨c4_0, c4_1, c4_2, c4_3⟩ := cs4 F4; clear hb)
          | (go_at_call 16; with_reducible refine cl (impl_CommandText.M c.1 c.2.1 c.2.2.1 c.2.2.2 _ (ts_tt HT B)) B fun w407 hb B => ?_; replace F2 := bn F2 hb; replace F4 := bn F4 hb; clear c4_0 c4_1 c4_2 c4_3; obtain ⟨c4_0, c4_1, c4_2, c4_3⟩ := cs4 F4; clear hb)
          | ((with_reducible refine gate_store (t := 28) (p := 2) rfl ?_); obtain ⟨y0, y1, y2, y3⟩ := cs4 F2; have z0 := fz F2 0; have z1 := fz F2 1; have z2 := fz F2 2; have z3 := fz F2 3; refine sx (t := 28) (t' := 28) (p := 2) (v := ?vo408) ?hg ?ho ?hn 0 [.int .i64 (c.1), .string c.2.1, .int .i64 (c.2.2.1), .int .i64 (c.2.2.2)] [.int .i64 (c.1), .string c.2.1, .int .i64 (c.2.2.1), .int .i64 (c.2.2.2)] ?hr B F2 L2 rfl (Nat.le_of_ble_eq_true rfl) ?_; (case ho => rfl); (case hg => rfl); (case hn => rfl); (case hr => first | (go_simp; done) | (go_simp; rfl)); intro w408 hk B G; replace F2 := G; clear hk y0 z0 y1 z1 y2 z2 y3 z3))
        refine bodyPost_ret (results_list (rs := [.cell 2 28, .tmp 3]) rfl (by simp) (.cell g2 28 _ (0, 0) _ rfl F2.out hu rfl (by kernel_rfl) (.tmp .nil))) rfl ?_
        subst hM
        exact ⟨rfl, B.out⟩
      · skip
        have hM : r = (rcZ, false) := by rw [← hr]; unfold rcI; rw [if_neg hl, hcc, if_neg (fun k => hq k.2)]
        have hb : ((cmtM c.1 c.2.1 c.2.2.1 c.2.2.2).toList == s.toList) = false := by rw [str_beq, decide_eq_false hq]
        clear hr hq
        go_enter Tryd.func20, Tryd.ntmps20
        go_wp2_with (first
          | ((with_reducible refine gate_dst (N := 2) rfl ?_); refine bx ?hg (N := 2) ?hd (cs := #[.int .i64 (0), .string (⟨#[]⟩ : ByteArray), .int .i64 (0), .int .i64 (0)]) (t := 28) ?hr B ?_; (case hd => rfl); (case hg => rfl); (case hr => first | (go_simp; done) | (go_simp; rfl)); intro g2 w201 hb B F2 L2 E2; clear hb E2)
          | (go_at_call 37; with_reducible refine csp (strings_Split.M s w _ HT B (by omega)) B fun ad cc w202 hb B RC => ?_; replace F2 := bn F2 hb; clear hb)
          | (go_at_call 36; with_reducible refine cl (impl_commandOf.M2 _ _ (wordsM s) c _ hcc (ts_te HT B) RC.out hp hz) B fun w203 hb B => ?_; replace F2 := bn F2 hb; clear hb)
          | ((with_reducible refine gate_dst (N := 4) rfl ?_); refine bx ?hg (N := 4) ?hd (cs := #[.int .i64 (0), .string (⟨#[]⟩ : ByteArray), .int .i64 (0), .int .i64 (0)]) (t := 28) ?hr B ?_; (case hd => rfl); (case hg => rfl); (case hr => first | (go_simp; done) | (go_simp; rfl)); intro g4 w204 hb B F4 L4 E4; have N2_4 := ne1 E4 F2; replace F2 := bn F2 hb; obtain ⟨c4_0, c4_1, c4_2, c4_3⟩ := cs4 F4; clear hb E4)
          | ((with_reducible refine gate_store (t := 28) (p := 4) rfl ?_); obtain ⟨y0, y1, y2, y3⟩ := cs4 F4; have z0 := fz F4 0; have z1 := fz F4 1; have z2 := fz F4 2; have z3 := fz F4 3; refine sx (t := 28) (t' := 28) (p := 4) (v := ?vo205) ?hg ?ho ?hn 0 [.int .i64 (c.1), .string c.2.1, .int .i64 (c.2.2.1), .int .i64 (c.2.2.2)] [.int .i64 (c.1), .string c.2.1, .int .i64 (c.2.2.1), .int .i64 (c.2.2.2)] ?hr B F4 L4 rfl (Nat.le_of_ble_eq_true rfl) ?_; (case ho => rfl); (case hg => rfl); (case hn => rfl); (case hr => first | (go_simp; done) | (go_simp; rfl)); intro w205 hk B G; replace F2 := bk F2 hk N2_4.out; replace F4 := G; clear c4_0 c4_1 c4_2 c4_3; obtain ⟨c4_0, c4_1, c4_2, c4_3⟩ := cs4 F4; clear hk y0 z0 y1 z1 y2 z2 y3 z3)
          | (go_at_call 26; with_reducible refine cl (impl_CommandValid.M c.1 c.2.1 c.2.2.1 c.2.2.2 _) B fun w206 hb B => ?_; replace F2 := bn F2 hb; replace F4 := bn F4 hb; clear c4_0 c4_1 c4_2 c4_3; obtain ⟨c4_0, c4_1, c4_2, c4_3⟩ := cs4 F4; clear hb)
          | (go_at_call 16; with_reducible refine cl (impl_CommandText.M c.1 c.2.1 c.2.2.1 c.2.2.2 _ (ts_tt HT B)) B fun w207 hb B => ?_; replace F2 := bn F2 hb; clear hb)
          | ((with_reducible refine gate_store (t := 28) (p := 2) rfl ?_); obtain ⟨y0, y1, y2, y3⟩ := cs4 F2; have z0 := fz F2 0; have z1 := fz F2 1; have z2 := fz F2 2; have z3 := fz F2 3; refine sx (t := 28) (t' := 28) (p := 2) (v := ?vo208) ?hg ?ho ?hn 0 [.int .i64 (0), .string (⟨#[]⟩ : ByteArray), .int .i64 (0), .int .i64 (0)] [.int .i64 (0), .string (⟨#[]⟩ : ByteArray), .int .i64 (0), .int .i64 (0)] ?hr B F2 L2 rfl (Nat.le_of_ble_eq_true rfl) ?_; (case ho => rfl); (case hg => rfl); (case hn => rfl); (case hr => first | (go_simp; done) | (go_simp; rfl)); intro w208 hk B G; replace F2 := G; clear hk y0 z0 y1 z1 y2 z2 y3 z3))
        refine bodyPost_ret (results_list (rs := [.cell 2 28, .tmp 3]) rfl (by simp) (.cell g2 28 _ (0, 0) _ rfl F2.out hu rfl (by kernel_rfl) (.tmp .nil))) rfl ?_
        subst hM
        exact ⟨rfl, B.out⟩
    · skip
      have hM : r = (rcZ, false) := by rw [← hr]; unfold rcI; rw [if_neg hl, hcc, if_neg (fun k => hv k.1)]
      replace hv := Bool.eq_false_iff.mpr hv
      clear hr
      go_enter Tryd.func20, Tryd.ntmps20
      go_wp2_with (first
        | ((with_reducible refine gate_dst (N := 2) rfl ?_); refine bx ?hg (N := 2) ?hd (cs := #[.int .i64 (0), .string (⟨#[]⟩ : ByteArray), .int .i64 (0), .int .i64 (0)]) (t := 28) ?hr B ?_; (case hd => rfl); (case hg => rfl); (case hr => first | (go_simp; done) | (go_simp; rfl)); intro g2 w301 hb B F2 L2 E2; clear hb E2)
        | (go_at_call 37; with_reducible refine csp (strings_Split.M s w _ HT B (by omega)) B fun ad cc w302 hb B RC => ?_; replace F2 := bn F2 hb; clear hb)
        | (go_at_call 36; with_reducible refine cl (impl_commandOf.M2 _ _ (wordsM s) c _ hcc (ts_te HT B) RC.out hp hz) B fun w303 hb B => ?_; replace F2 := bn F2 hb; clear hb)
        | ((with_reducible refine gate_dst (N := 4) rfl ?_); refine bx ?hg (N := 4) ?hd (cs := #[.int .i64 (0), .string (⟨#[]⟩ : ByteArray), .int .i64 (0), .int .i64 (0)]) (t := 28) ?hr B ?_; (case hd => rfl); (case hg => rfl); (case hr => first | (go_simp; done) | (go_simp; rfl)); intro g4 w304 hb B F4 L4 E4; have N2_4 := ne1 E4 F2; replace F2 := bn F2 hb; obtain ⟨c4_0, c4_1, c4_2, c4_3⟩ := cs4 F4; clear hb E4)
        | ((with_reducible refine gate_store (t := 28) (p := 4) rfl ?_); obtain ⟨y0, y1, y2, y3⟩ := cs4 F4; have z0 := fz F4 0; have z1 := fz F4 1; have z2 := fz F4 2; have z3 := fz F4 3; refine sx (t := 28) (t' := 28) (p := 4) (v := ?vo305) ?hg ?ho ?hn 0 [.int .i64 (c.1), .string c.2.1, .int .i64 (c.2.2.1), .int .i64 (c.2.2.2)] [.int .i64 (c.1), .string c.2.1, .int .i64 (c.2.2.1), .int .i64 (c.2.2.2)] ?hr B F4 L4 rfl (Nat.le_of_ble_eq_true rfl) ?_; (case ho => rfl); (case hg => rfl); (case hn => rfl); (case hr => first | (go_simp; done) | (go_simp; rfl)); intro w305 hk B G; replace F2 := bk F2 hk N2_4.out; replace F4 := G; clear c4_0 c4_1 c4_2 c4_3; obtain ⟨c4_0, c4_1, c4_2, c4_3⟩ := cs4 F4; clear hk y0 z0 y1 z1 y2 z2 y3 z3)
        | (go_at_call 26; with_reducible refine cl (impl_CommandValid.M c.1 c.2.1 c.2.2.1 c.2.2.2 _) B fun w306 hb B => ?_; replace F2 := bn F2 hb; replace F4 := bn F4 hb; clear c4_0 c4_1 c4_2 c4_3; obtain ⟨c4_0, c4_1, c4_2, c4_3⟩ := cs4 F4; clear hb)
        | (go_at_call 16; with_reducible refine cl (impl_CommandText.M c.1 c.2.1 c.2.2.1 c.2.2.2 _ (ts_tt HT B)) B fun w307 hb B => ?_; replace F2 := bn F2 hb; clear hb)
        | ((with_reducible refine gate_store (t := 28) (p := 2) rfl ?_); obtain ⟨y0, y1, y2, y3⟩ := cs4 F2; have z0 := fz F2 0; have z1 := fz F2 1; have z2 := fz F2 2; have z3 := fz F2 3; refine sx (t := 28) (t' := 28) (p := 2) (v := ?vo308) ?hg ?ho ?hn 0 [.int .i64 (0), .string (⟨#[]⟩ : ByteArray), .int .i64 (0), .int .i64 (0)] [.int .i64 (0), .string (⟨#[]⟩ : ByteArray), .int .i64 (0), .int .i64 (0)] ?hr B F2 L2 rfl (Nat.le_of_ble_eq_true rfl) ?_; (case ho => rfl); (case hg => rfl); (case hn => rfl); (case hr => first | (go_simp; done) | (go_simp; rfl)); intro w308 hk B G; replace F2 := G; clear hk y0 z0 y1 z1 y2 z2 y3 z3))
      refine bodyPost_ret (results_list (rs := [.cell 2 28, .tmp 3]) rfl (by simp) (.cell g2 28 _ (0, 0) _ rfl F2.out hu rfl (by kernel_rfl) (.tmp .nil))) rfl ?_
      subst hM
      exact ⟨rfl, B.out⟩

namespace Dw
/-! Eventually: for all large enough numbers of rounds; small lemmas on numbers and lists. -/
def Evn (P : Nat → Prop) : Prop := ∃ K, ∀ k, K ≤ k → P k

theorem Evn.all {P : Nat → Prop} (h : ∀ k, P k) : Evn P := ⟨0, fun k _ => h k⟩

theorem Evn.mp {P Q : Nat → Prop} (hp : Evn P) (hq : Evn fun k => P k → Q k) : Evn Q := by
  obtain ⟨K1, h1⟩ := hp
  obtain ⟨K2, h2⟩ := hq
  exact ⟨max K1 K2, fun k hk => h2 k (by omega) (h1 k (by omega))⟩

theorem Evn.succ {P : Nat → Prop} (h : Evn fun k => P (k + 1)) : Evn P := by
  obtain ⟨K, h⟩ := h
  refine ⟨K + 1, fun k hk => ?_⟩
  obtain ⟨m, rfl⟩ : ∃ m, k = m + 1 := ⟨k - 1, by omega⟩
  exact h m (by omega)

theorem Evn.some {P : Nat → Prop} (h : Evn P) : ∃ k, P k := by
  obtain ⟨K, h⟩ := h
  exact ⟨K, h K (Nat.le_refl K)⟩

theorem w64 {x : Int} (h0 : -9223372036854775808 ≤ x) (h1 : x ≤ 9223372036854775807) : wrap64 x = x := by
  unfold wrap64
  omega

theorem rd_drop {xs : List Int} {j : Nat} (h : j < xs.length) : xs.drop j = rd xs (j : Int) :: xs.drop (j + 1) := by
  rw [List.drop_eq_getElem_cons h]
  simp [rd, List.getD_eq_getElem?_getD, List.getElem?_eq_getElem h]

theorem rd_nat {xs : List Int} {j : Nat} (h : j < xs.length) : rd xs (j : Int) = xs[j] := by
  simp [rd, List.getD_eq_getElem?_getD, List.getElem?_eq_getElem h]

theorem wf64 {x : Int} (h : (Lit.int .i64 x).wf = true) : -9223372036854775808 ≤ x ∧ x ≤ 9223372036854775807 := by
  have h' : (decide (IntKind.i64.min ≤ x) && decide (x ≤ IntKind.i64.max)) = true := h
  rw [Bool.and_eq_true, decide_eq_true_eq, decide_eq_true_eq] at h'
  exact h'

/-! The reader of a code: a pick is in its range; the place goes on by one. -/
def Code (b : List Int) : Prop := b.length ≤ 2000 ∧ ∀ x ∈ b, 0 ≤ x ∧ x ≤ 255

theorem rd_code {b : List Int} (h : Code b) (i : Int) : 0 ≤ rd b i ∧ rd b i ≤ 255 := by
  unfold rd
  rw [List.getD_eq_getElem?_getD]
  by_cases hi : i.toNat < b.length
  · rw [List.getElem?_eq_getElem hi]
    exact h.2 _ (List.getElem_mem hi)
  · rw [List.getElem?_eq_none (by omega)]
    simp

theorem xor_pos (a b : Int) (ha0 : 0 ≤ a) (ha1 : a < 4611686018427387904) (hb0 : 0 ≤ b) (hb1 : b < 4611686018427387904) : 0 ≤ Go.bits .xor .i64 a b := by
  obtain ⟨n, rfl⟩ := Int.eq_ofNat_of_zero_le ha0
  obtain ⟨m, rfl⟩ := Int.eq_ofNat_of_zero_le hb0
  have hn : n < 2 ^ 62 := by omega
  have hm : m < 2 ^ 62 := by omega
  have hx := Nat.xor_lt_two_pow hn hm
  have n64 : n % 2 ^ 64 = n := Nat.mod_eq_of_lt (by omega)
  have m64 : m % 2 ^ 64 = m := Nat.mod_eq_of_lt (by omega)
  have e : Go.bits .xor .i64 (n : Int) (m : Int) = IntKind.i64.wrap ((n ^^^ m : Nat) : Int) := by
    show IntKind.i64.wrap (((BitVec.ofInt 64 (n : Int) ^^^ BitVec.ofInt 64 (m : Int)).toNat : Nat) : Int) = _
    rw [BitVec.ofInt_natCast, BitVec.ofInt_natCast, BitVec.toNat_xor, BitVec.toNat_ofNat, BitVec.toNat_ofNat, n64, m64]
  rw [e, IntKind.wrap_i64]
  omega

theorem spec_pick (b : List Int) (hb : Code b) (p n : Int) (h0 : 0 ≤ p) (h1 : p ≤ 1099511627776) :
    ∃ r, 0 ≤ r ∧ (1 ≤ n → r < n) ∧ (n ≤ 1 → r = 0) ∧ Evn fun k => spec_l20Rd_pick.f k b p n = some (r, p + 1) := by
  have hw : wrap64 (p + 1) = p + 1 := w64 (by omega) (by omega)
  by_cases hn : n < 1
  · refine ⟨0, by omega, by omega, by omega, Evn.succ (Evn.all fun k => ?_)⟩
    unfold spec_l20Rd_pick.f
    rw [if_pos hn, hw]
    simp only [spec_l20Rd_pick.j0]
    rw [if_pos trivial]
  · by_cases hl : b.length = 0
    · refine ⟨0, by omega, by omega, by omega, Evn.succ (Evn.all fun k => ?_)⟩
      unfold spec_l20Rd_pick.f
      rw [if_neg hn, hw, hl]
      simp only [spec_l20Rd_pick.j0]
      rw [if_pos (by rfl)]
    · have hl1 : 1 ≤ (b.length : Int) := by omega
      have hle : ((b.length : Int) == 0) = false := by simpa using hl
      have e1 : wrap64 (p + 1 - 1) = p := by rw [show p + 1 - 1 = p by omega]; exact w64 (by omega) (by omega)
      by_cases hp : p < (b.length : Int)
      · have hr := rd_code hb p
        refine ⟨Int.tmod (rd b p) n, Int.tmod_nonneg n hr.1, fun h => Int.tmod_lt_of_pos _ (by omega), fun h => ?_, Evn.succ (Evn.all fun k => ?_)⟩
        · have : n = 1 := by omega
          subst this
          exact Int.tmod_one _
        · unfold spec_l20Rd_pick.f
          rw [if_neg hn, hw, hle]
          simp only [spec_l20Rd_pick.j0]
          rw [if_neg (by simp), e1, if_pos hp, if_pos h0, if_neg (by omega), w64 (x := rd b p) (by omega) (by omega)]
      · have ei : Int.tmod p (b.length : Int) = p % (b.length : Int) := Int.tmod_eq_emod_of_nonneg h0
        have i0 : 0 ≤ p % (b.length : Int) := Int.emod_nonneg _ (by omega)
        have i1 : p % (b.length : Int) < (b.length : Int) := Int.emod_lt_of_pos _ (by omega)
        have e7 : wrap64 (wrap64 (p * 7) + 3) = p * 7 + 3 := by rw [w64 (x := p * 7) (by omega) (by omega), w64 (by omega) (by omega)]
        have ej : Int.tmod (p * 7 + 3) (b.length : Int) = (p * 7 + 3) % (b.length : Int) := Int.tmod_eq_emod_of_nonneg (by omega)
        have j0 : 0 ≤ (p * 7 + 3) % (b.length : Int) := Int.emod_nonneg _ (by omega)
        have j1 : (p * 7 + 3) % (b.length : Int) < (b.length : Int) := Int.emod_lt_of_pos _ (by omega)
        have eq : Int.tdiv p (b.length : Int) = p / (b.length : Int) := Int.tdiv_eq_ediv_of_nonneg h0
        have q0 : 0 ≤ p / (b.length : Int) := Int.ediv_nonneg h0 (by omega)
        have q1 : p / (b.length : Int) ≤ p := Int.ediv_le_self _ h0
        have hu := rd_code hb (p % (b.length : Int))
        have hv := rd_code hb ((p * 7 + 3) % (b.length : Int))
        have main : ∀ u v q : Int, 0 ≤ u → u ≤ 255 → 0 ≤ v → v ≤ 255 → 0 ≤ q → q ≤ p →
            ∃ x, wrap64 ((wrap64 ((wrap64 ((wrap64 ((wrap64 u) * 131)) + (wrap64 ((wrap64 v) * 1117)))) + (wrap64 (p * 29)))) + (wrap64 ((wrap64 q) * 53))) = x ∧ 0 ≤ x ∧ x < 4611686018427387904 ∧ 0 ≤ wrap64 (Int.tdiv x 64) ∧ wrap64 (Int.tdiv x 64) < 4611686018427387904 := by
          intro u v q u0 u1 v0 v1 q0 q1
          refine ⟨u * 131 + v * 1117 + p * 29 + q * 53, ?_, by omega, by omega, ?_, ?_⟩
          · rw [w64 (x := u) (by omega) (by omega), w64 (x := v) (by omega) (by omega), w64 (x := q) (by omega) (by omega), w64 (x := u * 131) (by omega) (by omega), w64 (x := v * 1117) (by omega) (by omega), w64 (x := p * 29) (by omega) (by omega), w64 (x := q * 53) (by omega) (by omega), w64 (x := u * 131 + v * 1117) (by omega) (by omega), w64 (x := u * 131 + v * 1117 + p * 29) (by omega) (by omega), w64 (by omega) (by omega)]
          all_goals
            rw [Int.tdiv_eq_ediv_of_nonneg (by omega), w64 (by omega) (by omega)]
            omega
        obtain ⟨x, hx, x0, x1, y0, y1⟩ := main _ _ _ hu.1 hu.2 hv.1 hv.2 q0 q1
        refine ⟨Int.tmod (Go.bits .xor .i64 x (wrap64 (Int.tdiv x 64))) n, Int.tmod_nonneg n (xor_pos _ _ x0 x1 y0 y1), fun h => Int.tmod_lt_of_pos _ (by omega), fun h => ?_, Evn.succ (Evn.all fun k => ?_)⟩
        · have : n = 1 := by omega
          subst this
          exact Int.tmod_one _
        · unfold spec_l20Rd_pick.f
          rw [if_neg hn, hw, hle]
          simp only [spec_l20Rd_pick.j0]
          rw [if_neg (by simp), e1, if_neg hp, if_neg (by omega), ei, if_pos i0, if_pos i1, e7, ej, if_pos j0, if_pos j1, if_neg (by omega), eq, hx]

theorem spec_odd (b : List Int) (hb : Code b) (p n : Int) (h0 : 0 ≤ p) (h1 : p ≤ 1099511627776) (hn : n ≤ 1000000) :
    ∃ r q, p ≤ q ∧ q ≤ p + 1 ∧ (n ≤ 0 → r = false) ∧ Evn fun k => spec_l20Rd_odd.f k b p n = some (r, q) := by
  by_cases h : n > 0
  · obtain ⟨r, _, _, _, e⟩ := spec_pick b hb p n h0 h1
    refine ⟨r == wrap64 (n - 1), p + 1, by omega, by omega, by omega, Evn.mp e (Evn.all fun k e => ?_)⟩
    unfold spec_l20Rd_odd.f
    rw [if_pos h, e]
    rfl
  · refine ⟨false, p, by omega, by omega, fun _ => rfl, Evn.all fun k => ?_⟩
    unfold spec_l20Rd_odd.f
    rw [if_neg h]

theorem spec_open (l : List Int) (hl : ∀ x ∈ l, (Lit.int .u8 x).wf = true) : ∃ b, Code b ∧ spec_l20Open.f l = some (b, 0) := by
  have hx : ∀ x ∈ l, 0 ≤ x ∧ x ≤ 255 := fun x hx => by
    have h' : (decide (IntKind.u8.min ≤ x) && decide (x ≤ IntKind.u8.max)) = true := hl x hx
    rw [Bool.and_eq_true, decide_eq_true_eq, decide_eq_true_eq] at h'
    exact h'
  unfold spec_l20Open.f
  by_cases h : (l.length : Int) > 2000
  · refine ⟨l.take 2000, ⟨by rw [List.length_take]; omega, fun x hm => hx x (List.mem_of_mem_take hm)⟩, ?_⟩
    rw [if_pos h, if_pos (by omega)]
  · exact ⟨l, ⟨by omega, hx⟩, by rw [if_neg h]⟩

/-! What a reader draws: a value with what is known of it, and the place behind it, not far. -/
def Dr {α : Type} (g : Nat → Option (α × Int)) (p c : Int) (P : α → Prop) : Prop := ∃ r q, p ≤ q ∧ q ≤ p + c ∧ P r ∧ Evn fun k => g k = some (r, q)

theorem Dr.bind {α β : Type} {g : Nat → Option (α × Int)} {H : Nat → α × Int → Option (β × Int)} {p c C : Int} {P : α → Prop} {Q : β → Prop}
    (h1 : Dr g p c P) (h2 : ∀ bt : α × Int, P bt.1 → p ≤ bt.2 → bt.2 ≤ p + c → Dr (fun k => H k bt) bt.2 (C - c) Q) : Dr (fun k => (g k).bind (H k)) p C Q := by
  obtain ⟨r, q, hq0, hq1, hr, e⟩ := h1
  obtain ⟨r', q', h0, h1, hr', e'⟩ := h2 (r, q) hr hq0 hq1
  refine ⟨r', q', by simp only at h0; omega, by simp only at h1; omega, hr', Evn.mp e (Evn.mp e' (Evn.all fun k e' e => ?_))⟩
  dsimp only
  rw [e]
  exact e'

theorem Dr.pure {α : Type} {p c : Int} {P : α → Prop} {r : α} (hr : P r) (hc : 0 ≤ c) : Dr (fun _ => some (r, p)) p c P :=
  ⟨r, p, by omega, by omega, hr, Evn.all fun _ => rfl⟩

theorem Dr.ite {α : Type} {g h : Nat → Option (α × Int)} {p c : Int} {P : α → Prop} {b : Prop} [Decidable b] (h1 : b → Dr g p c P) (h2 : ¬ b → Dr h p c P) : Dr (fun k => if b then g k else h k) p c P := by
  by_cases hb : b
  · simpa [hb] using h1 hb
  · simpa [hb] using h2 hb

/-- a value that is computed on the way, by a function that draws nothing -/
theorem Dr.run {α β : Type} {g : Nat → Option α} {H : Nat → α → Option (β × Int)} {p c : Int} {Q : β → Prop} {r : α} (h1 : Evn fun k => g k = some r) (h2 : Dr (fun k => H k r) p c Q) : Dr (fun k => (g k).bind (H k)) p c Q := by
  obtain ⟨r', q', h0, h1', hr', e'⟩ := h2
  refine ⟨r', q', h0, h1', hr', Evn.mp h1 (Evn.mp e' (Evn.all fun k e' e => ?_))⟩
  dsimp only
  rw [e]
  exact e'

theorem Dr.some_bind {α β : Type} {H : Nat → α → Option (β × Int)} {p c : Int} {Q : β → Prop} {r : α} (h2 : Dr (fun k => H k r) p c Q) : Dr (fun k => (some r).bind (H k)) p c Q := h2

theorem Dr.le {α : Type} {g : Nat → Option (α × Int)} {p c C : Int} {P Q : α → Prop} (h : Dr g p c P) (hc : c ≤ C) (hp : ∀ r, P r → Q r) : Dr g p C Q := by
  obtain ⟨r, q, h0, h1, hr, e⟩ := h
  exact ⟨r, q, h0, by omega, hp r hr, e⟩

theorem Dr.congr {α : Type} {g h : Nat → Option (α × Int)} {p c : Int} {P : α → Prop} (hg : Dr h p c P) (e : ∀ k, g k = h k) : Dr g p c P := by
  obtain ⟨r, q, h0, h1, hr, e'⟩ := hg
  exact ⟨r, q, h0, h1, hr, Evn.mp e' (Evn.all fun k e' => (e k).trans e')⟩

theorem Dr.succ {α : Type} {g : Nat → Option (α × Int)} {p c : Int} {P : α → Prop} (h : Dr (fun k => g (k + 1)) p c P) : Dr g p c P := by
  obtain ⟨r, q, h0, h1, hr, e⟩ := h
  exact ⟨r, q, h0, h1, hr, Evn.succ e⟩

/-- one of a list's values, by an index that was drawn -/
theorem Dr.elt {p c : Int} {P : Int → Prop} {xs : List Int} {i : Int} (h0 : 0 ≤ i) (h1 : i < (xs.length : Int)) (hP : ∀ x ∈ xs, P x) (hc : 0 ≤ c) : Dr (fun _ => if 0 ≤ i then (if i < (xs.length : Int) then some (rd xs i, p) else none) else none) p c P := by
  refine ⟨rd xs i, p, by omega, by omega, ?_, Evn.all fun k => by rw [if_pos h0, if_pos h1]⟩
  obtain ⟨j, rfl⟩ : ∃ j : Nat, i = (j : Int) := ⟨i.toNat, by omega⟩
  rw [rd_nat (by omega)]
  exact hP _ (List.getElem_mem _)

def InPick (n r : Int) : Prop := 0 ≤ r ∧ (1 ≤ n → r < n) ∧ (n ≤ 1 → r = 0)

theorem dr_pick {b : List Int} (hb : Code b) {p : Int} (n : Int) (h0 : 0 ≤ p) (h1 : p ≤ 1099511627776) : Dr (fun k => spec_l20Rd_pick.f k b p n) p 1 (InPick n) := by
  obtain ⟨r, a, c, d, e⟩ := spec_pick b hb p n h0 h1
  exact ⟨r, p + 1, by omega, by omega, ⟨a, c, d⟩, e⟩

theorem dr_odd {b : List Int} (hb : Code b) {p : Int} (n : Int) (h0 : 0 ≤ p) (h1 : p ≤ 1099511627776) (hn : n ≤ 1000000) : Dr (fun k => spec_l20Rd_odd.f k b p n) p 1 (fun r => n ≤ 0 → r = false) := by
  obtain ⟨r, q, a, c, d, e⟩ := spec_odd b hb p n h0 h1 hn
  exact ⟨r, q, a, c, d, e⟩

/-- What is drawn at the end: no place behind it. -/
def Drw {α : Type} (g : Nat → Option α) (P : α → Prop) : Prop := ∃ r, P r ∧ Evn fun k => g k = some r

theorem Drw.bind {α β : Type} {g : Nat → Option (α × Int)} {H : Nat → α × Int → Option β} {p c : Int} {P : α → Prop} {Q : β → Prop}
    (h1 : Dr g p c P) (h2 : ∀ bt : α × Int, P bt.1 → p ≤ bt.2 → bt.2 ≤ p + c → Drw (fun k => H k bt) Q) : Drw (fun k => (g k).bind (H k)) Q := by
  obtain ⟨r, q, hq0, hq1, hr, e⟩ := h1
  obtain ⟨r', hr', e'⟩ := h2 (r, q) hr hq0 hq1
  refine ⟨r', hr', Evn.mp e (Evn.mp e' (Evn.all fun k e' e => ?_))⟩
  dsimp only
  rw [e]
  exact e'

theorem Drw.pure {α : Type} {P : α → Prop} {r : α} (hr : P r) : Drw (fun _ => some r) P := ⟨r, hr, Evn.all fun _ => rfl⟩

theorem Drw.ite {α : Type} {g h : Nat → Option α} {P : α → Prop} {b : Prop} [Decidable b] (h1 : b → Drw g P) (h2 : ¬ b → Drw h P) : Drw (fun k => if b then g k else h k) P := by
  by_cases hb : b
  · simpa [hb] using h1 hb
  · simpa [hb] using h2 hb

theorem Drw.run {α β : Type} {g : Nat → Option α} {H : Nat → α → Option β} {Q : β → Prop} {r : α} (h1 : Evn fun k => g k = some r) (h2 : Drw (fun k => H k r) Q) : Drw (fun k => (g k).bind (H k)) Q := by
  obtain ⟨r', hr', e'⟩ := h2
  refine ⟨r', hr', Evn.mp h1 (Evn.mp e' (Evn.all fun k e' e => ?_))⟩
  dsimp only
  rw [e]
  exact e'

theorem Drw.drw {α β : Type} {g : Nat → Option α} {H : Nat → α → Option β} {P : α → Prop} {Q : β → Prop} (h1 : Drw g P) (h2 : ∀ r, P r → Drw (fun k => H k r) Q) : Drw (fun k => (g k).bind (H k)) Q := by
  obtain ⟨r, hr, e⟩ := h1
  exact Drw.run e (h2 r hr)

theorem Drw.some_bind {α β : Type} {H : Nat → α → Option β} {Q : β → Prop} {r : α} (h2 : Drw (fun k => H k r) Q) : Drw (fun k => (some r).bind (H k)) Q := h2

theorem Drw.congr {α : Type} {g h : Nat → Option α} {P : α → Prop} (hg : Drw h P) (e : ∀ k, g k = h k) : Drw g P := by
  obtain ⟨r, hr, e'⟩ := hg
  exact ⟨r, hr, Evn.mp e' (Evn.all fun k e' => (e k).trans e')⟩

theorem Drw.le {α : Type} {g : Nat → Option α} {P Q : α → Prop} (h : Drw g P) (hp : ∀ r, P r → Q r) : Drw g Q := by
  obtain ⟨r, hr, e⟩ := h
  exact ⟨r, hp r hr, e⟩

/-! The same where the place lies deeper in what is drawn. -/
def Dp {τ : Type} (pl : τ → Int) (g : Nat → Option τ) (p c : Int) (P : τ → Prop) : Prop := ∃ r, p ≤ pl r ∧ pl r ≤ p + c ∧ P r ∧ Evn fun k => g k = some r

theorem Dr.bindP {α τ : Type} {pl : τ → Int} {g : Nat → Option (α × Int)} {H : Nat → α × Int → Option τ} {p c C : Int} {P : α → Prop} {Q : τ → Prop}
    (h1 : Dr g p c P) (h2 : ∀ bt : α × Int, P bt.1 → p ≤ bt.2 → bt.2 ≤ p + c → Dp pl (fun k => H k bt) bt.2 (C - c) Q) : Dp pl (fun k => (g k).bind (H k)) p C Q := by
  obtain ⟨r, q, hq0, hq1, hr, e⟩ := h1
  obtain ⟨r', h0, h1, hr', e'⟩ := h2 (r, q) hr hq0 hq1
  refine ⟨r', by simp only at h0; omega, by simp only at h1; omega, hr', Evn.mp e (Evn.mp e' (Evn.all fun k e' e => ?_))⟩
  dsimp only
  rw [e]
  exact e'

theorem Dp.bind {σ τ : Type} {pl : σ → Int} {pl' : τ → Int} {g : Nat → Option σ} {H : Nat → σ → Option τ} {p c C : Int} {P : σ → Prop} {Q : τ → Prop}
    (h1 : Dp pl g p c P) (h2 : ∀ r : σ, P r → p ≤ pl r → pl r ≤ p + c → Dp pl' (fun k => H k r) (pl r) (C - c) Q) : Dp pl' (fun k => (g k).bind (H k)) p C Q := by
  obtain ⟨r, hq0, hq1, hr, e⟩ := h1
  obtain ⟨r', h0, h1, hr', e'⟩ := h2 r hr hq0 hq1
  refine ⟨r', by omega, by omega, hr', Evn.mp e (Evn.mp e' (Evn.all fun k e' e => ?_))⟩
  dsimp only
  rw [e]
  exact e'

theorem Dp.bindR {σ β : Type} {pl : σ → Int} {g : Nat → Option σ} {H : Nat → σ → Option (β × Int)} {p c C : Int} {P : σ → Prop} {Q : β → Prop}
    (h1 : Dp pl g p c P) (h2 : ∀ r : σ, P r → p ≤ pl r → pl r ≤ p + c → Dr (fun k => H k r) (pl r) (C - c) Q) : Dr (fun k => (g k).bind (H k)) p C Q := by
  obtain ⟨r, hq0, hq1, hr, e⟩ := h1
  obtain ⟨r', q', h0, h1, hr', e'⟩ := h2 r hr hq0 hq1
  refine ⟨r', q', by omega, by omega, hr', Evn.mp e (Evn.mp e' (Evn.all fun k e' e => ?_))⟩
  dsimp only
  rw [e]
  exact e'

theorem Dp.pure {τ : Type} {pl : τ → Int} {p c : Int} {P : τ → Prop} {r : τ} (hp : pl r = p) (hr : P r) (hc : 0 ≤ c) : Dp pl (fun _ => some r) p c P :=
  ⟨r, by omega, by omega, hr, Evn.all fun _ => rfl⟩

theorem Dp.ite {τ : Type} {pl : τ → Int} {g h : Nat → Option τ} {p c : Int} {P : τ → Prop} {b : Prop} [Decidable b] (h1 : b → Dp pl g p c P) (h2 : ¬ b → Dp pl h p c P) : Dp pl (fun k => if b then g k else h k) p c P := by
  by_cases hb : b
  · simpa [hb] using h1 hb
  · simpa [hb] using h2 hb

theorem Dp.run {α τ : Type} {pl : τ → Int} {g : Nat → Option α} {H : Nat → α → Option τ} {p c : Int} {Q : τ → Prop} {r : α} (h1 : Evn fun k => g k = some r) (h2 : Dp pl (fun k => H k r) p c Q) : Dp pl (fun k => (g k).bind (H k)) p c Q := by
  obtain ⟨r', h0, h1', hr', e'⟩ := h2
  refine ⟨r', h0, h1', hr', Evn.mp h1 (Evn.mp e' (Evn.all fun k e' e => ?_))⟩
  dsimp only
  rw [e]
  exact e'

theorem Dp.some_bind {α τ : Type} {pl : τ → Int} {H : Nat → α → Option τ} {p c : Int} {Q : τ → Prop} {r : α} (h2 : Dp pl (fun k => H k r) p c Q) : Dp pl (fun k => (some r).bind (H k)) p c Q := h2

theorem Dp.le {τ : Type} {pl : τ → Int} {g : Nat → Option τ} {p c C : Int} {P Q : τ → Prop} (h : Dp pl g p c P) (hc : c ≤ C) (hp : ∀ r, P r → Q r) : Dp pl g p C Q := by
  obtain ⟨r, h0, h1, hr, e⟩ := h
  exact ⟨r, h0, by omega, hp r hr, e⟩

theorem Dp.congr {τ : Type} {pl : τ → Int} {g h : Nat → Option τ} {p c : Int} {P : τ → Prop} (hg : Dp pl h p c P) (e : ∀ k, g k = h k) : Dp pl g p c P := by
  obtain ⟨r, h0, h1, hr, e'⟩ := hg
  exact ⟨r, h0, h1, hr, Evn.mp e' (Evn.all fun k e' => (e k).trans e')⟩

theorem Dp.succ {τ : Type} {pl : τ → Int} {g : Nat → Option τ} {p c : Int} {P : τ → Prop} (h : Dp pl (fun k => g (k + 1)) p c P) : Dp pl g p c P := by
  obtain ⟨r, h0, h1, hr, e⟩ := h
  exact ⟨r, h0, h1, hr, Evn.succ e⟩

theorem Drw.bindP {σ β : Type} {pl : σ → Int} {g : Nat → Option σ} {H : Nat → σ → Option β} {p c : Int} {P : σ → Prop} {Q : β → Prop}
    (h1 : Dp pl g p c P) (h2 : ∀ r : σ, P r → p ≤ pl r → pl r ≤ p + c → Drw (fun k => H k r) Q) : Drw (fun k => (g k).bind (H k)) Q := by
  obtain ⟨r, hq0, hq1, hr, e⟩ := h1
  obtain ⟨r', hr', e'⟩ := h2 r hr hq0 hq1
  refine ⟨r', hr', Evn.mp e (Evn.mp e' (Evn.all fun k e' e => ?_))⟩
  dsimp only
  rw [e]
  exact e'

theorem rdOf_mem {α : Type} (d : α) {xs : List α} {i : Int} (h0 : 0 ≤ i) (h1 : i < (xs.length : Int)) : rdOf d xs i ∈ xs := by
  obtain ⟨j, rfl⟩ : ∃ j : Nat, i = (j : Int) := ⟨i.toNat, by omega⟩
  have hj : j < xs.length := by omega
  unfold rdOf
  rw [Int.toNat_natCast, List.getD_eq_getElem?_getD, List.getElem?_eq_getElem hj]
  exact List.getElem_mem hj

/-- one of a list's values, by an index that was drawn -/
theorem Dr.eltOf {α : Type} (d : α) {p c : Int} {P : α → Prop} {xs : List α} {i : Int} (h0 : 0 ≤ i) (h1 : i < (xs.length : Int)) (hP : ∀ x ∈ xs, P x) (hc : 0 ≤ c) :
    Dr (fun _ => if 0 ≤ i then (if i < (xs.length : Int) then some (rdOf d xs i, p) else none) else none) p c P :=
  ⟨rdOf d xs i, p, by omega, by omega, hP _ (rdOf_mem d h0 h1), Evn.all fun k => by rw [if_pos h0, if_pos h1]⟩

/-! Strings and their bytes. -/
theorem str_nil : strOfNums [] = (⟨#[]⟩ : ByteArray) := rfl
theorem ba_ext {a b : ByteArray} (h : a.data.toList = b.data.toList) : a = b := by
  cases a; cases b; simp only [ByteArray.mk.injEq]; exact Array.toList_inj.mp h
theorem ba_append (a b : ByteArray) : (a ++ b).data.toList = a.data.toList ++ b.data.toList := by
  rw [ByteArray.data_append, Array.toList_append]
theorem str_append (xs ys : List Int) : strOfNums (xs ++ ys) = strOfNums xs ++ strOfNums ys := by
  refine ba_ext ?_
  rw [ba_append, strOfNums_data, strOfNums_data, strOfNums_data, List.map_append]
theorem str_bytes (s : ByteArray) : strOfNums (bytesOf s) = s := by
  refine ba_ext ?_
  rw [strOfNums_data, bytesOf, List.map_map]
  exact (List.map_congr_left (g := id) fun b _ => by simp).trans (List.map_id _)
theorem bytes_str {xs : List Int} (h : ∀ x ∈ xs, 0 ≤ x ∧ x ≤ 255) : bytesOf (strOfNums xs) = xs := by
  rw [bytesOf, strOfNums_data, List.map_map]
  refine (List.map_congr_left (g := id) fun x hx => ?_).trans (List.map_id _)
  have := h x hx
  simp only [Function.comp, id]
  rw [UInt8.toNat_ofNat_of_lt' (by simp [UInt8.size]; omega)]
  omega
theorem ba_toList (s : ByteArray) : s.toList = s.data.toList := Lib.toList_data s
theorem ba_toList_inj {s t : ByteArray} : s.toList = t.toList ↔ s = t := by
  refine ⟨fun h => ba_ext ?_, fun h => by rw [h]⟩
  rwa [ba_toList, ba_toList] at h
theorem bytes_byte (s : ByteArray) : ∀ x ∈ bytesOf s, 0 ≤ x ∧ x ≤ 255 := by
  intro x hx
  unfold bytesOf at hx
  obtain ⟨b, _, rfl⟩ := List.mem_map.mp hx
  have := b.toNat_lt
  omega

/-! The model of keys. -/
def lowB (x : Int) : Bool := decide (97 ≤ x) && decide (x ≤ 122)
def keyB (s : ByteArray) : Bool := decide (1 ≤ s.size) && decide (s.size ≤ 4) && (bytesOf s).all lowB
theorem bt_drop' {s : ByteArray} {j : Nat} (h : j < s.size) : (bytesOf s).drop j = bt s (j : Int) :: (bytesOf s).drop (j + 1) := by
  rw [rd_drop (by rw [bytesOf_length]; exact h), rd_bytesOf]
theorem bytesOf_tail (s : ByteArray) : bytesOf (s.extract 1 s.size) = (bytesOf s).drop 1 := by
  unfold bytesOf
  rw [← List.map_drop]
  refine congrArg _ ?_
  rw [ByteArray.data_extract, Array.toList_extract]
  rw [List.extract_eq_take_drop, List.take_of_length_le (by rw [List.length_drop, data_length]; omega)]
theorem nil_iff (s : ByteArray) : s.toList = ([] : List UInt8) ↔ s.size = 0 := by
  rw [ba_toList]
  refine ⟨fun h => ?_, fun h => ?_⟩
  · have := data_length s
    rw [h] at this
    exact this.symm
  · exact List.eq_nil_of_length_eq_zero (by rw [data_length]; exact h)

theorem dr_keyl {b : List Int} (hb : Code b) (m : Nat) : ∀ (s : ByteArray) (p : Int), 0 ≤ p → p + (m : Int) ≤ 1099511627776 → s.size + m ≤ 4 → (bytesOf s).all lowB = true →
    Dr (fun k => spec_l20Key.l0 k s (m : Int) b p) p (m : Int) (fun r => r.size = s.size + m ∧ (bytesOf r).all lowB = true) := by
  induction m with
  | zero =>
    intro s p h0 h1 hs hl
    refine Dr.succ (Dr.congr ?_ fun k => spec_l20Key.l0.eq_2 ..)
    exact Dr.ite (fun h => absurd h (by omega)) fun _ => Dr.pure ⟨by omega, hl⟩ (by omega)
  | succ m ih =>
    intro s p h0 h1 hs hl
    refine Dr.succ (Dr.congr ?_ fun k => spec_l20Key.l0.eq_2 ..)
    refine Dr.ite (fun _ => ?_) fun h => absurd (show ((m + 1 : Nat) : Int) > 0 by omega) h
    refine Dr.bind (dr_pick hb 4 (by omega) (by omega)) fun bt hr _ _ => Dr.some_bind (Dr.ite (fun _ => ?_) fun h => absurd (show s.size + (strOfNums [wrap64 (97 + bt.1) % 256]).size ≤ 9223372036854775807 by rw [strOfNums_size]; simp only [List.length_cons, List.length_nil]; omega) h)
    have hr0 := hr.1
    have hr1 := hr.2.1 (by omega)
    have hw : wrap64 (97 + bt.1) % 256 = 97 + bt.1 := by rw [w64 (by omega) (by omega)]; omega
    rw [hw, show wrap64 (((m + 1 : Nat) : Int) - 1) = (m : Int) by rw [w64 (by omega) (by omega)]; omega]
    have hsz : (s ++ strOfNums [97 + bt.1]).size = s.size + 1 := by rw [ByteArray.size_append, strOfNums_size]; rfl
    have hbs : bytesOf (s ++ strOfNums [97 + bt.1]) = bytesOf s ++ [97 + bt.1] := by
      rw [show bytesOf (s ++ strOfNums [97 + bt.1]) = bytesOf s ++ bytesOf (strOfNums [97 + bt.1]) by unfold bytesOf; rw [ba_append, List.map_append], bytes_str (fun x hx => by simp at hx; omega)]
    refine Dr.le (ih _ bt.2 (by omega) (by omega) (by omega) ?_) (by omega) fun r hr => ⟨by rw [hr.1, hsz]; omega, hr.2⟩
    rw [hbs, List.all_append, hl]
    simp only [List.all_cons, List.all_nil, lowB, Bool.true_and, Bool.and_true]
    rw [decide_eq_true (by omega), decide_eq_true (by omega)]
    rfl

theorem dr_key {b : List Int} (hb : Code b) {p : Int} (n : Int) (h0 : 0 ≤ p) (h1 : p ≤ 1099511000000) (hn : n ≤ 1000000) :
    Dr (fun k => spec_l20Key.f k b p n) p 6 (fun s => s.size ≤ 5 ∧ (n ≤ 0 → keyB s = true)) := by
  unfold spec_l20Key.f
  refine Dr.bind (dr_odd hb n (by omega) (by omega) hn) fun bt ho _ _ => Dr.ite (fun ht => ?_) (fun _ => ?_)
  · refine Dr.some_bind (Dr.bind (dr_pick hb 6 (by omega) (by omega)) fun bt2 hr _ _ => Dr.eltOf _ hr.1 (hr.2.1 (by omega)) (fun x hx => ⟨?_, fun hn0 => ?_⟩) (by omega))
    · simp only [List.mem_cons, List.not_mem_nil, or_false] at hx
      rcases hx with rfl | rfl | rfl | rfl | rfl | rfl <;> decide
    · rw [ho hn0] at ht
      cases ht
  · refine Dr.bind (dr_pick hb 12 (by omega) (by omega)) fun bt2 _ _ _ => Dr.ite (fun _ => ?_) (fun _ => ?_)
    · refine Dr.some_bind (Dr.bind (dr_pick hb 5 (by omega) (by omega)) fun bt3 hr _ _ => Dr.eltOf _ hr.1 (hr.2.1 (by omega)) (fun x hx => ?_) (by omega))
      simp only [List.mem_cons, List.not_mem_nil, or_false] at hx
      rcases hx with rfl | rfl | rfl | rfl | rfl <;> exact ⟨by decide, fun _ => by decide +kernel⟩
    · refine Dr.bind (dr_pick hb 2 (by omega) (by omega)) fun bt3 hr _ _ => ?_
      have hr0 := hr.1
      have hr1 := hr.2.1 (by omega)
      obtain ⟨m, hm⟩ : ∃ m : Nat, wrap64 (1 + bt3.1) = (m : Int) := ⟨(1 + bt3.1).toNat, by rw [w64 (by omega) (by omega)]; omega⟩
      rw [hm]
      rw [w64 (by omega) (by omega)] at hm
      refine Dr.le (dr_keyl hb m ⟨#[]⟩ bt3.2 (by omega) (by omega) (by have : (⟨#[]⟩ : ByteArray).size = 0 := rfl; omega) rfl) (by omega) fun r hr => ?_
      have h00 : (⟨#[]⟩ : ByteArray).size = 0 := rfl
      refine ⟨by omega, fun _ => ?_⟩
      unfold keyB
      rw [hr.2, decide_eq_true (by omega), decide_eq_true (by omega)]
      rfl

/-! The model of commands. -/
def valB (x : Int) : Bool := decide (0 ≤ x ∧ x ≤ 999)
def cmdB (kind : Int) (key : ByteArray) (value old : Int) : Bool :=
  (keyB key || (decide (kind = 5) && decide (key.size = 0))) &&
  (if kind = 2 then valB value && decide (old = 0) else if kind = 4 then valB value && (decide (old = -1) || valB old) else decide (1 ≤ kind ∧ kind ≤ 5) && (decide (value = 0) && decide (old = 0)))
theorem nil_dec (s : ByteArray) : decide (s.toList = ([] : List UInt8)) = decide (s.size = 0) := decide_eq_decide.mpr (nil_iff s)

theorem dr_value {b : List Int} (hb : Code b) {p : Int} (n : Int) (h0 : 0 ≤ p) (h1 : p ≤ 1099511000000) (hn : n ≤ 1000000) :
    Dr (fun k => spec_l20Value.f k b p n) p 3 (fun v => -1 ≤ v ∧ v ≤ 1000 ∧ (n ≤ 0 → 0 ≤ v ∧ v ≤ 999)) := by
  unfold spec_l20Value.f
  refine Dr.bind (dr_odd hb n (by omega) (by omega) hn) fun bt ho _ _ => Dr.ite (fun ht => ?_) (fun _ => ?_)
  · refine Dr.some_bind (Dr.bind (dr_pick hb 2 (by omega) (by omega)) fun bt2 hr _ _ => Dr.elt hr.1 (hr.2.1 (by omega)) (fun x hx => ?_) (by omega))
    simp only [List.mem_cons, List.not_mem_nil, or_false] at hx
    refine ⟨by omega, by omega, fun hn0 => ?_⟩
    rw [ho hn0] at ht
    cases ht
  · refine Dr.bind (dr_pick hb 20 (by omega) (by omega)) fun bt2 hr2 _ _ => Dr.some_bind (Dr.bind (dr_pick hb 9 (by omega) (by omega)) fun bt3 hr _ _ => ?_)
    have a := hr.1
    have c := hr.2.1 (by omega)
    have d := hr2.1
    have e := hr2.2.1 (by omega)
    refine Dr.elt ?_ ?_ (fun x hx => ?_) (by omega)
    · rw [Int.tdiv_eq_ediv_of_nonneg a, w64 (by omega) (by omega)]; omega
    · rw [Int.tdiv_eq_ediv_of_nonneg a, w64 (by omega) (by omega)]; simp only [List.length_cons, List.length_nil]; omega
    · simp only [List.mem_cons, List.not_mem_nil, or_false] at hx
      refine ⟨by omega, by omega, fun _ => by omega⟩

def cmdPl (r : Int × ByteArray × Int × Int × Int) : Int := r.2.2.2.2
def cmdOk (r : Int × ByteArray × Int × Int × Int) : Prop := cmdB r.1 r.2.1 r.2.2.1 r.2.2.2.1 = true
theorem cmdB_mk {kind value old : Int} {key : ByteArray} (hk : keyB key = true) (h : (kind = 1 ∨ kind = 3 ∨ kind = 5) ∧ value = 0 ∧ old = 0 ∨ kind = 2 ∧ (0 ≤ value ∧ value ≤ 999) ∧ old = 0 ∨ kind = 4 ∧ (0 ≤ value ∧ value ≤ 999) ∧ (-1 ≤ old ∧ old ≤ 999)) : cmdB kind key value old = true := by
  unfold cmdB valB
  rw [hk, Bool.true_or, Bool.true_and]
  rcases h with ⟨h, rfl, rfl⟩ | ⟨rfl, h, rfl⟩ | ⟨rfl, h, ho⟩
  · rw [if_neg (by omega), if_neg (by omega), decide_eq_true (by omega)]
    rfl
  · rw [if_pos rfl, decide_eq_true h]
    rfl
  · rw [if_neg (by omega), if_pos rfl, decide_eq_true h, ← Bool.decide_or, decide_eq_true (by omega)]
    rfl

theorem dr_cmdj {b : List Int} (hb : Code b) {p : Int} (key : ByteArray) (h0 : 0 ≤ p) (h1 : p ≤ 1099510500000) (hs : key.size ≤ 5) :
    Dp cmdPl (fun k => spec_l20Cmd.j0 k key b p) p 5 (fun r => r.2.1.size ≤ 5 ∧ (keyB key = true → cmdOk r ∧ r.1 ≠ 5)) := by
  refine Dp.succ (Dp.congr ?_ fun k => spec_l20Cmd.j0.eq_2 ..)
  refine Dr.bindP (dr_pick hb 8 (by omega) (by omega)) fun bt _ _ _ => Dp.ite (fun _ => ?_) fun _ => Dp.ite (fun _ => ?_) fun _ => Dp.ite (fun _ => ?_) fun _ => ?_
  · exact Dp.pure rfl ⟨hs, fun hk => ⟨cmdB_mk hk (.inl ⟨.inl rfl, rfl, rfl⟩), by simp⟩⟩ (by omega)
  · exact Dp.pure rfl ⟨hs, fun hk => ⟨cmdB_mk hk (.inl ⟨.inr (.inl rfl), rfl, rfl⟩), by simp⟩⟩ (by omega)
  · refine Dr.bindP (dr_pick hb 5 (by omega) (by omega)) fun bt2 hr2 _ _ => Dr.bindP (dr_pick hb 5 (by omega) (by omega)) fun bt3 hr3 _ _ => ?_
    have a := hr2.1
    have c := hr2.2.1 (by omega)
    have d := hr3.1
    have e := hr3.2.1 (by omega)
    refine Dp.pure rfl ⟨hs, fun hk => ⟨cmdB_mk hk (.inr (.inr ⟨rfl, by dsimp only; omega, ?_⟩)), by simp⟩⟩ (by omega)
    dsimp only
    rw [w64 (by omega) (by omega)]
    omega
  · refine Dr.bindP (dr_value hb 0 (by omega) (by omega) (by omega)) fun bt2 hr2 _ _ => ?_
    have a := hr2.2.2 (by omega)
    refine Dp.pure rfl ⟨hs, fun hk => ⟨cmdB_mk hk (.inr (.inl ⟨rfl, ?_, rfl⟩)), by simp⟩⟩ (by omega)
    dsimp only
    rw [Int.tmod_eq_emod_of_nonneg a.1]
    omega

theorem dr_cmd {b : List Int} (hb : Code b) {p : Int} (n : Int) (h0 : 0 ≤ p) (h1 : p ≤ 1099510000000) (hn : n ≤ 1000000) :
    Dp cmdPl (fun k => spec_l20Cmd.f k b p n) p 20 (fun r => r.2.1.size ≤ 5 ∧ (n ≤ 0 → cmdOk r ∧ r.1 ≠ 5)) := by
  unfold spec_l20Cmd.f
  refine Dr.bindP (dr_odd hb n (by omega) (by omega) hn) fun bt ho _ _ => Dp.ite (fun ht => ?_) (fun _ => ?_)
  · refine Dp.some_bind (Dr.bindP (dr_pick hb 10 (by omega) (by omega)) fun bt2 hr _ _ => ?_)
    refine Dp.ite (fun h0 => Dp.ite (fun h1 => Dp.pure rfl ⟨?_, fun hn0 => ?_⟩ (by omega)) fun h => absurd (hr.2.1 (by omega)) h) fun h => absurd hr.1 h
    · have hm : ∀ x : S28, x ∈ ([(⟨0, (⟨#[]⟩ : ByteArray), 0, 0⟩ : S28), (⟨1, (⟨#[]⟩ : ByteArray), 0, 0⟩ : S28), (⟨1, (⟨#[98]⟩ : ByteArray), 1, 0⟩ : S28), (⟨2, (⟨#[98]⟩ : ByteArray), 1000, 0⟩ : S28), (⟨2, (⟨#[98]⟩ : ByteArray), 0, 1⟩ : S28), (⟨4, (⟨#[98]⟩ : ByteArray), 0, (-2)⟩ : S28), (⟨4, (⟨#[98]⟩ : ByteArray), (-1), 0⟩ : S28), (⟨6, (⟨#[98]⟩ : ByteArray), 0, 0⟩ : S28), (⟨3, (⟨#[65]⟩ : ByteArray), 0, 0⟩ : S28), (⟨5, (⟨#[98, 49]⟩ : ByteArray), 0, 0⟩ : S28)] : List S28) → x.f1.size ≤ 5 := fun x hx => by
        simp only [List.mem_cons, List.not_mem_nil, or_false] at hx
        rcases hx with rfl | rfl | rfl | rfl | rfl | rfl | rfl | rfl | rfl | rfl <;> decide
      exact hm _ (rdOf_mem z28 h0 h1)
    · rw [ho hn0] at ht
      cases ht
  · refine Dr.bindP (dr_key hb 0 (by omega) (by omega) (by omega)) fun bt2 hk _ _ => Dr.bindP (dr_pick hb 2 (by omega) (by omega)) fun bt3 _ _ _ => Dp.ite (fun _ => ?_) (fun _ => ?_)
    · refine Dp.some_bind (Dr.bindP (dr_pick hb 4 (by omega) (by omega)) fun bt4 hr _ _ => ?_)
      refine Dp.ite (fun h0 => Dp.ite (fun h1 => ?_) fun h => absurd (hr.2.1 (by omega)) h) fun h => absurd hr.1 h
      have hm : ∀ x : ByteArray, x ∈ ([(⟨#[98]⟩ : ByteArray), (⟨#[99]⟩ : ByteArray), (⟨#[100]⟩ : ByteArray), (⟨#[109]⟩ : ByteArray)] : List ByteArray) → x.size ≤ 5 ∧ keyB x = true := fun x hx => by
        simp only [List.mem_cons, List.not_mem_nil, or_false] at hx
        rcases hx with rfl | rfl | rfl | rfl <;> exact ⟨by decide, by decide +kernel⟩
      have hx := hm _ (rdOf_mem ByteArray.empty h0 h1)
      exact Dp.le (dr_cmdj hb _ (by omega) (by omega) hx.1) (by omega) fun r hr => ⟨hr.1, fun _ => hr.2 hx.2⟩
    · exact Dp.le (dr_cmdj hb _ (by omega) (by omega) hk.1) (by omega) fun r hr => ⟨hr.1, fun _ => hr.2 (hk.2 (by omega))⟩

theorem dr_any {b : List Int} (hb : Code b) {p : Int} (n : Int) (h0 : 0 ≤ p) (h1 : p ≤ 1099509000000) (hn : n ≤ 1000000) :
    Dp cmdPl (fun k => spec_l20Any.f k b p n) p 40 (fun r => r.2.1.size ≤ 5 ∧ (n ≤ 0 → cmdOk r)) := by
  unfold spec_l20Any.f
  refine Dp.bind (dr_cmd hb n (by omega) (by omega) hn) fun r hr _ _ => ?_
  have hpl : cmdPl r = r.2.2.2.2 := rfl
  refine Dr.bindP (dr_pick hb 5 (by omega) (by omega)) fun bt _ _ _ => Dp.ite (fun _ => ?_) (fun _ => ?_)
  · refine Dr.bindP (dr_key hb 0 (by omega) (by omega) (by omega)) fun bt2 hk _ _ => Dp.some_bind (Dr.bindP (dr_pick hb 4 (by omega) (by omega)) fun bt3 hq _ _ => ?_)
    refine Dp.ite (fun h0 => Dp.ite (fun h1 => ?_) fun h => absurd (hq.2.1 (by omega)) h) fun h => absurd hq.1 h
    have hm : ∀ x : ByteArray, x ∈ ([(⟨#[]⟩ : ByteArray), (⟨#[98]⟩ : ByteArray), (⟨#[99]⟩ : ByteArray), bt2.1] : List ByteArray) → x.size ≤ 5 ∧ cmdB 5 x 0 0 = true := fun x hx => by
      simp only [List.mem_cons, List.not_mem_nil, or_false] at hx
      rcases hx with rfl | rfl | rfl | rfl
      · exact ⟨by decide, by decide +kernel⟩
      · exact ⟨by decide, by decide +kernel⟩
      · exact ⟨by decide, by decide +kernel⟩
      · exact ⟨hk.1, cmdB_mk (hk.2 (by omega)) (.inl ⟨.inr (.inr rfl), rfl, rfl⟩)⟩
    have hx := hm _ (rdOf_mem ByteArray.empty h0 h1)
    exact Dp.pure rfl ⟨hx.1, fun _ => hx.2⟩ (by omega)
  · exact Dp.pure rfl ⟨hr.1, fun hn0 => (hr.2 hn0).1⟩ (by omega)

/-- The fixed answer. -/
theorem alive : Evn fun k => laws_alive.f k = some true := Ev.of laws_alive.mono (k := 12) (by decide +kernel)

end Dw
theorem laws_alive.M (w : World) : Calls Tryd.prog 23 #[] w fun e w' => e = .returned (.bool true) ∧ Below w.heap.size w w' := laws_alive.calls 12 true w (by decide +kernel)

theorem draw_cmdtext {l : List Int} (hs : ∀ x ∈ l, (Lit.int .u8 x).wf = true) : ∃ j k x v o, spec_DrawCommandText.f j l = some (k, x, v, o) := by
  obtain ⟨b, hb, e⟩ := Dw.spec_open l hs
  obtain ⟨r, _, _, _, ev⟩ := Dw.dr_any hb (p := 0) 6 (by omega) (by omega) (by omega)
  obtain ⟨j, hj⟩ := ev.some
  refine ⟨j, r.1, r.2.1, r.2.2.1, r.2.2.2.1, ?_⟩
  unfold spec_DrawCommandText.f
  rw [e]
  simp only [Option.bind_some]
  rw [show spec_l20Any.f j b 0 6 = some r from hj]
  rfl
theorem laws_FnCommandText.M (A0 : Option Addr) (c0 : Nat) (l : List Int) (w : World) (hr0 : Kd.C (Kd.int .u8) w A0 l.length l) (hc0 : l.length ≤ c0) (ht : TS w) (hs : ∀ x ∈ l, (Lit.int .u8 x).wf = true) : Calls Tryd.prog 9 #[.slice A0 l.length c0] w fun e w' => e = .returned (.bool true) ∧ Below w.heap.size w w' := by
  have B := Aside0.mk (Below.refl w.heap.size w)
  have HR0 := Aside0.mk hr0
  have HC0 := Aside0.mk hc0
  have HT := Aside0.mk ht
  clear ht
  clear hr0 hc0
  have hu := Tryd.underlying28
  obtain ⟨kD, k, x, v, o, hd⟩ := draw_cmdtext hs
  have HD := Aside0.mk hd
  clear hd hs
  by_cases hv : cmdB k x v o = true
  · have hq := rcI_ok hv
    have hne := (cmt_size hv).2
    have h1 : (rcI (cmtM k x v o)).1.1 = k := by rw [hq]
    have h2 : (rcI (cmtM k x v o)).1.2.1 = x := by rw [hq]
    have h3 : (rcI (cmtM k x v o)).1.2.2.1 = v := by rw [hq]
    have h4 : (rcI (cmtM k x v o)).1.2.2.2 = o := by rw [hq]
    have h5 : (rcI (cmtM k x v o)).2 = true := by rw [hq]
    have hb : ((cmtM k x v o).toList == ([] : List UInt8)) = false := by simpa using hne
    clear hq hne
    go_enter Tryd.func9, Tryd.ntmps9
    go_wp2_with (first
      | (go_at_call 25; with_reducible refine cl (spec_DrawCommandText.calls kD _ _ l k x v o w HR0.out HC0.out HD.out) B fun w101 hb B => ?_; clear hb)
      | ((with_reducible refine gate_dst (N := 3) rfl ?_); refine bx ?hg (N := 3) ?hd (cs := #[.int .i64 (0), .string (⟨#[]⟩ : ByteArray), .int .i64 (0), .int .i64 (0)]) (t := 28) ?hr B ?_; (case hd => rfl); (case hg => rfl); (case hr => first | (go_simp; done) | (go_simp; rfl)); intro g3 w102 hb B F3 L3 E3; obtain ⟨c3_0, c3_1, c3_2, c3_3⟩ := cs4 F3; clear hb E3)
      | ((with_reducible refine gate_store (t := 28) (p := 3) rfl ?_); obtain ⟨y0, y1, y2, y3⟩ := cs4 F3; have z0 := fz F3 0; have z1 := fz F3 1; have z2 := fz F3 2; have z3 := fz F3 3; refine sx (t := 28) (t' := 28) (p := 3) (v := ?vo103) ?hg ?ho ?hn 0 [.int .i64 (k), .string x, .int .i64 (v), .int .i64 (o)] [.int .i64 (k), .string x, .int .i64 (v), .int .i64 (o)] ?hr B F3 L3 rfl (Nat.le_of_ble_eq_true rfl) ?_; (case ho => rfl); (case hg => rfl); (case hn => rfl); (case hr => first | (go_simp; done) | (go_simp; rfl)); intro w103 hk B G; replace F3 := G; clear c3_0 c3_1 c3_2 c3_3; obtain ⟨c3_0, c3_1, c3_2, c3_3⟩ := cs4 F3; clear hk y0 z0 y1 z1 y2 z2 y3 z3)
      | (go_at_call 16; with_reducible refine cl (impl_CommandText.M k x v o _ (ts_tt HT B)) B fun w104 hb B => ?_; replace F3 := bn F3 hb; clear c3_0 c3_1 c3_2 c3_3; obtain ⟨c3_0, c3_1, c3_2, c3_3⟩ := cs4 F3; clear hb)
      | (go_at_call 14; with_reducible refine cl (spec_CommandText.M k x v o _) B fun w105 hb B => ?_; replace F3 := bn F3 hb; clear c3_0 c3_1 c3_2 c3_3; obtain ⟨c3_0, c3_1, c3_2, c3_3⟩ := cs4 F3; clear hb)
      | (go_at_call 20; with_reducible refine cl (impl_ReadCommand.M (cmtM k x v o) _ (ts_on HT B)) B fun w106 hb B => ?_; replace F3 := bn F3 hb; clear c3_0 c3_1 c3_2 c3_3; obtain ⟨c3_0, c3_1, c3_2, c3_3⟩ := cs4 F3; clear hb)
      | ((with_reducible refine gate_dst (N := 5) rfl ?_); refine bx ?hg (N := 5) ?hd (cs := #[.int .i64 (0), .string (⟨#[]⟩ : ByteArray), .int .i64 (0), .int .i64 (0)]) (t := 28) ?hr B ?_; (case hd => rfl); (case hg => rfl); (case hr => first | (go_simp; done) | (go_simp; rfl)); intro g5 w107 hb B F5 L5 E5; have N3_5 := ne1 E5 F3; replace F3 := bn F3 hb; clear c3_0 c3_1 c3_2 c3_3; obtain ⟨c3_0, c3_1, c3_2, c3_3⟩ := cs4 F3; obtain ⟨c5_0, c5_1, c5_2, c5_3⟩ := cs4 F5; clear hb E5)
      | ((with_reducible refine gate_store (t := 28) (p := 5) rfl ?_); obtain ⟨y0, y1, y2, y3⟩ := cs4 F5; have z0 := fz F5 0; have z1 := fz F5 1; have z2 := fz F5 2; have z3 := fz F5 3; refine sx (t := 28) (t' := 28) (p := 5) (v := ?vo108) ?hg ?ho ?hn 0 [.int .i64 ((rcI (cmtM k x v o)).1.1), .string (rcI (cmtM k x v o)).1.2.1, .int .i64 ((rcI (cmtM k x v o)).1.2.2.1), .int .i64 ((rcI (cmtM k x v o)).1.2.2.2)] [.int .i64 ((rcI (cmtM k x v o)).1.1), .string (rcI (cmtM k x v o)).1.2.1, .int .i64 ((rcI (cmtM k x v o)).1.2.2.1), .int .i64 ((rcI (cmtM k x v o)).1.2.2.2)] ?hr B F5 L5 rfl (Nat.le_of_ble_eq_true rfl) ?_; (case ho => rfl); (case hg => rfl); (case hn => rfl); (case hr => first | (go_simp; done) | (go_simp; rfl)); intro w108 hk B G; replace F3 := bk F3 hk N3_5.out; replace F5 := G; clear c3_0 c3_1 c3_2 c3_3; obtain ⟨c3_0, c3_1, c3_2, c3_3⟩ := cs4 F3; clear c5_0 c5_1 c5_2 c5_3; obtain ⟨c5_0, c5_1, c5_2, c5_3⟩ := cs4 F5; clear hk y0 z0 y1 z1 y2 z2 y3 z3))
    all_goals go_ret
    all_goals exact ⟨by simp_all, B.out⟩
  · have hz : cmtM k x v o = (⟨#[]⟩ : ByteArray) := by unfold cmtM; rw [if_neg hv]
    have hb : ((cmtM k x v o).toList == ([] : List UInt8)) = true := by rw [hz, ba_toList]; rfl
    replace hv := Bool.eq_false_iff.mpr hv
    clear hz
    go_enter Tryd.func9, Tryd.ntmps9
    go_wp2_with (first
      | (go_at_call 25; with_reducible refine cl (spec_DrawCommandText.calls kD _ _ l k x v o w HR0.out HC0.out HD.out) B fun w201 hb B => ?_; clear hb)
      | ((with_reducible refine gate_dst (N := 3) rfl ?_); refine bx ?hg (N := 3) ?hd (cs := #[.int .i64 (0), .string (⟨#[]⟩ : ByteArray), .int .i64 (0), .int .i64 (0)]) (t := 28) ?hr B ?_; (case hd => rfl); (case hg => rfl); (case hr => first | (go_simp; done) | (go_simp; rfl)); intro g3 w202 hb B F3 L3 E3; obtain ⟨c3_0, c3_1, c3_2, c3_3⟩ := cs4 F3; clear hb E3)
      | ((with_reducible refine gate_store (t := 28) (p := 3) rfl ?_); obtain ⟨y0, y1, y2, y3⟩ := cs4 F3; have z0 := fz F3 0; have z1 := fz F3 1; have z2 := fz F3 2; have z3 := fz F3 3; refine sx (t := 28) (t' := 28) (p := 3) (v := ?vo203) ?hg ?ho ?hn 0 [.int .i64 (k), .string x, .int .i64 (v), .int .i64 (o)] [.int .i64 (k), .string x, .int .i64 (v), .int .i64 (o)] ?hr B F3 L3 rfl (Nat.le_of_ble_eq_true rfl) ?_; (case ho => rfl); (case hg => rfl); (case hn => rfl); (case hr => first | (go_simp; done) | (go_simp; rfl)); intro w203 hk B G; replace F3 := G; clear c3_0 c3_1 c3_2 c3_3; obtain ⟨c3_0, c3_1, c3_2, c3_3⟩ := cs4 F3; clear hk y0 z0 y1 z1 y2 z2 y3 z3)
      | (go_at_call 16; with_reducible refine cl (impl_CommandText.M k x v o _ (ts_tt HT B)) B fun w204 hb B => ?_; replace F3 := bn F3 hb; clear c3_0 c3_1 c3_2 c3_3; obtain ⟨c3_0, c3_1, c3_2, c3_3⟩ := cs4 F3; clear hb)
      | (go_at_call 14; with_reducible refine cl (spec_CommandText.M k x v o _) B fun w205 hb B => ?_; replace F3 := bn F3 hb; clear c3_0 c3_1 c3_2 c3_3; obtain ⟨c3_0, c3_1, c3_2, c3_3⟩ := cs4 F3; clear hb)
      | (go_at_call 26; with_reducible refine cl (impl_CommandValid.M k x v o _) B fun w206 hb B => ?_; clear hb)
      | (go_at_call 23; with_reducible refine cl (laws_alive.M _) B fun w207 hb B => ?_; clear hb))
    all_goals go_ret
    all_goals exact ⟨by simp_all, B.out⟩
def laws_FnCommandText.f (k : Nat) (l : List Int) : Option Bool := if ∀ x ∈ l, (Lit.int .u8 x).wf = true then some true else none
theorem laws_FnCommandText.calls (k : Nat) (A0 : Option Addr) (c0 : Nat) (l : List Int) (r : Bool) (w : World) (hr0 : Kd.C (Kd.int .u8) w A0 l.length l) (hc0 : l.length ≤ c0) (ht : TS w) (h : laws_FnCommandText.f k l = some r) : Calls Tryd.prog 9 #[.slice A0 l.length c0] w fun e w' => e = .returned (.bool r) ∧ Below w.heap.size w w' := by
  unfold laws_FnCommandText.f at h
  split at h
  · rename_i hc
    obtain rfl := Option.some.inj h
    exact laws_FnCommandText.M A0 c0 l w hr0 hc0 ht hc
  · cases h

end Go.Proofs.YtnogoanlfmflcaaDoor.PFnCommandText
