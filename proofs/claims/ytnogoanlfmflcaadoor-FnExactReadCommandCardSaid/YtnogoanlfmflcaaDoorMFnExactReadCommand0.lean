/- Walks over models, part 0: base nums txtm strs keys keyval repm numm rri cmdm cmtm wordm rci num7 rcm splitm rows l7w l7ww cof icmd scmd cmtext. -/
import Derived.Test.YtnogoanlfmflcaaDoorPFnExactReadCommandx0
import Derived.Deep.RegionHeld3
import Derived.Lib.SplitLaws
import Derived.Test.YtnogoanlfmflcaaDoorShelfB
import Derived.Lib.AtoiTie
import Derived.Lib.ItoaNum
import Derived.Lib.AppendIntMem
import Derived.Test.YtnogoanlfmflcaaDoorShelfA
import Derived.Test.YtnogoanlfmflcaaDoorPFnExactReadCommandx1
import Derived.Lib.Strings
import Derived.Laws.BytesArg
import Derived.Test.YtnogoanlfmflcaaDoorPFnExactReadCommandx6
import Derived.Test.YtnogoanlfmflcaaDoorShelfC
namespace Go.Proofs.YtnogoanlfmflcaaDoor.PFnExactReadCommand
open Go.RowKit Go.Proofs.YtnogoanlfmflcaaDoorW.PrintWords Go.Proofs.YtnogoanlfmflcaaDoorW.PrintLast Go.Proofs.YtnogoanlfmflcaaDoorW.PrintMore
set_option linter.unusedVariables false
set_option linter.unusedSimpArgs false
set_option maxHeartbeats 4000000
set_option maxRecDepth 100000
def bits (n m : Nat) : Array Bool := ((List.range n).map fun i => m.testBit i).toArray
/-! Words: a call by its contract, boxes and rows carried on. -/
section
variable {P : Program} {F : FuncId} {args : Array Value} {w W W' : World} {v : Value} {Q : Ending → World → Prop}
theorem cl (c : Calls P F args W fun e w' => e = .returned v ∧ Below W.heap.size W w') (B : Aside0 (Below w.heap.size w W))
    (h : ∀ W', Below W.heap.size W W' → Aside0 (Below w.heap.size w W') → Q (.returned v) W') : Calls P F args W Q :=
  c.mono (by rintro e W' ⟨rfl, hb⟩; exact h W' hb ⟨below_step B.out hb⟩)
theorem cx {α : Type} {f : α → Value} {p : α → Prop} (c : Calls P F args W fun e w' => ∃ x, e = .returned (f x) ∧ p x ∧ Below W.heap.size W w') (B : Aside0 (Below w.heap.size w W))
    (h : ∀ x, p x → ∀ W', Below W.heap.size W W' → Aside0 (Below w.heap.size w W') → Q (.returned (f x)) W') : Calls P F args W Q :=
  c.mono (by rintro e W' ⟨x, rfl, hx, hb⟩; exact h x hx W' hb ⟨below_step B.out hb⟩)
theorem clv {v v' : Value} (c : Calls P F args W fun e w' => e = .returned v ∧ Below W.heap.size W w') (hv : v = v') : Calls P F args W fun e w' => e = .returned v' ∧ Below W.heap.size W w' := hv ▸ c
theorem drewB {v : Value} (c : Calls P F args W fun e w' => e = .returned v ∧ ∃ n, w' = W.drewN n) : Calls P F args W fun e w' => e = .returned v ∧ Below W.heap.size W w' :=
  c.mono (by rintro e W' ⟨rfl, n, rfl⟩; exact ⟨rfl, pw_below_drewN (Below.refl _ _) n⟩)
variable {α β : Type} {d : Kd α} {d' : Kd β} {e e' b : Nat} {xs : List α} {ys : List β} {f : Value → Value}
/-- what a row of a call's own is known by -/
def Ow (d : Kd α) (e : Nat) (W : World) (b : Nat) (v : Value) (xs : List α) : Prop := Kd.R d e W b (fun _ => True) v xs
/-- the row lies in a block that was not there before -/
def Fr (W : World) (v : Value) : Prop := ∀ k, v.ownBlock = some k → W.heap.size ≤ k
theorem cr (c : Calls P F args W fun r w' => ∃ v0, r = .returned (f v0) ∧ Kd.R d e w' W.heap.size (fun _ => True) v0 xs ∧ Below W.heap.size W w') (B : Aside0 (Below w.heap.size w W))
    (h : ∀ A kk W', Below W.heap.size W W' → Aside0 (Below w.heap.size w W') → Aside0 (Ow d e W' w.heap.size (.slice A xs.length kk) xs) → Aside0 (Fr W (.slice A xs.length kk)) → Q (.returned (f (.slice A xs.length kk))) W') : Calls P F args W Q :=
  c.mono (by
    rintro r W' ⟨v0, rfl, ho, hb⟩
    obtain ⟨A, kk, rfl⟩ := Kd.R_slice ho
    exact h A kk W' hb ⟨below_step B.out hb⟩ ⟨Kd.R_lower ho (below_size B.out)⟩ ⟨fun k hk => Kd.R_base ho k hk⟩)
theorem crz (c : Calls P F args W fun r w' => ∃ v0, r = .returned (f v0) ∧ Kd.R d e w' W.heap.size (fun _ => True) v0 xs ∧ Below W.heap.size W w') (B : Aside0 (Below w.heap.size w W))
    (h : ∀ zs, xs = zs → ∀ A kk W', Below W.heap.size W W' → Aside0 (Below w.heap.size w W') → Aside0 (Ow d e W' w.heap.size (.slice A zs.length kk) zs) → Aside0 (Fr W (.slice A zs.length kk)) → Q (.returned (f (.slice A zs.length kk))) W') : Calls P F args W Q := cr c B (h xs rfl)
theorem bn {g : Nat} {o : Obj} (F : Aside0 (W.heap[g]? = some o)) (hb : Below W.heap.size W W') : Aside0 (W'.heap[g]? = some o) := ⟨blk_below F.out hb⟩
theorem rn {v : Value} (R : Aside0 (Ow d e W b v xs)) (hb : Below W.heap.size W W') : Aside0 (Ow d e W' b v xs) := ⟨Kd.R_below R.out hb⟩
theorem rc {A : Option Addr} {n c : Nat} (R : Aside0 (Ow d e W b (.slice A n c) xs)) : Kd.C d W A xs.length xs := (Kd.R_reads' R.out).2.2
theorem rl {A : Option Addr} {c : Nat} (R : Aside0 (Ow d e W b (.slice A xs.length c) xs)) : xs.length ≤ c := (Kd.R_reads' R.out).2.1
theorem cb {A : Option Addr} {n : Nat} (H : Aside0 (Kd.C d w A n xs)) (B : Aside0 (Below w.heap.size w W)) : Kd.C d W A n xs := Kd.C_below H.out B.out
theorem cs1 {g t : Nat} {a : Value} (F : Aside0 (W.heap[g]? = some (.cells #[a] t (0, 0)))) : W.cell? ⟨g, 0, none⟩ = some a := (blk_cell F.out 0).trans rfl
theorem cs2 {g t : Nat} {a b : Value} (F : Aside0 (W.heap[g]? = some (.cells #[a, b] t (0, 0)))) : W.cell? ⟨g, 0, none⟩ = some a ∧ W.cell? ⟨g, 1, none⟩ = some b := ⟨(blk_cell F.out 0).trans rfl, (blk_cell F.out 1).trans rfl⟩
theorem cs3 {g t : Nat} {a b c : Value} (F : Aside0 (W.heap[g]? = some (.cells #[a, b, c] t (0, 0)))) : W.cell? ⟨g, 0, none⟩ = some a ∧ W.cell? ⟨g, 1, none⟩ = some b ∧ W.cell? ⟨g, 2, none⟩ = some c := ⟨(blk_cell F.out 0).trans rfl, (blk_cell F.out 1).trans rfl, (blk_cell F.out 2).trans rfl⟩
theorem cs4 {g t : Nat} {a b c d : Value} (F : Aside0 (W.heap[g]? = some (.cells #[a, b, c, d] t (0, 0)))) : W.cell? ⟨g, 0, none⟩ = some a ∧ W.cell? ⟨g, 1, none⟩ = some b ∧ W.cell? ⟨g, 2, none⟩ = some c ∧ W.cell? ⟨g, 3, none⟩ = some d := ⟨(blk_cell F.out 0).trans rfl, (blk_cell F.out 1).trans rfl, (blk_cell F.out 2).trans rfl, (blk_cell F.out 3).trans rfl⟩
theorem cs6 {g t : Nat} {a b c d x y : Value} (F : Aside0 (W.heap[g]? = some (.cells #[a, b, c, d, x, y] t (0, 0)))) : W.cell? ⟨g, 0, none⟩ = some a ∧ W.cell? ⟨g, 1, none⟩ = some b ∧ W.cell? ⟨g, 2, none⟩ = some c ∧ W.cell? ⟨g, 3, none⟩ = some d ∧ W.cell? ⟨g, 4, none⟩ = some x ∧ W.cell? ⟨g, 5, none⟩ = some y :=
  ⟨(blk_cell F.out 0).trans rfl, (blk_cell F.out 1).trans rfl, (blk_cell F.out 2).trans rfl, (blk_cell F.out 3).trans rfl, (blk_cell F.out 4).trans rfl, (blk_cell F.out 5).trans rfl⟩
theorem fz {g t : Nat} {cs : Array Value} (F : Aside0 (W.heap[g]? = some (.cells cs t (0, 0)))) (j : Nat) : W.frozen? ⟨g, j, none⟩ = false := blk_frozen F.out j
theorem sets_keep (g : Nat) : ∀ (vs : List Value) (j : Nat) (W1 : World), KeepBut W W1 g none → KeepBut W (W1.setCells g j vs) g none
  | [], _, _, h => h
  | v :: r, j, _, h => sets_keep g r (j + 1) _ (h.set_ j v)
theorem sets_below (g : Nat) (hg : w.heap.size ≤ g) : ∀ (vs : List Value) (j : Nat) (W1 : World), Below w.heap.size w W1 → Below w.heap.size w (W1.setCells g j vs)
  | [], _, _, h => h
  | _ :: r, j, _, h => sets_below g hg r (j + 1) _ (below_set h hg)
theorem sets_blk (g t : Nat) (s : List Value) : ∀ (vs l r : List Value) (W1 : World), r.length = vs.length → W1.heap[g]? = some (.cells (l ++ r ++ s).toArray t (0, 0)) → (W1.setCells g l.length vs).heap[g]? = some (.cells (l ++ vs ++ s).toArray t (0, 0))
  | [], l, r, _, hr, h => by
    obtain rfl : r = [] := List.eq_nil_of_length_eq_zero hr
    exact h
  | v :: vs, l, [], _, hr, h => by cases hr
  | v :: vs, l, x :: r, W1, hr, h => by
    have := sets_blk g t s vs (l ++ [v]) r (W1.setCell ⟨g, l.length, none⟩ v) (by simpa using hr) (by
      rw [blk_set h]
      simp)
    simpa [World.setCells] using this
theorem sets_blk' {g t : Nat} {cs : Array Value} (off : Nat) (ns vs : List Value) (hl : cs.toList.take off ++ ns ++ cs.toList.drop (off + ns.length) = vs) (hs : off + ns.length ≤ cs.size) (F : W.heap[g]? = some (.cells cs t (0, 0))) : (W.setCells g off ns).heap[g]? = some (.cells vs.toArray t (0, 0)) := by
  subst hl
  have h1 : (cs.toList.take off).length = off := by rw [List.length_take, Array.length_toList (xs := cs)]; omega
  have := sets_blk g t (cs.toList.drop (off + ns.length)) ns (cs.toList.take off) ((cs.toList.drop off).take ns.length) W (by rw [List.length_take, List.length_drop, Array.length_toList (xs := cs)]; omega) (by
    rw [F]
    congr 1
    congr 1
    rw [List.append_assoc, ← List.drop_drop, List.take_append_drop, List.take_append_drop])
  rwa [h1] at this
variable {ops ops' : Array Oper} {o : Oper} {rest : List Oper} {a : Act} {QE : Exit → Act → World → Prop}
theorem bx (hgd : o.guard = none) {N : Tmp} (hd : o.dst = some N) {cs : Array Value} {t : TypeId} (hrun : (execOp a.eval o).run P W = .ok (.value (.pointer (some ⟨W.heap.size, 0, none⟩))) (W.alloc (.cells cs t (0, 0))))
    (B : Aside0 (Below w.heap.size w W))
    (h : ∀ g w1, Below W.heap.size W w1 → Aside0 (Below w.heap.size w w1) → Aside0 (w1.heap[g]? = some (.cells cs t (0, 0))) → Aside0 (w.heap.size ≤ g) → Aside0 (g = W.heap.size) → wpList P ops QE rest (a.put o.dst (.pointer (some ⟨g, 0, none⟩))) w1) : wpList P ops QE (o :: rest) a W :=
  box_event hgd hd hrun fun g hg w1 hc hb => h g w1 hb ⟨below_step B.out hb⟩ ⟨hc⟩ ⟨hg ▸ below_size B.out⟩ ⟨hg⟩
theorem sx (hgd : o.guard = none) {t t' : TypeId} {p : Tmp} {v : Operand} (ho : o.op = .store t' (.tmp p) v) (hN : o.dst = none) {g : Nat} {cs : Array Value} (off : Nat) (ns vs : List Value) (hrun : (execOp a.eval o).run P W = .ok .skip (W.setCells g off ns))
    (B : Aside0 (Below w.heap.size w W)) (F : Aside0 (W.heap[g]? = some (.cells cs t (0, 0)))) (L : Aside0 (w.heap.size ≤ g)) (hl : cs.toList.take off ++ ns ++ cs.toList.drop (off + ns.length) = vs) (hs : off + ns.length ≤ cs.size)
    (h : ∀ w', KeepBut W w' g none → Aside0 (Below w.heap.size w w') → Aside0 (w'.heap[g]? = some (.cells vs.toArray t (0, 0))) → wpList P ops QE rest a w') : wpList P ops QE (o :: rest) a W :=
  store_event hgd ho hN hrun fun w' hw => by
    subst hw
    exact h _ (sets_keep g ns off W (KeepBut.refl _ _ _)) ⟨sets_below g L.out ns off W B.out⟩ ⟨sets_blk' off ns vs hl hs F.out⟩
theorem sxs {Kc : Act → World → Prop} {g t : Nat} {cs : Array Value} (off : Nat) (ns vs : List Value) (hw : Region.wanted o (yielded ops' a.tmps) = true) (hN : o.dst = none) (hrun : (execOp a.eval o).run P W = .ok .skip (W.setCells g off ns))
    (B : Aside0 (Below w.heap.size w W)) (F : Aside0 (W.heap[g]? = some (.cells cs t (0, 0)))) (L : Aside0 (w.heap.size ≤ g)) (hl : cs.toList.take off ++ ns ++ cs.toList.drop (off + ns.length) = vs) (hs : off + ns.length ≤ cs.size)
    (h : ∀ w', KeepBut W w' g none → Aside0 (Below w.heap.size w w') → Aside0 (w'.heap[g]? = some (.cells vs.toArray t (0, 0))) → Kc (a.put none undef) w') : if Region.wanted o (yielded ops' a.tmps) = true then Oper.wp P o a W Kc QE else Kc (a.put none undef) W := by
  rw [if_pos hw]
  unfold Oper.wp
  rw [hrun]
  show Kc (a.put o.dst undef) _
  rw [hN]
  exact h _ (sets_keep g ns off W (KeepBut.refl _ _ _)) ⟨sets_below g L.out ns off W B.out⟩ ⟨sets_blk' off ns vs hl hs F.out⟩
theorem rg {S : World → Prop} {ds : List Nat} {id n : Nat} (l : Array Bool) (hm : P.follows .mixedOrders = true) (hn : ops'.size = n) (hl : Array.replicate n false = l) (hS : S W) (hd : S W → S W.drew) (B : Aside0 (Below w.heap.size w W))
    (h : ∀ W', Below W.heap.size W W' → Aside0 (Below w.heap.size w W') → S W' → wpAnyLast P .any ops' QE S ds n l a W') : (Code.region id ops' true).wp P QE a W :=
  start_ l hm hn hl (hd hS) fun hH => h _ (below_drew1 (Below.refl _ _)) ⟨below_drew B.out⟩ hH
theorem sk {S : World → Prop} {md : Region.Mode} {ds : List Nat} {i : Nat} {N : Option Tmp} {oi : Oper} {fuel : Nat} {l : Array Bool} (l' : Array Bool) (hi : ops'[i]? = some oi) (hN : oi.dst = N) (hc : anyB md ops' l l' i = true)
    (hQ : ∀ c a w, QE (.panic c) (a.put oi.dst undef) w → QE (.panic c) a w) (hw : Region.wanted oi (yielded ops' a.tmps) = false) (h : wpAnyLast P md ops' QE S ds fuel l' (a.put N undef) W) : wpAnyLast P md ops' QE S ds (fuel + 1) l a W :=
  pure_ l' hi hN hc hQ (Or.inr ⟨hw, rfl⟩) rfl h
theorem pu {S : World → Prop} {md : Region.Mode} {ds : List Nat} {i : Nat} {N : Option Tmp} {oi : Oper} {v : Value} {fuel : Nat} {l : Array Bool} (l' : Array Bool) (hi : ops'[i]? = some oi) (hN : oi.dst = N) (hc : anyB md ops' l l' i = true)
    (hQ : ∀ c a w, QE (.panic c) (a.put oi.dst v) w → QE (.panic c) a w) (hw : Region.wanted oi (yielded ops' a.tmps) = true) (hy : ∀ w, (execOp a.eval oi).run P w = .ok (.value v) w) (h : wpAnyLast P md ops' QE S ds fuel l' (a.put N v) W) : wpAnyLast P md ops' QE S ds (fuel + 1) l a W :=
  pure_ l' hi hN hc hQ (Or.inl ⟨hw, hy⟩) rfl h
theorem ta {S : World → Prop} {md : Region.Mode} {ds : List Nat} {i : Nat} {N : Option Tmp} {oi : Oper} {v : Value} {fuel : Nat} {l : Array Bool} (l' : Array Bool) (hi : ops'[i]? = some oi) (hN : oi.dst = N) (hc : takeB md ops' ds l l' i = true)
    (hQ : ∀ c a w, QE (.panic c) (a.put oi.dst v) w → QE (.panic c) a w) (hw : Region.wanted oi (yielded ops' a.tmps) = true) (hS : S W) (hy : ∀ w, S w → (execOp a.eval oi).run P w = .ok (.value v) w) (h : wpAnyLast P md ops' QE S ds fuel l' (a.put N v) W) : wpAnyLast P md ops' QE S ds (fuel + 1) l a W :=
  take_ l' hi hN hc hQ (Or.inl ⟨hw, hy⟩) hS rfl h
theorem ne1 {g g' : Nat} {o : Obj} (E : Aside0 (g = W.heap.size)) (F : Aside0 (W.heap[g']? = some o)) : Aside0 (g' ≠ g) := ⟨Nat.ne_of_lt (E.out ▸ blk_lt F.out)⟩
theorem bk {g g' : Nat} {o : Obj} (F : Aside0 (W.heap[g']? = some o)) (hk : KeepBut W W' g none) (N : g' ≠ g) : Aside0 (W'.heap[g']? = some o) := ⟨hk.blk F.out N (by simp)⟩
theorem rk {v : Value} {g t : Nat} {cs : Array Value} (R : Aside0 (Ow d e W b v xs)) (F : Aside0 (W.heap[g]? = some (.cells cs t (0, 0)))) (ht : ∀ q, q ∈ e :: d.E → q ≠ t) (hk : KeepBut W W' g none) : Aside0 (Ow d e W' b v xs) :=
  ⟨Kd.R_mono (Kd.R_keep (Kd.R_types R.out F.out ht) hk (fun _ q => q.2)) (fun _ q => q.1)⟩
end

theorem w64 {x : Int} (h0 : -9223372036854775808 ≤ x) (h1 : x ≤ 9223372036854775807) : wrap64 x = x := by
  unfold wrap64
  omega
theorem rd_drop {xs : List Int} {j : Nat} (h : j < xs.length) : xs.drop j = rd xs (j : Int) :: xs.drop (j + 1) := by
  rw [List.drop_eq_getElem_cons h]
  simp [rd, List.getD_eq_getElem?_getD, List.getElem?_eq_getElem h]
theorem andF {c x r : Bool} (h : (c && x) = r) (hc : c = false) : Ending.returned (Value.bool false) = Ending.returned (.bool r) := by subst h; rw [hc]; rfl
theorem andT {c x r : Bool} (h : (c && x) = r) (hc : c = true) : x = r := by subst h; rw [hc]; rfl
theorem useEq {α : Type} {a b : α} {p : Prop} (h : a = b) (k : a = b → p) : p := k h

/-! The texts of numbers. -/
def dec3 (u : Nat) : List UInt8 := if u < 10 then [UInt8.ofNat (48 + u)] else if u < 100 then [UInt8.ofNat (48 + u / 10), UInt8.ofNat (48 + u % 10)] else [UInt8.ofNat (48 + u / 10 / 10), UInt8.ofNat (48 + u / 10 % 10), UInt8.ofNat (48 + u % 10)]
theorem dec3_eq {u : Nat} (h : u < 1000) : Lib.decDigits u = dec3 u := by
  unfold dec3
  by_cases h1 : u < 10
  · rw [Lib.decDigits, dif_pos h1, if_pos h1]
  · rw [Lib.decDigits, dif_neg h1, if_neg h1]
    by_cases h2 : u < 100
    · rw [Lib.decDigits, dif_pos (by omega), if_pos h2]
      rfl
    · rw [Lib.decDigits, dif_neg (by omega), Lib.decDigits, dif_pos (by omega), if_neg h2]
      rfl
def txtM (n : Int) : ByteArray := if n < 0 then (⟨#[45, 49]⟩ : ByteArray) else ⟨(dec3 n.toNat).toArray⟩
theorem txtM_size (n : Int) : (txtM n).size ≤ 3 := by
  unfold txtM dec3
  split
  · decide
  · show List.length (List.toArray _).toList ≤ 3
    split
    · simp
    · split <;> simp
theorem txtM_itoa {n : Int} (h0 : -1 ≤ n) (h1 : n ≤ 999) : (⟨(Lib.itoa n).toArray⟩ : ByteArray) = txtM n := by
  unfold txtM Lib.itoa
  by_cases h : n < 0
  · obtain rfl : n = -1 := by omega
    rw [if_pos h, if_pos h, show (-1 : Int).natAbs = 1 from rfl, dec3_eq (by omega)]
    rfl
  · rw [if_neg h, if_neg h, dec3_eq (by omega)]
theorem strN (x : Int) (r : ByteArray) : strOfNums [x] ++ r = ⟨(UInt8.ofNat x.toNat :: r.data.toList).toArray⟩ := by
  apply ByteArray.ext
  rw [ByteArray.data_append]
  apply Array.toList_inj.mp
  simp [strOfNums]
theorem tdig (n : Int) (h0 : 0 ≤ n) : wrap64 (48 + Int.tmod n 10) % 256 = 48 + n % 10 := by
  rw [Int.tmod_eq_emod_of_nonneg h0, w64 (by omega) (by omega)]
  omega
theorem tdiv10 (n : Int) (h0 : 0 ≤ n) (h1 : n ≤ 999) : wrap64 (Int.tdiv n 10) = n / 10 := by
  rw [Int.tdiv_eq_ediv_of_nonneg h0, w64 (by omega) (by omega)]
theorem l7_txt {n : Int} (h0 : -1 ≤ n) (h1 : n ≤ 999) : spec_l7Text.f 3 n = some (txtM n) := by
  unfold spec_l7Text.f txtM
  by_cases h : n < 0
  · rw [if_pos h, if_pos h]
  · rw [if_neg h, if_neg h, tdig n (by omega)]
    unfold dec3
    have e1 : strOfNums [48 + n % 10] = (⟨#[UInt8.ofNat (48 + n % 10).toNat]⟩ : ByteArray) := rfl
    rw [e1]
    by_cases h2 : n < 10
    · rw [if_pos (by omega), spec_l7Text.l0, if_neg (by omega), show (48 + n % 10).toNat = 48 + n.toNat by omega]
    · rw [if_neg (by omega), spec_l7Text.l0, if_pos (by omega), tdiv10 n (by omega) h1, tdig (n / 10) (by omega)]
      simp only [Option.bind_some]
      rw [if_pos (by rw [strOfNums_size]; show 1 + 1 ≤ _; decide), strN]
      by_cases h3 : n < 100
      · rw [if_pos (by omega), spec_l7Text.l0, if_neg (by omega), show (48 + n % 10).toNat = 48 + n.toNat % 10 by omega, show (48 + n / 10 % 10).toNat = 48 + n.toNat / 10 by omega]
      · rw [if_neg (by omega), spec_l7Text.l0, if_pos (by omega), tdiv10 (n / 10) (by omega) (by omega), tdig (n / 10 / 10) (by omega)]
        simp only [Option.bind_some]
        rw [if_pos (by rw [strOfNums_size]; show 1 + 2 ≤ _; decide), strN, spec_l7Text.l0, if_neg (by omega)]
        rw [show (48 + n % 10).toNat = 48 + n.toNat % 10 by omega, show (48 + n / 10 % 10).toNat = 48 + n.toNat / 10 % 10 by omega, show (48 + n / 10 / 10 % 10).toNat = 48 + n.toNat / 10 / 10 by omega]
theorem spec_l7Text.M (n : Int) (w : World) (h : -1 ≤ n ∧ n ≤ 999) : Calls Tryd.prog 29 #[.int .i64 n] w fun e w' => e = .returned (.string (txtM n)) ∧ Below w.heap.size w w' := spec_l7Text.calls 3 n _ w (l7_txt h.1 h.2)
/-- the table of powers of ten, as the row lays it -/
def TT (w : World) : Prop := Lib.TabIs Tryd.prog w "internal/strconv.uint64pow10" .u64 Lib.pow10Tab
theorem tt_on {w W : World} (T : Aside0 (TT w)) (B : Aside0 (Below w.heap.size w W)) : TT W := Lib.tabBelow_of_tabIs T.out W B.out
theorem strconv_Itoa.M (n : Int) (w W : World) (T : Aside0 (TT w)) (B : Aside0 (Below w.heap.size w W)) (h : -1 ≤ n ∧ n ≤ 999) : Calls Tryd.prog 31 #[.int .i64 n] W fun e w' => e = .returned (.string (txtM n)) ∧ Below W.heap.size W w' :=
  (Tryd.strconv_Itoa n (by omega) (by omega) W (tt_on T B)).mono (by
    rintro e w' ⟨rfl, k, os, rfl⟩
    exact ⟨by rw [txtM_itoa h.1 h.2], Lib.below_grow _ _ (Nat.le_refl _) _ _⟩)

/-! Strings compared. -/
theorem less_total : ∀ x y : List UInt8, (Op.bytesLess x y || x == y) = !(Op.bytesLess y x)
  | [], [] => rfl
  | [], _ :: _ => rfl
  | _ :: _, [] => rfl
  | a :: x, b :: y => by
    have ih := less_total x y
    simp only [Op.bytesLess]
    by_cases h : a = b
    · subst h
      simpa using ih
    · have h2 : (a == b) = false := beq_eq_false_iff_ne.mpr h
      have h3 : (b == a) = false := beq_eq_false_iff_ne.mpr (Ne.symm h)
      have h4 : (a :: x == b :: y) = false := beq_eq_false_iff_ne.mpr fun q => h (List.cons.inj q).1
      rw [h2, h3, h4]
      simp only [Bool.false_and, Bool.or_false]
      by_cases hl : a < b
      · have : ¬ b < a := by rw [UInt8.lt_iff_toNat_lt] at *; omega
        simp [hl, this]
      · have : b < a := by
          rw [UInt8.lt_iff_toNat_lt] at *
          have : a.toNat ≠ b.toNat := fun q => h (UInt8.toNat_inj.mp q)
          omega
        simp [hl, this]
theorem leq_str (t : TypeId) (a b : ByteArray) : binOp .leq t (.string a) (.string b) = pure (.bool !(Op.bytesLess b.toList a.toList)) := by
  rw [← less_total]
  simp [binOp, Op.stringOp]
theorem geq_str (t : TypeId) (a b : ByteArray) : binOp .geq t (.string a) (.string b) = pure (.bool !(Op.bytesLess a.toList b.toList)) := by
  simp [binOp, Op.stringOp]
theorem gtr_str (t : TypeId) (a b : ByteArray) : binOp .gtr t (.string a) (.string b) = pure (.bool (Op.bytesLess b.toList a.toList)) := by
  have h : (!(Op.bytesLess a.toList b.toList || a.toList == b.toList)) = Op.bytesLess b.toList a.toList := by rw [less_total, Bool.not_not]
  rw [← h, Bool.not_or]
  simp [binOp, Op.stringOp]
attribute [local go_sem] leq_str geq_str gtr_str

/-! Keys. -/
theorem ba_toList (s : ByteArray) : s.toList = s.data.toList := Lib.toList_data s
theorem ba_inj {s t : ByteArray} (h : s.toList = t.toList) : s = t := by
  rw [ba_toList, ba_toList] at h
  cases s; cases t; simp only [ByteArray.mk.injEq]; exact Array.toList_inj.mp h
theorem str_beq (a b : ByteArray) : (a.toList == b.toList) = decide (a = b) := by
  by_cases h : a = b
  · subst h; simp
  · rw [decide_eq_false h]; exact beq_eq_false_iff_ne.mpr fun q => h (ba_inj q)
theorem nil_iff (s : ByteArray) : s.toList = ([] : List UInt8) ↔ s.size = 0 := by
  rw [ba_toList]
  refine ⟨fun h => ?_, fun h => ?_⟩
  · have := data_length s
    rw [h] at this
    exact this.symm
  · exact List.eq_nil_of_length_eq_zero (by rw [data_length]; exact h)
def lowB (x : Int) : Bool := decide (97 ≤ x) && decide (x ≤ 122)
def keyB (s : ByteArray) : Bool := decide (1 ≤ s.size) && decide (s.size ≤ 4) && (bytesOf s).all lowB
theorem bt_drop' {s : ByteArray} {j : Nat} (h : j < s.size) : (bytesOf s).drop j = bt s (j : Int) :: (bytesOf s).drop (j + 1) := by
  rw [rd_drop (by rw [bytesOf_length]; exact h), rd_bytesOf]
theorem bytesOf_tail (s : ByteArray) : bytesOf (s.extract 1 s.size) = (bytesOf s).drop 1 := by
  unfold bytesOf
  rw [← List.map_drop]
  refine congrArg _ ?_
  rw [ByteArray.data_extract, Array.toList_extract]
  rw [List.extract_eq_take_drop, List.take_of_length_le (by rw [List.length_drop, data_length]; omega)]
def l1B (n lo hi : Int) : Bool := decide (lo ≤ n) && decide (n ≤ hi)
theorem spec_l1In.M (n lo hi : Int) (w : World) : Calls Tryd.prog 28 #[.int .i64 n, .int .i64 lo, .int .i64 hi] w fun e w' => e = .returned (.bool (l1B n lo hi)) ∧ Below w.heap.size w w' := by
  go_enter Tryd.func28, Tryd.ntmps28
  go_wp2
  all_goals go_ret
  all_goals (refine ⟨?_, Below.refl _ _⟩; unfold l1B; simp_all; try omega)
theorem spec_KeyValid.M (a : ByteArray) (w : World) : Calls Tryd.prog 45 #[.string a] w fun e w' => e = .returned (.bool (keyB a)) ∧ Below w.heap.size w w' := by
  have B := Aside0.mk (Below.refl w.heap.size w)
  obtain ⟨r, hr⟩ : ∃ r, keyB a = r := ⟨_, rfl⟩
  rw [hr]
  unfold keyB at hr
  by_cases hs : 1 ≤ a.size ∧ a.size ≤ 4
  · have hl : l1B (a.size : Int) 1 4 = true := by unfold l1B; simp; omega
    have H := Aside0.mk (show ((bytesOf a).drop 0).all lowB = r by simpa [hs.1, hs.2] using hr)
    clear hr
    go_enter Tryd.func45, Tryd.ntmps45
    go_wp2_with (first
      | (go_at_call 28; with_reducible refine cl (clv (spec_l1In.M _ 1 4 _) (congrArg Value.bool hl)) B fun w1 hb B => ?_; clear hb))
    go_loopg [3] (a.size + 1) (fun kx v3 wr => ∃ j : Nat, v3 = .int .i64 (j : Int) ∧ j ≤ a.size ∧ a.size < j + kx ∧ Aside0 (Below w.heap.size w wr) ∧ Aside0 (((bytesOf a).drop j).all lowB = r))
    case atStart => exact ⟨0, rfl, by omega, by omega, B, H⟩
    case round =>
      clear H B
      obtain ⟨j, rfl, hj, hk, B, H⟩ := hrel
      have H := H.out
      by_cases hlt : j < a.size
      · have p := eq_true (show (0 : Int) ≤ (j : Int) by omega)
        have q := eq_true (show (j : Int) < (a.size : Int) by omega)
        have q' := decide_eq_true (show (j : Int) < (a.size : Int) by omega)
        have hx : ((a[j]'hlt).toNat : Int) = bt a (j : Int) := bt_at a (j : Int) (by rw [Int.toNat_natCast]; exact hlt)
        rw [bt_drop' hlt] at H
        simp only [List.all_cons] at H
        generalize bt a (j : Int) = x at *
        obtain ⟨d, rfl⟩ : ∃ d, gk = d + 1 := ⟨gk - 1, by omega⟩
        by_cases hx : lowB x = true
        · have H' := Aside0.mk (show ((bytesOf a).drop (j + 1)).all lowB = r by simpa [hx] using H)
          clear H
          unfold lowB at hx
          simp only [Bool.and_eq_true, decide_eq_true_eq] at hx
          have d1 : decide (x < 97) = false := decide_eq_false (by omega)
          have d2 : decide (122 < x) = false := decide_eq_false (by omega)
          go_wp2
          go_roundg d
          case measure => omega
          case rel => exact ⟨j + 1, congrArg (Value.int .i64) (Int.natCast_succ _).symm, by omega, by omega, B, H'⟩
        · have hr : r = false := by simpa [hx] using H.symm
          subst hr
          clear H
          unfold lowB at hx
          simp only [Bool.and_eq_true, decide_eq_true_eq] at hx
          by_cases h97 : x < 97
          · have d1 : decide (x < 97) = true := decide_eq_true h97
            go_wp2
            go_ret
            exact ⟨by simp, B.out⟩
          · have d1 : decide (x < 97) = false := decide_eq_false h97
            have d2 : decide (122 < x) = true := decide_eq_true (by omega)
            go_wp2
            go_ret
            exact ⟨by simp, B.out⟩
      · have q' := decide_eq_false (show ¬ (j : Int) < (a.size : Int) by omega)
        have hr : r = true := by
          rw [List.drop_of_length_le (by rw [bytesOf_length]; omega)] at H
          simpa using H.symm
        subst hr
        go_wp2
        go_ret
        exact ⟨by simp, B.out⟩
  · have hl : l1B (a.size : Int) 1 4 = false := by unfold l1B; simp; omega
    have hr : r = false := by
      rw [← hr, Bool.and_eq_false_iff, Bool.and_eq_false_iff, decide_eq_false_iff_not, decide_eq_false_iff_not]
      omega
    subst hr
    go_enter Tryd.func45, Tryd.ntmps45
    go_wp2_with (first
      | (go_at_call 28; with_reducible refine cl (clv (spec_l1In.M _ 1 4 _) (congrArg Value.bool hl)) B fun w1 hb B => ?_; clear hb))
    go_ret
    exact ⟨by simp, B.out⟩
theorem impl_lettersOnly.M : ∀ (n : Nat) (a : ByteArray) (w : World), a.size = n → Calls Tryd.prog 52 #[.string a] w fun e w' => e = .returned (.bool ((bytesOf a).all lowB)) ∧ Below w.heap.size w w'
  | 0, a, w, h => by
    have hn : a.toList = [] := (nil_iff a).mpr h
    go_enter Tryd.func52, Tryd.ntmps52
    go_wp2
    all_goals (first | go_ret | skip)
    all_goals (first | exact absurd hn (by assumption) | skip)
    refine ⟨?_, Below.refl _ _⟩
    have : bytesOf a = [] := List.eq_nil_of_length_eq_zero (by rw [bytesOf_length]; exact h)
    rw [this]
    rfl
  | n + 1, a, w, h => by
    have B := Aside0.mk (Below.refl w.heap.size w)
    have hn : ¬ a.toList = [] := fun q => by have := (nil_iff a).mp q; omega
    have IH := Aside0.mk (fun W => impl_lettersOnly.M n (a.extract 1 a.size) W (by simp [h]))
    have hb0 := bt_drop' (s := a) (j := 0) (by omega)
    have h0 : 0 < a.size := by omega
    have hx : ((a[0]'h0).toNat : Int) = bt a ((0 : Nat) : Int) := bt_at a 0 (by simp; omega)
    have p := eq_true (show (0 : Int) < (a.size : Int) by omega)
    have p1 := eq_true (show 0 < a.size by omega)
    have p2 := eq_true (show 1 ≤ a.size by omega)
    rw [List.drop_zero] at hb0
    rw [bytesOf_tail] at IH
    rw [hb0]
    simp only [List.all_cons]
    clear hb0
    rw [Nat.zero_add]
    generalize (List.drop 1 (bytesOf a)).all lowB = r at IH ⊢
    generalize bt a ((0 : Nat) : Int) = x at hx ⊢
    clear h
    go_enter Tryd.func52, Tryd.ntmps52
    go_wp2_with (first
      | (go_at_call 52; with_reducible refine cl (IH.out _) B fun w1 hb B => ?_; clear hb))
    all_goals go_ret
    all_goals (refine ⟨?_, B.out⟩; unfold lowB; simp_all; try omega)
theorem impl_KeyValid.M (a : ByteArray) (w : World) : Calls Tryd.prog 43 #[.string a] w fun e w' => e = .returned (.bool (keyB a)) ∧ Below w.heap.size w w' := by
  have B := Aside0.mk (Below.refl w.heap.size w)
  go_enter Tryd.func43, Tryd.ntmps43
  go_wp2_with (first
    | (go_at_call 52; with_reducible refine cl (impl_lettersOnly.M _ a _ rfl) B fun w1 hb B => ?_; clear hb))
  all_goals go_ret
  all_goals (refine ⟨?_, B.out⟩; unfold keyB; simp_all; try omega)

theorem impl_valueValid.M (n : Int) (w : World) : Calls Tryd.prog 30 #[.int .i64 n] w fun e w' => e = .returned (.bool (l1B n 0 999)) ∧ Below w.heap.size w w' := by
  go_enter Tryd.func30, Tryd.ntmps30
  go_wp2
  all_goals go_ret
  all_goals (refine ⟨?_, Below.refl _ _⟩; unfold l1B; simp_all; try omega)

/-! The texts of replies. -/
def repM (n : Int) : ByteArray := if n = -1 then (⟨#[110, 111, 110, 101]⟩ : ByteArray) else if n = -2 then (⟨#[102, 117, 108, 108]⟩ : ByteArray) else if n = -3 then (⟨#[109, 111, 118, 101, 100]⟩ : ByteArray) else if n = -4 then (⟨#[115, 116, 97, 108, 101]⟩ : ByteArray) else if 0 ≤ n ∧ n ≤ 999 then txtM n else (⟨#[]⟩ : ByteArray)

/-! The numbers that texts spell. -/
def numM (s : ByteArray) : Int := match Lib.atoiAll s.data.toList with
  | .ok v => v
  | _ => -2
theorem dig_val : ∀ d : Fin 10, Lib.digitVal (UInt8.ofNat (48 + d.val)) = some d.val := by decide
theorem dig_nat (d : Nat) (h : d < 10) : Lib.digitVal (UInt8.ofNat (48 + d)) = some d := dig_val ⟨d, h⟩
theorem dig_sign : ∀ d : Fin 10, (UInt8.ofNat (48 + d.val) == 45) = false ∧ (UInt8.ofNat (48 + d.val) == 43) = false := by decide
theorem atoi_dec3 {u : Nat} (h : u < 1000) : Lib.atoi (dec3 u) = some (u : Int) := by
  unfold dec3
  by_cases h1 : u < 10
  · rw [if_pos h1]
    have hs := dig_sign ⟨u, h1⟩
    simp only at hs
    simp only [Lib.atoi, hs.1, hs.2, Lib.decNat, Lib.decFrom, List.isEmpty_cons, dig_nat u h1]
    simp
  · rw [if_neg h1]
    by_cases h2 : u < 100
    · rw [if_pos h2]
      have hs := dig_sign ⟨u / 10, by omega⟩
      simp only at hs
      simp only [Lib.atoi, hs.1, hs.2, Lib.decNat, Lib.decFrom, List.isEmpty_cons, dig_nat (u / 10) (by omega), dig_nat (u % 10) (by omega)]
      simp
      omega
    · rw [if_neg h2]
      have hs := dig_sign ⟨u / 10 / 10, by omega⟩
      simp only at hs
      simp only [Lib.atoi, hs.1, hs.2, Lib.decNat, Lib.decFrom, List.isEmpty_cons, dig_nat (u / 10 / 10) (by omega), dig_nat (u / 10 % 10) (by omega), dig_nat (u % 10) (by omega)]
      simp
      omega
theorem dec3_len (u : Nat) : (dec3 u).length ≤ 3 := by
  unfold dec3
  split
  · simp
  · split <;> simp
theorem numM_txt {n : Int} (h0 : -1 ≤ n) (h1 : n ≤ 999) : numM (txtM n) = n := by
  unfold txtM numM
  by_cases h : n < 0
  · obtain rfl : n = -1 := by omega
    decide +kernel
  · rw [if_neg h]
    show (match Lib.atoiAll (dec3 n.toNat) with | .ok v => v | _ => -2) = n
    rw [Lib.atoiAll_short _ (by have := dec3_len n.toNat; omega), atoi_dec3 (by omega)]
    show ((n.toNat : Nat) : Int) = n
    omega
/-- the variables of the errors hold errors -/
def TE (w : World) : Prop := TT w ∧ (∃ te pe, w.cell? ⟨1, 0, none⟩ = some (.iface te pe)) ∧ ∃ te pe, w.cell? ⟨2, 0, none⟩ = some (.iface te pe)
theorem cell_lt {w : World} {g o : Nat} {v : Value} (h : w.cell? ⟨g, o, none⟩ = some v) : g < w.heap.size := World.block_lt_of_cell? w _ h
theorem te_on {w W : World} (T : Aside0 (TE w)) (B : Aside0 (Below w.heap.size w W)) : TE W := by
  obtain ⟨h1, ⟨te, pe, h2⟩, te', pe', h3⟩ := T.out
  exact ⟨tt_on ⟨h1⟩ B, ⟨te, pe, (B.out.cell (cell_lt h2)).trans h2⟩, te', pe', (B.out.cell (cell_lt h3)).trans h3⟩
theorem te_tt {w W : World} (T : Aside0 (TE w)) (B : Aside0 (Below w.heap.size w W)) : TT W := (te_on T B).1
theorem impl_numberOf.M (s : ByteArray) (w W : World) (T : Aside0 (TE w)) (B : Aside0 (Below w.heap.size w W)) (hs : s.size ≤ 64) : Calls Tryd.prog 34 #[.string s] W fun e w' => e = .returned (.int .i64 (numM s)) ∧ Below W.heap.size W w' := by
  obtain ⟨_, ⟨te, pe, c1⟩, te', pe', c2⟩ := te_on T B
  obtain ⟨r, hr⟩ : ∃ r, numM s = r := ⟨_, rfl⟩
  rw [hr]
  unfold numM at hr
  rcases h : Lib.atoiAll s.data.toList with v | _ | _
  · rw [h] at hr
    replace hr : v = r := hr
    subst hr
    go_enter Tryd.func34, Tryd.ntmps34
    go_wp2_with (first | (go_at_call 46; refine (Tryd.strconv_Atoi_ok s (by omega) v h W).mono ?_; rintro e w1 ⟨rfl, hw⟩))
    go_ret
    refine ⟨rfl, ?_⟩
    rcases hw with rfl | ⟨t, rfl⟩
    · exact Below.refl _ _
    · exact Lib.bytesWorld_below _ _ _
  · rw [h] at hr
    replace hr : -2 = r := hr
    subst hr
    have hns : ∀ e, Lib.atoiAll s.data.toList = e → (∀ v, e ≠ .ok v) ∧ e ≠ .range := by
      intro e he
      rw [h] at he
      subst he
      exact ⟨fun v q => (by cases q), fun q => (by cases q)⟩
    go_enter Tryd.func34, Tryd.ntmps34
    go_wp2_with (first | (go_at_call 46; refine (Tryd.strconv_Atoi_syntax s (by omega) hns _ W c1 (Or.inr ⟨te, pe, rfl⟩)).mono ?_; rintro e w1 ⟨N, rfl, _, _, hw⟩))
    go_ret
    exact ⟨rfl, hw⟩
  · rw [h] at hr
    replace hr : -2 = r := hr
    subst hr
    go_enter Tryd.func34, Tryd.ntmps34
    go_wp2_with (first | (go_at_call 46; refine (Tryd.strconv_Atoi_range s (by omega) h _ W c2 (Or.inr ⟨te', pe', rfl⟩)).mono ?_; rintro e w1 ⟨N, rfl, _, _, hw⟩))
    go_ret
    exact ⟨rfl, hw⟩

/-! What a text of a reply is read as. -/
theorem repM_size (n : Int) : (repM n).size ≤ 5 := by
  unfold repM
  split
  · decide
  · split
    · decide
    · split
      · decide
      · split
        · decide
        · split
          · have := txtM_size n; omega
          · decide
theorem repM_num {n : Int} {s : ByteArray} (hs : s.toList ≠ ([] : List UInt8)) (h : repM n = s) : n = -1 ∨ n = -2 ∨ n = -3 ∨ n = -4 ∨ (0 ≤ n ∧ n ≤ 999 ∧ txtM n = s) := by
  unfold repM at h
  split at h
  · omega
  · split at h
    · omega
    · split at h
      · omega
      · split at h
        · omega
        · split at h
          · rename_i hn; exact .inr (.inr (.inr (.inr ⟨hn.1, hn.2, h⟩)))
          · subst h; exact absurd (by rw [ba_toList]) hs
def rrI (s : ByteArray) : Int × Bool :=
  if repM (-4) = s then (-4, true) else if repM (-3) = s then (-3, true) else if repM (-2) = s then (-2, true) else if repM (-1) = s then (-1, true)
  else if s.toList ≠ ([] : List UInt8) ∧ repM (numM s) = s then (numM s, true) else (0, false)
theorem rrI_long {s : ByteArray} (h : 64 < s.size) : rrI s = (0, false) := by
  have hn : ∀ n, ¬ repM n = s := fun n e => by have := repM_size n; rw [e] at this; omega
  unfold rrI
  rw [if_neg (hn _), if_neg (hn _), if_neg (hn _), if_neg (hn _), if_neg (fun k => hn _ k.2)]
theorem rep_words : (repM (-4)).toList = [115, 116, 97, 108, 101] ∧ (repM (-3)).toList = [109, 111, 118, 101, 100] ∧ (repM (-2)).toList = [102, 117, 108, 108] ∧ (repM (-1)).toList = [110, 111, 110, 101] := by
  refine ⟨?_, ?_, ?_, ?_⟩ <;> (rw [ba_toList]; rfl)

/-! The model of commands. -/
def cmdB (k : Int) (key : ByteArray) (v o : Int) : Bool :=
  (keyB key || (decide (k = 5) && decide (key.toList = ([] : List UInt8)))) &&
  (if k = 2 then l1B v 0 999 && decide (o = 0) else if k = 4 then l1B v 0 999 && l1B o (-1) 999 else decide (1 ≤ k ∧ k ≤ 5) && (decide (v = 0) && decide (o = 0)))

/-! The texts of commands. -/
def cmtM (k : Int) (x : ByteArray) (v o : Int) : ByteArray :=
  if cmdB k x v o then
    (if k = 1 then (⟨#[103, 101, 116, 32]⟩ : ByteArray) ++ x
     else if k = 2 then (((⟨#[112, 117, 116, 32]⟩ : ByteArray) ++ x) ++ (⟨#[32]⟩ : ByteArray)) ++ txtM v
     else if k = 3 then (⟨#[100, 114, 111, 112, 32]⟩ : ByteArray) ++ x
     else if k = 4 then (((((⟨#[115, 119, 97, 112, 32]⟩ : ByteArray) ++ x) ++ (⟨#[32]⟩ : ByteArray)) ++ txtM o) ++ (⟨#[32]⟩ : ByteArray)) ++ txtM v
     else if x.toList = ([] : List UInt8) then (⟨#[115, 101, 97, 108]⟩ : ByteArray) else (⟨#[115, 101, 97, 108, 32]⟩ : ByteArray) ++ x)
  else (⟨#[]⟩ : ByteArray)
theorem cmd_cases {k v o : Int} {x : ByteArray} (h : cmdB k x v o = true) : x.size ≤ 4 ∧ (k = 1 ∨ k = 2 ∨ k = 3 ∨ k = 4 ∨ k = 5) ∧ (-1 ≤ v ∧ v ≤ 999) ∧ (-1 ≤ o ∧ o ≤ 999) := by
  unfold cmdB at h
  rw [Bool.and_eq_true] at h
  obtain ⟨h1, h2⟩ := h
  have hx : x.size ≤ 4 := by
    rw [Bool.or_eq_true] at h1
    rcases h1 with h1 | h1
    · unfold keyB at h1
      simp only [Bool.and_eq_true, decide_eq_true_eq] at h1
      omega
    · simp only [Bool.and_eq_true, decide_eq_true_eq] at h1
      have := (nil_iff x).mp h1.2
      omega
  refine ⟨hx, ?_⟩
  by_cases k2 : k = 2
  · rw [if_pos k2] at h2
    simp only [l1B, Bool.and_eq_true, decide_eq_true_eq] at h2
    omega
  · rw [if_neg k2] at h2
    by_cases k4 : k = 4
    · rw [if_pos k4] at h2
      simp only [l1B, Bool.and_eq_true, decide_eq_true_eq] at h2
      omega
    · rw [if_neg k4] at h2
      simp only [Bool.and_eq_true, decide_eq_true_eq] at h2
      omega

/-! The words of a line. -/
def sp : List UInt8 → List (List UInt8)
  | [] => [[]]
  | b :: r => if b = 32 then [] :: sp r else match sp r with
    | [] => [[b]]
    | h :: t => (b :: h) :: t
theorem sp_ne : ∀ l, sp l ≠ []
  | [] => by simp [sp]
  | b :: r => by
    unfold sp
    split
    · simp
    · split <;> simp
theorem sp_cons {b : UInt8} (hb : b ≠ 32) {r h : List UInt8} {t : List (List UInt8)} (e : sp r = h :: t) : sp (b :: r) = (b :: h) :: t := by
  rw [sp, if_neg hb, e]
theorem sp_one : ∀ a : List UInt8, (∀ b ∈ a, b ≠ 32) → sp a = [a]
  | [], _ => rfl
  | b :: r, h => sp_cons (h b (List.mem_cons_self ..)) (sp_one r fun x hx => h x (List.mem_cons_of_mem _ hx))
theorem sp_app : ∀ (a r : List UInt8), (∀ b ∈ a, b ≠ 32) → sp (a ++ 32 :: r) = a :: sp r
  | [], r, _ => by show sp (32 :: r) = _; rw [sp, if_pos rfl]
  | b :: a, r, h => sp_cons (h b (List.mem_cons_self ..)) (sp_app a r fun x hx => h x (List.mem_cons_of_mem _ hx))
theorem split_sp : ∀ s : List UInt8, Lib.splitK [32] 0 (Lib.count s [32]) s = sp s
  | [] => rfl
  | b :: r => by
    have ih := split_sp r
    by_cases hb : b = 32
    · subst hb
      rw [Lib.count_cons_eq, Nat.add_comm 1]
      have hi : Lib.index (32 :: r) [32] = 0 := by simp [Lib.index]
      rw [Lib.splitK, hi, sp, if_pos rfl]
      simp only [Int.reduceBEq, Bool.false_eq_true, if_false, Int.toNat_zero, Nat.zero_add, List.take_zero, List.length_cons, List.length_nil, List.drop_succ_cons, List.drop_zero]
      rw [ih]
    · rw [Lib.count_cons_ne b 32 r hb]
      cases hk : Lib.count r [32] with
      | zero =>
        rw [hk] at ih
        have e : sp r = [r] := ih.symm
        rw [sp_cons hb e]
        rfl
      | succ k =>
        rw [hk] at ih
        have hpos : Lib.index r [32] ≠ -1 := fun e => by rw [Lib.count_miss e] at hk; cases hk
        have hge := Lib.index_ge r [32]
        obtain ⟨i, hi⟩ : ∃ i : Nat, Lib.index r [32] = (i : Int) := ⟨(Lib.index r [32]).toNat, by omega⟩
        have hb1 : Lib.index (b :: r) [32] = ((i + 1 : Nat) : Int) := by
          simp [Lib.index, Ne.symm hb, hi]
        rw [Lib.splitK, hi] at ih
        rw [if_neg (by rw [beq_iff_eq]; omega)] at ih
        rw [Lib.splitK, hb1, if_neg (by rw [beq_iff_eq]; omega)]
        rw [sp_cons hb ih.symm]
        simp
def mkB (l : List UInt8) : ByteArray := ⟨l.toArray⟩
theorem mkB_data (s : ByteArray) : mkB s.data.toList = s := by cases s; rfl
def wordsM (s : ByteArray) : List ByteArray := (sp s.data.toList).map mkB
theorem splitB_words (s : ByteArray) : Lib.splitB (⟨#[32]⟩ : ByteArray) 0 (Lib.countB s (⟨#[32]⟩ : ByteArray)) s = wordsM s := by
  have h := Lib.splitB_data (⟨#[32]⟩ : ByteArray) 0 (Lib.countB s (⟨#[32]⟩ : ByteArray)) s
  have e : Lib.splitK (⟨#[32]⟩ : ByteArray).data.toList 0 (Lib.countB s (⟨#[32]⟩ : ByteArray)) s.data.toList = sp s.data.toList := split_sp s.data.toList
  rw [e] at h
  unfold wordsM
  rw [← h, List.map_map]
  exact (List.map_id'' (f := mkB ∘ fun x => x.data.toList) mkB_data _).symm
theorem words_len (s : ByteArray) : Lib.countB s (⟨#[32]⟩ : ByteArray) + 1 = (wordsM s).length := by
  rw [← splitB_words]
  exact (Lib.splitB_all _ (by decide) 0 _ s rfl).symm
theorem words_pos (s : ByteArray) : 0 < (wordsM s).length := by rw [← words_len]; omega

/-! What a line is read as. -/
def w_get : ByteArray := ⟨#[103, 101, 116]⟩
def w_put : ByteArray := ⟨#[112, 117, 116]⟩
def w_drop : ByteArray := ⟨#[100, 114, 111, 112]⟩
def w_swap : ByteArray := ⟨#[115, 119, 97, 112]⟩
def w_seal : ByteArray := ⟨#[115, 101, 97, 108]⟩
def elB (W : List ByteArray) (i : Int) : ByteArray := rdOf ByteArray.empty W i
def keyOf (W : List ByteArray) : ByteArray := if 1 < W.length then elB W 1 else (⟨#[]⟩ : ByteArray)
def cOf (W : List ByteArray) : Int × ByteArray × Int × Int :=
  if elB W 0 = w_get then (if W.length = 2 then (1, keyOf W, 0, 0) else (0, keyOf W, 0, 0))
  else if elB W 0 = w_put then (if W.length = 3 then (2, keyOf W, numM (elB W 2), 0) else (0, keyOf W, 0, 0))
  else if elB W 0 = w_drop then (if W.length = 2 then (3, keyOf W, 0, 0) else (0, keyOf W, 0, 0))
  else if elB W 0 = w_swap then (if W.length = 4 then (4, keyOf W, numM (elB W 3), numM (elB W 2)) else (0, keyOf W, 0, 0))
  else if elB W 0 = w_seal then (if W.length ≤ 2 then (5, keyOf W, 0, 0) else (0, keyOf W, 0, 0))
  else (0, keyOf W, 0, 0)
def rcZ : Int × ByteArray × Int × Int := (0, (⟨#[]⟩ : ByteArray), 0, 0)
def rcI (s : ByteArray) : (Int × ByteArray × Int × Int) × Bool :=
  if 64 < s.size then (rcZ, false)
  else if cmdB (cOf (wordsM s)).1 (cOf (wordsM s)).2.1 (cOf (wordsM s)).2.2.1 (cOf (wordsM s)).2.2.2 = true ∧ cmtM (cOf (wordsM s)).1 (cOf (wordsM s)).2.1 (cOf (wordsM s)).2.2.1 (cOf (wordsM s)).2.2.2 = s then (cOf (wordsM s), true) else (rcZ, false)
theorem key_no {x : ByteArray} (h : keyB x = true) : ∀ b ∈ x.data.toList, b ≠ 32 := by
  intro b hb e
  unfold keyB at h
  simp only [Bool.and_eq_true] at h
  have h2 := List.all_eq_true.mp h.2 (b.toNat : Int) (by unfold bytesOf; exact List.mem_map.mpr ⟨b, hb, rfl⟩)
  unfold lowB at h2
  simp only [Bool.and_eq_true, decide_eq_true_eq] at h2
  subst e
  have : (32 : UInt8).toNat = 32 := rfl
  omega
theorem dig_ne : ∀ d : Fin 10, UInt8.ofNat (48 + d.val) ≠ 32 := by decide
theorem txt_no (n : Int) (h0 : -1 ≤ n) (h1 : n ≤ 999) : ∀ b ∈ (txtM n).data.toList, b ≠ 32 := by
  intro b hb
  unfold txtM at hb
  split at hb
  · have hb' : b ∈ ([45, 49] : List UInt8) := hb
    simp only [List.mem_cons, List.not_mem_nil, or_false] at hb'
    rcases hb' with rfl | rfl <;> decide
  · have hb' : b ∈ dec3 n.toNat := hb
    unfold dec3 at hb'
    split at hb'
    · rename_i h
      simp only [List.mem_cons, List.not_mem_nil, or_false] at hb'
      subst hb'
      exact dig_ne ⟨n.toNat, h⟩
    · split at hb'
      · simp only [List.mem_cons, List.not_mem_nil, or_false] at hb'
        rcases hb' with rfl | rfl
        · exact dig_ne ⟨n.toNat / 10, by omega⟩
        · exact dig_ne ⟨n.toNat % 10, by omega⟩
      · simp only [List.mem_cons, List.not_mem_nil, or_false] at hb'
        rcases hb' with rfl | rfl | rfl
        · exact dig_ne ⟨n.toNat / 10 / 10, by omega⟩
        · exact dig_ne ⟨n.toNat / 10 % 10, by omega⟩
        · exact dig_ne ⟨n.toNat % 10, by omega⟩
theorem cmd_more {k v o : Int} {x : ByteArray} (h : cmdB k x v o = true) : (k ≠ 5 → keyB x = true) ∧ (k ≠ 2 ∧ k ≠ 4 → v = 0) ∧ (k ≠ 4 → o = 0) ∧ (k = 2 ∨ k = 4 → 0 ≤ v) ∧ (k = 5 → keyB x = true ∨ x.toList = ([] : List UInt8)) := by
  unfold cmdB at h
  rw [Bool.and_eq_true] at h
  obtain ⟨h1, h2⟩ := h
  simp only [Bool.or_eq_true, Bool.and_eq_true, decide_eq_true_eq] at h1
  refine ⟨fun k5 => ?_, ?_, ?_, ?_, fun k5 => ?_⟩
  · rcases h1 with h1 | h1
    · exact h1
    · exact absurd h1.1 k5
  · intro hk; rw [if_neg hk.1, if_neg hk.2] at h2; simp only [Bool.and_eq_true, decide_eq_true_eq] at h2; exact h2.2.1
  · intro hk
    by_cases k2 : k = 2
    · rw [if_pos k2] at h2; simp only [Bool.and_eq_true, decide_eq_true_eq] at h2; exact h2.2
    · rw [if_neg k2, if_neg hk] at h2; simp only [Bool.and_eq_true, decide_eq_true_eq] at h2; exact h2.2.2
  · intro hk
    by_cases k2 : k = 2
    · rw [if_pos k2] at h2; simp only [l1B, Bool.and_eq_true, decide_eq_true_eq] at h2; omega
    · rw [if_neg k2, if_pos (by omega)] at h2; simp only [l1B, Bool.and_eq_true, decide_eq_true_eq] at h2; omega
  · rcases h1 with h1 | h1
    · exact .inl h1
    · exact .inr h1.2
theorem w_one (a : List UInt8) (h : ∀ b ∈ a, b ≠ 32) : (sp a).map mkB = [mkB a] := by rw [sp_one a h]; rfl
/-- the words of a command's text -/
theorem words_cmt {k v o : Int} {x : ByteArray} (h : cmdB k x v o = true) :
    (k = 1 ∧ wordsM (cmtM k x v o) = [w_get, x]) ∨ (k = 2 ∧ wordsM (cmtM k x v o) = [w_put, x, txtM v]) ∨ (k = 3 ∧ wordsM (cmtM k x v o) = [w_drop, x]) ∨ (k = 4 ∧ wordsM (cmtM k x v o) = [w_swap, x, txtM o, txtM v]) ∨ (k = 5 ∧ x.toList ≠ ([] : List UInt8) ∧ wordsM (cmtM k x v o) = [w_seal, x]) ∨ (k = 5 ∧ x.toList = ([] : List UInt8) ∧ wordsM (cmtM k x v o) = [w_seal]) := by
  obtain ⟨hx, hk, hvv, hoo⟩ := cmd_cases h
  obtain ⟨m1, m2, m3, m4, m5⟩ := cmd_more h
  unfold wordsM cmtM
  rw [if_pos h]
  have hv := txt_no v hvv.1 hvv.2
  have ho := txt_no o hoo.1 hoo.2
  rcases hk with rfl | rfl | rfl | rfl | rfl
  · refine .inl ⟨rfl, ?_⟩
    have hkx := key_no (m1 (by decide))
    rw [if_pos rfl, show (((⟨#[103, 101, 116, 32]⟩ : ByteArray) ++ x).data.toList) = [103, 101, 116] ++ 32 :: x.data.toList by simp, sp_app _ _ (by decide), List.map_cons, w_one _ hkx, mkB_data]
    rfl
  · refine .inr (.inl ⟨rfl, ?_⟩)
    have hkx := key_no (m1 (by decide))
    rw [if_neg (by decide), if_pos rfl, show (((((⟨#[112, 117, 116, 32]⟩ : ByteArray) ++ x) ++ (⟨#[32]⟩ : ByteArray)) ++ txtM v).data.toList) = [112, 117, 116] ++ 32 :: (x.data.toList ++ 32 :: (txtM v).data.toList) by simp, sp_app _ _ (by decide), sp_app _ _ hkx, List.map_cons, List.map_cons, w_one _ hv, mkB_data, mkB_data]
    rfl
  · refine .inr (.inr (.inl ⟨rfl, ?_⟩))
    have hkx := key_no (m1 (by decide))
    rw [if_neg (by decide), if_neg (by decide), if_pos rfl, show (((⟨#[100, 114, 111, 112, 32]⟩ : ByteArray) ++ x).data.toList) = [100, 114, 111, 112] ++ 32 :: x.data.toList by simp, sp_app _ _ (by decide), List.map_cons, w_one _ hkx, mkB_data]
    rfl
  · refine .inr (.inr (.inr (.inl ⟨rfl, ?_⟩)))
    have hkx := key_no (m1 (by decide))
    rw [if_neg (by decide), if_neg (by decide), if_neg (by decide), if_pos rfl, show (((((((⟨#[115, 119, 97, 112, 32]⟩ : ByteArray) ++ x) ++ (⟨#[32]⟩ : ByteArray)) ++ txtM o) ++ (⟨#[32]⟩ : ByteArray)) ++ txtM v).data.toList) = [115, 119, 97, 112] ++ 32 :: (x.data.toList ++ 32 :: ((txtM o).data.toList ++ 32 :: (txtM v).data.toList)) by simp, sp_app _ _ (by decide), sp_app _ _ hkx, sp_app _ _ ho, List.map_cons, List.map_cons, List.map_cons, w_one _ hv, mkB_data, mkB_data, mkB_data]
    rfl
  · refine .inr (.inr (.inr (.inr ?_)))
    rw [if_neg (by decide), if_neg (by decide), if_neg (by decide), if_neg (by decide)]
    by_cases hz : x.toList = ([] : List UInt8)
    · exact .inr ⟨rfl, hz, by rw [if_pos hz]; rfl⟩
    · refine .inl ⟨rfl, hz, ?_⟩
      have hkx := key_no ((m5 rfl).resolve_right hz)
      rw [if_neg hz, show (((⟨#[115, 101, 97, 108, 32]⟩ : ByteArray) ++ x).data.toList) = [115, 101, 97, 108] ++ 32 :: x.data.toList by simp, sp_app _ _ (by decide), List.map_cons, w_one _ hkx, mkB_data]
      rfl
theorem empty_of {x : ByteArray} (h : x.toList = ([] : List UInt8)) : x = (⟨#[]⟩ : ByteArray) := ba_inj (by rw [h, ba_toList])
theorem cOf_ok {k v o : Int} {x : ByteArray} (h : cmdB k x v o = true) : cOf (wordsM (cmtM k x v o)) = (k, x, v, o) := by
  obtain ⟨hx, hk, hvv, hoo⟩ := cmd_cases h
  obtain ⟨m1, m2, m3, m4, m5⟩ := cmd_more h
  have nv := numM_txt hvv.1 hvv.2
  have no := numM_txt hoo.1 hoo.2
  rcases words_cmt h with ⟨rfl, e⟩ | ⟨rfl, e⟩ | ⟨rfl, e⟩ | ⟨rfl, e⟩ | ⟨rfl, hz, e⟩ | ⟨rfl, hz, e⟩
  all_goals rw [e]
  · rw [m2 (by decide), m3 (by decide)]; rfl
  · rw [m3 (by decide)]
    show (2, x, numM (txtM v), (0 : Int)) = _
    rw [nv]
  · rw [m2 (by decide), m3 (by decide)]; rfl
  · show (4, x, numM (txtM v), numM (txtM o)) = _
    rw [nv, no]
  · rw [m2 (by decide), m3 (by decide)]; rfl
  · rw [m2 (by decide), m3 (by decide), empty_of hz]; rfl
theorem cmt_size {k v o : Int} {x : ByteArray} (h : cmdB k x v o = true) : (cmtM k x v o).size ≤ 64 ∧ (cmtM k x v o).toList ≠ ([] : List UInt8) := by
  obtain ⟨hx, hk, -, -⟩ := cmd_cases h
  have h3v := txtM_size v
  have h3o := txtM_size o
  have key : ∀ a : ByteArray, 1 ≤ a.size → a.size ≤ 64 → a.size ≤ 64 ∧ a.toList ≠ ([] : List UInt8) := fun a h1 h2 => ⟨h2, fun e => by rw [nil_iff] at e; omega⟩
  have s0 : (⟨#[103, 101, 116, 32]⟩ : ByteArray).size = 4 ∧ (⟨#[112, 117, 116, 32]⟩ : ByteArray).size = 4 ∧ (⟨#[100, 114, 111, 112, 32]⟩ : ByteArray).size = 5 ∧ (⟨#[115, 119, 97, 112, 32]⟩ : ByteArray).size = 5 ∧ (⟨#[115, 101, 97, 108, 32]⟩ : ByteArray).size = 5 ∧ (⟨#[32]⟩ : ByteArray).size = 1 ∧ (⟨#[115, 101, 97, 108]⟩ : ByteArray).size = 4 := ⟨rfl, rfl, rfl, rfl, rfl, rfl, rfl⟩
  unfold cmtM
  rw [if_pos h]
  rcases hk with rfl | rfl | rfl | rfl | rfl
  · rw [if_pos rfl]; apply key <;> (simp only [ByteArray.size_append]; omega)
  · rw [if_neg (by decide), if_pos rfl]; apply key <;> (simp only [ByteArray.size_append]; omega)
  · rw [if_neg (by decide), if_neg (by decide), if_pos rfl]; apply key <;> (simp only [ByteArray.size_append]; omega)
  · rw [if_neg (by decide), if_neg (by decide), if_neg (by decide), if_pos rfl]; apply key <;> (simp only [ByteArray.size_append]; omega)
  · rw [if_neg (by decide), if_neg (by decide), if_neg (by decide), if_neg (by decide)]
    split
    · apply key <;> omega
    · apply key <;> (simp only [ByteArray.size_append]; omega)
theorem rcI_ok {k v o : Int} {x : ByteArray} (h : cmdB k x v o = true) : rcI (cmtM k x v o) = ((k, x, v, o), true) := by
  unfold rcI
  rw [if_neg (by have := (cmt_size h).1; omega), cOf_ok h, if_pos ⟨h, rfl⟩]
theorem rcI_back (s : ByteArray) : ((rcI s).2 = true → cmdB (rcI s).1.1 (rcI s).1.2.1 (rcI s).1.2.2.1 (rcI s).1.2.2.2 = true ∧ cmtM (rcI s).1.1 (rcI s).1.2.1 (rcI s).1.2.2.1 (rcI s).1.2.2.2 = s) ∧ ((rcI s).2 = false → (rcI s).1 = rcZ) := by
  unfold rcI
  split
  · exact ⟨fun k => (by cases k), fun _ => rfl⟩
  · split
    · rename_i h; exact ⟨fun _ => h, fun k => (by cases k)⟩
    · exact ⟨fun k => (by cases k), fun _ => rfl⟩

def num7 (s : ByteArray) : Int := (spec_l7Number.f 6 s).getD 0
theorem l7n_some (s : ByteArray) (hs : s.size ≤ 4) (d : Nat) : ∀ (j k : Nat) (a : Int), j + d = s.size → d + 1 ≤ k → ∃ m, spec_l7Number.l0 k s a (j : Int) = some m := by
  induction d with
  | zero =>
    intro j k a hj hk
    obtain ⟨k, rfl⟩ : ∃ i, k = i + 1 := ⟨k - 1, by omega⟩
    rw [spec_l7Number.l0, if_neg (by omega)]
    exact ⟨_, rfl⟩
  | succ d ih =>
    intro j k a hj hk
    obtain ⟨k, rfl⟩ : ∃ i, k = i + 1 := ⟨k - 1, by omega⟩
    rw [spec_l7Number.l0, if_pos (by omega), if_pos (by omega)]
    split
    · exact ⟨_, rfl⟩
    · split
      · exact ⟨_, rfl⟩
      · rw [w64 (x := (j : Int) + 1) (by omega) (by omega), show (j : Int) + 1 = ((j + 1 : Nat) : Int) by omega]
        exact ih (j + 1) k _ (by omega) (by omega)
theorem l7n (s : ByteArray) : spec_l7Number.f 6 s = some (num7 s) := by
  have h : ∃ m, spec_l7Number.f 6 s = some m := by
    unfold spec_l7Number.f
    have e : spec_l1In.f (s.size : Int) 1 4 = some (l1B (s.size : Int) 1 4) := by unfold spec_l1In.f l1B; first | rfl | (simp; grind)
    rw [e, Option.bind_some]
    split
    · rename_i hl
      simp only [l1B, Bool.and_eq_true, decide_eq_true_eq] at hl
      exact l7n_some s (by omega) s.size 0 6 0 (by omega) (by omega)
    · exact ⟨_, rfl⟩
  obtain ⟨m, h⟩ := h
  unfold num7
  rw [h]
  rfl
theorem num7_fin : ∀ n : Fin 1000, spec_l7Number.f 6 (txtM (n.val : Int)) = some (n.val : Int) := by decide +kernel
theorem num7_txt {n : Int} (h0 : 0 ≤ n) (h1 : n ≤ 999) : num7 (txtM n) = n := by
  have h := num7_fin ⟨n.toNat, by omega⟩
  have e : ((n.toNat : Nat) : Int) = n := by omega
  simp only [e] at h
  unfold num7
  rw [h]
  rfl
theorem spec_l7Number.M (s : ByteArray) (w : World) : Calls Tryd.prog 33 #[.string s] w fun e w' => e = .returned (.int .i64 (num7 s)) ∧ Below w.heap.size w w' :=
  (spec_l7Number.calls 6 s _ w (l7n s)).mono (fun _ _ h => ⟨h.1, h.2.below⟩)

def wsP (s : ByteArray) : List ByteArray := wordsM s ++ [(⟨#[]⟩ : ByteArray), (⟨#[]⟩ : ByteArray), (⟨#[]⟩ : ByteArray)]
def c7 (W : List ByteArray) : Int × ByteArray × Int × Int :=
  if elB W 0 = w_get then (1, elB W 1, 0, 0)
  else if elB W 0 = w_put then (2, elB W 1, num7 (elB W 2), 0)
  else if elB W 0 = w_drop then (3, elB W 1, 0, 0)
  else if elB W 0 = w_swap then (4, elB W 1, num7 (elB W 3), num7 (elB W 2))
  else if elB W 0 = w_seal then (5, elB W 1, 0, 0)
  else (0, elB W 1, 0, 0)
def rcM (s : ByteArray) : (Int × ByteArray × Int × Int) × Bool :=
  if s.toList ≠ ([] : List UInt8) ∧ cmtM (c7 (wsP s)).1 (c7 (wsP s)).2.1 (c7 (wsP s)).2.2.1 (c7 (wsP s)).2.2.2 = s then (c7 (wsP s), true) else (rcZ, false)
theorem num7_all {n : Int} (h0 : -1 ≤ n) (h1 : n ≤ 999) : num7 (txtM n) = n := by
  by_cases h : n < 0
  · obtain rfl : n = -1 := by omega
    decide +kernel
  · exact num7_txt (by omega) h1
theorem c7_ok {k v o : Int} {x : ByteArray} (h : cmdB k x v o = true) : c7 (wsP (cmtM k x v o)) = (k, x, v, o) := by
  obtain ⟨hx, hk, hvv, hoo⟩ := cmd_cases h
  obtain ⟨m1, m2, m3, m4, m5⟩ := cmd_more h
  have nv := num7_all hvv.1 hvv.2
  have no := num7_all hoo.1 hoo.2
  unfold wsP
  rcases words_cmt h with ⟨rfl, e⟩ | ⟨rfl, e⟩ | ⟨rfl, e⟩ | ⟨rfl, e⟩ | ⟨rfl, hz, e⟩ | ⟨rfl, hz, e⟩
  all_goals rw [e]
  · rw [m2 (by decide), m3 (by decide)]; rfl
  · rw [m3 (by decide)]
    show (2, x, num7 (txtM v), (0 : Int)) = _
    rw [nv]
  · rw [m2 (by decide), m3 (by decide)]; rfl
  · show (4, x, num7 (txtM v), num7 (txtM o)) = _
    rw [nv, no]
  · rw [m2 (by decide), m3 (by decide)]; rfl
  · rw [m2 (by decide), m3 (by decide), empty_of hz]; rfl
theorem cmt_none {k v o : Int} {x s : ByteArray} (h : ¬ cmdB k x v o = true) (hs : s.toList ≠ ([] : List UInt8)) : ¬ cmtM k x v o = s := by
  unfold cmtM
  rw [if_neg h]
  intro e
  exact hs (by rw [← e, ba_toList])
theorem rc_eq (s : ByteArray) : rcI s = rcM s := by
  unfold rcM
  split
  · rename_i h
    by_cases hv : cmdB (c7 (wsP s)).1 (c7 (wsP s)).2.1 (c7 (wsP s)).2.2.1 (c7 (wsP s)).2.2.2 = true
    · have := rcI_ok hv
      rw [h.2] at this
      rw [this]
    · exact absurd h.2 (cmt_none hv h.1)
  · rename_i h
    obtain ⟨h1, h2⟩ := rcI_back s
    cases hr : (rcI s).2 with
    | false => rw [← h2 hr, ← hr]
    | true =>
      obtain ⟨hv, he⟩ := h1 hr
      refine absurd ⟨?_, ?_⟩ h
      · rw [← he]; exact (cmt_size hv).2
      · have := c7_ok hv
        rw [he] at this
        rw [this]
        exact he

/-! A line cut into its words. -/
def TS (w : World) : Prop := TE w ∧ ∃ m, w.cell? ⟨3, 0, none⟩ = some (.int .i64 m)
theorem ts_on {w W : World} (T : Aside0 (TS w)) (B : Aside0 (Below w.heap.size w W)) : TS W := by
  obtain ⟨h1, m, h2⟩ := T.out
  exact ⟨te_on ⟨h1⟩ B, m, (B.out.cell (cell_lt h2)).trans h2⟩
theorem ts_te {w W : World} (T : Aside0 (TS w)) (B : Aside0 (Below w.heap.size w W)) : TE W := (ts_on T B).1
theorem ts_tt {w W : World} (T : Aside0 (TS w)) (B : Aside0 (Below w.heap.size w W)) : TT W := (ts_on T B).1.1
theorem lit_row (l : List ByteArray) (w : World) (hl : l.length ≤ 9223372036854775807) : Kd.C Kd.string (w.alloc (.cells (l.map Value.string).toArray 9)) (some ⟨w.heap.size, 0, none⟩) l.length l := by
  have hb : (w.alloc (.cells (l.map Value.string).toArray 9)).heap[w.heap.size]? = some (.cells (l.map Value.string).toArray 9 (0, 0)) := by
    show (w.heap.push _)[w.heap.size]? = _
    exact Array.getElem?_push_size
  refine ⟨rfl, hl, fun _ => ⟨_, rfl, fun j p hp => ⟨[.string p], rfl, rfl, fun i u hu => ?_⟩⟩⟩
  have hi : i = 0 := by cases i with
    | zero => rfl
    | succ i => simp at hu
  subst hi
  have hu' : u = .string p := by simpa using hu.symm
  subst hu'
  have e : (Addr.add ⟨w.heap.size, 0, none⟩ (j * 1 + 0)) = ⟨w.heap.size, j, none⟩ := by
    unfold Addr.add
    by_cases hj : j = 0
    · subst hj; rfl
    · rw [if_neg (by omega)]; simp
  show World.cell? _ (Addr.add ⟨w.heap.size, 0, none⟩ (j * 1 + 0)) = _
  rw [e, blk_cell hb]
  simp [hp]
theorem sp_small : ∀ (l h : List UInt8), h ∈ sp l → h.length ≤ l.length
  | [], h, hm => by simp [sp] at hm; subst hm; simp
  | b :: r, h, hm => by
    have ih := sp_small r
    have hn := sp_ne r
    by_cases hb : b = 32
    · subst hb
      rw [sp, if_pos rfl] at hm
      rcases List.mem_cons.mp hm with rfl | hm
      · simp
      · have := ih h hm; simp only [List.length_cons]; omega
    · cases e : sp r with
      | nil => exact absurd e hn
      | cons a t =>
        rw [sp_cons hb e] at hm
        rcases List.mem_cons.mp hm with rfl | hm
        · have := ih a (by rw [e]; exact List.mem_cons_self ..); simp only [List.length_cons]; omega
        · have := ih h (by rw [e]; exact List.mem_cons_of_mem _ hm); simp only [List.length_cons]; omega
theorem words_small {s : ByteArray} (hs : s.size ≤ 64) : ∀ x ∈ wordsM s, x.size ≤ 64 := by
  intro x hx
  unfold wordsM at hx
  obtain ⟨h, hm, rfl⟩ := List.mem_map.mp hx
  have := sp_small _ h hm
  rw [data_length] at this
  show h.toArray.size ≤ 64
  simp
  omega
theorem sp_len : ∀ l : List UInt8, (sp l).length ≤ l.length + 1
  | [] => by simp [sp]
  | b :: r => by
    have ih := sp_len r
    unfold sp
    split
    · simp only [List.length_cons]; omega
    · split <;> (rename_i e; rw [e] at ih; simp only [List.length_cons, List.length_nil] at ih ⊢; omega)
theorem words_le (s : ByteArray) : (wordsM s).length ≤ s.size + 1 := by
  unfold wordsM
  rw [List.length_map]
  have := sp_len s.data.toList
  rw [data_length] at this
  exact this
theorem strings_Split.M (s : ByteArray) (w W : World) (T : Aside0 (TS w)) (B : Aside0 (Below w.heap.size w W)) (hs : s.size ≤ 64) : Calls Tryd.prog 37 #[.string s, .string (⟨#[32]⟩ : ByteArray)] W fun e w' => ∃ ad cc, e = .returned (.slice (some ad) (wordsM s).length cc) ∧ Kd.C Kd.string w' (some ad) (wordsM s).length (wordsM s) ∧ Below W.heap.size W w' := by
  obtain ⟨_, m, hm⟩ := ts_on T B
  refine (Tryd.strings_Split s (⟨#[32]⟩ : ByteArray) m W (by omega) hm (by decide)).mono ?_
  rintro e w' ⟨rfl, rfl⟩
  rw [splitB_words, words_len]
  have hl := words_le s
  exact ⟨_, _, rfl, lit_row _ _ (by omega), below_alloc (Below.refl _ _) _⟩
theorem csp {P : Program} {F : FuncId} {args : Array Value} {w W : World} {Q : Ending → World → Prop} {l : List ByteArray} (c : Calls P F args W fun e w' => ∃ ad cc, e = .returned (.slice (some ad) l.length cc) ∧ Kd.C Kd.string w' (some ad) l.length l ∧ Below W.heap.size W w') (B : Aside0 (Below w.heap.size w W))
    (h : ∀ ad cc W', Below W.heap.size W W' → Aside0 (Below w.heap.size w W') → Aside0 (Kd.C Kd.string W' (some ad) l.length l) → Q (.returned (.slice (some ad) l.length cc)) W') : Calls P F args W Q :=
  c.mono (by rintro e W' ⟨ad, cc, rfl, hc, hb⟩; exact h ad cc W' hb ⟨below_step B.out hb⟩ ⟨hc⟩)

/-! Rows that are made and written. -/
section
variable {P : Program} {w W W' : World} {α β : Type} {d : Kd α} {e b : Nat} {xs : List α}
variable {ops ops' : Array Oper} {o : Oper} {rest : List Oper} {a : Act} {QE : Exit → Act → World → Prop}
theorem mkr (d : Kd α) (e : Nat) (hgd : o.guard = none) {N : Tmp} (hd : o.dst = some N) (t : TypeId) (x y : Operand) (ho : o.op = .makeSlice t x y) (n : Nat) (hx : a.eval x = .int .i64 (n : Int)) (hy : a.eval y = .int .i64 (n : Int))
    (ht : P.underlying t = some (.slice e)) (z : Value) (bytes : Nat) (hinfo : (P.info? e).map (fun i => (i.zero, i.size, i.bytes)) = some (some z, d.sz, bytes)) (hz : z.cells.size = d.sz) (hs0 : 0 < d.sz) (hb0 : 0 < bytes)
    (z0 : α) (hzero : d.M W W.heap.size (fun _ => True) z0 z.cells.toList) (hl : n * bytes ≤ 281474976710656) (B : Aside0 (Below w.heap.size w W))
    (h : ∀ A kk w1, Below W.heap.size W w1 → Aside0 (Below w.heap.size w w1) → Aside0 (Ow d e w1 w.heap.size (.slice A n kk) (List.replicate n z0)) → Aside0 (Fr W (.slice A n kk)) → wpList P ops QE rest (a.put o.dst (.slice A n kk)) w1) : wpList P ops QE (o :: rest) a W :=
  Kd.R_make d W.heap.size e hgd hd t x y ho n hx hy ht z bytes hinfo hz hs0 hb0 z0 hzero (fun _ h => h) trivial (Int.natCast_nonneg n) (by rwa [Int.toNat_natCast]) (Below.refl _ _) (Nat.le_refl _) fun v1 w1 hR hb hg hnew => by
    rw [Int.toNat_natCast] at hR
    obtain ⟨A, kk, hv⟩ := Kd.R_slice hR
    rw [List.length_replicate] at hv
    subst hv
    exact h A kk w1 hb ⟨below_step B.out hb⟩ ⟨Kd.R_lower hR (below_size B.out)⟩ ⟨fun k hk => Kd.R_base hR k hk⟩
theorem fr {v v' : Value} {β : Type} {d' : Kd β} {e' : Nat} {ys : List β} (q : Aside0 (Fr W v)) (R : Aside0 (Ow d' e' W b v' ys)) : Aside0 (∀ k, v.ownBlock = some k → v'.ownBlock = some k → False) := ⟨fun k h1 h2 => by
  have := q.out k h1
  have := Kd.R_lt R.out k h2
  omega⟩
/-- the form of a row that is not empty -/
theorem rform {A : Option Addr} {n c : Nat} (R : Aside0 (Ow d e W b (.slice A n c) xs)) (hp : 0 < xs.length) : ∃ g, A = some ⟨g, 0, none⟩ ∧ b ≤ g := by
  obtain ⟨g, cap, hv, hb, _⟩ := Kd.R_form R.out hp
  cases hv
  exact ⟨g, rfl, hb⟩
/-- the cells of an element -/
theorem rcells {g n c : Nat} (z : α) (R : Aside0 (Ow d e W b (.slice (some ⟨g, 0, none⟩) n c) xs)) (i : Nat) (hi : i < n) : ∃ cs, cs.length = d.sz ∧ d.M W b (fun k => True ∧ k ≠ g) (xs.getD i z) cs ∧ (∀ j u, cs[j]? = some u → W.cell? ⟨g, i * d.sz + j, none⟩ = some u) ∧ ∀ j, W.frozen? ⟨g, i * d.sz + j, none⟩ = false := by
  have := Kd.R_elem R.out z (i : Int) (Int.natCast_nonneg i) (by omega)
  rwa [Int.toNat_natCast] at this
theorem es {g n c : Nat} {t : TypeId} {p : Tmp} {v : Operand} (hgd : o.guard = none) (ho : o.op = .store t (.tmp p) v) (hN : o.dst = none) (i off : Nat) (seg : List Value) (x' : α) (hrun : (execOp a.eval o).run P W = .ok .skip (W.setCells g (i * d.sz + off) seg))
    (R : Aside0 (Ow d e W b (.slice (some ⟨g, 0, none⟩) n c) xs)) (hi : i < n) {cs : List Value} (hcl : cs.length = d.sz) (hcc : ∀ j u, cs[j]? = some u → W.cell? ⟨g, i * d.sz + j, none⟩ = some u) (hj : off + seg.length ≤ d.sz)
    (hM : d.M W b (fun _ => False) x' (cs.take off ++ seg ++ cs.drop (off + seg.length))) (B : Aside0 (Below w.heap.size w W)) (hb : w.heap.size ≤ g)
    (h : ∀ w', W.grownBy w' (some g) → Aside0 (Below w.heap.size w w') → Aside0 (Ow d e w' b (.slice (some ⟨g, 0, none⟩) n c) (xs.set i x')) → wpList P ops QE rest a w') : wpList P ops QE (o :: rest) a W :=
  store_event hgd ho hN hrun fun w' hw => by
    have hP := Kd.R_seg R.out (i : Int) (Int.natCast_nonneg i) (by omega) (c := cs) (seg := seg) (j := off) (x' := x') (okp := fun _ => False) hcl (by rw [Int.toNat_natCast]; exact hcc) hj hM (fun _ hk => hk.elim)
    rw [Int.toNat_natCast] at hP
    subst hw
    refine h _ hP.2 ⟨pw_below_grown B.out (some g) (below_size B.out) hP.2 (fun k hk => ?_)⟩ ⟨hP.1⟩
    cases hk
    exact hb
theorem bg {g : Nat} {ob : Obj} {row : Option Nat} (F : Aside0 (W.heap[g]? = some ob)) (hg : W.grownBy W' row) (hne : some g ≠ row) : Aside0 (W'.heap[g]? = some ob) := ⟨blk_grown F.out hg hne⟩
theorem fill_set {f : α → β} {z : β} {l : List α} {j : Nat} (h : j < l.length) : ((l.take j).map f ++ List.replicate (l.length - j) z).set j (f l[j]) = (l.take (j + 1)).map f ++ List.replicate (l.length - (j + 1)) z := by
  have h1 : ((l.take j).map f).length = j := by rw [List.length_map, List.length_take]; omega
  rw [List.set_append_right _ _ (by omega), h1, Nat.sub_self, show l.length - j = (l.length - (j + 1)) + 1 by omega, List.replicate_succ, List.set_cons_zero, List.take_succ_eq_append_getElem h, List.map_append, List.append_assoc]
  rfl
theorem fill_end {f : α → β} {z : β} {l : List α} {j : Nat} (h : ¬ j < l.length) : (l.take j).map f ++ List.replicate (l.length - j) z = l.map f := by
  rw [List.take_of_length_le (by omega), show l.length - j = 0 by omega]
  simp
end
section
variable {P : Program} {w W W' : World} {α β : Type} {d : Kd α} {e b : Nat} {xs : List α}
variable {ops ops' : Array Oper} {o : Oper} {rest : List Oper} {a : Act} {QE : Exit → Act → World → Prop}
/-- a literal of records -/
theorem lt (d : Kd α) (e : Nat) (hgd : o.guard = none) {N : Tmp} (hd : o.dst = some N) (xs : List α) (inner : List Value) (hrun : (execOp a.eval o).run P W = .ok (.value (.slice (some ⟨W.heap.size, 0, none⟩) xs.length xs.length)) (W.alloc (.cells inner.toArray e)))
    (hp : Reps (d.M W W.heap.size (fun _ => True)) d.sz xs inner) (hm : xs.length ≤ 9223372036854775807) (B : Aside0 (Below w.heap.size w W))
    (h : ∀ zs, xs = zs → ∀ A kk w1, Below W.heap.size W w1 → Aside0 (Below w.heap.size w w1) → Aside0 (Ow d e w1 w.heap.size (.slice A zs.length kk) zs) → Aside0 (Fr W (.slice A zs.length kk)) → wpList P ops QE rest (a.put o.dst (.slice A zs.length kk)) w1) : wpList P ops QE (o :: rest) a W :=
  Kd.R_lit d (w0 := W) W.heap.size e hgd hd hrun hp (fun _ h => h) trivial (Below.refl _ _) (Nat.le_refl _) hm fun v1 w1 hR hb hg hnew => by
    obtain ⟨A, kk, rfl⟩ := Kd.R_slice hR
    exact h xs rfl A kk w1 hb ⟨below_step B.out hb⟩ ⟨Kd.R_lower hR (below_size B.out)⟩ ⟨fun k hk => Kd.R_base hR k hk⟩
/-- a row is put behind a row of the walk's own -/
theorem apx (d : Kd α) (e : Nat) (hgd : o.guard = none) (s x : Operand) (t : TypeId) (z : Value) (bytes : Nat) (ho : o.op = .call { callee := .builtin .append, args := #[s, x], argTypes := #[t, t] })
    (ht : P.underlying t = some (.slice e)) (hinfo : (P.info? e).map (fun i => (i.zero, i.size, i.bytes)) = some (some z, d.sz, bytes)) (hz : z.cells.size = d.sz) (hs0 : 0 < d.sz) (hb0 : 0 < bytes)
    {v : Value} {ys : List α} {A : Option Addr} {m c : Nat} (hs : a.eval s = v) (hx : a.eval x = .slice A m c) (R : Aside0 (Ow d e W w.heap.size v xs)) (C : d.C W A m ys) (hKM : ∀ x cs, d.K W x cs → d.M W w.heap.size (fun _ => False) x cs)
    (hl : (xs.length + m) * bytes ≤ 140737488355328) (B : Aside0 (Below w.heap.size w W))
    (h : ∀ zs, xs ++ ys = zs → ∀ A' kk w1, W.grownBy w1 v.ownBlock → Aside0 (Below w.heap.size w w1) → Aside0 (Ow d e w1 w.heap.size (.slice A' zs.length kk) zs) → Aside0 ((Value.slice A' zs.length kk).ownBlock = v.ownBlock ∨ ∃ b, (Value.slice A' zs.length kk).ownBlock = some b ∧ W.heap.size ≤ b) → wpList P ops QE rest (a.put o.dst (.slice A' zs.length kk)) w1) : wpList P ops QE (o :: rest) a W :=
  Kd.R_append_rows d (w0 := w) w.heap.size hgd s x t e z bytes ho ht hinfo hz hs0 hb0 v xs ys A m c (fun _ => True) (fun _ => False) hs hx R.out C hKM (fun _ h => h.elim) (fun _ _ => trivial) B.out (below_size B.out) hl fun v1 w1 hR hb hg hat => by
    obtain ⟨A', kk, rfl⟩ := Kd.R_slice hR
    exact h _ rfl A' kk w1 hg ⟨hb⟩ ⟨hR⟩ ⟨hat⟩
/-- what lies elsewhere stays when a row grows -/
theorem bga {g t : Nat} {cs : Array Value} {v : Value} (F : Aside0 (W.heap[g]? = some (.cells cs t (0, 0)))) (hg : W.grownBy W' v.ownBlock) (R : Aside0 (Ow d e W b v xs)) (ht : e ≠ t) : Aside0 (W'.heap[g]? = some (.cells cs t (0, 0))) := ⟨blk_grown F.out hg (Kd.R_ne R.out F.out ht)⟩
theorem rga {d' : Kd β} {e' b' : Nat} {v v' : Value} {ys : List β} (R' : Aside0 (Ow d' e' W b' v' ys)) (hE : d'.E = []) (hg : W.grownBy W' v.ownBlock) (ne : ∀ k, v'.ownBlock = some k → v.ownBlock = some k → False) : Aside0 (Ow d' e' W' b' v' ys) :=
  ⟨Kd.R_mono (Kd.R_grown (Kd.R_tight hE R'.out) hg (fun k h1 h2 => ne k h1.symm h2.symm)) (fun _ _ => trivial)⟩
theorem dty {d' : Kd β} {e' b' : Nat} {v v' : Value} {ys : List β} (R : Aside0 (Ow d e W b v xs)) (R' : Aside0 (Ow d' e' W b' v' ys)) (h : e ≠ e') : ∀ k, v'.ownBlock = some k → v.ownBlock = some k → False := fun k h1 h2 => by
  obtain ⟨_, o1⟩ := Kd.R_own R.out
  obtain ⟨_, o2⟩ := Kd.R_own R'.out
  obtain ⟨c1, t1⟩ := own_typed o1 k h2
  obtain ⟨c2, t2⟩ := own_typed o2 k h1
  rw [t1] at t2
  cases t2
  exact h rfl
theorem nilC (d : Kd α) (W : World) : Kd.C d W none ([] : List α).length [] := ⟨rfl, by simp, fun h => absurd h (Nat.lt_irrefl 0)⟩
end

/-! The reference's words. -/
def glue (u : ByteArray) : List (List UInt8) → List ByteArray
  | [] => [u]
  | h :: t => (u ++ mkB h) :: t.map mkB
theorem glue_zero (l : List UInt8) : glue (⟨#[]⟩ : ByteArray) (sp l) = (sp l).map mkB := by
  have hn := sp_ne l
  cases h : sp l with
  | nil => exact absurd h hn
  | cons a t =>
    have e : (⟨#[]⟩ : ByteArray) ++ mkB a = mkB a := ByteArray.ext (by simp [mkB])
    simp [glue, e]
theorem mkB_cons (b : UInt8) (h : List UInt8) (u : ByteArray) : u ++ mkB (b :: h) = (u ++ mkB [b]) ++ mkB h := ByteArray.ext (by simp [mkB])
theorem glue_cons {b : UInt8} (hb : b ≠ 32) (u : ByteArray) (r : List UInt8) : glue u (sp (b :: r)) = glue (u ++ mkB [b]) (sp r) := by
  have hn := sp_ne r
  cases h : sp r with
  | nil => exact absurd h hn
  | cons a t => rw [sp_cons hb h]; simp only [glue]; rw [mkB_cons]
theorem mkB_nil : mkB [] = (⟨#[]⟩ : ByteArray) := rfl
theorem glue_sp (u : ByteArray) (r : List UInt8) : glue u (sp (32 :: r)) = u :: glue (⟨#[]⟩ : ByteArray) (sp r) := by
  rw [glue_zero, sp, if_pos rfl]
  have e : u ++ mkB [] = u := ByteArray.ext (by simp [mkB])
  simp [glue, e]
theorem bt_at' {s : ByteArray} {j : Nat} (h : j < s.size) : ∃ b, s.data.toList.drop j = b :: s.data.toList.drop (j + 1) ∧ bt s (j : Int) = (b.toNat : Int) ∧ s.extract j (j + 1) = mkB [b] ∧ (s[j]'h) = b := by
  have hl : j < s.data.toList.length := by rw [data_length]; exact h
  refine ⟨s.data.toList[j], List.drop_eq_getElem_cons hl, ?_, ?_, rfl⟩
  · have h2 : j < (bytesOf s).length := by rw [bytesOf_length]; exact h
    rw [← rd_bytesOf]
    have e : rd (bytesOf s) (j : Int) = (bytesOf s)[j] := by simp [rd, List.getD_eq_getElem?_getD, List.getElem?_eq_getElem h2]
    rw [e]
    simp [bytesOf]
  · apply ByteArray.ext
    apply Array.toList_inj.mp
    rw [ByteArray.data_extract, Array.toList_extract, List.extract_eq_take_drop, List.drop_eq_getElem_cons hl, show j + 1 - j = 1 by omega]
    rfl
theorem ess {P : Program} {w W : World} {α : Type} {d : Kd α} {e b : Nat} {xs : List α} {ops' : Array Oper} {o : Oper} {a : Act} {QE : Exit → Act → World → Prop} {Kc : Act → World → Prop} {g n c : Nat} (i off : Nat) (seg : List Value) (x' : α) (hw : Region.wanted o (yielded ops' a.tmps) = true) (hN : o.dst = none) (hrun : (execOp a.eval o).run P W = .ok .skip (W.setCells g (i * d.sz + off) seg))
    (R : Aside0 (Ow d e W b (.slice (some ⟨g, 0, none⟩) n c) xs)) (hi : i < n) {cs : List Value} (hcl : cs.length = d.sz) (hcc : ∀ j u, cs[j]? = some u → W.cell? ⟨g, i * d.sz + j, none⟩ = some u) (hj : off + seg.length ≤ d.sz)
    (hM : d.M W b (fun _ => False) x' (cs.take off ++ seg ++ cs.drop (off + seg.length))) (B : Aside0 (Below w.heap.size w W)) (hb : w.heap.size ≤ g)
    (h : ∀ w', Aside0 (Below w.heap.size w w') → Aside0 (Ow d e w' b (.slice (some ⟨g, 0, none⟩) n c) (xs.set i x')) → Kc (a.put none undef) w') : if Region.wanted o (yielded ops' a.tmps) = true then Oper.wp P o a W Kc QE else Kc (a.put none undef) W := by
  rw [if_pos hw]
  unfold Oper.wp
  rw [hrun]
  show Kc (a.put o.dst undef) _
  rw [hN]
  have hP := Kd.R_seg R.out (i : Int) (Int.natCast_nonneg i) (by omega) (c := cs) (seg := seg) (j := off) (x' := x') (okp := fun _ => False) hcl (by rw [Int.toNat_natCast]; exact hcc) hj hM (fun _ hk => hk.elim)
  rw [Int.toNat_natCast] at hP
  refine h _ ⟨pw_below_grown B.out (some g) (below_size B.out) hP.2 (fun k hk => ?_)⟩ ⟨hP.1⟩
  cases hk
  exact hb

def spec_l7Words.T7 : Bool × List (List Nat × List Nat) := (true, [([], []), ([], []), ([1], [1]), ([2], [2]), ([], []), ([], []), ([5], [5]), ([6], [6]), ([4, 7], [4, 7]), ([8], [8]), ([], []), ([], []), ([], []), ([12], [12]), ([10, 11, 13], [10, 11, 13]), ([9, 14], [9, 14]), ([0, 3, 0, 1, 2, 3, 4, 5, 6, 7, 8, 9, 10, 11, 12, 13, 14, 15], [0, 3]), ([16, 15, 0, 1, 2, 3, 4, 5, 6, 7, 8, 9, 10, 11, 12, 13, 14, 15], [15, 16])])
def spec_l7Words.B7 : List Nat := [0, 0, 2, 6, 0, 0, 32, 96, 240, 496, 0, 0, 0, 4096, 15360, 32752, 65535, 131071]
theorem spec_l7Words.tab7 : rtab .any (opsOf Tryd.f35 7) = spec_l7Words.T7 := by kernel_rfl
theorem spec_l7Words.bits7 : waitsOk spec_l7Words.T7.2 spec_l7Words.B7 = true := by kernel_rfl
theorem spec_l7Words.M (s : ByteArray) (w : World) (hs : s.size ≤ 1048576) : Calls Tryd.prog 35 #[.string s] w fun e w' => ∃ v0, e = .returned v0 ∧ Kd.R Kd.string 9 w' w.heap.size (fun _ => True) v0 (wordsM s) ∧ Below w.heap.size w w' := by
  have B := Aside0.mk (Below.refl w.heap.size w)
  go_enter Tryd.func35, Tryd.ntmps35
  go_wp2_with (first
    | ((with_reducible refine gate_dst (N := 5) rfl ?_); refine lt Kd.string 9 ?hg (N := 5) ?hd ([((⟨#[]⟩ : ByteArray))] : List ByteArray) [.string (⟨#[]⟩ : ByteArray)] ?hr (Reps.one (show Kd.M Kd.string _ _ _ (⟨#[]⟩ : ByteArray) [.string (⟨#[]⟩ : ByteArray)] from rfl) (Reps.none _ _)) (by simp) B ?_; (case hd => rfl); (case hg => rfl); (case hr => first | (go_simp; done) | (go_simp; rfl)); intro z5 hz5 AL5 kL5 w1 hb B RL5 QL5; clear hb QL5))
  have H := Aside0.mk (show ([] : List ByteArray) ++ glue (⟨#[]⟩ : ByteArray) (sp (s.data.toList.drop 0)) = wordsM s by rw [List.nil_append, List.drop_zero, glue_zero]; rfl)
  have Z5 := Aside0.mk hz5
  clear hz5
  go_loopg [3, 4] (s.size + 1) (fun kx v3 v4 wr => ∃ (j : Nat) (xs ys : List ByteArray) (u : ByteArray), v4 = .int .i64 (j : Int) ∧ j ≤ s.size ∧ s.size < j + kx ∧ xs.length ≤ j ∧ u.size ≤ j ∧ Aside0 (ys = xs ++ [u]) ∧ Aside0 (Below w.heap.size w wr) ∧ Aside0 (Ow Kd.string 9 wr w.heap.size v3 ys) ∧ Aside0 (xs ++ glue u (sp (s.data.toList.drop j)) = wordsM s))
  case atStart => exact ⟨0, [], z5, (⟨#[]⟩ : ByteArray), rfl, by omega, by omega, by simp, by show 0 ≤ 0; omega, ⟨Z5.out.symm⟩, B, RL5, H⟩
  case round =>
    clear H B RL5 Z5
    obtain ⟨j, xs, ys, u, rfl, hj, hk, hx, hu, YS, B, Rp3, H⟩ := hrel
    have hyl : ys.length = xs.length + 1 := by rw [YS.out]; simp
    by_cases hlt : j < s.size
    · obtain ⟨d, rfl⟩ : ∃ d, gk = d + 1 := ⟨gk - 1, by omega⟩
      obtain ⟨b, hd, hb, he, hsj⟩ := bt_at' (s := s) (j := j) hlt
      have HS := H.out
      rw [hd] at HS
      clear H hd
      have cj : decide ((j : Int) < (s.size : Int)) = true := decide_eq_true (by omega)
      have p6 := eq_true (show 0 ≤ (j : Int) by omega)
      have q6 := eq_true (show (j : Int) < (s.size : Int) by omega)
      have hx6 := bt_at s (j : Int)
      by_cases h32 : b = 32
      · have e32 : (((s[j]'hlt).toNat : Int) == 32) = true := by rw [hsj, h32]; rfl
        subst h32
        rw [glue_sp] at HS
        have HT := Aside0.mk HS
        clear HS hb he hsj
        obtain ⟨A3, k3, rfl⟩ := Kd.R_slice Rp3.out
        go_wp2_with (first
          | ((with_reducible refine gate_dst (N := 17) rfl ?_); refine lt Kd.string 9 ?hg (N := 17) ?hd ([((⟨#[]⟩ : ByteArray))] : List ByteArray) [.string (⟨#[]⟩ : ByteArray)] ?hr (Reps.one (show Kd.M Kd.string _ _ _ (⟨#[]⟩ : ByteArray) [.string (⟨#[]⟩ : ByteArray)] from rfl) (Reps.none _ _)) (by simp) B ?_; (case hd => rfl); (case hg => rfl); (case hr => first | (go_simp; done) | (go_simp; rfl)); intro z17 hz17 AL17 kL17 w101 hb B RL17 QL17; replace Rp3 := rn Rp3 hb; clear hb QL17)
          | ((with_reducible refine gate_builtin (b := .append) (xs := #[.tmp 16, .tmp 17]) rfl ?_); at_builtin; refine apx Kd.string 9 rfl (.tmp 16) (.tmp 17) 46 (.string (⟨#[]⟩ : ByteArray)) 16 rfl Tryd.underlying46 info9 rfl (by decide) (by omega) rfl rfl Rp3 (rc RL17) (fun _ _ h => h) (by rw [← hz17]; simp only [List.length_cons, List.length_nil]; omega) B ?_; intro z18 hz18 AL18 kL18 w102 hg B RL18 hat; clear hg hat))
        go_roundg d
        case measure => omega
        case rel => exact ⟨j + 1, ys, z18, (⟨#[]⟩ : ByteArray), congrArg (Value.int .i64) (Int.natCast_succ _).symm, by omega, by omega, by omega, by show 0 ≤ _; omega, ⟨by rw [← hz18, ← hz17]⟩, B, RL18, ⟨by rw [YS.out, List.append_assoc]; exact HT.out⟩⟩
      · have e32 : (((s[j]'hlt).toNat : Int) == 32) = false := by
          rw [hsj]
          exact beq_eq_false_iff_ne.mpr (fun e => h32 (UInt8.toNat_inj.mp (by show b.toNat = 32; omega)))
        rw [glue_cons h32] at HS
        have HT := Aside0.mk HS
        obtain ⟨j1, hj1⟩ : ∃ j1, j + 1 = j1 := ⟨_, rfl⟩
        obtain ⟨m, hm⟩ : ∃ m, xs.length = m := ⟨_, rfl⟩
        have WM := Aside0.mk (show (ys.length : Int) - 1 = (m : Int) by omega)
        have IM := Aside0.mk (w64 (x := (m : Int)) (by omega) (by omega))
        have WJ := Aside0.mk (show (j : Int) + 1 = (j1 : Int) by omega)
        have IJ := Aside0.mk (w64 (x := (j1 : Int)) (by omega) (by omega))
        have HLT : m < ys.length := by omega
        have j3 := eq_true (show (m : Int) < (ys.length : Int) by omega)
        have j4 := eq_true HLT
        have b1 := eq_true (show (j : Int) ≤ (j1 : Int) by omega)
        have b2 := eq_true (show (j1 : Int) ≤ (s.size : Int) by omega)
        have b3 := eq_true (show j ≤ j1 by omega)
        have b4 := eq_true (show j1 ≤ s.size by omega)
        have hze : (s.extract j j1).size = 1 := by rw [← hj1, he]; rfl
        have HE := Aside0.mk (show s.extract j j1 = mkB [b] by rw [← hj1, he])
        have HJ1 := Aside0.mk hj1
        have HM := Aside0.mk hm
        clear HS hb he hj1 hm h32 hsj
        obtain ⟨A3, k3, rfl⟩ := Kd.R_slice Rp3.out
        obtain ⟨g, hA, hg⟩ := rform Rp3 (by omega)
        subst hA
        have R := Rp3
        clear Rp3
        obtain ⟨cs, hcl, hMM, hcc, hfz⟩ := rcells (⟨#[]⟩ : ByteArray) R m HLT
        have hget : ys.getD m (⟨#[]⟩ : ByteArray) = u := by rw [YS.out, ← HM.out]; simp
        have HCELL := Aside0.mk (show wr.cell? ⟨g, m, none⟩ = some (.string u) by
          have hq : cs = [.string u] := by rw [hget] at hMM; exact hMM
          have := hcc 0 (.string u) (by rw [hq]; rfl)
          rwa [show m * Kd.sz Kd.string + 0 = m by show m * 1 + 0 = m; omega] at this)
        clear hcl hMM hcc hfz hget cs hyl
        go_wp2
        refine rg (n := 18) (S := fun W => W.cell? ⟨g, m, none⟩ = some (.string u)) (ds := [17]) #[false, false, false, false, false, false, false, false, false, false, false, false, false, false, false, false, false, false] (by kernel_rfl) rfl rfl HCELL.out id B (fun w300 hb B hHeld => ?_)
        refine with_tabW spec_l7Words.tab7 spec_l7Words.bits7 (fun HT_ HW_ => ?_)
        replace R := rn R hb
        clear hb
        refine pu (i := 0) (N := some 19) (v := ?_) #[true, false, false, false, false, false, false, false, false, false, false, false, false, false, false, false, false, false] rfl rfl (any_of HT_.out (by kernel_rfl)) (fun _ _ _ h => h) (by kernel_rfl) ?_ ?_; rotate_left; (intro w'; go_simp; with_reducible rfl)
        refine pu (i := 1) (N := some 20) (v := ?_) #[true, true, false, false, false, false, false, false, false, false, false, false, false, false, false, false, false, false] rfl rfl (any_of HT_.out (by kernel_rfl)) (fun _ _ _ h => h) (by kernel_rfl) ?_ ?_; rotate_left; (intro w'; go_simp; with_reducible rfl)
        refine pu (i := 2) (N := some 21) (v := ?_) #[true, true, true, false, false, false, false, false, false, false, false, false, false, false, false, false, false, false] rfl rfl (any_of HT_.out (by kernel_rfl)) (fun _ _ _ h => h) (by kernel_rfl) ?_ ?_; rotate_left; (intro w'; go_simp; with_reducible rfl)
        refine pu (i := 3) (N := some 22) (v := .int .i64 (m : Int)) #[true, true, true, true, false, false, false, false, false, false, false, false, false, false, false, false, false, false] rfl rfl (any_of HT_.out (by kernel_rfl)) (fun _ _ _ h => h) (by kernel_rfl) ?_ ?_; (intro w'; go_simp; rw [WM.out]; exact (i64_w _).trans IM.out)
        refine pu (i := 4) (N := some 23) (v := ?_) #[true, true, true, true, true, false, false, false, false, false, false, false, false, false, false, false, false, false] rfl rfl (any_of HT_.out (by kernel_rfl)) (fun _ _ _ h => h) (by kernel_rfl) ?_ ?_; rotate_left; (intro w'; go_simp; with_reducible rfl)
        refine pu (i := 5) (N := some 24) (v := ?_) #[true, true, true, true, true, true, false, false, false, false, false, false, false, false, false, false, false, false] rfl rfl (any_of HT_.out (by kernel_rfl)) (fun _ _ _ h => h) (by kernel_rfl) ?_ ?_; rotate_left; (intro w'; go_simp; with_reducible rfl)
        refine pu (i := 6) (N := some 25) (v := ?_) #[true, true, true, true, true, true, true, false, false, false, false, false, false, false, false, false, false, false] rfl rfl (any_of HT_.out (by kernel_rfl)) (fun _ _ _ h => h) (by kernel_rfl) ?_ ?_; rotate_left; (intro w'; go_simp; with_reducible rfl)
        refine pu (i := 7) (N := some 26) (v := .int .i64 (m : Int)) #[true, true, true, true, true, true, true, true, false, false, false, false, false, false, false, false, false, false] rfl rfl (any_of HT_.out (by kernel_rfl)) (fun _ _ _ h => h) (by kernel_rfl) ?_ ?_; (intro w'; go_simp; rw [WM.out]; exact (i64_w _).trans IM.out)
        refine pu (i := 8) (N := some 27) (v := ?_) #[true, true, true, true, true, true, true, true, true, false, false, false, false, false, false, false, false, false] rfl rfl (any_of HT_.out (by kernel_rfl)) (fun _ _ _ h => h) (by kernel_rfl) ?_ ?_; rotate_left; (intro w'; go_simp; with_reducible rfl)
        refine ta (i := 9) (N := some 28) (v := .string u) #[true, true, true, true, true, true, true, true, true, true, false, false, false, false, false, false, false, false] rfl rfl (take_ofW HT_.out HW_.out (by kernel_rfl)) (fun _ _ _ h => h) (by kernel_rfl) hHeld ?_ ?_; (intro w' hS; go_simp; try rfl)
        refine pu (i := 10) (N := some 29) (v := ?_) #[true, true, true, true, true, true, true, true, true, true, true, false, false, false, false, false, false, false] rfl rfl (any_of HT_.out (by kernel_rfl)) (fun _ _ _ h => h) (by kernel_rfl) ?_ ?_; rotate_left; (intro w'; go_simp; with_reducible rfl)
        refine pu (i := 11) (N := some 30) (v := ?_) #[true, true, true, true, true, true, true, true, true, true, true, true, false, false, false, false, false, false] rfl rfl (any_of HT_.out (by kernel_rfl)) (fun _ _ _ h => h) (by kernel_rfl) ?_ ?_; rotate_left; (intro w'; go_simp; with_reducible rfl)
        refine pu (i := 12) (N := some 31) (v := ?_) #[true, true, true, true, true, true, true, true, true, true, true, true, true, false, false, false, false, false] rfl rfl (any_of HT_.out (by kernel_rfl)) (fun _ _ _ h => h) (by kernel_rfl) ?_ ?_; rotate_left; (intro w'; go_simp; with_reducible rfl)
        refine pu (i := 13) (N := some 32) (v := .int .i64 (j1 : Int)) #[true, true, true, true, true, true, true, true, true, true, true, true, true, true, false, false, false, false] rfl rfl (any_of HT_.out (by kernel_rfl)) (fun _ _ _ h => h) (by kernel_rfl) ?_ ?_; (intro w'; go_simp; rw [WJ.out]; exact (i64_w _).trans IJ.out)
        refine pu (i := 14) (N := some 33) (v := .string (s.extract j j1)) #[true, true, true, true, true, true, true, true, true, true, true, true, true, true, true, false, false, false] rfl rfl (any_of HT_.out (by kernel_rfl)) (fun _ _ _ h => h) (by kernel_rfl) ?_ ?_; (intro w'; go_simp; try rfl)
        refine pu (i := 15) (N := some 34) (v := .string (u ++ s.extract j j1)) #[true, true, true, true, true, true, true, true, true, true, true, true, true, true, true, true, false, false] rfl rfl (any_of HT_.out (by kernel_rfl)) (fun _ _ _ h => h) (by kernel_rfl) ?_ ?_; (intro w'; go_simp; first | omega | rfl | (simp only [ByteArray.size_append, ByteArray.size_extract] at *; omega))
        refine pu (i := 16) (N := some 35) (v := ?_) #[true, true, true, true, true, true, true, true, true, true, true, true, true, true, true, true, true, false] rfl rfl (any_of HT_.out (by kernel_rfl)) (fun _ _ _ h => h) (by kernel_rfl) ?_ ?_; rotate_left; (intro w'; go_simp; with_reducible rfl)
        refine norm_ (a' := ?_) ?_ ?_
        rotate_left
        · simp only [Act.put, List.setIfInBounds_toArray, List.set_cons_zero, List.set_cons_succ, i64_w, i32_w]
          rfl
        refine last_ (i := 17) (N := none) #[true, true, true, true, true, true, true, true, true, true, true, true, true, true, true, true, true, true] rfl rfl (one_of HT_.out (by kernel_rfl)) (by decide) (fun K hK => ?_)
        obtain ⟨cs, hcl, hMM, hcc, hfz⟩ := rcells (⟨#[]⟩ : ByteArray) R m HLT
        have hfz0 := hfz 0
        have hc0 : w300.cell? ⟨g, m, none⟩ = some (.string u) := hHeld
        simp only [show Kd.sz Kd.string = 1 from rfl, Nat.mul_one, Nat.add_zero] at hfz0
        have hcl1 : cs.length = 1 := hcl
        refine ess m 0 [.string (u ++ s.extract j j1)] (u ++ s.extract j j1) (by rfl) rfl ?hr R HLT hcl hcc (Nat.le_refl 1) ?hM B hg (fun w301 B R => ?_)
        (case hM => rw [List.take_zero, List.drop_of_length_le (by rw [hcl1]; exact Nat.le_refl 1)]; rfl)
        (case hr => (try simp only [show Kd.sz Kd.string = 1 from rfl, Nat.mul_one, Nat.add_zero]); first | (go_simp; done) | (go_simp; rfl))
        refine hK.out _ _ ?_
        clear hK K hHeld hc0 hfz0
        refine done_ (done_of HT_.out (by kernel_rfl)) ?_
        go_wp2
        go_roundg d
        case measure => omega
        case rel => exact ⟨j + 1, xs, ys.set m (u ++ s.extract j j1), u ++ s.extract j j1, congrArg (Value.int .i64) (Int.natCast_succ _).symm, by omega, by omega, by omega, by rw [ByteArray.size_append, hze]; omega, ⟨by rw [YS.out, ← HM.out]; simp⟩, B, R, ⟨by rw [HE.out]; exact HT.out⟩⟩
    · have cj : decide ((j : Int) < (s.size : Int)) = false := decide_eq_false (by omega)
      have hr := H.out
      rw [List.drop_of_length_le (by rw [data_length]; omega)] at hr
      have e : xs ++ glue u (sp []) = ys := by rw [YS.out]; have e1 : u ++ mkB [] = u := ByteArray.ext (by simp [mkB]); simp [sp, glue, e1]
      rw [e] at hr
      have HR_ := Aside0.mk hr
      clear hr e H
      go_wp2
      go_ret
      exact ⟨_, rfl, HR_.out ▸ Rp3.out, B.out⟩

theorem strat0 {w W : World} {ad : Addr} {n : Nat} {l : List ByteArray} (HR : Aside0 (Kd.C Kd.string w (some ad) n l)) (B : Aside0 (Below w.heap.size w W)) (hi : 0 < n) : W.cell? ad = some (.string (elB l 0)) := by
  have := Kd.foot_string (cb HR B) 0 (by omega) (by omega)
  rw [show (0 : Int).toNat = 0 from rfl, Addr.add, if_pos rfl] at this
  exact this
theorem strat {w W : World} {ad : Addr} {n : Nat} {l : List ByteArray} (HR : Aside0 (Kd.C Kd.string w (some ad) n l)) (B : Aside0 (Below w.heap.size w W)) (i : Nat) (h0 : 0 < i) (hi : i < n) : W.cell? { block := ad.block, off := ad.off + i } = some (.string (elB l (i : Int))) := by
  have := Kd.foot_string (cb HR B) (i : Int) (Int.natCast_nonneg _) (by omega)
  rw [Int.toNat_natCast, Addr.add, if_neg (by omega)] at this
  exact this
theorem impl_commandOf.M (A0 : Option Addr) (c0 : Nat) (W : List ByteArray) (w : World) (ht : TE w) (hr0 : Kd.C Kd.string w A0 W.length W) (hp : 0 < W.length) (hz : ∀ s ∈ W, s.size ≤ 64) : Calls Tryd.prog 36 #[.slice A0 W.length c0] w fun e w' => e = .returned (.agg #[.int .i64 (cOf W).1, .string (cOf W).2.1, .int .i64 (cOf W).2.2.1, .int .i64 (cOf W).2.2.2]) ∧ Below w.heap.size w w' := by
  have B := Aside0.mk (Below.refl w.heap.size w)
  have hu := Tryd.underlying28
  have HT := Aside0.mk ht
  have HR0 := Aside0.mk hr0
  clear ht hr0
  obtain ⟨r, hr⟩ : ∃ r, cOf W = r := ⟨_, rfl⟩
  rw [hr]
  obtain ⟨ad, hA, -⟩ := Kd.at_string HR0.out 0 (by omega) (by omega)
  subst hA
  have hn62 := HR0.out.2.1
  have zs : ∀ i : Nat, i < W.length → (elB W (i : Int)).size ≤ 64 := fun i hi => hz _ (by unfold elB rdOf; rw [Int.toNat_natCast, List.getD_eq_getElem?_getD, List.getElem?_eq_getElem hi]; exact List.getElem_mem hi)
  by_cases h0 : elB W 0 = w_get
  · have hw : (elB W 0).toList = [103, 101, 116] := by rw [h0, ba_toList]; rfl
    by_cases hn : W.length = 2
    · skip
      have d1 : decide (1 < (W.length : Int)) = true := decide_eq_true (by omega)
      have e2 : ((W.length : Int) == 2) = true := by rw [hn]; rfl
      have hM : r = (1, elB W 1, 0, 0) := by rw [← hr]; unfold cOf keyOf; rw [if_pos h0, if_pos hn, if_pos (by omega)]
      clear hr h0
      have q0 := strat0 HR0 B (by omega)
      have q1 := strat HR0 B 1 (by decide) (by omega)
      go_enter Tryd.func36, Tryd.ntmps36
      go_wp2_with (first
        | ((with_reducible refine gate_dst (N := 2) rfl ?_); refine bx ?hg (N := 2) ?hd (cs := #[.int .i64 (0), .string (⟨#[]⟩ : ByteArray), .int .i64 (0), .int .i64 (0)]) (t := 28) ?hr B ?_; (case hd => rfl); (case hg => rfl); (case hr => first | (go_simp; done) | (go_simp; rfl)); intro g2 w101 hb B F2 L2 E2; ((try clear q0); (try clear q1); (try clear q2); (try clear q3); have q0 := strat0 HR0 B (by omega); have q1 := strat HR0 B 1 (by decide) (by omega)); clear hb E2)
        | ((with_reducible refine gate_dst (N := 3) rfl ?_); refine bx ?hg (N := 3) ?hd (cs := #[.int .i64 (0), .string (⟨#[]⟩ : ByteArray), .int .i64 (0), .int .i64 (0)]) (t := 28) ?hr B ?_; (case hd => rfl); (case hg => rfl); (case hr => first | (go_simp; done) | (go_simp; rfl)); intro g3 w102 hb B F3 L3 E3; have N2_3 := ne1 E3 F2; replace F2 := bn F2 hb; obtain ⟨c3_0, c3_1, c3_2, c3_3⟩ := cs4 F3; ((try clear q0); (try clear q1); (try clear q2); (try clear q3); have q0 := strat0 HR0 B (by omega); have q1 := strat HR0 B 1 (by decide) (by omega)); clear hb E3)
        | ((with_reducible refine gate_store (t := 9) (p := 10) rfl ?_); obtain ⟨y0, y1, y2, y3⟩ := cs4 F3; have z0 := fz F3 0; have z1 := fz F3 1; have z2 := fz F3 2; have z3 := fz F3 3; refine sx (t := 28) (t' := 9) (p := 10) (v := ?vo103) ?hg ?ho ?hn 1 [.string (elB W 1)] [.int .i64 (0), .string (elB W 1), .int .i64 (0), .int .i64 (0)] ?hr B F3 L3 rfl (Nat.le_of_ble_eq_true rfl) ?_; (case ho => rfl); (case hg => rfl); (case hn => rfl); (case hr => first | (go_simp; done) | (go_simp; rfl)); intro w103 hk B G; replace F2 := bk F2 hk N2_3.out; replace F3 := G; clear c3_0 c3_1 c3_2 c3_3; obtain ⟨c3_0, c3_1, c3_2, c3_3⟩ := cs4 F3; ((try clear q0); (try clear q1); (try clear q2); (try clear q3); have q0 := strat0 HR0 B (by omega); have q1 := strat HR0 B 1 (by decide) (by omega)); clear hk y0 z0 y1 z1 y2 z2 y3 z3)
        | ((with_reducible refine gate_store (t := 3) (p := 21) rfl ?_); obtain ⟨y0, y1, y2, y3⟩ := cs4 F3; have z0 := fz F3 0; have z1 := fz F3 1; have z2 := fz F3 2; have z3 := fz F3 3; refine sx (t := 28) (t' := 3) (p := 21) (v := ?vo104) ?hg ?ho ?hn 0 [.int .i64 (1)] [.int .i64 (1), .string (elB W 1), .int .i64 (0), .int .i64 (0)] ?hr B F3 L3 rfl (Nat.le_of_ble_eq_true rfl) ?_; (case ho => rfl); (case hg => rfl); (case hn => rfl); (case hr => first | (go_simp; done) | (go_simp; rfl)); intro w104 hk B G; replace F2 := bk F2 hk N2_3.out; replace F3 := G; clear c3_0 c3_1 c3_2 c3_3; obtain ⟨c3_0, c3_1, c3_2, c3_3⟩ := cs4 F3; ((try clear q0); (try clear q1); (try clear q2); (try clear q3); have q0 := strat0 HR0 B (by omega); have q1 := strat HR0 B 1 (by decide) (by omega)); clear hk y0 z0 y1 z1 y2 z2 y3 z3)
        | ((with_reducible refine gate_store (t := 28) (p := 2) rfl ?_); obtain ⟨y0, y1, y2, y3⟩ := cs4 F2; have z0 := fz F2 0; have z1 := fz F2 1; have z2 := fz F2 2; have z3 := fz F2 3; refine sx (t := 28) (t' := 28) (p := 2) (v := ?vo105) ?hg ?ho ?hn 0 [.int .i64 (1), .string (elB W 1), .int .i64 (0), .int .i64 (0)] [.int .i64 (1), .string (elB W 1), .int .i64 (0), .int .i64 (0)] ?hr B F2 L2 rfl (Nat.le_of_ble_eq_true rfl) ?_; (case ho => rfl); (case hg => rfl); (case hn => rfl); (case hr => first | (go_simp; done) | (go_simp; rfl)); intro w105 hk B G; replace F3 := bk F3 hk N2_3.out.symm; replace F2 := G; clear hk y0 z0 y1 z1 y2 z2 y3 z3))
      refine bodyPost_ret (results_single rfl (.cell g2 28 _ (0, 0) _ rfl F2.out hu rfl (by kernel_rfl) .nil)) rfl ?_
      subst hM
      exact ⟨rfl, B.out⟩
    · by_cases hn1 : W.length = 1
      · skip
        have d1 : decide (1 < (W.length : Int)) = false := decide_eq_false (by omega)
        have e2 : ((W.length : Int) == 2) = false := by exact beq_eq_false_iff_ne.mpr (by omega)
        have hM : r = (0, (⟨#[]⟩ : ByteArray), 0, 0) := by rw [← hr]; unfold cOf keyOf; rw [if_pos h0, if_neg hn, if_neg (by omega)]
        clear hr h0
        have q0 := strat0 HR0 B (by omega)
        go_enter Tryd.func36, Tryd.ntmps36
        go_wp2_with (first
          | ((with_reducible refine gate_dst (N := 2) rfl ?_); refine bx ?hg (N := 2) ?hd (cs := #[.int .i64 (0), .string (⟨#[]⟩ : ByteArray), .int .i64 (0), .int .i64 (0)]) (t := 28) ?hr B ?_; (case hd => rfl); (case hg => rfl); (case hr => first | (go_simp; done) | (go_simp; rfl)); intro g2 w201 hb B F2 L2 E2; ((try clear q0); (try clear q1); (try clear q2); (try clear q3); have q0 := strat0 HR0 B (by omega)); clear hb E2)
          | ((with_reducible refine gate_dst (N := 3) rfl ?_); refine bx ?hg (N := 3) ?hd (cs := #[.int .i64 (0), .string (⟨#[]⟩ : ByteArray), .int .i64 (0), .int .i64 (0)]) (t := 28) ?hr B ?_; (case hd => rfl); (case hg => rfl); (case hr => first | (go_simp; done) | (go_simp; rfl)); intro g3 w202 hb B F3 L3 E3; have N2_3 := ne1 E3 F2; replace F2 := bn F2 hb; obtain ⟨c3_0, c3_1, c3_2, c3_3⟩ := cs4 F3; ((try clear q0); (try clear q1); (try clear q2); (try clear q3); have q0 := strat0 HR0 B (by omega)); clear hb E3)
          | ((with_reducible refine gate_store (t := 28) (p := 2) rfl ?_); obtain ⟨y0, y1, y2, y3⟩ := cs4 F2; have z0 := fz F2 0; have z1 := fz F2 1; have z2 := fz F2 2; have z3 := fz F2 3; refine sx (t := 28) (t' := 28) (p := 2) (v := ?vo203) ?hg ?ho ?hn 0 [.int .i64 (0), .string (⟨#[]⟩ : ByteArray), .int .i64 (0), .int .i64 (0)] [.int .i64 (0), .string (⟨#[]⟩ : ByteArray), .int .i64 (0), .int .i64 (0)] ?hr B F2 L2 rfl (Nat.le_of_ble_eq_true rfl) ?_; (case ho => rfl); (case hg => rfl); (case hn => rfl); (case hr => first | (go_simp; done) | (go_simp; rfl)); intro w203 hk B G; replace F3 := bk F3 hk N2_3.out.symm; replace F2 := G; clear hk y0 z0 y1 z1 y2 z2 y3 z3))
        refine bodyPost_ret (results_single rfl (.cell g2 28 _ (0, 0) _ rfl F2.out hu rfl (by kernel_rfl) .nil)) rfl ?_
        subst hM
        exact ⟨rfl, B.out⟩
      · skip
        have d1 : decide (1 < (W.length : Int)) = true := decide_eq_true (by omega)
        have e2 : ((W.length : Int) == 2) = false := by exact beq_eq_false_iff_ne.mpr (by omega)
        have hM : r = (0, elB W 1, 0, 0) := by rw [← hr]; unfold cOf keyOf; rw [if_pos h0, if_neg hn, if_pos (by omega)]
        clear hr h0
        have q0 := strat0 HR0 B (by omega)
        have q1 := strat HR0 B 1 (by decide) (by omega)
        go_enter Tryd.func36, Tryd.ntmps36
        go_wp2_with (first
          | ((with_reducible refine gate_dst (N := 2) rfl ?_); refine bx ?hg (N := 2) ?hd (cs := #[.int .i64 (0), .string (⟨#[]⟩ : ByteArray), .int .i64 (0), .int .i64 (0)]) (t := 28) ?hr B ?_; (case hd => rfl); (case hg => rfl); (case hr => first | (go_simp; done) | (go_simp; rfl)); intro g2 w301 hb B F2 L2 E2; ((try clear q0); (try clear q1); (try clear q2); (try clear q3); have q0 := strat0 HR0 B (by omega); have q1 := strat HR0 B 1 (by decide) (by omega)); clear hb E2)
          | ((with_reducible refine gate_dst (N := 3) rfl ?_); refine bx ?hg (N := 3) ?hd (cs := #[.int .i64 (0), .string (⟨#[]⟩ : ByteArray), .int .i64 (0), .int .i64 (0)]) (t := 28) ?hr B ?_; (case hd => rfl); (case hg => rfl); (case hr => first | (go_simp; done) | (go_simp; rfl)); intro g3 w302 hb B F3 L3 E3; have N2_3 := ne1 E3 F2; replace F2 := bn F2 hb; obtain ⟨c3_0, c3_1, c3_2, c3_3⟩ := cs4 F3; ((try clear q0); (try clear q1); (try clear q2); (try clear q3); have q0 := strat0 HR0 B (by omega); have q1 := strat HR0 B 1 (by decide) (by omega)); clear hb E3)
          | ((with_reducible refine gate_store (t := 9) (p := 10) rfl ?_); obtain ⟨y0, y1, y2, y3⟩ := cs4 F3; have z0 := fz F3 0; have z1 := fz F3 1; have z2 := fz F3 2; have z3 := fz F3 3; refine sx (t := 28) (t' := 9) (p := 10) (v := ?vo303) ?hg ?ho ?hn 1 [.string (elB W 1)] [.int .i64 (0), .string (elB W 1), .int .i64 (0), .int .i64 (0)] ?hr B F3 L3 rfl (Nat.le_of_ble_eq_true rfl) ?_; (case ho => rfl); (case hg => rfl); (case hn => rfl); (case hr => first | (go_simp; done) | (go_simp; rfl)); intro w303 hk B G; replace F2 := bk F2 hk N2_3.out; replace F3 := G; clear c3_0 c3_1 c3_2 c3_3; obtain ⟨c3_0, c3_1, c3_2, c3_3⟩ := cs4 F3; ((try clear q0); (try clear q1); (try clear q2); (try clear q3); have q0 := strat0 HR0 B (by omega); have q1 := strat HR0 B 1 (by decide) (by omega)); clear hk y0 z0 y1 z1 y2 z2 y3 z3)
          | ((with_reducible refine gate_store (t := 28) (p := 2) rfl ?_); obtain ⟨y0, y1, y2, y3⟩ := cs4 F2; have z0 := fz F2 0; have z1 := fz F2 1; have z2 := fz F2 2; have z3 := fz F2 3; refine sx (t := 28) (t' := 28) (p := 2) (v := ?vo304) ?hg ?ho ?hn 0 [.int .i64 (0), .string (elB W 1), .int .i64 (0), .int .i64 (0)] [.int .i64 (0), .string (elB W 1), .int .i64 (0), .int .i64 (0)] ?hr B F2 L2 rfl (Nat.le_of_ble_eq_true rfl) ?_; (case ho => rfl); (case hg => rfl); (case hn => rfl); (case hr => first | (go_simp; done) | (go_simp; rfl)); intro w304 hk B G; replace F3 := bk F3 hk N2_3.out.symm; replace F2 := G; clear hk y0 z0 y1 z1 y2 z2 y3 z3))
        refine bodyPost_ret (results_single rfl (.cell g2 28 _ (0, 0) _ rfl F2.out hu rfl (by kernel_rfl) .nil)) rfl ?_
        subst hM
        exact ⟨rfl, B.out⟩
  · skip
    by_cases h1 : elB W 0 = w_put
    · have hw : (elB W 0).toList = [112, 117, 116] := by rw [h1, ba_toList]; rfl
      by_cases hn : W.length = 3
      · skip
        have d1 : decide (1 < (W.length : Int)) = true := decide_eq_true (by omega)
        have e3 : ((W.length : Int) == 3) = true := by rw [hn]; rfl
        have z2 : (elB W 2).size ≤ 64 := zs 2 (by omega)
        have hM : r = (2, elB W 1, numM (elB W 2), 0) := by rw [← hr]; unfold cOf keyOf; rw [if_neg h0, if_pos h1, if_pos hn, if_pos (by omega)]
        clear hr h0 h1
        have q0 := strat0 HR0 B (by omega)
        have q1 := strat HR0 B 1 (by decide) (by omega)
        have q2 := strat HR0 B 2 (by decide) (by omega)
        go_enter Tryd.func36, Tryd.ntmps36
        go_wp2_with (first
          | ((with_reducible refine gate_dst (N := 2) rfl ?_); refine bx ?hg (N := 2) ?hd (cs := #[.int .i64 (0), .string (⟨#[]⟩ : ByteArray), .int .i64 (0), .int .i64 (0)]) (t := 28) ?hr B ?_; (case hd => rfl); (case hg => rfl); (case hr => first | (go_simp; done) | (go_simp; rfl)); intro g2 w401 hb B F2 L2 E2; ((try clear q0); (try clear q1); (try clear q2); (try clear q3); have q0 := strat0 HR0 B (by omega); have q1 := strat HR0 B 1 (by decide) (by omega); have q2 := strat HR0 B 2 (by decide) (by omega)); clear hb E2)
          | ((with_reducible refine gate_dst (N := 3) rfl ?_); refine bx ?hg (N := 3) ?hd (cs := #[.int .i64 (0), .string (⟨#[]⟩ : ByteArray), .int .i64 (0), .int .i64 (0)]) (t := 28) ?hr B ?_; (case hd => rfl); (case hg => rfl); (case hr => first | (go_simp; done) | (go_simp; rfl)); intro g3 w402 hb B F3 L3 E3; have N2_3 := ne1 E3 F2; replace F2 := bn F2 hb; obtain ⟨c3_0, c3_1, c3_2, c3_3⟩ := cs4 F3; ((try clear q0); (try clear q1); (try clear q2); (try clear q3); have q0 := strat0 HR0 B (by omega); have q1 := strat HR0 B 1 (by decide) (by omega); have q2 := strat HR0 B 2 (by decide) (by omega)); clear hb E3)
          | ((with_reducible refine gate_store (t := 9) (p := 10) rfl ?_); obtain ⟨y0, y1, y2, y3⟩ := cs4 F3; have z0 := fz F3 0; have z1 := fz F3 1; have z2 := fz F3 2; have z3 := fz F3 3; refine sx (t := 28) (t' := 9) (p := 10) (v := ?vo403) ?hg ?ho ?hn 1 [.string (elB W 1)] [.int .i64 (0), .string (elB W 1), .int .i64 (0), .int .i64 (0)] ?hr B F3 L3 rfl (Nat.le_of_ble_eq_true rfl) ?_; (case ho => rfl); (case hg => rfl); (case hn => rfl); (case hr => first | (go_simp; done) | (go_simp; rfl)); intro w403 hk B G; replace F2 := bk F2 hk N2_3.out; replace F3 := G; clear c3_0 c3_1 c3_2 c3_3; obtain ⟨c3_0, c3_1, c3_2, c3_3⟩ := cs4 F3; ((try clear q0); (try clear q1); (try clear q2); (try clear q3); have q0 := strat0 HR0 B (by omega); have q1 := strat HR0 B 1 (by decide) (by omega); have q2 := strat HR0 B 2 (by decide) (by omega)); clear hk y0 z0 y1 z1 y2 z2 y3 z3)
          | ((with_reducible refine gate_store (t := 3) (p := 32) rfl ?_); obtain ⟨y0, y1, y2, y3⟩ := cs4 F3; have z0 := fz F3 0; have z1 := fz F3 1; have z2 := fz F3 2; have z3 := fz F3 3; refine sx (t := 28) (t' := 3) (p := 32) (v := ?vo404) ?hg ?ho ?hn 0 [.int .i64 (2)] [.int .i64 (2), .string (elB W 1), .int .i64 (0), .int .i64 (0)] ?hr B F3 L3 rfl (Nat.le_of_ble_eq_true rfl) ?_; (case ho => rfl); (case hg => rfl); (case hn => rfl); (case hr => first | (go_simp; done) | (go_simp; rfl)); intro w404 hk B G; replace F2 := bk F2 hk N2_3.out; replace F3 := G; clear c3_0 c3_1 c3_2 c3_3; obtain ⟨c3_0, c3_1, c3_2, c3_3⟩ := cs4 F3; ((try clear q0); (try clear q1); (try clear q2); (try clear q3); have q0 := strat0 HR0 B (by omega); have q1 := strat HR0 B 1 (by decide) (by omega); have q2 := strat HR0 B 2 (by decide) (by omega)); clear hk y0 z0 y1 z1 y2 z2 y3 z3)
          | (go_at_call 34; with_reducible refine cl (impl_numberOf.M (elB W 2) w _ HT B (by omega)) B fun w405 hb B => ?_; replace F2 := bn F2 hb; replace F3 := bn F3 hb; clear c3_0 c3_1 c3_2 c3_3; obtain ⟨c3_0, c3_1, c3_2, c3_3⟩ := cs4 F3; ((try clear q0); (try clear q1); (try clear q2); (try clear q3); have q0 := strat0 HR0 B (by omega); have q1 := strat HR0 B 1 (by decide) (by omega); have q2 := strat HR0 B 2 (by decide) (by omega)); clear hb)
          | ((with_reducible refine gate_store (t := 3) (p := 37) rfl ?_); obtain ⟨y0, y1, y2, y3⟩ := cs4 F3; have z0 := fz F3 0; have z1 := fz F3 1; have z2 := fz F3 2; have z3 := fz F3 3; refine sx (t := 28) (t' := 3) (p := 37) (v := ?vo406) ?hg ?ho ?hn 2 [.int .i64 ((numM (elB W 2)))] [.int .i64 (2), .string (elB W 1), .int .i64 ((numM (elB W 2))), .int .i64 (0)] ?hr B F3 L3 rfl (Nat.le_of_ble_eq_true rfl) ?_; (case ho => rfl); (case hg => rfl); (case hn => rfl); (case hr => first | (go_simp; done) | (go_simp; rfl)); intro w406 hk B G; replace F2 := bk F2 hk N2_3.out; replace F3 := G; clear c3_0 c3_1 c3_2 c3_3; obtain ⟨c3_0, c3_1, c3_2, c3_3⟩ := cs4 F3; ((try clear q0); (try clear q1); (try clear q2); (try clear q3); have q0 := strat0 HR0 B (by omega); have q1 := strat HR0 B 1 (by decide) (by omega); have q2 := strat HR0 B 2 (by decide) (by omega)); clear hk y0 z0 y1 z1 y2 z2 y3 z3)
          | ((with_reducible refine gate_store (t := 28) (p := 2) rfl ?_); obtain ⟨y0, y1, y2, y3⟩ := cs4 F2; have z0 := fz F2 0; have z1 := fz F2 1; have z2 := fz F2 2; have z3 := fz F2 3; refine sx (t := 28) (t' := 28) (p := 2) (v := ?vo407) ?hg ?ho ?hn 0 [.int .i64 (2), .string (elB W 1), .int .i64 ((numM (elB W 2))), .int .i64 (0)] [.int .i64 (2), .string (elB W 1), .int .i64 ((numM (elB W 2))), .int .i64 (0)] ?hr B F2 L2 rfl (Nat.le_of_ble_eq_true rfl) ?_; (case ho => rfl); (case hg => rfl); (case hn => rfl); (case hr => first | (go_simp; done) | (go_simp; rfl)); intro w407 hk B G; replace F3 := bk F3 hk N2_3.out.symm; replace F2 := G; clear hk y0 z0 y1 z1 y2 z2 y3 z3))
        refine bodyPost_ret (results_single rfl (.cell g2 28 _ (0, 0) _ rfl F2.out hu rfl (by kernel_rfl) .nil)) rfl ?_
        subst hM
        exact ⟨rfl, B.out⟩
      · by_cases hn1 : W.length = 1
        · skip
          have d1 : decide (1 < (W.length : Int)) = false := decide_eq_false (by omega)
          have e3 : ((W.length : Int) == 3) = false := by exact beq_eq_false_iff_ne.mpr (by omega)
          have hM : r = (0, (⟨#[]⟩ : ByteArray), 0, 0) := by rw [← hr]; unfold cOf keyOf; rw [if_neg h0, if_pos h1, if_neg hn, if_neg (by omega)]
          clear hr h0 h1
          have q0 := strat0 HR0 B (by omega)
          go_enter Tryd.func36, Tryd.ntmps36
          go_wp2_with (first
            | ((with_reducible refine gate_dst (N := 2) rfl ?_); refine bx ?hg (N := 2) ?hd (cs := #[.int .i64 (0), .string (⟨#[]⟩ : ByteArray), .int .i64 (0), .int .i64 (0)]) (t := 28) ?hr B ?_; (case hd => rfl); (case hg => rfl); (case hr => first | (go_simp; done) | (go_simp; rfl)); intro g2 w501 hb B F2 L2 E2; ((try clear q0); (try clear q1); (try clear q2); (try clear q3); have q0 := strat0 HR0 B (by omega)); clear hb E2)
            | ((with_reducible refine gate_dst (N := 3) rfl ?_); refine bx ?hg (N := 3) ?hd (cs := #[.int .i64 (0), .string (⟨#[]⟩ : ByteArray), .int .i64 (0), .int .i64 (0)]) (t := 28) ?hr B ?_; (case hd => rfl); (case hg => rfl); (case hr => first | (go_simp; done) | (go_simp; rfl)); intro g3 w502 hb B F3 L3 E3; have N2_3 := ne1 E3 F2; replace F2 := bn F2 hb; obtain ⟨c3_0, c3_1, c3_2, c3_3⟩ := cs4 F3; ((try clear q0); (try clear q1); (try clear q2); (try clear q3); have q0 := strat0 HR0 B (by omega)); clear hb E3)
            | ((with_reducible refine gate_store (t := 28) (p := 2) rfl ?_); obtain ⟨y0, y1, y2, y3⟩ := cs4 F2; have z0 := fz F2 0; have z1 := fz F2 1; have z2 := fz F2 2; have z3 := fz F2 3; refine sx (t := 28) (t' := 28) (p := 2) (v := ?vo503) ?hg ?ho ?hn 0 [.int .i64 (0), .string (⟨#[]⟩ : ByteArray), .int .i64 (0), .int .i64 (0)] [.int .i64 (0), .string (⟨#[]⟩ : ByteArray), .int .i64 (0), .int .i64 (0)] ?hr B F2 L2 rfl (Nat.le_of_ble_eq_true rfl) ?_; (case ho => rfl); (case hg => rfl); (case hn => rfl); (case hr => first | (go_simp; done) | (go_simp; rfl)); intro w503 hk B G; replace F3 := bk F3 hk N2_3.out.symm; replace F2 := G; clear hk y0 z0 y1 z1 y2 z2 y3 z3))
          refine bodyPost_ret (results_single rfl (.cell g2 28 _ (0, 0) _ rfl F2.out hu rfl (by kernel_rfl) .nil)) rfl ?_
          subst hM
          exact ⟨rfl, B.out⟩
        · skip
          have d1 : decide (1 < (W.length : Int)) = true := decide_eq_true (by omega)
          have e3 : ((W.length : Int) == 3) = false := by exact beq_eq_false_iff_ne.mpr (by omega)
          have hM : r = (0, elB W 1, 0, 0) := by rw [← hr]; unfold cOf keyOf; rw [if_neg h0, if_pos h1, if_neg hn, if_pos (by omega)]
          clear hr h0 h1
          have q0 := strat0 HR0 B (by omega)
          have q1 := strat HR0 B 1 (by decide) (by omega)
          go_enter Tryd.func36, Tryd.ntmps36
          go_wp2_with (first
            | ((with_reducible refine gate_dst (N := 2) rfl ?_); refine bx ?hg (N := 2) ?hd (cs := #[.int .i64 (0), .string (⟨#[]⟩ : ByteArray), .int .i64 (0), .int .i64 (0)]) (t := 28) ?hr B ?_; (case hd => rfl); (case hg => rfl); (case hr => first | (go_simp; done) | (go_simp; rfl)); intro g2 w601 hb B F2 L2 E2; ((try clear q0); (try clear q1); (try clear q2); (try clear q3); have q0 := strat0 HR0 B (by omega); have q1 := strat HR0 B 1 (by decide) (by omega)); clear hb E2)
            | ((with_reducible refine gate_dst (N := 3) rfl ?_); refine bx ?hg (N := 3) ?hd (cs := #[.int .i64 (0), .string (⟨#[]⟩ : ByteArray), .int .i64 (0), .int .i64 (0)]) (t := 28) ?hr B ?_; (case hd => rfl); (case hg => rfl); (case hr => first | (go_simp; done) | (go_simp; rfl)); intro g3 w602 hb B F3 L3 E3; have N2_3 := ne1 E3 F2; replace F2 := bn F2 hb; obtain ⟨c3_0, c3_1, c3_2, c3_3⟩ := cs4 F3; ((try clear q0); (try clear q1); (try clear q2); (try clear q3); have q0 := strat0 HR0 B (by omega); have q1 := strat HR0 B 1 (by decide) (by omega)); clear hb E3)
            | ((with_reducible refine gate_store (t := 9) (p := 10) rfl ?_); obtain ⟨y0, y1, y2, y3⟩ := cs4 F3; have z0 := fz F3 0; have z1 := fz F3 1; have z2 := fz F3 2; have z3 := fz F3 3; refine sx (t := 28) (t' := 9) (p := 10) (v := ?vo603) ?hg ?ho ?hn 1 [.string (elB W 1)] [.int .i64 (0), .string (elB W 1), .int .i64 (0), .int .i64 (0)] ?hr B F3 L3 rfl (Nat.le_of_ble_eq_true rfl) ?_; (case ho => rfl); (case hg => rfl); (case hn => rfl); (case hr => first | (go_simp; done) | (go_simp; rfl)); intro w603 hk B G; replace F2 := bk F2 hk N2_3.out; replace F3 := G; clear c3_0 c3_1 c3_2 c3_3; obtain ⟨c3_0, c3_1, c3_2, c3_3⟩ := cs4 F3; ((try clear q0); (try clear q1); (try clear q2); (try clear q3); have q0 := strat0 HR0 B (by omega); have q1 := strat HR0 B 1 (by decide) (by omega)); clear hk y0 z0 y1 z1 y2 z2 y3 z3)
            | ((with_reducible refine gate_store (t := 28) (p := 2) rfl ?_); obtain ⟨y0, y1, y2, y3⟩ := cs4 F2; have z0 := fz F2 0; have z1 := fz F2 1; have z2 := fz F2 2; have z3 := fz F2 3; refine sx (t := 28) (t' := 28) (p := 2) (v := ?vo604) ?hg ?ho ?hn 0 [.int .i64 (0), .string (elB W 1), .int .i64 (0), .int .i64 (0)] [.int .i64 (0), .string (elB W 1), .int .i64 (0), .int .i64 (0)] ?hr B F2 L2 rfl (Nat.le_of_ble_eq_true rfl) ?_; (case ho => rfl); (case hg => rfl); (case hn => rfl); (case hr => first | (go_simp; done) | (go_simp; rfl)); intro w604 hk B G; replace F3 := bk F3 hk N2_3.out.symm; replace F2 := G; clear hk y0 z0 y1 z1 y2 z2 y3 z3))
          refine bodyPost_ret (results_single rfl (.cell g2 28 _ (0, 0) _ rfl F2.out hu rfl (by kernel_rfl) .nil)) rfl ?_
          subst hM
          exact ⟨rfl, B.out⟩
    · skip
      by_cases h2 : elB W 0 = w_drop
      · have hw : (elB W 0).toList = [100, 114, 111, 112] := by rw [h2, ba_toList]; rfl
        by_cases hn : W.length = 2
        · skip
          have d1 : decide (1 < (W.length : Int)) = true := decide_eq_true (by omega)
          have e2 : ((W.length : Int) == 2) = true := by rw [hn]; rfl
          have hM : r = (3, elB W 1, 0, 0) := by rw [← hr]; unfold cOf keyOf; rw [if_neg h0, if_neg h1, if_pos h2, if_pos hn, if_pos (by omega)]
          clear hr h0 h1 h2
          have q0 := strat0 HR0 B (by omega)
          have q1 := strat HR0 B 1 (by decide) (by omega)
          go_enter Tryd.func36, Tryd.ntmps36
          go_wp2_with (first
            | ((with_reducible refine gate_dst (N := 2) rfl ?_); refine bx ?hg (N := 2) ?hd (cs := #[.int .i64 (0), .string (⟨#[]⟩ : ByteArray), .int .i64 (0), .int .i64 (0)]) (t := 28) ?hr B ?_; (case hd => rfl); (case hg => rfl); (case hr => first | (go_simp; done) | (go_simp; rfl)); intro g2 w701 hb B F2 L2 E2; ((try clear q0); (try clear q1); (try clear q2); (try clear q3); have q0 := strat0 HR0 B (by omega); have q1 := strat HR0 B 1 (by decide) (by omega)); clear hb E2)
            | ((with_reducible refine gate_dst (N := 3) rfl ?_); refine bx ?hg (N := 3) ?hd (cs := #[.int .i64 (0), .string (⟨#[]⟩ : ByteArray), .int .i64 (0), .int .i64 (0)]) (t := 28) ?hr B ?_; (case hd => rfl); (case hg => rfl); (case hr => first | (go_simp; done) | (go_simp; rfl)); intro g3 w702 hb B F3 L3 E3; have N2_3 := ne1 E3 F2; replace F2 := bn F2 hb; obtain ⟨c3_0, c3_1, c3_2, c3_3⟩ := cs4 F3; ((try clear q0); (try clear q1); (try clear q2); (try clear q3); have q0 := strat0 HR0 B (by omega); have q1 := strat HR0 B 1 (by decide) (by omega)); clear hb E3)
            | ((with_reducible refine gate_store (t := 9) (p := 10) rfl ?_); obtain ⟨y0, y1, y2, y3⟩ := cs4 F3; have z0 := fz F3 0; have z1 := fz F3 1; have z2 := fz F3 2; have z3 := fz F3 3; refine sx (t := 28) (t' := 9) (p := 10) (v := ?vo703) ?hg ?ho ?hn 1 [.string (elB W 1)] [.int .i64 (0), .string (elB W 1), .int .i64 (0), .int .i64 (0)] ?hr B F3 L3 rfl (Nat.le_of_ble_eq_true rfl) ?_; (case ho => rfl); (case hg => rfl); (case hn => rfl); (case hr => first | (go_simp; done) | (go_simp; rfl)); intro w703 hk B G; replace F2 := bk F2 hk N2_3.out; replace F3 := G; clear c3_0 c3_1 c3_2 c3_3; obtain ⟨c3_0, c3_1, c3_2, c3_3⟩ := cs4 F3; ((try clear q0); (try clear q1); (try clear q2); (try clear q3); have q0 := strat0 HR0 B (by omega); have q1 := strat HR0 B 1 (by decide) (by omega)); clear hk y0 z0 y1 z1 y2 z2 y3 z3)
            | ((with_reducible refine gate_store (t := 3) (p := 48) rfl ?_); obtain ⟨y0, y1, y2, y3⟩ := cs4 F3; have z0 := fz F3 0; have z1 := fz F3 1; have z2 := fz F3 2; have z3 := fz F3 3; refine sx (t := 28) (t' := 3) (p := 48) (v := ?vo704) ?hg ?ho ?hn 0 [.int .i64 (3)] [.int .i64 (3), .string (elB W 1), .int .i64 (0), .int .i64 (0)] ?hr B F3 L3 rfl (Nat.le_of_ble_eq_true rfl) ?_; (case ho => rfl); (case hg => rfl); (case hn => rfl); (case hr => first | (go_simp; done) | (go_simp; rfl)); intro w704 hk B G; replace F2 := bk F2 hk N2_3.out; replace F3 := G; clear c3_0 c3_1 c3_2 c3_3; obtain ⟨c3_0, c3_1, c3_2, c3_3⟩ := cs4 F3; ((try clear q0); (try clear q1); (try clear q2); (try clear q3); have q0 := strat0 HR0 B (by omega); have q1 := strat HR0 B 1 (by decide) (by omega)); clear hk y0 z0 y1 z1 y2 z2 y3 z3)
            | ((with_reducible refine gate_store (t := 28) (p := 2) rfl ?_); obtain ⟨y0, y1, y2, y3⟩ := cs4 F2; have z0 := fz F2 0; have z1 := fz F2 1; have z2 := fz F2 2; have z3 := fz F2 3; refine sx (t := 28) (t' := 28) (p := 2) (v := ?vo705) ?hg ?ho ?hn 0 [.int .i64 (3), .string (elB W 1), .int .i64 (0), .int .i64 (0)] [.int .i64 (3), .string (elB W 1), .int .i64 (0), .int .i64 (0)] ?hr B F2 L2 rfl (Nat.le_of_ble_eq_true rfl) ?_; (case ho => rfl); (case hg => rfl); (case hn => rfl); (case hr => first | (go_simp; done) | (go_simp; rfl)); intro w705 hk B G; replace F3 := bk F3 hk N2_3.out.symm; replace F2 := G; clear hk y0 z0 y1 z1 y2 z2 y3 z3))
          refine bodyPost_ret (results_single rfl (.cell g2 28 _ (0, 0) _ rfl F2.out hu rfl (by kernel_rfl) .nil)) rfl ?_
          subst hM
          exact ⟨rfl, B.out⟩
        · by_cases hn1 : W.length = 1
          · skip
            have d1 : decide (1 < (W.length : Int)) = false := decide_eq_false (by omega)
            have e2 : ((W.length : Int) == 2) = false := by exact beq_eq_false_iff_ne.mpr (by omega)
            have hM : r = (0, (⟨#[]⟩ : ByteArray), 0, 0) := by rw [← hr]; unfold cOf keyOf; rw [if_neg h0, if_neg h1, if_pos h2, if_neg hn, if_neg (by omega)]
            clear hr h0 h1 h2
            have q0 := strat0 HR0 B (by omega)
            go_enter Tryd.func36, Tryd.ntmps36
            go_wp2_with (first
              | ((with_reducible refine gate_dst (N := 2) rfl ?_); refine bx ?hg (N := 2) ?hd (cs := #[.int .i64 (0), .string (⟨#[]⟩ : ByteArray), .int .i64 (0), .int .i64 (0)]) (t := 28) ?hr B ?_; (case hd => rfl); (case hg => rfl); (case hr => first | (go_simp; done) | (go_simp; rfl)); intro g2 w801 hb B F2 L2 E2; ((try clear q0); (try clear q1); (try clear q2); (try clear q3); have q0 := strat0 HR0 B (by omega)); clear hb E2)
              | ((with_reducible refine gate_dst (N := 3) rfl ?_); refine bx ?hg (N := 3) ?hd (cs := #[.int .i64 (0), .string (⟨#[]⟩ : ByteArray), .int .i64 (0), .int .i64 (0)]) (t := 28) ?hr B ?_; (case hd => rfl); (case hg => rfl); (case hr => first | (go_simp; done) | (go_simp; rfl)); intro g3 w802 hb B F3 L3 E3; have N2_3 := ne1 E3 F2; replace F2 := bn F2 hb; obtain ⟨c3_0, c3_1, c3_2, c3_3⟩ := cs4 F3; ((try clear q0); (try clear q1); (try clear q2); (try clear q3); have q0 := strat0 HR0 B (by omega)); clear hb E3)
              | ((with_reducible refine gate_store (t := 28) (p := 2) rfl ?_); obtain ⟨y0, y1, y2, y3⟩ := cs4 F2; have z0 := fz F2 0; have z1 := fz F2 1; have z2 := fz F2 2; have z3 := fz F2 3; refine sx (t := 28) (t' := 28) (p := 2) (v := ?vo803) ?hg ?ho ?hn 0 [.int .i64 (0), .string (⟨#[]⟩ : ByteArray), .int .i64 (0), .int .i64 (0)] [.int .i64 (0), .string (⟨#[]⟩ : ByteArray), .int .i64 (0), .int .i64 (0)] ?hr B F2 L2 rfl (Nat.le_of_ble_eq_true rfl) ?_; (case ho => rfl); (case hg => rfl); (case hn => rfl); (case hr => first | (go_simp; done) | (go_simp; rfl)); intro w803 hk B G; replace F3 := bk F3 hk N2_3.out.symm; replace F2 := G; clear hk y0 z0 y1 z1 y2 z2 y3 z3))
            refine bodyPost_ret (results_single rfl (.cell g2 28 _ (0, 0) _ rfl F2.out hu rfl (by kernel_rfl) .nil)) rfl ?_
            subst hM
            exact ⟨rfl, B.out⟩
          · skip
            have d1 : decide (1 < (W.length : Int)) = true := decide_eq_true (by omega)
            have e2 : ((W.length : Int) == 2) = false := by exact beq_eq_false_iff_ne.mpr (by omega)
            have hM : r = (0, elB W 1, 0, 0) := by rw [← hr]; unfold cOf keyOf; rw [if_neg h0, if_neg h1, if_pos h2, if_neg hn, if_pos (by omega)]
            clear hr h0 h1 h2
            have q0 := strat0 HR0 B (by omega)
            have q1 := strat HR0 B 1 (by decide) (by omega)
            go_enter Tryd.func36, Tryd.ntmps36
            go_wp2_with (first
              | ((with_reducible refine gate_dst (N := 2) rfl ?_); refine bx ?hg (N := 2) ?hd (cs := #[.int .i64 (0), .string (⟨#[]⟩ : ByteArray), .int .i64 (0), .int .i64 (0)]) (t := 28) ?hr B ?_; (case hd => rfl); (case hg => rfl); (case hr => first | (go_simp; done) | (go_simp; rfl)); intro g2 w901 hb B F2 L2 E2; ((try clear q0); (try clear q1); (try clear q2); (try clear q3); have q0 := strat0 HR0 B (by omega); have q1 := strat HR0 B 1 (by decide) (by omega)); clear hb E2)
              | ((with_reducible refine gate_dst (N := 3) rfl ?_); refine bx ?hg (N := 3) ?hd (cs := #[.int .i64 (0), .string (⟨#[]⟩ : ByteArray), .int .i64 (0), .int .i64 (0)]) (t := 28) ?hr B ?_; (case hd => rfl); (case hg => rfl); (case hr => first | (go_simp; done) | (go_simp; rfl)); intro g3 w902 hb B F3 L3 E3; have N2_3 := ne1 E3 F2; replace F2 := bn F2 hb; obtain ⟨c3_0, c3_1, c3_2, c3_3⟩ := cs4 F3; ((try clear q0); (try clear q1); (try clear q2); (try clear q3); have q0 := strat0 HR0 B (by omega); have q1 := strat HR0 B 1 (by decide) (by omega)); clear hb E3)
              | ((with_reducible refine gate_store (t := 9) (p := 10) rfl ?_); obtain ⟨y0, y1, y2, y3⟩ := cs4 F3; have z0 := fz F3 0; have z1 := fz F3 1; have z2 := fz F3 2; have z3 := fz F3 3; refine sx (t := 28) (t' := 9) (p := 10) (v := ?vo903) ?hg ?ho ?hn 1 [.string (elB W 1)] [.int .i64 (0), .string (elB W 1), .int .i64 (0), .int .i64 (0)] ?hr B F3 L3 rfl (Nat.le_of_ble_eq_true rfl) ?_; (case ho => rfl); (case hg => rfl); (case hn => rfl); (case hr => first | (go_simp; done) | (go_simp; rfl)); intro w903 hk B G; replace F2 := bk F2 hk N2_3.out; replace F3 := G; clear c3_0 c3_1 c3_2 c3_3; obtain ⟨c3_0, c3_1, c3_2, c3_3⟩ := cs4 F3; ((try clear q0); (try clear q1); (try clear q2); (try clear q3); have q0 := strat0 HR0 B (by omega); have q1 := strat HR0 B 1 (by decide) (by omega)); clear hk y0 z0 y1 z1 y2 z2 y3 z3)
              | ((with_reducible refine gate_store (t := 28) (p := 2) rfl ?_); obtain ⟨y0, y1, y2, y3⟩ := cs4 F2; have z0 := fz F2 0; have z1 := fz F2 1; have z2 := fz F2 2; have z3 := fz F2 3; refine sx (t := 28) (t' := 28) (p := 2) (v := ?vo904) ?hg ?ho ?hn 0 [.int .i64 (0), .string (elB W 1), .int .i64 (0), .int .i64 (0)] [.int .i64 (0), .string (elB W 1), .int .i64 (0), .int .i64 (0)] ?hr B F2 L2 rfl (Nat.le_of_ble_eq_true rfl) ?_; (case ho => rfl); (case hg => rfl); (case hn => rfl); (case hr => first | (go_simp; done) | (go_simp; rfl)); intro w904 hk B G; replace F3 := bk F3 hk N2_3.out.symm; replace F2 := G; clear hk y0 z0 y1 z1 y2 z2 y3 z3))
            refine bodyPost_ret (results_single rfl (.cell g2 28 _ (0, 0) _ rfl F2.out hu rfl (by kernel_rfl) .nil)) rfl ?_
            subst hM
            exact ⟨rfl, B.out⟩
      · skip
        by_cases h3 : elB W 0 = w_swap
        · have hw : (elB W 0).toList = [115, 119, 97, 112] := by rw [h3, ba_toList]; rfl
          by_cases hn : W.length = 4
          · skip
            have d1 : decide (1 < (W.length : Int)) = true := decide_eq_true (by omega)
            have e4 : ((W.length : Int) == 4) = true := by rw [hn]; rfl
            have z2 : (elB W 2).size ≤ 64 := zs 2 (by omega)
            have z3 : (elB W 3).size ≤ 64 := zs 3 (by omega)
            have hM : r = (4, elB W 1, numM (elB W 3), numM (elB W 2)) := by rw [← hr]; unfold cOf keyOf; rw [if_neg h0, if_neg h1, if_neg h2, if_pos h3, if_pos hn, if_pos (by omega)]
            clear hr h0 h1 h2 h3
            have q0 := strat0 HR0 B (by omega)
            have q1 := strat HR0 B 1 (by decide) (by omega)
            have q2 := strat HR0 B 2 (by decide) (by omega)
            have q3 := strat HR0 B 3 (by decide) (by omega)
            go_enter Tryd.func36, Tryd.ntmps36
            go_wp2_with (first
              | ((with_reducible refine gate_dst (N := 2) rfl ?_); refine bx ?hg (N := 2) ?hd (cs := #[.int .i64 (0), .string (⟨#[]⟩ : ByteArray), .int .i64 (0), .int .i64 (0)]) (t := 28) ?hr B ?_; (case hd => rfl); (case hg => rfl); (case hr => first | (go_simp; done) | (go_simp; rfl)); intro g2 w1001 hb B F2 L2 E2; ((try clear q0); (try clear q1); (try clear q2); (try clear q3); have q0 := strat0 HR0 B (by omega); have q1 := strat HR0 B 1 (by decide) (by omega); have q2 := strat HR0 B 2 (by decide) (by omega); have q3 := strat HR0 B 3 (by decide) (by omega)); clear hb E2)
              | ((with_reducible refine gate_dst (N := 3) rfl ?_); refine bx ?hg (N := 3) ?hd (cs := #[.int .i64 (0), .string (⟨#[]⟩ : ByteArray), .int .i64 (0), .int .i64 (0)]) (t := 28) ?hr B ?_; (case hd => rfl); (case hg => rfl); (case hr => first | (go_simp; done) | (go_simp; rfl)); intro g3 w1002 hb B F3 L3 E3; have N2_3 := ne1 E3 F2; replace F2 := bn F2 hb; obtain ⟨c3_0, c3_1, c3_2, c3_3⟩ := cs4 F3; ((try clear q0); (try clear q1); (try clear q2); (try clear q3); have q0 := strat0 HR0 B (by omega); have q1 := strat HR0 B 1 (by decide) (by omega); have q2 := strat HR0 B 2 (by decide) (by omega); have q3 := strat HR0 B 3 (by decide) (by omega)); clear hb E3)
              | ((with_reducible refine gate_store (t := 9) (p := 10) rfl ?_); obtain ⟨y0, y1, y2, y3⟩ := cs4 F3; have z0 := fz F3 0; have z1 := fz F3 1; have z2 := fz F3 2; have z3 := fz F3 3; refine sx (t := 28) (t' := 9) (p := 10) (v := ?vo1003) ?hg ?ho ?hn 1 [.string (elB W 1)] [.int .i64 (0), .string (elB W 1), .int .i64 (0), .int .i64 (0)] ?hr B F3 L3 rfl (Nat.le_of_ble_eq_true rfl) ?_; (case ho => rfl); (case hg => rfl); (case hn => rfl); (case hr => first | (go_simp; done) | (go_simp; rfl)); intro w1003 hk B G; replace F2 := bk F2 hk N2_3.out; replace F3 := G; clear c3_0 c3_1 c3_2 c3_3; obtain ⟨c3_0, c3_1, c3_2, c3_3⟩ := cs4 F3; ((try clear q0); (try clear q1); (try clear q2); (try clear q3); have q0 := strat0 HR0 B (by omega); have q1 := strat HR0 B 1 (by decide) (by omega); have q2 := strat HR0 B 2 (by decide) (by omega); have q3 := strat HR0 B 3 (by decide) (by omega)); clear hk y0 z0 y1 z1 y2 z2 y3 z3)
              | ((with_reducible refine gate_store (t := 3) (p := 59) rfl ?_); obtain ⟨y0, y1, y2, y3⟩ := cs4 F3; have z0 := fz F3 0; have z1 := fz F3 1; have z2 := fz F3 2; have z3 := fz F3 3; refine sx (t := 28) (t' := 3) (p := 59) (v := ?vo1004) ?hg ?ho ?hn 0 [.int .i64 (4)] [.int .i64 (4), .string (elB W 1), .int .i64 (0), .int .i64 (0)] ?hr B F3 L3 rfl (Nat.le_of_ble_eq_true rfl) ?_; (case ho => rfl); (case hg => rfl); (case hn => rfl); (case hr => first | (go_simp; done) | (go_simp; rfl)); intro w1004 hk B G; replace F2 := bk F2 hk N2_3.out; replace F3 := G; clear c3_0 c3_1 c3_2 c3_3; obtain ⟨c3_0, c3_1, c3_2, c3_3⟩ := cs4 F3; ((try clear q0); (try clear q1); (try clear q2); (try clear q3); have q0 := strat0 HR0 B (by omega); have q1 := strat HR0 B 1 (by decide) (by omega); have q2 := strat HR0 B 2 (by decide) (by omega); have q3 := strat HR0 B 3 (by decide) (by omega)); clear hk y0 z0 y1 z1 y2 z2 y3 z3)
              | (go_at_call 34; with_reducible refine cl (impl_numberOf.M (elB W 2) w _ HT B (by omega)) B fun w1005 hb B => ?_; replace F2 := bn F2 hb; replace F3 := bn F3 hb; clear c3_0 c3_1 c3_2 c3_3; obtain ⟨c3_0, c3_1, c3_2, c3_3⟩ := cs4 F3; ((try clear q0); (try clear q1); (try clear q2); (try clear q3); have q0 := strat0 HR0 B (by omega); have q1 := strat HR0 B 1 (by decide) (by omega); have q2 := strat HR0 B 2 (by decide) (by omega); have q3 := strat HR0 B 3 (by decide) (by omega)); clear hb)
              | ((with_reducible refine gate_store (t := 3) (p := 64) rfl ?_); obtain ⟨y0, y1, y2, y3⟩ := cs4 F3; have z0 := fz F3 0; have z1 := fz F3 1; have z2 := fz F3 2; have z3 := fz F3 3; refine sx (t := 28) (t' := 3) (p := 64) (v := ?vo1006) ?hg ?ho ?hn 3 [.int .i64 ((numM (elB W 2)))] [.int .i64 (4), .string (elB W 1), .int .i64 (0), .int .i64 ((numM (elB W 2)))] ?hr B F3 L3 rfl (Nat.le_of_ble_eq_true rfl) ?_; (case ho => rfl); (case hg => rfl); (case hn => rfl); (case hr => first | (go_simp; done) | (go_simp; rfl)); intro w1006 hk B G; replace F2 := bk F2 hk N2_3.out; replace F3 := G; clear c3_0 c3_1 c3_2 c3_3; obtain ⟨c3_0, c3_1, c3_2, c3_3⟩ := cs4 F3; ((try clear q0); (try clear q1); (try clear q2); (try clear q3); have q0 := strat0 HR0 B (by omega); have q1 := strat HR0 B 1 (by decide) (by omega); have q2 := strat HR0 B 2 (by decide) (by omega); have q3 := strat HR0 B 3 (by decide) (by omega)); clear hk y0 z0 y1 z1 y2 z2 y3 z3)
              | (go_at_call 34; with_reducible refine cl (impl_numberOf.M (elB W 3) w _ HT B (by omega)) B fun w1007 hb B => ?_; replace F2 := bn F2 hb; replace F3 := bn F3 hb; clear c3_0 c3_1 c3_2 c3_3; obtain ⟨c3_0, c3_1, c3_2, c3_3⟩ := cs4 F3; ((try clear q0); (try clear q1); (try clear q2); (try clear q3); have q0 := strat0 HR0 B (by omega); have q1 := strat HR0 B 1 (by decide) (by omega); have q2 := strat HR0 B 2 (by decide) (by omega); have q3 := strat HR0 B 3 (by decide) (by omega)); clear hb)
              | ((with_reducible refine gate_store (t := 3) (p := 69) rfl ?_); obtain ⟨y0, y1, y2, y3⟩ := cs4 F3; have z0 := fz F3 0; have z1 := fz F3 1; have z2 := fz F3 2; have z3 := fz F3 3; refine sx (t := 28) (t' := 3) (p := 69) (v := ?vo1008) ?hg ?ho ?hn 2 [.int .i64 ((numM (elB W 3)))] [.int .i64 (4), .string (elB W 1), .int .i64 ((numM (elB W 3))), .int .i64 ((numM (elB W 2)))] ?hr B F3 L3 rfl (Nat.le_of_ble_eq_true rfl) ?_; (case ho => rfl); (case hg => rfl); (case hn => rfl); (case hr => first | (go_simp; done) | (go_simp; rfl)); intro w1008 hk B G; replace F2 := bk F2 hk N2_3.out; replace F3 := G; clear c3_0 c3_1 c3_2 c3_3; obtain ⟨c3_0, c3_1, c3_2, c3_3⟩ := cs4 F3; ((try clear q0); (try clear q1); (try clear q2); (try clear q3); have q0 := strat0 HR0 B (by omega); have q1 := strat HR0 B 1 (by decide) (by omega); have q2 := strat HR0 B 2 (by decide) (by omega); have q3 := strat HR0 B 3 (by decide) (by omega)); clear hk y0 z0 y1 z1 y2 z2 y3 z3)
              | ((with_reducible refine gate_store (t := 28) (p := 2) rfl ?_); obtain ⟨y0, y1, y2, y3⟩ := cs4 F2; have z0 := fz F2 0; have z1 := fz F2 1; have z2 := fz F2 2; have z3 := fz F2 3; refine sx (t := 28) (t' := 28) (p := 2) (v := ?vo1009) ?hg ?ho ?hn 0 [.int .i64 (4), .string (elB W 1), .int .i64 ((numM (elB W 3))), .int .i64 ((numM (elB W 2)))] [.int .i64 (4), .string (elB W 1), .int .i64 ((numM (elB W 3))), .int .i64 ((numM (elB W 2)))] ?hr B F2 L2 rfl (Nat.le_of_ble_eq_true rfl) ?_; (case ho => rfl); (case hg => rfl); (case hn => rfl); (case hr => first | (go_simp; done) | (go_simp; rfl)); intro w1009 hk B G; replace F3 := bk F3 hk N2_3.out.symm; replace F2 := G; clear hk y0 z0 y1 z1 y2 z2 y3 z3))
            refine bodyPost_ret (results_single rfl (.cell g2 28 _ (0, 0) _ rfl F2.out hu rfl (by kernel_rfl) .nil)) rfl ?_
            subst hM
            exact ⟨rfl, B.out⟩
          · by_cases hn1 : W.length = 1
            · skip
              have d1 : decide (1 < (W.length : Int)) = false := decide_eq_false (by omega)
              have e4 : ((W.length : Int) == 4) = false := by exact beq_eq_false_iff_ne.mpr (by omega)
              have hM : r = (0, (⟨#[]⟩ : ByteArray), 0, 0) := by rw [← hr]; unfold cOf keyOf; rw [if_neg h0, if_neg h1, if_neg h2, if_pos h3, if_neg hn, if_neg (by omega)]
              clear hr h0 h1 h2 h3
              have q0 := strat0 HR0 B (by omega)
              go_enter Tryd.func36, Tryd.ntmps36
              go_wp2_with (first
                | ((with_reducible refine gate_dst (N := 2) rfl ?_); refine bx ?hg (N := 2) ?hd (cs := #[.int .i64 (0), .string (⟨#[]⟩ : ByteArray), .int .i64 (0), .int .i64 (0)]) (t := 28) ?hr B ?_; (case hd => rfl); (case hg => rfl); (case hr => first | (go_simp; done) | (go_simp; rfl)); intro g2 w1101 hb B F2 L2 E2; ((try clear q0); (try clear q1); (try clear q2); (try clear q3); have q0 := strat0 HR0 B (by omega)); clear hb E2)
                | ((with_reducible refine gate_dst (N := 3) rfl ?_); refine bx ?hg (N := 3) ?hd (cs := #[.int .i64 (0), .string (⟨#[]⟩ : ByteArray), .int .i64 (0), .int .i64 (0)]) (t := 28) ?hr B ?_; (case hd => rfl); (case hg => rfl); (case hr => first | (go_simp; done) | (go_simp; rfl)); intro g3 w1102 hb B F3 L3 E3; have N2_3 := ne1 E3 F2; replace F2 := bn F2 hb; obtain ⟨c3_0, c3_1, c3_2, c3_3⟩ := cs4 F3; ((try clear q0); (try clear q1); (try clear q2); (try clear q3); have q0 := strat0 HR0 B (by omega)); clear hb E3)
                | ((with_reducible refine gate_store (t := 28) (p := 2) rfl ?_); obtain ⟨y0, y1, y2, y3⟩ := cs4 F2; have z0 := fz F2 0; have z1 := fz F2 1; have z2 := fz F2 2; have z3 := fz F2 3; refine sx (t := 28) (t' := 28) (p := 2) (v := ?vo1103) ?hg ?ho ?hn 0 [.int .i64 (0), .string (⟨#[]⟩ : ByteArray), .int .i64 (0), .int .i64 (0)] [.int .i64 (0), .string (⟨#[]⟩ : ByteArray), .int .i64 (0), .int .i64 (0)] ?hr B F2 L2 rfl (Nat.le_of_ble_eq_true rfl) ?_; (case ho => rfl); (case hg => rfl); (case hn => rfl); (case hr => first | (go_simp; done) | (go_simp; rfl)); intro w1103 hk B G; replace F3 := bk F3 hk N2_3.out.symm; replace F2 := G; clear hk y0 z0 y1 z1 y2 z2 y3 z3))
              refine bodyPost_ret (results_single rfl (.cell g2 28 _ (0, 0) _ rfl F2.out hu rfl (by kernel_rfl) .nil)) rfl ?_
              subst hM
              exact ⟨rfl, B.out⟩
            · skip
              have d1 : decide (1 < (W.length : Int)) = true := decide_eq_true (by omega)
              have e4 : ((W.length : Int) == 4) = false := by exact beq_eq_false_iff_ne.mpr (by omega)
              have hM : r = (0, elB W 1, 0, 0) := by rw [← hr]; unfold cOf keyOf; rw [if_neg h0, if_neg h1, if_neg h2, if_pos h3, if_neg hn, if_pos (by omega)]
              clear hr h0 h1 h2 h3
              have q0 := strat0 HR0 B (by omega)
              have q1 := strat HR0 B 1 (by decide) (by omega)
              go_enter Tryd.func36, Tryd.ntmps36
              go_wp2_with (first
                | ((with_reducible refine gate_dst (N := 2) rfl ?_); refine bx ?hg (N := 2) ?hd (cs := #[.int .i64 (0), .string (⟨#[]⟩ : ByteArray), .int .i64 (0), .int .i64 (0)]) (t := 28) ?hr B ?_; (case hd => rfl); (case hg => rfl); (case hr => first | (go_simp; done) | (go_simp; rfl)); intro g2 w1201 hb B F2 L2 E2; ((try clear q0); (try clear q1); (try clear q2); (try clear q3); have q0 := strat0 HR0 B (by omega); have q1 := strat HR0 B 1 (by decide) (by omega)); clear hb E2)
                | ((with_reducible refine gate_dst (N := 3) rfl ?_); refine bx ?hg (N := 3) ?hd (cs := #[.int .i64 (0), .string (⟨#[]⟩ : ByteArray), .int .i64 (0), .int .i64 (0)]) (t := 28) ?hr B ?_; (case hd => rfl); (case hg => rfl); (case hr => first | (go_simp; done) | (go_simp; rfl)); intro g3 w1202 hb B F3 L3 E3; have N2_3 := ne1 E3 F2; replace F2 := bn F2 hb; obtain ⟨c3_0, c3_1, c3_2, c3_3⟩ := cs4 F3; ((try clear q0); (try clear q1); (try clear q2); (try clear q3); have q0 := strat0 HR0 B (by omega); have q1 := strat HR0 B 1 (by decide) (by omega)); clear hb E3)
                | ((with_reducible refine gate_store (t := 9) (p := 10) rfl ?_); obtain ⟨y0, y1, y2, y3⟩ := cs4 F3; have z0 := fz F3 0; have z1 := fz F3 1; have z2 := fz F3 2; have z3 := fz F3 3; refine sx (t := 28) (t' := 9) (p := 10) (v := ?vo1203) ?hg ?ho ?hn 1 [.string (elB W 1)] [.int .i64 (0), .string (elB W 1), .int .i64 (0), .int .i64 (0)] ?hr B F3 L3 rfl (Nat.le_of_ble_eq_true rfl) ?_; (case ho => rfl); (case hg => rfl); (case hn => rfl); (case hr => first | (go_simp; done) | (go_simp; rfl)); intro w1203 hk B G; replace F2 := bk F2 hk N2_3.out; replace F3 := G; clear c3_0 c3_1 c3_2 c3_3; obtain ⟨c3_0, c3_1, c3_2, c3_3⟩ := cs4 F3; ((try clear q0); (try clear q1); (try clear q2); (try clear q3); have q0 := strat0 HR0 B (by omega); have q1 := strat HR0 B 1 (by decide) (by omega)); clear hk y0 z0 y1 z1 y2 z2 y3 z3)
                | ((with_reducible refine gate_store (t := 28) (p := 2) rfl ?_); obtain ⟨y0, y1, y2, y3⟩ := cs4 F2; have z0 := fz F2 0; have z1 := fz F2 1; have z2 := fz F2 2; have z3 := fz F2 3; refine sx (t := 28) (t' := 28) (p := 2) (v := ?vo1204) ?hg ?ho ?hn 0 [.int .i64 (0), .string (elB W 1), .int .i64 (0), .int .i64 (0)] [.int .i64 (0), .string (elB W 1), .int .i64 (0), .int .i64 (0)] ?hr B F2 L2 rfl (Nat.le_of_ble_eq_true rfl) ?_; (case ho => rfl); (case hg => rfl); (case hn => rfl); (case hr => first | (go_simp; done) | (go_simp; rfl)); intro w1204 hk B G; replace F3 := bk F3 hk N2_3.out.symm; replace F2 := G; clear hk y0 z0 y1 z1 y2 z2 y3 z3))
              refine bodyPost_ret (results_single rfl (.cell g2 28 _ (0, 0) _ rfl F2.out hu rfl (by kernel_rfl) .nil)) rfl ?_
              subst hM
              exact ⟨rfl, B.out⟩
        · skip
          by_cases h4 : elB W 0 = w_seal
          · have hw : (elB W 0).toList = [115, 101, 97, 108] := by rw [h4, ba_toList]; rfl
            by_cases hn1 : W.length = 1
            · skip
              have d1 : decide (1 < (W.length : Int)) = false := decide_eq_false (by omega)
              have l2 : decide ((W.length : Int) ≤ 2) = true := decide_eq_true (by omega)
              have hM : r = (5, (⟨#[]⟩ : ByteArray), 0, 0) := by rw [← hr]; unfold cOf keyOf; rw [if_neg h0, if_neg h1, if_neg h2, if_neg h3, if_pos h4, if_pos (by omega), if_neg (by omega)]
              clear hr h0 h1 h2 h3 h4
              have q0 := strat0 HR0 B (by omega)
              go_enter Tryd.func36, Tryd.ntmps36
              go_wp2_with (first
                | ((with_reducible refine gate_dst (N := 2) rfl ?_); refine bx ?hg (N := 2) ?hd (cs := #[.int .i64 (0), .string (⟨#[]⟩ : ByteArray), .int .i64 (0), .int .i64 (0)]) (t := 28) ?hr B ?_; (case hd => rfl); (case hg => rfl); (case hr => first | (go_simp; done) | (go_simp; rfl)); intro g2 w1301 hb B F2 L2 E2; ((try clear q0); (try clear q1); (try clear q2); (try clear q3); have q0 := strat0 HR0 B (by omega)); clear hb E2)
                | ((with_reducible refine gate_dst (N := 3) rfl ?_); refine bx ?hg (N := 3) ?hd (cs := #[.int .i64 (0), .string (⟨#[]⟩ : ByteArray), .int .i64 (0), .int .i64 (0)]) (t := 28) ?hr B ?_; (case hd => rfl); (case hg => rfl); (case hr => first | (go_simp; done) | (go_simp; rfl)); intro g3 w1302 hb B F3 L3 E3; have N2_3 := ne1 E3 F2; replace F2 := bn F2 hb; obtain ⟨c3_0, c3_1, c3_2, c3_3⟩ := cs4 F3; ((try clear q0); (try clear q1); (try clear q2); (try clear q3); have q0 := strat0 HR0 B (by omega)); clear hb E3)
                | ((with_reducible refine gate_store (t := 3) (p := 80) rfl ?_); obtain ⟨y0, y1, y2, y3⟩ := cs4 F3; have z0 := fz F3 0; have z1 := fz F3 1; have z2 := fz F3 2; have z3 := fz F3 3; refine sx (t := 28) (t' := 3) (p := 80) (v := ?vo1303) ?hg ?ho ?hn 0 [.int .i64 (5)] [.int .i64 (5), .string (⟨#[]⟩ : ByteArray), .int .i64 (0), .int .i64 (0)] ?hr B F3 L3 rfl (Nat.le_of_ble_eq_true rfl) ?_; (case ho => rfl); (case hg => rfl); (case hn => rfl); (case hr => first | (go_simp; done) | (go_simp; rfl)); intro w1303 hk B G; replace F2 := bk F2 hk N2_3.out; replace F3 := G; clear c3_0 c3_1 c3_2 c3_3; obtain ⟨c3_0, c3_1, c3_2, c3_3⟩ := cs4 F3; ((try clear q0); (try clear q1); (try clear q2); (try clear q3); have q0 := strat0 HR0 B (by omega)); clear hk y0 z0 y1 z1 y2 z2 y3 z3)
                | ((with_reducible refine gate_store (t := 28) (p := 2) rfl ?_); obtain ⟨y0, y1, y2, y3⟩ := cs4 F2; have z0 := fz F2 0; have z1 := fz F2 1; have z2 := fz F2 2; have z3 := fz F2 3; refine sx (t := 28) (t' := 28) (p := 2) (v := ?vo1304) ?hg ?ho ?hn 0 [.int .i64 (5), .string (⟨#[]⟩ : ByteArray), .int .i64 (0), .int .i64 (0)] [.int .i64 (5), .string (⟨#[]⟩ : ByteArray), .int .i64 (0), .int .i64 (0)] ?hr B F2 L2 rfl (Nat.le_of_ble_eq_true rfl) ?_; (case ho => rfl); (case hg => rfl); (case hn => rfl); (case hr => first | (go_simp; done) | (go_simp; rfl)); intro w1304 hk B G; replace F3 := bk F3 hk N2_3.out.symm; replace F2 := G; clear hk y0 z0 y1 z1 y2 z2 y3 z3))
              refine bodyPost_ret (results_single rfl (.cell g2 28 _ (0, 0) _ rfl F2.out hu rfl (by kernel_rfl) .nil)) rfl ?_
              subst hM
              exact ⟨rfl, B.out⟩
            · by_cases hn : W.length = 2
              · skip
                have d1 : decide (1 < (W.length : Int)) = true := decide_eq_true (by omega)
                have l2 : decide ((W.length : Int) ≤ 2) = true := decide_eq_true (by omega)
                have hM : r = (5, elB W 1, 0, 0) := by rw [← hr]; unfold cOf keyOf; rw [if_neg h0, if_neg h1, if_neg h2, if_neg h3, if_pos h4, if_pos (by omega), if_pos (by omega)]
                clear hr h0 h1 h2 h3 h4
                have q0 := strat0 HR0 B (by omega)
                have q1 := strat HR0 B 1 (by decide) (by omega)
                go_enter Tryd.func36, Tryd.ntmps36
                go_wp2_with (first
                  | ((with_reducible refine gate_dst (N := 2) rfl ?_); refine bx ?hg (N := 2) ?hd (cs := #[.int .i64 (0), .string (⟨#[]⟩ : ByteArray), .int .i64 (0), .int .i64 (0)]) (t := 28) ?hr B ?_; (case hd => rfl); (case hg => rfl); (case hr => first | (go_simp; done) | (go_simp; rfl)); intro g2 w1401 hb B F2 L2 E2; ((try clear q0); (try clear q1); (try clear q2); (try clear q3); have q0 := strat0 HR0 B (by omega); have q1 := strat HR0 B 1 (by decide) (by omega)); clear hb E2)
                  | ((with_reducible refine gate_dst (N := 3) rfl ?_); refine bx ?hg (N := 3) ?hd (cs := #[.int .i64 (0), .string (⟨#[]⟩ : ByteArray), .int .i64 (0), .int .i64 (0)]) (t := 28) ?hr B ?_; (case hd => rfl); (case hg => rfl); (case hr => first | (go_simp; done) | (go_simp; rfl)); intro g3 w1402 hb B F3 L3 E3; have N2_3 := ne1 E3 F2; replace F2 := bn F2 hb; obtain ⟨c3_0, c3_1, c3_2, c3_3⟩ := cs4 F3; ((try clear q0); (try clear q1); (try clear q2); (try clear q3); have q0 := strat0 HR0 B (by omega); have q1 := strat HR0 B 1 (by decide) (by omega)); clear hb E3)
                  | ((with_reducible refine gate_store (t := 9) (p := 10) rfl ?_); obtain ⟨y0, y1, y2, y3⟩ := cs4 F3; have z0 := fz F3 0; have z1 := fz F3 1; have z2 := fz F3 2; have z3 := fz F3 3; refine sx (t := 28) (t' := 9) (p := 10) (v := ?vo1403) ?hg ?ho ?hn 1 [.string (elB W 1)] [.int .i64 (0), .string (elB W 1), .int .i64 (0), .int .i64 (0)] ?hr B F3 L3 rfl (Nat.le_of_ble_eq_true rfl) ?_; (case ho => rfl); (case hg => rfl); (case hn => rfl); (case hr => first | (go_simp; done) | (go_simp; rfl)); intro w1403 hk B G; replace F2 := bk F2 hk N2_3.out; replace F3 := G; clear c3_0 c3_1 c3_2 c3_3; obtain ⟨c3_0, c3_1, c3_2, c3_3⟩ := cs4 F3; ((try clear q0); (try clear q1); (try clear q2); (try clear q3); have q0 := strat0 HR0 B (by omega); have q1 := strat HR0 B 1 (by decide) (by omega)); clear hk y0 z0 y1 z1 y2 z2 y3 z3)
                  | ((with_reducible refine gate_store (t := 3) (p := 80) rfl ?_); obtain ⟨y0, y1, y2, y3⟩ := cs4 F3; have z0 := fz F3 0; have z1 := fz F3 1; have z2 := fz F3 2; have z3 := fz F3 3; refine sx (t := 28) (t' := 3) (p := 80) (v := ?vo1404) ?hg ?ho ?hn 0 [.int .i64 (5)] [.int .i64 (5), .string (elB W 1), .int .i64 (0), .int .i64 (0)] ?hr B F3 L3 rfl (Nat.le_of_ble_eq_true rfl) ?_; (case ho => rfl); (case hg => rfl); (case hn => rfl); (case hr => first | (go_simp; done) | (go_simp; rfl)); intro w1404 hk B G; replace F2 := bk F2 hk N2_3.out; replace F3 := G; clear c3_0 c3_1 c3_2 c3_3; obtain ⟨c3_0, c3_1, c3_2, c3_3⟩ := cs4 F3; ((try clear q0); (try clear q1); (try clear q2); (try clear q3); have q0 := strat0 HR0 B (by omega); have q1 := strat HR0 B 1 (by decide) (by omega)); clear hk y0 z0 y1 z1 y2 z2 y3 z3)
                  | ((with_reducible refine gate_store (t := 28) (p := 2) rfl ?_); obtain ⟨y0, y1, y2, y3⟩ := cs4 F2; have z0 := fz F2 0; have z1 := fz F2 1; have z2 := fz F2 2; have z3 := fz F2 3; refine sx (t := 28) (t' := 28) (p := 2) (v := ?vo1405) ?hg ?ho ?hn 0 [.int .i64 (5), .string (elB W 1), .int .i64 (0), .int .i64 (0)] [.int .i64 (5), .string (elB W 1), .int .i64 (0), .int .i64 (0)] ?hr B F2 L2 rfl (Nat.le_of_ble_eq_true rfl) ?_; (case ho => rfl); (case hg => rfl); (case hn => rfl); (case hr => first | (go_simp; done) | (go_simp; rfl)); intro w1405 hk B G; replace F3 := bk F3 hk N2_3.out.symm; replace F2 := G; clear hk y0 z0 y1 z1 y2 z2 y3 z3))
                refine bodyPost_ret (results_single rfl (.cell g2 28 _ (0, 0) _ rfl F2.out hu rfl (by kernel_rfl) .nil)) rfl ?_
                subst hM
                exact ⟨rfl, B.out⟩
              · skip
                have d1 : decide (1 < (W.length : Int)) = true := decide_eq_true (by omega)
                have l2 : decide ((W.length : Int) ≤ 2) = false := decide_eq_false (by omega)
                have hM : r = (0, elB W 1, 0, 0) := by rw [← hr]; unfold cOf keyOf; rw [if_neg h0, if_neg h1, if_neg h2, if_neg h3, if_pos h4, if_neg (by omega), if_pos (by omega)]
                clear hr h0 h1 h2 h3 h4
                have q0 := strat0 HR0 B (by omega)
                have q1 := strat HR0 B 1 (by decide) (by omega)
                go_enter Tryd.func36, Tryd.ntmps36
                go_wp2_with (first
                  | ((with_reducible refine gate_dst (N := 2) rfl ?_); refine bx ?hg (N := 2) ?hd (cs := #[.int .i64 (0), .string (⟨#[]⟩ : ByteArray), .int .i64 (0), .int .i64 (0)]) (t := 28) ?hr B ?_; (case hd => rfl); (case hg => rfl); (case hr => first | (go_simp; done) | (go_simp; rfl)); intro g2 w1501 hb B F2 L2 E2; ((try clear q0); (try clear q1); (try clear q2); (try clear q3); have q0 := strat0 HR0 B (by omega); have q1 := strat HR0 B 1 (by decide) (by omega)); clear hb E2)
                  | ((with_reducible refine gate_dst (N := 3) rfl ?_); refine bx ?hg (N := 3) ?hd (cs := #[.int .i64 (0), .string (⟨#[]⟩ : ByteArray), .int .i64 (0), .int .i64 (0)]) (t := 28) ?hr B ?_; (case hd => rfl); (case hg => rfl); (case hr => first | (go_simp; done) | (go_simp; rfl)); intro g3 w1502 hb B F3 L3 E3; have N2_3 := ne1 E3 F2; replace F2 := bn F2 hb; obtain ⟨c3_0, c3_1, c3_2, c3_3⟩ := cs4 F3; ((try clear q0); (try clear q1); (try clear q2); (try clear q3); have q0 := strat0 HR0 B (by omega); have q1 := strat HR0 B 1 (by decide) (by omega)); clear hb E3)
                  | ((with_reducible refine gate_store (t := 9) (p := 10) rfl ?_); obtain ⟨y0, y1, y2, y3⟩ := cs4 F3; have z0 := fz F3 0; have z1 := fz F3 1; have z2 := fz F3 2; have z3 := fz F3 3; refine sx (t := 28) (t' := 9) (p := 10) (v := ?vo1503) ?hg ?ho ?hn 1 [.string (elB W 1)] [.int .i64 (0), .string (elB W 1), .int .i64 (0), .int .i64 (0)] ?hr B F3 L3 rfl (Nat.le_of_ble_eq_true rfl) ?_; (case ho => rfl); (case hg => rfl); (case hn => rfl); (case hr => first | (go_simp; done) | (go_simp; rfl)); intro w1503 hk B G; replace F2 := bk F2 hk N2_3.out; replace F3 := G; clear c3_0 c3_1 c3_2 c3_3; obtain ⟨c3_0, c3_1, c3_2, c3_3⟩ := cs4 F3; ((try clear q0); (try clear q1); (try clear q2); (try clear q3); have q0 := strat0 HR0 B (by omega); have q1 := strat HR0 B 1 (by decide) (by omega)); clear hk y0 z0 y1 z1 y2 z2 y3 z3)
                  | ((with_reducible refine gate_store (t := 28) (p := 2) rfl ?_); obtain ⟨y0, y1, y2, y3⟩ := cs4 F2; have z0 := fz F2 0; have z1 := fz F2 1; have z2 := fz F2 2; have z3 := fz F2 3; refine sx (t := 28) (t' := 28) (p := 2) (v := ?vo1504) ?hg ?ho ?hn 0 [.int .i64 (0), .string (elB W 1), .int .i64 (0), .int .i64 (0)] [.int .i64 (0), .string (elB W 1), .int .i64 (0), .int .i64 (0)] ?hr B F2 L2 rfl (Nat.le_of_ble_eq_true rfl) ?_; (case ho => rfl); (case hg => rfl); (case hn => rfl); (case hr => first | (go_simp; done) | (go_simp; rfl)); intro w1504 hk B G; replace F3 := bk F3 hk N2_3.out.symm; replace F2 := G; clear hk y0 z0 y1 z1 y2 z2 y3 z3))
                refine bodyPost_ret (results_single rfl (.cell g2 28 _ (0, 0) _ rfl F2.out hu rfl (by kernel_rfl) .nil)) rfl ?_
                subst hM
                exact ⟨rfl, B.out⟩
          · skip
            have b0 : ((elB W 0).toList == [103, 101, 116]) = false := by rw [show ([103, 101, 116] : List UInt8) = w_get.toList by rw [ba_toList]; rfl, str_beq, decide_eq_false h0]
            have b1 : ((elB W 0).toList == [112, 117, 116]) = false := by rw [show ([112, 117, 116] : List UInt8) = w_put.toList by rw [ba_toList]; rfl, str_beq, decide_eq_false h1]
            have b2 : ((elB W 0).toList == [100, 114, 111, 112]) = false := by rw [show ([100, 114, 111, 112] : List UInt8) = w_drop.toList by rw [ba_toList]; rfl, str_beq, decide_eq_false h2]
            have b3 : ((elB W 0).toList == [115, 119, 97, 112]) = false := by rw [show ([115, 119, 97, 112] : List UInt8) = w_swap.toList by rw [ba_toList]; rfl, str_beq, decide_eq_false h3]
            have b4 : ((elB W 0).toList == [115, 101, 97, 108]) = false := by rw [show ([115, 101, 97, 108] : List UInt8) = w_seal.toList by rw [ba_toList]; rfl, str_beq, decide_eq_false h4]
            by_cases hn1 : W.length = 1
            · skip
              have d1 : decide (1 < (W.length : Int)) = false := decide_eq_false (by omega)
              have hM : r = (0, (⟨#[]⟩ : ByteArray), 0, 0) := by rw [← hr]; unfold cOf keyOf; rw [if_neg h0, if_neg h1, if_neg h2, if_neg h3, if_neg h4, if_neg (by omega)]
              clear hr h0 h1 h2 h3 h4
              have q0 := strat0 HR0 B (by omega)
              go_enter Tryd.func36, Tryd.ntmps36
              go_wp2_with (first
                | ((with_reducible refine gate_dst (N := 2) rfl ?_); refine bx ?hg (N := 2) ?hd (cs := #[.int .i64 (0), .string (⟨#[]⟩ : ByteArray), .int .i64 (0), .int .i64 (0)]) (t := 28) ?hr B ?_; (case hd => rfl); (case hg => rfl); (case hr => first | (go_simp; done) | (go_simp; rfl)); intro g2 w1601 hb B F2 L2 E2; ((try clear q0); (try clear q1); (try clear q2); (try clear q3); have q0 := strat0 HR0 B (by omega)); clear hb E2)
                | ((with_reducible refine gate_dst (N := 3) rfl ?_); refine bx ?hg (N := 3) ?hd (cs := #[.int .i64 (0), .string (⟨#[]⟩ : ByteArray), .int .i64 (0), .int .i64 (0)]) (t := 28) ?hr B ?_; (case hd => rfl); (case hg => rfl); (case hr => first | (go_simp; done) | (go_simp; rfl)); intro g3 w1602 hb B F3 L3 E3; have N2_3 := ne1 E3 F2; replace F2 := bn F2 hb; obtain ⟨c3_0, c3_1, c3_2, c3_3⟩ := cs4 F3; ((try clear q0); (try clear q1); (try clear q2); (try clear q3); have q0 := strat0 HR0 B (by omega)); clear hb E3)
                | ((with_reducible refine gate_store (t := 28) (p := 2) rfl ?_); obtain ⟨y0, y1, y2, y3⟩ := cs4 F2; have z0 := fz F2 0; have z1 := fz F2 1; have z2 := fz F2 2; have z3 := fz F2 3; refine sx (t := 28) (t' := 28) (p := 2) (v := ?vo1603) ?hg ?ho ?hn 0 [.int .i64 (0), .string (⟨#[]⟩ : ByteArray), .int .i64 (0), .int .i64 (0)] [.int .i64 (0), .string (⟨#[]⟩ : ByteArray), .int .i64 (0), .int .i64 (0)] ?hr B F2 L2 rfl (Nat.le_of_ble_eq_true rfl) ?_; (case ho => rfl); (case hg => rfl); (case hn => rfl); (case hr => first | (go_simp; done) | (go_simp; rfl)); intro w1603 hk B G; replace F3 := bk F3 hk N2_3.out.symm; replace F2 := G; clear hk y0 z0 y1 z1 y2 z2 y3 z3))
              refine bodyPost_ret (results_single rfl (.cell g2 28 _ (0, 0) _ rfl F2.out hu rfl (by kernel_rfl) .nil)) rfl ?_
              subst hM
              exact ⟨rfl, B.out⟩
            · skip
              have d1 : decide (1 < (W.length : Int)) = true := decide_eq_true (by omega)
              have hM : r = (0, elB W 1, 0, 0) := by rw [← hr]; unfold cOf keyOf; rw [if_neg h0, if_neg h1, if_neg h2, if_neg h3, if_neg h4, if_pos (by omega)]
              clear hr h0 h1 h2 h3 h4
              have q0 := strat0 HR0 B (by omega)
              have q1 := strat HR0 B 1 (by decide) (by omega)
              go_enter Tryd.func36, Tryd.ntmps36
              go_wp2_with (first
                | ((with_reducible refine gate_dst (N := 2) rfl ?_); refine bx ?hg (N := 2) ?hd (cs := #[.int .i64 (0), .string (⟨#[]⟩ : ByteArray), .int .i64 (0), .int .i64 (0)]) (t := 28) ?hr B ?_; (case hd => rfl); (case hg => rfl); (case hr => first | (go_simp; done) | (go_simp; rfl)); intro g2 w1701 hb B F2 L2 E2; ((try clear q0); (try clear q1); (try clear q2); (try clear q3); have q0 := strat0 HR0 B (by omega); have q1 := strat HR0 B 1 (by decide) (by omega)); clear hb E2)
                | ((with_reducible refine gate_dst (N := 3) rfl ?_); refine bx ?hg (N := 3) ?hd (cs := #[.int .i64 (0), .string (⟨#[]⟩ : ByteArray), .int .i64 (0), .int .i64 (0)]) (t := 28) ?hr B ?_; (case hd => rfl); (case hg => rfl); (case hr => first | (go_simp; done) | (go_simp; rfl)); intro g3 w1702 hb B F3 L3 E3; have N2_3 := ne1 E3 F2; replace F2 := bn F2 hb; obtain ⟨c3_0, c3_1, c3_2, c3_3⟩ := cs4 F3; ((try clear q0); (try clear q1); (try clear q2); (try clear q3); have q0 := strat0 HR0 B (by omega); have q1 := strat HR0 B 1 (by decide) (by omega)); clear hb E3)
                | ((with_reducible refine gate_store (t := 9) (p := 10) rfl ?_); obtain ⟨y0, y1, y2, y3⟩ := cs4 F3; have z0 := fz F3 0; have z1 := fz F3 1; have z2 := fz F3 2; have z3 := fz F3 3; refine sx (t := 28) (t' := 9) (p := 10) (v := ?vo1703) ?hg ?ho ?hn 1 [.string (elB W 1)] [.int .i64 (0), .string (elB W 1), .int .i64 (0), .int .i64 (0)] ?hr B F3 L3 rfl (Nat.le_of_ble_eq_true rfl) ?_; (case ho => rfl); (case hg => rfl); (case hn => rfl); (case hr => first | (go_simp; done) | (go_simp; rfl)); intro w1703 hk B G; replace F2 := bk F2 hk N2_3.out; replace F3 := G; clear c3_0 c3_1 c3_2 c3_3; obtain ⟨c3_0, c3_1, c3_2, c3_3⟩ := cs4 F3; ((try clear q0); (try clear q1); (try clear q2); (try clear q3); have q0 := strat0 HR0 B (by omega); have q1 := strat HR0 B 1 (by decide) (by omega)); clear hk y0 z0 y1 z1 y2 z2 y3 z3)
                | ((with_reducible refine gate_store (t := 28) (p := 2) rfl ?_); obtain ⟨y0, y1, y2, y3⟩ := cs4 F2; have z0 := fz F2 0; have z1 := fz F2 1; have z2 := fz F2 2; have z3 := fz F2 3; refine sx (t := 28) (t' := 28) (p := 2) (v := ?vo1704) ?hg ?ho ?hn 0 [.int .i64 (0), .string (elB W 1), .int .i64 (0), .int .i64 (0)] [.int .i64 (0), .string (elB W 1), .int .i64 (0), .int .i64 (0)] ?hr B F2 L2 rfl (Nat.le_of_ble_eq_true rfl) ?_; (case ho => rfl); (case hg => rfl); (case hn => rfl); (case hr => first | (go_simp; done) | (go_simp; rfl)); intro w1704 hk B G; replace F3 := bk F3 hk N2_3.out.symm; replace F2 := G; clear hk y0 z0 y1 z1 y2 z2 y3 z3))
              refine bodyPost_ret (results_single rfl (.cell g2 28 _ (0, 0) _ rfl F2.out hu rfl (by kernel_rfl) .nil)) rfl ?_
              subst hM
              exact ⟨rfl, B.out⟩

theorem impl_CommandValid.M (k : Int) (x : ByteArray) (v o : Int) (w : World) : Calls Tryd.prog 26 #[.agg #[.int .i64 k, .string x, .int .i64 v, .int .i64 o]] w fun e w' => e = .returned (.bool (cmdB k x v o)) ∧ Below w.heap.size w w' := by
  have B := Aside0.mk (Below.refl w.heap.size w)
  have hu := Tryd.underlying28
  go_enter Tryd.func26, Tryd.ntmps26
  go_wp2_with (first
    | ((with_reducible refine gate_dst (N := 1) rfl ?_); refine bx ?hg (N := 1) ?hd (cs := #[.int .i64 (k), .string x, .int .i64 (v), .int .i64 (o)]) (t := 28) ?hr B ?_; (case hd => rfl); (case hg => rfl); (case hr => first | (go_simp; done) | (go_simp; rfl)); intro g1 w1 hb B F1 L1 E1; obtain ⟨c1_0, c1_1, c1_2, c1_3⟩ := cs4 F1; clear hb E1)
    | (go_at_call 43; with_reducible refine cl (impl_KeyValid.M x _) B fun w2 hb B => ?_; replace F1 := bn F1 hb; clear c1_0 c1_1 c1_2 c1_3; obtain ⟨c1_0, c1_1, c1_2, c1_3⟩ := cs4 F1; clear hb)
    | (go_at_call 30; with_reducible refine cl (impl_valueValid.M v _) B fun w3 hb B => ?_; replace F1 := bn F1 hb; clear c1_0 c1_1 c1_2 c1_3; obtain ⟨c1_0, c1_1, c1_2, c1_3⟩ := cs4 F1; clear hb)
    | (go_at_call 30; with_reducible refine cl (impl_valueValid.M v _) B fun w4 hb B => ?_; replace F1 := bn F1 hb; clear c1_0 c1_1 c1_2 c1_3; obtain ⟨c1_0, c1_1, c1_2, c1_3⟩ := cs4 F1; clear hb)
    | (go_at_call 30; with_reducible refine cl (impl_valueValid.M o _) B fun w5 hb B => ?_; replace F1 := bn F1 hb; clear c1_0 c1_1 c1_2 c1_3; obtain ⟨c1_0, c1_1, c1_2, c1_3⟩ := cs4 F1; clear hb))
  all_goals (go_ret; exact ⟨congrArg (fun b => Ending.returned (Value.bool b)) (by unfold cmdB; grind [l1B]), B.out⟩)

theorem spec_CommandValid.M (k : Int) (x : ByteArray) (v o : Int) (w : World) : Calls Tryd.prog 32 #[.agg #[.int .i64 k, .string x, .int .i64 v, .int .i64 o]] w fun e w' => e = .returned (.bool (cmdB k x v o)) ∧ Below w.heap.size w w' := by
  have B := Aside0.mk (Below.refl w.heap.size w)
  have hu := Tryd.underlying28
  go_enter Tryd.func32, Tryd.ntmps32
  go_wp2_with (first
    | ((with_reducible refine gate_dst (N := 1) rfl ?_); refine bx ?hg (N := 1) ?hd (cs := #[.int .i64 (k), .string x, .int .i64 (v), .int .i64 (o)]) (t := 28) ?hr B ?_; (case hd => rfl); (case hg => rfl); (case hr => first | (go_simp; done) | (go_simp; rfl)); intro g1 w1 hb B F1 L1 E1; obtain ⟨c1_0, c1_1, c1_2, c1_3⟩ := cs4 F1; clear hb E1)
    | (go_at_call 45; with_reducible refine cl (spec_KeyValid.M x _) B fun w2 hb B => ?_; replace F1 := bn F1 hb; clear c1_0 c1_1 c1_2 c1_3; obtain ⟨c1_0, c1_1, c1_2, c1_3⟩ := cs4 F1; clear hb)
    | (go_at_call 28; with_reducible refine cl (spec_l1In.M v 0 999 _) B fun w3 hb B => ?_; replace F1 := bn F1 hb; clear c1_0 c1_1 c1_2 c1_3; obtain ⟨c1_0, c1_1, c1_2, c1_3⟩ := cs4 F1; clear hb)
    | (go_at_call 28; with_reducible refine cl (spec_l1In.M v 0 999 _) B fun w4 hb B => ?_; replace F1 := bn F1 hb; clear c1_0 c1_1 c1_2 c1_3; obtain ⟨c1_0, c1_1, c1_2, c1_3⟩ := cs4 F1; clear hb)
    | (go_at_call 28; with_reducible refine cl (spec_l1In.M o (-1) 999 _) B fun w5 hb B => ?_; replace F1 := bn F1 hb; clear hb))
  all_goals (go_ret; exact ⟨congrArg (fun b => Ending.returned (Value.bool b)) (by unfold cmdB; grind [l1B]), B.out⟩)

def spec_CommandText.T7 : Bool × List (List Nat × List Nat) := (true, [([], []), ([0], [0]), ([1], [1]), ([2], [2]), ([], []), ([4], [4]), ([5], [5]), ([3, 6], [3, 6]), ([7, 6, 0, 1, 2, 3, 4, 5, 6, 7], [7])])
def spec_CommandText.B7 : List Nat := [0, 1, 3, 7, 0, 16, 48, 127, 255]
theorem spec_CommandText.tab7 : rtab .any (opsOf Tryd.f14 7) = spec_CommandText.T7 := by kernel_rfl
theorem spec_CommandText.bits7 : waitsOk spec_CommandText.T7.2 spec_CommandText.B7 = true := by kernel_rfl
def spec_CommandText.T11 : Bool × List (List Nat × List Nat) := (true, [([], []), ([0], [0]), ([1], [1]), ([2], [2]), ([], []), ([4], [4]), ([5], [5]), ([3, 6], [3, 6]), ([7], [7]), ([], []), ([9], [9]), ([10, 6], [10]), ([8, 11], [8, 11]), ([12, 11, 0, 1, 2, 3, 4, 5, 6, 7, 8, 9, 10, 11, 12], [12])])
def spec_CommandText.B11 : List Nat := [0, 1, 3, 7, 0, 16, 48, 127, 255, 0, 512, 1648, 4095, 8191]
theorem spec_CommandText.tab11 : rtab .any (opsOf Tryd.f14 11) = spec_CommandText.T11 := by kernel_rfl
theorem spec_CommandText.bits11 : waitsOk spec_CommandText.T11.2 spec_CommandText.B11 = true := by kernel_rfl
theorem spec_CommandText.M (k : Int) (x : ByteArray) (v o : Int) (w : World) : Calls Tryd.prog 14 #[.agg #[.int .i64 k, .string x, .int .i64 v, .int .i64 o]] w fun e w' => e = .returned (.string (cmtM k x v o)) ∧ Below w.heap.size w w' := by
  have B := Aside0.mk (Below.refl w.heap.size w)
  have hu := Tryd.underlying28
  obtain ⟨r, hr⟩ : ∃ r, cmtM k x v o = r := ⟨_, rfl⟩
  rw [hr]
  by_cases hv : cmdB k x v o = true
  · obtain ⟨hx, hk, hvv, hoo⟩ := cmd_cases hv
    have h3v := txtM_size v
    have h3o := txtM_size o
    unfold cmtM at hr
    rw [if_pos hv] at hr
    rcases hk with rfl | rfl | rfl | rfl | rfl
    · (try subst hr)
      go_enter Tryd.func14, Tryd.ntmps14
      go_wp2_with (first
        | ((with_reducible refine gate_dst (N := 1) rfl ?_); refine bx ?hg (N := 1) ?hd (cs := #[.int .i64 (1), .string x, .int .i64 (v), .int .i64 (o)]) (t := 28) ?hr B ?_; (case hd => rfl); (case hg => rfl); (case hr => first | (go_simp; done) | (go_simp; rfl)); intro g1 w1 hb B F1 L1 E1; obtain ⟨c1_0, c1_1, c1_2, c1_3⟩ := cs4 F1; clear hb E1)
        | (go_at_call 32; with_reducible refine cl (spec_CommandValid.M 1 x v o _) B fun w2 hb B => ?_; replace F1 := bn F1 hb; clear c1_0 c1_1 c1_2 c1_3; obtain ⟨c1_0, c1_1, c1_2, c1_3⟩ := cs4 F1; clear hb))
      all_goals go_ret
      all_goals ((try subst hr); exact ⟨rfl, B.out⟩)
    · (try subst hr)
      go_enter Tryd.func14, Tryd.ntmps14
      go_wp2_with (first
        | ((with_reducible refine gate_dst (N := 1) rfl ?_); refine bx ?hg (N := 1) ?hd (cs := #[.int .i64 (2), .string x, .int .i64 (v), .int .i64 (o)]) (t := 28) ?hr B ?_; (case hd => rfl); (case hg => rfl); (case hr => first | (go_simp; done) | (go_simp; rfl)); intro g1 w1 hb B F1 L1 E1; obtain ⟨c1_0, c1_1, c1_2, c1_3⟩ := cs4 F1; clear hb E1)
        | (go_at_call 32; with_reducible refine cl (spec_CommandValid.M 2 x v o _) B fun w2 hb B => ?_; replace F1 := bn F1 hb; clear c1_0 c1_1 c1_2 c1_3; obtain ⟨c1_0, c1_1, c1_2, c1_3⟩ := cs4 F1; clear hb))
      all_goals (
        refine rg (n := 9) (S := fun W => W.heap[g1]? = some (.cells #[.int .i64 (2), .string x, .int .i64 (v), .int .i64 (o)] 28 (0, 0))) (ds := []) #[false, false, false, false, false, false, false, false, false] (by kernel_rfl) rfl rfl F1.out id B (fun w3 hb B hHeld => ?_)
        refine with_tabW spec_CommandText.tab7 spec_CommandText.bits7 (fun HT_ HW_ => ?_)
        replace F1 := bn F1 hb
        clear hb
        refine pu (i := 0) (N := some 15) (v := ?_) (bits 9 1) rfl rfl (any_of HT_.out (by kernel_rfl)) (fun _ _ _ h => h) (by kernel_rfl) ?_ ?_; rotate_left; (intro w'; go_simp; with_reducible rfl)
        refine ta (i := 1) (N := some 16) (v := ?_) (bits 9 3) rfl rfl (take_ofW HT_.out HW_.out (by kernel_rfl)) (fun _ _ _ h => h) (by kernel_rfl) hHeld ?_ ?_; rotate_left; (intro w' hS; have s0 := hS; obtain ⟨q0, q1, q2, q3⟩ := cs4 (Aside0.mk s0); go_simp; with_reducible rfl)
        refine pu (i := 2) (N := some 17) (v := .string ((⟨#[112, 117, 116, 32]⟩ : ByteArray) ++ x)) (bits 9 7) rfl rfl (any_of HT_.out (by kernel_rfl)) (fun _ _ _ h => h) (by kernel_rfl) ?_ ?_; (intro w'; go_simp; first | omega | rfl | (simp only [ByteArray.size_append] at *; omega))
        refine pu (i := 3) (N := some 18) (v := .string (((⟨#[112, 117, 116, 32]⟩ : ByteArray) ++ x) ++ (⟨#[32]⟩ : ByteArray))) (bits 9 15) rfl rfl (any_of HT_.out (by kernel_rfl)) (fun _ _ _ h => h) (by kernel_rfl) ?_ ?_; (intro w'; go_simp; first | omega | rfl | (simp only [ByteArray.size_append] at *; omega))
        refine pu (i := 4) (N := some 19) (v := ?_) (bits 9 31) rfl rfl (any_of HT_.out (by kernel_rfl)) (fun _ _ _ h => h) (by kernel_rfl) ?_ ?_; rotate_left; (intro w'; go_simp; with_reducible rfl)
        refine ta (i := 5) (N := some 20) (v := ?_) (bits 9 63) rfl rfl (take_ofW HT_.out HW_.out (by kernel_rfl)) (fun _ _ _ h => h) (by kernel_rfl) hHeld ?_ ?_; rotate_left; (intro w' hS; have s0 := hS; obtain ⟨q0, q1, q2, q3⟩ := cs4 (Aside0.mk s0); go_simp; with_reducible rfl)
        refine norm_ (a' := ?_) ?_ ?_
        rotate_left
        · simp only [Act.put, List.setIfInBounds_toArray, List.set_cons_zero, List.set_cons_succ, i64_w, i32_w]
          rfl
        refine one_ (i := 6) (N := some 21) (bits 9 127) rfl rfl (one_of HT_.out (by kernel_rfl)) (by decide) (fun K hK => ?_)
        refine goes_ Tryd.func29 (by kernel_rfl) rfl #[.int .i64 (v)] (by rfl) rfl rfl (by (try simp only [List.map_toArray, List.map_cons, List.map_nil]); rfl) ?_
        with_reducible refine cl (spec_l7Text.M v _ (by omega)) B fun w4 hb B => ?_
        replace F1 := bn F1 hb
        clear hb
        refine ⟨_, rfl, ?_⟩
        refine hK.out _ _ F1.out (fun hHeld => ?_)
        clear hK K
        refine norm_ (a' := ?_) ?_ ?_
        rotate_left
        · show Act.put _ (some 21) _ = _
          simp only [Act.put, List.setIfInBounds_toArray, List.set_cons_zero, List.set_cons_succ, i64_w, i32_w]
          rfl
        refine pu (i := 7) (N := some 22) (v := .string ((((⟨#[112, 117, 116, 32]⟩ : ByteArray) ++ x) ++ (⟨#[32]⟩ : ByteArray)) ++ txtM v)) (bits 9 255) rfl rfl (any_of HT_.out (by kernel_rfl)) (fun _ _ _ h => h) (by kernel_rfl) ?_ ?_; (intro w'; go_simp; first | omega | rfl | (simp only [ByteArray.size_append] at *; omega))
        refine pu (i := 8) (N := some 2) (v := ?_) (bits 9 511) rfl rfl (any_of HT_.out (by kernel_rfl)) (fun _ _ _ h => h) (by kernel_rfl) ?_ ?_; rotate_left; (intro w'; go_simp; with_reducible rfl)
        refine norm_ (a' := ?_) ?_ ?_
        rotate_left
        · simp only [Act.put, List.setIfInBounds_toArray, List.set_cons_zero, List.set_cons_succ, i64_w, i32_w]
          rfl
        refine done_ (done_of HT_.out (by kernel_rfl)) ?_)
      all_goals try go_wp2
      all_goals go_ret
      all_goals ((try subst hr); exact ⟨rfl, B.out⟩)
    · (try subst hr)
      go_enter Tryd.func14, Tryd.ntmps14
      go_wp2_with (first
        | ((with_reducible refine gate_dst (N := 1) rfl ?_); refine bx ?hg (N := 1) ?hd (cs := #[.int .i64 (3), .string x, .int .i64 (v), .int .i64 (o)]) (t := 28) ?hr B ?_; (case hd => rfl); (case hg => rfl); (case hr => first | (go_simp; done) | (go_simp; rfl)); intro g1 w1 hb B F1 L1 E1; obtain ⟨c1_0, c1_1, c1_2, c1_3⟩ := cs4 F1; clear hb E1)
        | (go_at_call 32; with_reducible refine cl (spec_CommandValid.M 3 x v o _) B fun w2 hb B => ?_; replace F1 := bn F1 hb; clear c1_0 c1_1 c1_2 c1_3; obtain ⟨c1_0, c1_1, c1_2, c1_3⟩ := cs4 F1; clear hb))
      all_goals go_ret
      all_goals ((try subst hr); exact ⟨rfl, B.out⟩)
    · (try subst hr)
      go_enter Tryd.func14, Tryd.ntmps14
      go_wp2_with (first
        | ((with_reducible refine gate_dst (N := 1) rfl ?_); refine bx ?hg (N := 1) ?hd (cs := #[.int .i64 (4), .string x, .int .i64 (v), .int .i64 (o)]) (t := 28) ?hr B ?_; (case hd => rfl); (case hg => rfl); (case hr => first | (go_simp; done) | (go_simp; rfl)); intro g1 w1 hb B F1 L1 E1; obtain ⟨c1_0, c1_1, c1_2, c1_3⟩ := cs4 F1; clear hb E1)
        | (go_at_call 32; with_reducible refine cl (spec_CommandValid.M 4 x v o _) B fun w2 hb B => ?_; replace F1 := bn F1 hb; clear c1_0 c1_1 c1_2 c1_3; obtain ⟨c1_0, c1_1, c1_2, c1_3⟩ := cs4 F1; clear hb))
      all_goals (
        refine rg (n := 14) (S := fun W => W.heap[g1]? = some (.cells #[.int .i64 (4), .string x, .int .i64 (v), .int .i64 (o)] 28 (0, 0))) (ds := []) #[false, false, false, false, false, false, false, false, false, false, false, false, false, false] (by kernel_rfl) rfl rfl F1.out id B (fun w3 hb B hHeld => ?_)
        refine with_tabW spec_CommandText.tab11 spec_CommandText.bits11 (fun HT_ HW_ => ?_)
        replace F1 := bn F1 hb
        clear hb
        refine pu (i := 0) (N := some 30) (v := ?_) (bits 14 1) rfl rfl (any_of HT_.out (by kernel_rfl)) (fun _ _ _ h => h) (by kernel_rfl) ?_ ?_; rotate_left; (intro w'; go_simp; with_reducible rfl)
        refine ta (i := 1) (N := some 31) (v := ?_) (bits 14 3) rfl rfl (take_ofW HT_.out HW_.out (by kernel_rfl)) (fun _ _ _ h => h) (by kernel_rfl) hHeld ?_ ?_; rotate_left; (intro w' hS; have s0 := hS; obtain ⟨q0, q1, q2, q3⟩ := cs4 (Aside0.mk s0); go_simp; with_reducible rfl)
        refine pu (i := 2) (N := some 32) (v := .string ((⟨#[115, 119, 97, 112, 32]⟩ : ByteArray) ++ x)) (bits 14 7) rfl rfl (any_of HT_.out (by kernel_rfl)) (fun _ _ _ h => h) (by kernel_rfl) ?_ ?_; (intro w'; go_simp; first | omega | rfl | (simp only [ByteArray.size_append] at *; omega))
        refine pu (i := 3) (N := some 33) (v := .string (((⟨#[115, 119, 97, 112, 32]⟩ : ByteArray) ++ x) ++ (⟨#[32]⟩ : ByteArray))) (bits 14 15) rfl rfl (any_of HT_.out (by kernel_rfl)) (fun _ _ _ h => h) (by kernel_rfl) ?_ ?_; (intro w'; go_simp; first | omega | rfl | (simp only [ByteArray.size_append] at *; omega))
        refine pu (i := 4) (N := some 34) (v := ?_) (bits 14 31) rfl rfl (any_of HT_.out (by kernel_rfl)) (fun _ _ _ h => h) (by kernel_rfl) ?_ ?_; rotate_left; (intro w'; go_simp; with_reducible rfl)
        refine ta (i := 5) (N := some 35) (v := ?_) (bits 14 63) rfl rfl (take_ofW HT_.out HW_.out (by kernel_rfl)) (fun _ _ _ h => h) (by kernel_rfl) hHeld ?_ ?_; rotate_left; (intro w' hS; have s0 := hS; obtain ⟨q0, q1, q2, q3⟩ := cs4 (Aside0.mk s0); go_simp; with_reducible rfl)
        refine pu (i := 9) (N := some 39) (v := ?_) (bits 14 575) rfl rfl (any_of HT_.out (by kernel_rfl)) (fun _ _ _ h => h) (by kernel_rfl) ?_ ?_; rotate_left; (intro w'; go_simp; with_reducible rfl)
        refine ta (i := 10) (N := some 40) (v := ?_) (bits 14 1599) rfl rfl (take_ofW HT_.out HW_.out (by kernel_rfl)) (fun _ _ _ h => h) (by kernel_rfl) hHeld ?_ ?_; rotate_left; (intro w' hS; have s0 := hS; obtain ⟨q0, q1, q2, q3⟩ := cs4 (Aside0.mk s0); go_simp; with_reducible rfl)
        refine norm_ (a' := ?_) ?_ ?_
        rotate_left
        · simp only [Act.put, List.setIfInBounds_toArray, List.set_cons_zero, List.set_cons_succ, i64_w, i32_w]
          rfl
        refine one_ (i := 6) (N := some 36) (bits 14 1663) rfl rfl (one_of HT_.out (by kernel_rfl)) (by decide) (fun K hK => ?_)
        refine goes_ Tryd.func29 (by kernel_rfl) rfl #[.int .i64 (o)] (by rfl) rfl rfl (by (try simp only [List.map_toArray, List.map_cons, List.map_nil]); rfl) ?_
        with_reducible refine cl (spec_l7Text.M o _ (by omega)) B fun w4 hb B => ?_
        replace F1 := bn F1 hb
        clear hb
        refine ⟨_, rfl, ?_⟩
        refine hK.out _ _ F1.out (fun hHeld => ?_)
        clear hK K
        refine norm_ (a' := ?_) ?_ ?_
        rotate_left
        · show Act.put _ (some 36) _ = _
          simp only [Act.put, List.setIfInBounds_toArray, List.set_cons_zero, List.set_cons_succ, i64_w, i32_w]
          rfl
        refine pu (i := 7) (N := some 37) (v := .string ((((⟨#[115, 119, 97, 112, 32]⟩ : ByteArray) ++ x) ++ (⟨#[32]⟩ : ByteArray)) ++ txtM o)) (bits 14 1791) rfl rfl (any_of HT_.out (by kernel_rfl)) (fun _ _ _ h => h) (by kernel_rfl) ?_ ?_; (intro w'; go_simp; first | omega | rfl | (simp only [ByteArray.size_append] at *; omega))
        refine pu (i := 8) (N := some 38) (v := .string (((((⟨#[115, 119, 97, 112, 32]⟩ : ByteArray) ++ x) ++ (⟨#[32]⟩ : ByteArray)) ++ txtM o) ++ (⟨#[32]⟩ : ByteArray))) (bits 14 2047) rfl rfl (any_of HT_.out (by kernel_rfl)) (fun _ _ _ h => h) (by kernel_rfl) ?_ ?_; (intro w'; go_simp; first | omega | rfl | (simp only [ByteArray.size_append] at *; omega))
        refine norm_ (a' := ?_) ?_ ?_
        rotate_left
        · simp only [Act.put, List.setIfInBounds_toArray, List.set_cons_zero, List.set_cons_succ, i64_w, i32_w]
          rfl
        refine one_ (i := 11) (N := some 41) (bits 14 4095) rfl rfl (one_of HT_.out (by kernel_rfl)) (by decide) (fun K hK => ?_)
        refine goes_ Tryd.func29 (by kernel_rfl) rfl #[.int .i64 (v)] (by rfl) rfl rfl (by (try simp only [List.map_toArray, List.map_cons, List.map_nil]); rfl) ?_
        with_reducible refine cl (spec_l7Text.M v _ (by omega)) B fun w5 hb B => ?_
        replace F1 := bn F1 hb
        clear hb
        refine ⟨_, rfl, ?_⟩
        refine hK.out _ _ F1.out (fun hHeld => ?_)
        clear hK K
        refine norm_ (a' := ?_) ?_ ?_
        rotate_left
        · show Act.put _ (some 41) _ = _
          simp only [Act.put, List.setIfInBounds_toArray, List.set_cons_zero, List.set_cons_succ, i64_w, i32_w]
          rfl
        refine pu (i := 12) (N := some 42) (v := .string ((((((⟨#[115, 119, 97, 112, 32]⟩ : ByteArray) ++ x) ++ (⟨#[32]⟩ : ByteArray)) ++ txtM o) ++ (⟨#[32]⟩ : ByteArray)) ++ txtM v)) (bits 14 8191) rfl rfl (any_of HT_.out (by kernel_rfl)) (fun _ _ _ h => h) (by kernel_rfl) ?_ ?_; (intro w'; go_simp; first | omega | rfl | (simp only [ByteArray.size_append] at *; omega))
        refine pu (i := 13) (N := some 2) (v := ?_) (bits 14 16383) rfl rfl (any_of HT_.out (by kernel_rfl)) (fun _ _ _ h => h) (by kernel_rfl) ?_ ?_; rotate_left; (intro w'; go_simp; with_reducible rfl)
        refine norm_ (a' := ?_) ?_ ?_
        rotate_left
        · simp only [Act.put, List.setIfInBounds_toArray, List.set_cons_zero, List.set_cons_succ, i64_w, i32_w]
          rfl
        refine done_ (done_of HT_.out (by kernel_rfl)) ?_)
      all_goals try go_wp2
      all_goals go_ret
      all_goals ((try subst hr); exact ⟨rfl, B.out⟩)
    · rw [if_neg (by decide), if_neg (by decide), if_neg (by decide), if_neg (by decide)] at hr
      go_enter Tryd.func14, Tryd.ntmps14
      go_wp2_with (first
        | ((with_reducible refine gate_dst (N := 1) rfl ?_); refine bx ?hg (N := 1) ?hd (cs := #[.int .i64 (5), .string x, .int .i64 (v), .int .i64 (o)]) (t := 28) ?hr B ?_; (case hd => rfl); (case hg => rfl); (case hr => first | (go_simp; done) | (go_simp; rfl)); intro g1 w1 hb B F1 L1 E1; obtain ⟨c1_0, c1_1, c1_2, c1_3⟩ := cs4 F1; clear hb E1)
        | (go_at_call 32; with_reducible refine cl (spec_CommandValid.M 5 x v o _) B fun w2 hb B => ?_; replace F1 := bn F1 hb; clear c1_0 c1_1 c1_2 c1_3; obtain ⟨c1_0, c1_1, c1_2, c1_3⟩ := cs4 F1; clear hb))
      all_goals go_ret
      all_goals ((refine ⟨?_, B.out⟩; rw [← hr]; first | (rw [if_pos (by simp_all)]; rfl) | (rw [if_neg (by simp_all)]; rfl)))
  · have hM : r = (⟨#[]⟩ : ByteArray) := by rw [← hr]; unfold cmtM; rw [if_neg hv]
    replace hv := Bool.eq_false_iff.mpr hv
    clear hr
    go_enter Tryd.func14, Tryd.ntmps14
    go_wp2_with (first
      | ((with_reducible refine gate_dst (N := 1) rfl ?_); refine bx ?hg (N := 1) ?hd (cs := #[.int .i64 (k), .string x, .int .i64 (v), .int .i64 (o)]) (t := 28) ?hr B ?_; (case hd => rfl); (case hg => rfl); (case hr => first | (go_simp; done) | (go_simp; rfl)); intro g1 w1 hb B F1 L1 E1; obtain ⟨c1_0, c1_1, c1_2, c1_3⟩ := cs4 F1; clear hb E1)
      | (go_at_call 32; with_reducible refine cl (spec_CommandValid.M k x v o _) B fun w2 hb B => ?_; replace F1 := bn F1 hb; clear hb))
    all_goals go_ret
    all_goals (subst hM; exact ⟨rfl, B.out⟩)
def impl_CommandText.T7 : Bool × List (List Nat × List Nat) := (true, [([], []), ([0], [0]), ([1], [1]), ([2], [2]), ([], []), ([4], [4]), ([5], [5]), ([3, 6], [3, 6]), ([7, 6, 0, 1, 2, 3, 4, 5, 6, 7], [7])])
def impl_CommandText.B7 : List Nat := [0, 1, 3, 7, 0, 16, 48, 127, 255]
theorem impl_CommandText.tab7 : rtab .any (opsOf Tryd.f16 7) = impl_CommandText.T7 := by kernel_rfl
theorem impl_CommandText.bits7 : waitsOk impl_CommandText.T7.2 impl_CommandText.B7 = true := by kernel_rfl
def impl_CommandText.T11 : Bool × List (List Nat × List Nat) := (true, [([], []), ([0], [0]), ([1], [1]), ([2], [2]), ([], []), ([4], [4]), ([5], [5]), ([3, 6], [3, 6]), ([7], [7]), ([], []), ([9], [9]), ([10, 6], [10]), ([8, 11], [8, 11]), ([12, 11, 0, 1, 2, 3, 4, 5, 6, 7, 8, 9, 10, 11, 12], [12])])
def impl_CommandText.B11 : List Nat := [0, 1, 3, 7, 0, 16, 48, 127, 255, 0, 512, 1648, 4095, 8191]
theorem impl_CommandText.tab11 : rtab .any (opsOf Tryd.f16 11) = impl_CommandText.T11 := by kernel_rfl
theorem impl_CommandText.bits11 : waitsOk impl_CommandText.T11.2 impl_CommandText.B11 = true := by kernel_rfl
theorem impl_CommandText.M (k : Int) (x : ByteArray) (v o : Int) (w : World) (ht : TT w) : Calls Tryd.prog 16 #[.agg #[.int .i64 k, .string x, .int .i64 v, .int .i64 o]] w fun e w' => e = .returned (.string (cmtM k x v o)) ∧ Below w.heap.size w w' := by
  have B := Aside0.mk (Below.refl w.heap.size w)
  have hu := Tryd.underlying28
  have HT := Aside0.mk ht
  clear ht
  obtain ⟨r, hr⟩ : ∃ r, cmtM k x v o = r := ⟨_, rfl⟩
  rw [hr]
  by_cases hv : cmdB k x v o = true
  · obtain ⟨hx, hk, hvv, hoo⟩ := cmd_cases hv
    have h3v := txtM_size v
    have h3o := txtM_size o
    unfold cmtM at hr
    rw [if_pos hv] at hr
    rcases hk with rfl | rfl | rfl | rfl | rfl
    · (try subst hr)
      go_enter Tryd.func16, Tryd.ntmps16
      go_wp2_with (first
        | ((with_reducible refine gate_dst (N := 1) rfl ?_); refine bx ?hg (N := 1) ?hd (cs := #[.int .i64 (1), .string x, .int .i64 (v), .int .i64 (o)]) (t := 28) ?hr B ?_; (case hd => rfl); (case hg => rfl); (case hr => first | (go_simp; done) | (go_simp; rfl)); intro g1 w1 hb B F1 L1 E1; obtain ⟨c1_0, c1_1, c1_2, c1_3⟩ := cs4 F1; clear hb E1)
        | (go_at_call 26; with_reducible refine cl (impl_CommandValid.M 1 x v o _) B fun w2 hb B => ?_; replace F1 := bn F1 hb; clear c1_0 c1_1 c1_2 c1_3; obtain ⟨c1_0, c1_1, c1_2, c1_3⟩ := cs4 F1; clear hb))
      all_goals go_ret
      all_goals ((try subst hr); exact ⟨rfl, B.out⟩)
    · (try subst hr)
      go_enter Tryd.func16, Tryd.ntmps16
      go_wp2_with (first
        | ((with_reducible refine gate_dst (N := 1) rfl ?_); refine bx ?hg (N := 1) ?hd (cs := #[.int .i64 (2), .string x, .int .i64 (v), .int .i64 (o)]) (t := 28) ?hr B ?_; (case hd => rfl); (case hg => rfl); (case hr => first | (go_simp; done) | (go_simp; rfl)); intro g1 w1 hb B F1 L1 E1; obtain ⟨c1_0, c1_1, c1_2, c1_3⟩ := cs4 F1; clear hb E1)
        | (go_at_call 26; with_reducible refine cl (impl_CommandValid.M 2 x v o _) B fun w2 hb B => ?_; replace F1 := bn F1 hb; clear c1_0 c1_1 c1_2 c1_3; obtain ⟨c1_0, c1_1, c1_2, c1_3⟩ := cs4 F1; clear hb))
      all_goals (
        refine rg (n := 9) (S := fun W => W.heap[g1]? = some (.cells #[.int .i64 (2), .string x, .int .i64 (v), .int .i64 (o)] 28 (0, 0))) (ds := []) #[false, false, false, false, false, false, false, false, false] (by kernel_rfl) rfl rfl F1.out id B (fun w3 hb B hHeld => ?_)
        refine with_tabW impl_CommandText.tab7 impl_CommandText.bits7 (fun HT_ HW_ => ?_)
        replace F1 := bn F1 hb
        clear hb
        refine pu (i := 0) (N := some 15) (v := ?_) (bits 9 1) rfl rfl (any_of HT_.out (by kernel_rfl)) (fun _ _ _ h => h) (by kernel_rfl) ?_ ?_; rotate_left; (intro w'; go_simp; with_reducible rfl)
        refine ta (i := 1) (N := some 16) (v := ?_) (bits 9 3) rfl rfl (take_ofW HT_.out HW_.out (by kernel_rfl)) (fun _ _ _ h => h) (by kernel_rfl) hHeld ?_ ?_; rotate_left; (intro w' hS; have s0 := hS; obtain ⟨q0, q1, q2, q3⟩ := cs4 (Aside0.mk s0); go_simp; with_reducible rfl)
        refine pu (i := 2) (N := some 17) (v := .string ((⟨#[112, 117, 116, 32]⟩ : ByteArray) ++ x)) (bits 9 7) rfl rfl (any_of HT_.out (by kernel_rfl)) (fun _ _ _ h => h) (by kernel_rfl) ?_ ?_; (intro w'; go_simp; first | omega | rfl | (simp only [ByteArray.size_append] at *; omega))
        refine pu (i := 3) (N := some 18) (v := .string (((⟨#[112, 117, 116, 32]⟩ : ByteArray) ++ x) ++ (⟨#[32]⟩ : ByteArray))) (bits 9 15) rfl rfl (any_of HT_.out (by kernel_rfl)) (fun _ _ _ h => h) (by kernel_rfl) ?_ ?_; (intro w'; go_simp; first | omega | rfl | (simp only [ByteArray.size_append] at *; omega))
        refine pu (i := 4) (N := some 19) (v := ?_) (bits 9 31) rfl rfl (any_of HT_.out (by kernel_rfl)) (fun _ _ _ h => h) (by kernel_rfl) ?_ ?_; rotate_left; (intro w'; go_simp; with_reducible rfl)
        refine ta (i := 5) (N := some 20) (v := ?_) (bits 9 63) rfl rfl (take_ofW HT_.out HW_.out (by kernel_rfl)) (fun _ _ _ h => h) (by kernel_rfl) hHeld ?_ ?_; rotate_left; (intro w' hS; have s0 := hS; obtain ⟨q0, q1, q2, q3⟩ := cs4 (Aside0.mk s0); go_simp; with_reducible rfl)
        refine norm_ (a' := ?_) ?_ ?_
        rotate_left
        · simp only [Act.put, List.setIfInBounds_toArray, List.set_cons_zero, List.set_cons_succ, i64_w, i32_w]
          rfl
        refine one_ (i := 6) (N := some 21) (bits 9 127) rfl rfl (one_of HT_.out (by kernel_rfl)) (by decide) (fun K hK => ?_)
        refine goes_ Tryd.func31 (by kernel_rfl) rfl #[.int .i64 (v)] (by rfl) rfl rfl (by (try simp only [List.map_toArray, List.map_cons, List.map_nil]); rfl) ?_
        with_reducible refine cl (strconv_Itoa.M v w _ HT B (by omega)) B fun w4 hb B => ?_
        replace F1 := bn F1 hb
        clear hb
        refine ⟨_, rfl, ?_⟩
        refine hK.out _ _ F1.out (fun hHeld => ?_)
        clear hK K
        refine norm_ (a' := ?_) ?_ ?_
        rotate_left
        · show Act.put _ (some 21) _ = _
          simp only [Act.put, List.setIfInBounds_toArray, List.set_cons_zero, List.set_cons_succ, i64_w, i32_w]
          rfl
        refine pu (i := 7) (N := some 22) (v := .string ((((⟨#[112, 117, 116, 32]⟩ : ByteArray) ++ x) ++ (⟨#[32]⟩ : ByteArray)) ++ txtM v)) (bits 9 255) rfl rfl (any_of HT_.out (by kernel_rfl)) (fun _ _ _ h => h) (by kernel_rfl) ?_ ?_; (intro w'; go_simp; first | omega | rfl | (simp only [ByteArray.size_append] at *; omega))
        refine pu (i := 8) (N := some 2) (v := ?_) (bits 9 511) rfl rfl (any_of HT_.out (by kernel_rfl)) (fun _ _ _ h => h) (by kernel_rfl) ?_ ?_; rotate_left; (intro w'; go_simp; with_reducible rfl)
        refine norm_ (a' := ?_) ?_ ?_
        rotate_left
        · simp only [Act.put, List.setIfInBounds_toArray, List.set_cons_zero, List.set_cons_succ, i64_w, i32_w]
          rfl
        refine done_ (done_of HT_.out (by kernel_rfl)) ?_)
      all_goals try go_wp2
      all_goals go_ret
      all_goals ((try subst hr); exact ⟨rfl, B.out⟩)
    · (try subst hr)
      go_enter Tryd.func16, Tryd.ntmps16
      go_wp2_with (first
        | ((with_reducible refine gate_dst (N := 1) rfl ?_); refine bx ?hg (N := 1) ?hd (cs := #[.int .i64 (3), .string x, .int .i64 (v), .int .i64 (o)]) (t := 28) ?hr B ?_; (case hd => rfl); (case hg => rfl); (case hr => first | (go_simp; done) | (go_simp; rfl)); intro g1 w1 hb B F1 L1 E1; obtain ⟨c1_0, c1_1, c1_2, c1_3⟩ := cs4 F1; clear hb E1)
        | (go_at_call 26; with_reducible refine cl (impl_CommandValid.M 3 x v o _) B fun w2 hb B => ?_; replace F1 := bn F1 hb; clear c1_0 c1_1 c1_2 c1_3; obtain ⟨c1_0, c1_1, c1_2, c1_3⟩ := cs4 F1; clear hb))
      all_goals go_ret
      all_goals ((try subst hr); exact ⟨rfl, B.out⟩)
    · (try subst hr)
      go_enter Tryd.func16, Tryd.ntmps16
      go_wp2_with (first
        | ((with_reducible refine gate_dst (N := 1) rfl ?_); refine bx ?hg (N := 1) ?hd (cs := #[.int .i64 (4), .string x, .int .i64 (v), .int .i64 (o)]) (t := 28) ?hr B ?_; (case hd => rfl); (case hg => rfl); (case hr => first | (go_simp; done) | (go_simp; rfl)); intro g1 w1 hb B F1 L1 E1; obtain ⟨c1_0, c1_1, c1_2, c1_3⟩ := cs4 F1; clear hb E1)
        | (go_at_call 26; with_reducible refine cl (impl_CommandValid.M 4 x v o _) B fun w2 hb B => ?_; replace F1 := bn F1 hb; clear c1_0 c1_1 c1_2 c1_3; obtain ⟨c1_0, c1_1, c1_2, c1_3⟩ := cs4 F1; clear hb))
      all_goals (
        refine rg (n := 14) (S := fun W => W.heap[g1]? = some (.cells #[.int .i64 (4), .string x, .int .i64 (v), .int .i64 (o)] 28 (0, 0))) (ds := []) #[false, false, false, false, false, false, false, false, false, false, false, false, false, false] (by kernel_rfl) rfl rfl F1.out id B (fun w3 hb B hHeld => ?_)
        refine with_tabW impl_CommandText.tab11 impl_CommandText.bits11 (fun HT_ HW_ => ?_)
        replace F1 := bn F1 hb
        clear hb
        refine pu (i := 0) (N := some 30) (v := ?_) (bits 14 1) rfl rfl (any_of HT_.out (by kernel_rfl)) (fun _ _ _ h => h) (by kernel_rfl) ?_ ?_; rotate_left; (intro w'; go_simp; with_reducible rfl)
        refine ta (i := 1) (N := some 31) (v := ?_) (bits 14 3) rfl rfl (take_ofW HT_.out HW_.out (by kernel_rfl)) (fun _ _ _ h => h) (by kernel_rfl) hHeld ?_ ?_; rotate_left; (intro w' hS; have s0 := hS; obtain ⟨q0, q1, q2, q3⟩ := cs4 (Aside0.mk s0); go_simp; with_reducible rfl)
        refine pu (i := 2) (N := some 32) (v := .string ((⟨#[115, 119, 97, 112, 32]⟩ : ByteArray) ++ x)) (bits 14 7) rfl rfl (any_of HT_.out (by kernel_rfl)) (fun _ _ _ h => h) (by kernel_rfl) ?_ ?_; (intro w'; go_simp; first | omega | rfl | (simp only [ByteArray.size_append] at *; omega))
        refine pu (i := 3) (N := some 33) (v := .string (((⟨#[115, 119, 97, 112, 32]⟩ : ByteArray) ++ x) ++ (⟨#[32]⟩ : ByteArray))) (bits 14 15) rfl rfl (any_of HT_.out (by kernel_rfl)) (fun _ _ _ h => h) (by kernel_rfl) ?_ ?_; (intro w'; go_simp; first | omega | rfl | (simp only [ByteArray.size_append] at *; omega))
        refine pu (i := 4) (N := some 34) (v := ?_) (bits 14 31) rfl rfl (any_of HT_.out (by kernel_rfl)) (fun _ _ _ h => h) (by kernel_rfl) ?_ ?_; rotate_left; (intro w'; go_simp; with_reducible rfl)
        refine ta (i := 5) (N := some 35) (v := ?_) (bits 14 63) rfl rfl (take_ofW HT_.out HW_.out (by kernel_rfl)) (fun _ _ _ h => h) (by kernel_rfl) hHeld ?_ ?_; rotate_left; (intro w' hS; have s0 := hS; obtain ⟨q0, q1, q2, q3⟩ := cs4 (Aside0.mk s0); go_simp; with_reducible rfl)
        refine pu (i := 9) (N := some 39) (v := ?_) (bits 14 575) rfl rfl (any_of HT_.out (by kernel_rfl)) (fun _ _ _ h => h) (by kernel_rfl) ?_ ?_; rotate_left; (intro w'; go_simp; with_reducible rfl)
        refine ta (i := 10) (N := some 40) (v := ?_) (bits 14 1599) rfl rfl (take_ofW HT_.out HW_.out (by kernel_rfl)) (fun _ _ _ h => h) (by kernel_rfl) hHeld ?_ ?_; rotate_left; (intro w' hS; have s0 := hS; obtain ⟨q0, q1, q2, q3⟩ := cs4 (Aside0.mk s0); go_simp; with_reducible rfl)
        refine norm_ (a' := ?_) ?_ ?_
        rotate_left
        · simp only [Act.put, List.setIfInBounds_toArray, List.set_cons_zero, List.set_cons_succ, i64_w, i32_w]
          rfl
        refine one_ (i := 6) (N := some 36) (bits 14 1663) rfl rfl (one_of HT_.out (by kernel_rfl)) (by decide) (fun K hK => ?_)
        refine goes_ Tryd.func31 (by kernel_rfl) rfl #[.int .i64 (o)] (by rfl) rfl rfl (by (try simp only [List.map_toArray, List.map_cons, List.map_nil]); rfl) ?_
        with_reducible refine cl (strconv_Itoa.M o w _ HT B (by omega)) B fun w4 hb B => ?_
        replace F1 := bn F1 hb
        clear hb
        refine ⟨_, rfl, ?_⟩
        refine hK.out _ _ F1.out (fun hHeld => ?_)
        clear hK K
        refine norm_ (a' := ?_) ?_ ?_
        rotate_left
        · show Act.put _ (some 36) _ = _
          simp only [Act.put, List.setIfInBounds_toArray, List.set_cons_zero, List.set_cons_succ, i64_w, i32_w]
          rfl
        refine pu (i := 7) (N := some 37) (v := .string ((((⟨#[115, 119, 97, 112, 32]⟩ : ByteArray) ++ x) ++ (⟨#[32]⟩ : ByteArray)) ++ txtM o)) (bits 14 1791) rfl rfl (any_of HT_.out (by kernel_rfl)) (fun _ _ _ h => h) (by kernel_rfl) ?_ ?_; (intro w'; go_simp; first | omega | rfl | (simp only [ByteArray.size_append] at *; omega))
        refine pu (i := 8) (N := some 38) (v := .string (((((⟨#[115, 119, 97, 112, 32]⟩ : ByteArray) ++ x) ++ (⟨#[32]⟩ : ByteArray)) ++ txtM o) ++ (⟨#[32]⟩ : ByteArray))) (bits 14 2047) rfl rfl (any_of HT_.out (by kernel_rfl)) (fun _ _ _ h => h) (by kernel_rfl) ?_ ?_; (intro w'; go_simp; first | omega | rfl | (simp only [ByteArray.size_append] at *; omega))
        refine norm_ (a' := ?_) ?_ ?_
        rotate_left
        · simp only [Act.put, List.setIfInBounds_toArray, List.set_cons_zero, List.set_cons_succ, i64_w, i32_w]
          rfl
        refine one_ (i := 11) (N := some 41) (bits 14 4095) rfl rfl (one_of HT_.out (by kernel_rfl)) (by decide) (fun K hK => ?_)
        refine goes_ Tryd.func31 (by kernel_rfl) rfl #[.int .i64 (v)] (by rfl) rfl rfl (by (try simp only [List.map_toArray, List.map_cons, List.map_nil]); rfl) ?_
        with_reducible refine cl (strconv_Itoa.M v w _ HT B (by omega)) B fun w5 hb B => ?_
        replace F1 := bn F1 hb
        clear hb
        refine ⟨_, rfl, ?_⟩
        refine hK.out _ _ F1.out (fun hHeld => ?_)
        clear hK K
        refine norm_ (a' := ?_) ?_ ?_
        rotate_left
        · show Act.put _ (some 41) _ = _
          simp only [Act.put, List.setIfInBounds_toArray, List.set_cons_zero, List.set_cons_succ, i64_w, i32_w]
          rfl
        refine pu (i := 12) (N := some 42) (v := .string ((((((⟨#[115, 119, 97, 112, 32]⟩ : ByteArray) ++ x) ++ (⟨#[32]⟩ : ByteArray)) ++ txtM o) ++ (⟨#[32]⟩ : ByteArray)) ++ txtM v)) (bits 14 8191) rfl rfl (any_of HT_.out (by kernel_rfl)) (fun _ _ _ h => h) (by kernel_rfl) ?_ ?_; (intro w'; go_simp; first | omega | rfl | (simp only [ByteArray.size_append] at *; omega))
        refine pu (i := 13) (N := some 2) (v := ?_) (bits 14 16383) rfl rfl (any_of HT_.out (by kernel_rfl)) (fun _ _ _ h => h) (by kernel_rfl) ?_ ?_; rotate_left; (intro w'; go_simp; with_reducible rfl)
        refine norm_ (a' := ?_) ?_ ?_
        rotate_left
        · simp only [Act.put, List.setIfInBounds_toArray, List.set_cons_zero, List.set_cons_succ, i64_w, i32_w]
          rfl
        refine done_ (done_of HT_.out (by kernel_rfl)) ?_)
      all_goals try go_wp2
      all_goals go_ret
      all_goals ((try subst hr); exact ⟨rfl, B.out⟩)
    · rw [if_neg (by decide), if_neg (by decide), if_neg (by decide), if_neg (by decide)] at hr
      go_enter Tryd.func16, Tryd.ntmps16
      go_wp2_with (first
        | ((with_reducible refine gate_dst (N := 1) rfl ?_); refine bx ?hg (N := 1) ?hd (cs := #[.int .i64 (5), .string x, .int .i64 (v), .int .i64 (o)]) (t := 28) ?hr B ?_; (case hd => rfl); (case hg => rfl); (case hr => first | (go_simp; done) | (go_simp; rfl)); intro g1 w1 hb B F1 L1 E1; obtain ⟨c1_0, c1_1, c1_2, c1_3⟩ := cs4 F1; clear hb E1)
        | (go_at_call 26; with_reducible refine cl (impl_CommandValid.M 5 x v o _) B fun w2 hb B => ?_; replace F1 := bn F1 hb; clear c1_0 c1_1 c1_2 c1_3; obtain ⟨c1_0, c1_1, c1_2, c1_3⟩ := cs4 F1; clear hb))
      all_goals go_ret
      all_goals ((refine ⟨?_, B.out⟩; rw [← hr]; first | (rw [if_pos (by simp_all)]; rfl) | (rw [if_neg (by simp_all)]; rfl)))
  · have hM : r = (⟨#[]⟩ : ByteArray) := by rw [← hr]; unfold cmtM; rw [if_neg hv]
    replace hv := Bool.eq_false_iff.mpr hv
    clear hr
    go_enter Tryd.func16, Tryd.ntmps16
    go_wp2_with (first
      | ((with_reducible refine gate_dst (N := 1) rfl ?_); refine bx ?hg (N := 1) ?hd (cs := #[.int .i64 (k), .string x, .int .i64 (v), .int .i64 (o)]) (t := 28) ?hr B ?_; (case hd => rfl); (case hg => rfl); (case hr => first | (go_simp; done) | (go_simp; rfl)); intro g1 w1 hb B F1 L1 E1; obtain ⟨c1_0, c1_1, c1_2, c1_3⟩ := cs4 F1; clear hb E1)
      | (go_at_call 26; with_reducible refine cl (impl_CommandValid.M k x v o _) B fun w2 hb B => ?_; replace F1 := bn F1 hb; clear hb))
    all_goals go_ret
    all_goals (subst hM; exact ⟨rfl, B.out⟩)

end Go.Proofs.YtnogoanlfmflcaaDoor.PFnExactReadCommand
