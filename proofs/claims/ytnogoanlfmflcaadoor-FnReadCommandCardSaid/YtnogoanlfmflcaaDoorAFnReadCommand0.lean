/- Walks over models, part 0: base nums txtm strs keys cmdm cmtm keyval icmd scmd cmtext. -/
import Derived.Test.YtnogoanlfmflcaaDoorPFnReadCommandx0
import Derived.Deep.RegionHeld3
import Derived.Lib.ItoaNum
import Derived.Lib.AppendIntMem
import Derived.Test.YtnogoanlfmflcaaDoorShelfA
import Derived.Test.YtnogoanlfmflcaaDoorPFnReadCommandx20
import Derived.Lib.Strings
import Derived.Laws.BytesArg
namespace Go.Proofs.YtnogoanlfmflcaaDoor.PFnReadCommand
open Go.RowKit Go.Proofs.YtnogoanlfmflcaaDoorW.PrintWords Go.Proofs.YtnogoanlfmflcaaDoorW.PrintLast Go.Proofs.YtnogoanlfmflcaaDoorW.PrintMore
set_option linter.unusedVariables false
set_option linter.unusedSimpArgs false
set_option maxHeartbeats 4000000
set_option maxRecDepth 100000
def bits (n m : Nat) : Array Bool := ((List.range n).map fun i => m.testBit i).toArray
/-! Words: a call by its contract, boxes and rows carried on. -/
section
variable {P : Program} {F : FuncId} {args : Array Value} {w W W' : World} {v : Value} {Q : Ending → World → Prop}
theorem cl (c : Calls P F args W fun e w' => e = .returned v ∧ Below W.heap.size W w') (B : Aside0 (Below w.heap.size w W))
    (h : ∀ W', Below W.heap.size W W' → Aside0 (Below w.heap.size w W') → Q (.returned v) W') : Calls P F args W Q :=
  c.mono (by rintro e W' ⟨rfl, hb⟩; exact h W' hb ⟨below_step B.out hb⟩)
theorem cx {α : Type} {f : α → Value} {p : α → Prop} (c : Calls P F args W fun e w' => ∃ x, e = .returned (f x) ∧ p x ∧ Below W.heap.size W w') (B : Aside0 (Below w.heap.size w W))
    (h : ∀ x, p x → ∀ W', Below W.heap.size W W' → Aside0 (Below w.heap.size w W') → Q (.returned (f x)) W') : Calls P F args W Q :=
  c.mono (by rintro e W' ⟨x, rfl, hx, hb⟩; exact h x hx W' hb ⟨below_step B.out hb⟩)
theorem clv {v v' : Value} (c : Calls P F args W fun e w' => e = .returned v ∧ Below W.heap.size W w') (hv : v = v') : Calls P F args W fun e w' => e = .returned v' ∧ Below W.heap.size W w' := hv ▸ c
theorem drewB {v : Value} (c : Calls P F args W fun e w' => e = .returned v ∧ ∃ n, w' = W.drewN n) : Calls P F args W fun e w' => e = .returned v ∧ Below W.heap.size W w' :=
  c.mono (by rintro e W' ⟨rfl, n, rfl⟩; exact ⟨rfl, pw_below_drewN (Below.refl _ _) n⟩)
variable {α β : Type} {d : Kd α} {d' : Kd β} {e e' b : Nat} {xs : List α} {ys : List β} {f : Value → Value}
/-- what a row of a call's own is known by -/
def Ow (d : Kd α) (e : Nat) (W : World) (b : Nat) (v : Value) (xs : List α) : Prop := Kd.R d e W b (fun _ => True) v xs
/-- the row lies in a block that was not there before -/
def Fr (W : World) (v : Value) : Prop := ∀ k, v.ownBlock = some k → W.heap.size ≤ k
theorem cr (c : Calls P F args W fun r w' => ∃ v0, r = .returned (f v0) ∧ Kd.R d e w' W.heap.size (fun _ => True) v0 xs ∧ Below W.heap.size W w') (B : Aside0 (Below w.heap.size w W))
    (h : ∀ A kk W', Below W.heap.size W W' → Aside0 (Below w.heap.size w W') → Aside0 (Ow d e W' w.heap.size (.slice A xs.length kk) xs) → Aside0 (Fr W (.slice A xs.length kk)) → Q (.returned (f (.slice A xs.length kk))) W') : Calls P F args W Q :=
  c.mono (by
    rintro r W' ⟨v0, rfl, ho, hb⟩
    obtain ⟨A, kk, rfl⟩ := Kd.R_slice ho
    exact h A kk W' hb ⟨below_step B.out hb⟩ ⟨Kd.R_lower ho (below_size B.out)⟩ ⟨fun k hk => Kd.R_base ho k hk⟩)
theorem crz (c : Calls P F args W fun r w' => ∃ v0, r = .returned (f v0) ∧ Kd.R d e w' W.heap.size (fun _ => True) v0 xs ∧ Below W.heap.size W w') (B : Aside0 (Below w.heap.size w W))
    (h : ∀ zs, xs = zs → ∀ A kk W', Below W.heap.size W W' → Aside0 (Below w.heap.size w W') → Aside0 (Ow d e W' w.heap.size (.slice A zs.length kk) zs) → Aside0 (Fr W (.slice A zs.length kk)) → Q (.returned (f (.slice A zs.length kk))) W') : Calls P F args W Q := cr c B (h xs rfl)
theorem bn {g : Nat} {o : Obj} (F : Aside0 (W.heap[g]? = some o)) (hb : Below W.heap.size W W') : Aside0 (W'.heap[g]? = some o) := ⟨blk_below F.out hb⟩
theorem rn {v : Value} (R : Aside0 (Ow d e W b v xs)) (hb : Below W.heap.size W W') : Aside0 (Ow d e W' b v xs) := ⟨Kd.R_below R.out hb⟩
theorem rc {A : Option Addr} {n c : Nat} (R : Aside0 (Ow d e W b (.slice A n c) xs)) : Kd.C d W A xs.length xs := (Kd.R_reads' R.out).2.2
theorem rl {A : Option Addr} {c : Nat} (R : Aside0 (Ow d e W b (.slice A xs.length c) xs)) : xs.length ≤ c := (Kd.R_reads' R.out).2.1
theorem cb {A : Option Addr} {n : Nat} (H : Aside0 (Kd.C d w A n xs)) (B : Aside0 (Below w.heap.size w W)) : Kd.C d W A n xs := Kd.C_below H.out B.out
theorem cs1 {g t : Nat} {a : Value} (F : Aside0 (W.heap[g]? = some (.cells #[a] t (0, 0)))) : W.cell? ⟨g, 0, none⟩ = some a := (blk_cell F.out 0).trans rfl
theorem cs2 {g t : Nat} {a b : Value} (F : Aside0 (W.heap[g]? = some (.cells #[a, b] t (0, 0)))) : W.cell? ⟨g, 0, none⟩ = some a ∧ W.cell? ⟨g, 1, none⟩ = some b := ⟨(blk_cell F.out 0).trans rfl, (blk_cell F.out 1).trans rfl⟩
theorem cs3 {g t : Nat} {a b c : Value} (F : Aside0 (W.heap[g]? = some (.cells #[a, b, c] t (0, 0)))) : W.cell? ⟨g, 0, none⟩ = some a ∧ W.cell? ⟨g, 1, none⟩ = some b ∧ W.cell? ⟨g, 2, none⟩ = some c := ⟨(blk_cell F.out 0).trans rfl, (blk_cell F.out 1).trans rfl, (blk_cell F.out 2).trans rfl⟩
theorem cs4 {g t : Nat} {a b c d : Value} (F : Aside0 (W.heap[g]? = some (.cells #[a, b, c, d] t (0, 0)))) : W.cell? ⟨g, 0, none⟩ = some a ∧ W.cell? ⟨g, 1, none⟩ = some b ∧ W.cell? ⟨g, 2, none⟩ = some c ∧ W.cell? ⟨g, 3, none⟩ = some d := ⟨(blk_cell F.out 0).trans rfl, (blk_cell F.out 1).trans rfl, (blk_cell F.out 2).trans rfl, (blk_cell F.out 3).trans rfl⟩
theorem cs6 {g t : Nat} {a b c d x y : Value} (F : Aside0 (W.heap[g]? = some (.cells #[a, b, c, d, x, y] t (0, 0)))) : W.cell? ⟨g, 0, none⟩ = some a ∧ W.cell? ⟨g, 1, none⟩ = some b ∧ W.cell? ⟨g, 2, none⟩ = some c ∧ W.cell? ⟨g, 3, none⟩ = some d ∧ W.cell? ⟨g, 4, none⟩ = some x ∧ W.cell? ⟨g, 5, none⟩ = some y :=
  ⟨(blk_cell F.out 0).trans rfl, (blk_cell F.out 1).trans rfl, (blk_cell F.out 2).trans rfl, (blk_cell F.out 3).trans rfl, (blk_cell F.out 4).trans rfl, (blk_cell F.out 5).trans rfl⟩
theorem fz {g t : Nat} {cs : Array Value} (F : Aside0 (W.heap[g]? = some (.cells cs t (0, 0)))) (j : Nat) : W.frozen? ⟨g, j, none⟩ = false := blk_frozen F.out j
theorem sets_keep (g : Nat) : ∀ (vs : List Value) (j : Nat) (W1 : World), KeepBut W W1 g none → KeepBut W (W1.setCells g j vs) g none
  | [], _, _, h => h
  | v :: r, j, _, h => sets_keep g r (j + 1) _ (h.set_ j v)
theorem sets_below (g : Nat) (hg : w.heap.size ≤ g) : ∀ (vs : List Value) (j : Nat) (W1 : World), Below w.heap.size w W1 → Below w.heap.size w (W1.setCells g j vs)
  | [], _, _, h => h
  | _ :: r, j, _, h => sets_below g hg r (j + 1) _ (below_set h hg)
theorem sets_blk (g t : Nat) (s : List Value) : ∀ (vs l r : List Value) (W1 : World), r.length = vs.length → W1.heap[g]? = some (.cells (l ++ r ++ s).toArray t (0, 0)) → (W1.setCells g l.length vs).heap[g]? = some (.cells (l ++ vs ++ s).toArray t (0, 0))
  | [], l, r, _, hr, h => by
    obtain rfl : r = [] := List.eq_nil_of_length_eq_zero hr
    exact h
  | v :: vs, l, [], _, hr, h => by cases hr
  | v :: vs, l, x :: r, W1, hr, h => by
    have := sets_blk g t s vs (l ++ [v]) r (W1.setCell ⟨g, l.length, none⟩ v) (by simpa using hr) (by
      rw [blk_set h]
      simp)
    simpa [World.setCells] using this
theorem sets_blk' {g t : Nat} {cs : Array Value} (off : Nat) (ns vs : List Value) (hl : cs.toList.take off ++ ns ++ cs.toList.drop (off + ns.length) = vs) (hs : off + ns.length ≤ cs.size) (F : W.heap[g]? = some (.cells cs t (0, 0))) : (W.setCells g off ns).heap[g]? = some (.cells vs.toArray t (0, 0)) := by
  subst hl
  have h1 : (cs.toList.take off).length = off := by rw [List.length_take, Array.length_toList (xs := cs)]; omega
  have := sets_blk g t (cs.toList.drop (off + ns.length)) ns (cs.toList.take off) ((cs.toList.drop off).take ns.length) W (by rw [List.length_take, List.length_drop, Array.length_toList (xs := cs)]; omega) (by
    rw [F]
    congr 1
    congr 1
    rw [List.append_assoc, ← List.drop_drop, List.take_append_drop, List.take_append_drop])
  rwa [h1] at this
variable {ops ops' : Array Oper} {o : Oper} {rest : List Oper} {a : Act} {QE : Exit → Act → World → Prop}
theorem bx (hgd : o.guard = none) {N : Tmp} (hd : o.dst = some N) {cs : Array Value} {t : TypeId} (hrun : (execOp a.eval o).run P W = .ok (.value (.pointer (some ⟨W.heap.size, 0, none⟩))) (W.alloc (.cells cs t (0, 0))))
    (B : Aside0 (Below w.heap.size w W))
    (h : ∀ g w1, Below W.heap.size W w1 → Aside0 (Below w.heap.size w w1) → Aside0 (w1.heap[g]? = some (.cells cs t (0, 0))) → Aside0 (w.heap.size ≤ g) → Aside0 (g = W.heap.size) → wpList P ops QE rest (a.put o.dst (.pointer (some ⟨g, 0, none⟩))) w1) : wpList P ops QE (o :: rest) a W :=
  box_event hgd hd hrun fun g hg w1 hc hb => h g w1 hb ⟨below_step B.out hb⟩ ⟨hc⟩ ⟨hg ▸ below_size B.out⟩ ⟨hg⟩
theorem sx (hgd : o.guard = none) {t t' : TypeId} {p : Tmp} {v : Operand} (ho : o.op = .store t' (.tmp p) v) (hN : o.dst = none) {g : Nat} {cs : Array Value} (off : Nat) (ns vs : List Value) (hrun : (execOp a.eval o).run P W = .ok .skip (W.setCells g off ns))
    (B : Aside0 (Below w.heap.size w W)) (F : Aside0 (W.heap[g]? = some (.cells cs t (0, 0)))) (L : Aside0 (w.heap.size ≤ g)) (hl : cs.toList.take off ++ ns ++ cs.toList.drop (off + ns.length) = vs) (hs : off + ns.length ≤ cs.size)
    (h : ∀ w', KeepBut W w' g none → Aside0 (Below w.heap.size w w') → Aside0 (w'.heap[g]? = some (.cells vs.toArray t (0, 0))) → wpList P ops QE rest a w') : wpList P ops QE (o :: rest) a W :=
  store_event hgd ho hN hrun fun w' hw => by
    subst hw
    exact h _ (sets_keep g ns off W (KeepBut.refl _ _ _)) ⟨sets_below g L.out ns off W B.out⟩ ⟨sets_blk' off ns vs hl hs F.out⟩
theorem sxs {Kc : Act → World → Prop} {g t : Nat} {cs : Array Value} (off : Nat) (ns vs : List Value) (hw : Region.wanted o (yielded ops' a.tmps) = true) (hN : o.dst = none) (hrun : (execOp a.eval o).run P W = .ok .skip (W.setCells g off ns))
    (B : Aside0 (Below w.heap.size w W)) (F : Aside0 (W.heap[g]? = some (.cells cs t (0, 0)))) (L : Aside0 (w.heap.size ≤ g)) (hl : cs.toList.take off ++ ns ++ cs.toList.drop (off + ns.length) = vs) (hs : off + ns.length ≤ cs.size)
    (h : ∀ w', KeepBut W w' g none → Aside0 (Below w.heap.size w w') → Aside0 (w'.heap[g]? = some (.cells vs.toArray t (0, 0))) → Kc (a.put none undef) w') : if Region.wanted o (yielded ops' a.tmps) = true then Oper.wp P o a W Kc QE else Kc (a.put none undef) W := by
  rw [if_pos hw]
  unfold Oper.wp
  rw [hrun]
  show Kc (a.put o.dst undef) _
  rw [hN]
  exact h _ (sets_keep g ns off W (KeepBut.refl _ _ _)) ⟨sets_below g L.out ns off W B.out⟩ ⟨sets_blk' off ns vs hl hs F.out⟩
theorem rg {S : World → Prop} {ds : List Nat} {id n : Nat} (l : Array Bool) (hm : P.follows .mixedOrders = true) (hn : ops'.size = n) (hl : Array.replicate n false = l) (hS : S W) (hd : S W → S W.drew) (B : Aside0 (Below w.heap.size w W))
    (h : ∀ W', Below W.heap.size W W' → Aside0 (Below w.heap.size w W') → S W' → wpAnyLast P .any ops' QE S ds n l a W') : (Code.region id ops' true).wp P QE a W :=
  start_ l hm hn hl (hd hS) fun hH => h _ (below_drew1 (Below.refl _ _)) ⟨below_drew B.out⟩ hH
theorem sk {S : World → Prop} {md : Region.Mode} {ds : List Nat} {i : Nat} {N : Option Tmp} {oi : Oper} {fuel : Nat} {l : Array Bool} (l' : Array Bool) (hi : ops'[i]? = some oi) (hN : oi.dst = N) (hc : anyB md ops' l l' i = true)
    (hQ : ∀ c a w, QE (.panic c) (a.put oi.dst undef) w → QE (.panic c) a w) (hw : Region.wanted oi (yielded ops' a.tmps) = false) (h : wpAnyLast P md ops' QE S ds fuel l' (a.put N undef) W) : wpAnyLast P md ops' QE S ds (fuel + 1) l a W :=
  pure_ l' hi hN hc hQ (Or.inr ⟨hw, rfl⟩) rfl h
theorem pu {S : World → Prop} {md : Region.Mode} {ds : List Nat} {i : Nat} {N : Option Tmp} {oi : Oper} {v : Value} {fuel : Nat} {l : Array Bool} (l' : Array Bool) (hi : ops'[i]? = some oi) (hN : oi.dst = N) (hc : anyB md ops' l l' i = true)
    (hQ : ∀ c a w, QE (.panic c) (a.put oi.dst v) w → QE (.panic c) a w) (hw : Region.wanted oi (yielded ops' a.tmps) = true) (hy : ∀ w, (execOp a.eval oi).run P w = .ok (.value v) w) (h : wpAnyLast P md ops' QE S ds fuel l' (a.put N v) W) : wpAnyLast P md ops' QE S ds (fuel + 1) l a W :=
  pure_ l' hi hN hc hQ (Or.inl ⟨hw, hy⟩) rfl h
theorem ta {S : World → Prop} {md : Region.Mode} {ds : List Nat} {i : Nat} {N : Option Tmp} {oi : Oper} {v : Value} {fuel : Nat} {l : Array Bool} (l' : Array Bool) (hi : ops'[i]? = some oi) (hN : oi.dst = N) (hc : takeB md ops' ds l l' i = true)
    (hQ : ∀ c a w, QE (.panic c) (a.put oi.dst v) w → QE (.panic c) a w) (hw : Region.wanted oi (yielded ops' a.tmps) = true) (hS : S W) (hy : ∀ w, S w → (execOp a.eval oi).run P w = .ok (.value v) w) (h : wpAnyLast P md ops' QE S ds fuel l' (a.put N v) W) : wpAnyLast P md ops' QE S ds (fuel + 1) l a W :=
  take_ l' hi hN hc hQ (Or.inl ⟨hw, hy⟩) hS rfl h
theorem ne1 {g g' : Nat} {o : Obj} (E : Aside0 (g = W.heap.size)) (F : Aside0 (W.heap[g']? = some o)) : Aside0 (g' ≠ g) := ⟨Nat.ne_of_lt (E.out ▸ blk_lt F.out)⟩
theorem bk {g g' : Nat} {o : Obj} (F : Aside0 (W.heap[g']? = some o)) (hk : KeepBut W W' g none) (N : g' ≠ g) : Aside0 (W'.heap[g']? = some o) := ⟨hk.blk F.out N (by simp)⟩
theorem rk {v : Value} {g t : Nat} {cs : Array Value} (R : Aside0 (Ow d e W b v xs)) (F : Aside0 (W.heap[g]? = some (.cells cs t (0, 0)))) (ht : ∀ q, q ∈ e :: d.E → q ≠ t) (hk : KeepBut W W' g none) : Aside0 (Ow d e W' b v xs) :=
  ⟨Kd.R_mono (Kd.R_keep (Kd.R_types R.out F.out ht) hk (fun _ q => q.2)) (fun _ q => q.1)⟩
end

theorem w64 {x : Int} (h0 : -9223372036854775808 ≤ x) (h1 : x ≤ 9223372036854775807) : wrap64 x = x := by
  unfold wrap64
  omega
theorem rd_drop {xs : List Int} {j : Nat} (h : j < xs.length) : xs.drop j = rd xs (j : Int) :: xs.drop (j + 1) := by
  rw [List.drop_eq_getElem_cons h]
  simp [rd, List.getD_eq_getElem?_getD, List.getElem?_eq_getElem h]
theorem andF {c x r : Bool} (h : (c && x) = r) (hc : c = false) : Ending.returned (Value.bool false) = Ending.returned (.bool r) := by subst h; rw [hc]; rfl
theorem andT {c x r : Bool} (h : (c && x) = r) (hc : c = true) : x = r := by subst h; rw [hc]; rfl
theorem useEq {α : Type} {a b : α} {p : Prop} (h : a = b) (k : a = b → p) : p := k h

/-! The texts of numbers. -/
def dec3 (u : Nat) : List UInt8 := if u < 10 then [UInt8.ofNat (48 + u)] else if u < 100 then [UInt8.ofNat (48 + u / 10), UInt8.ofNat (48 + u % 10)] else [UInt8.ofNat (48 + u / 10 / 10), UInt8.ofNat (48 + u / 10 % 10), UInt8.ofNat (48 + u % 10)]
theorem dec3_eq {u : Nat} (h : u < 1000) : Lib.decDigits u = dec3 u := by
  unfold dec3
  by_cases h1 : u < 10
  · rw [Lib.decDigits, dif_pos h1, if_pos h1]
  · rw [Lib.decDigits, dif_neg h1, if_neg h1]
    by_cases h2 : u < 100
    · rw [Lib.decDigits, dif_pos (by omega), if_pos h2]
      rfl
    · rw [Lib.decDigits, dif_neg (by omega), Lib.decDigits, dif_pos (by omega), if_neg h2]
      rfl
def txtM (n : Int) : ByteArray := if n < 0 then (⟨#[45, 49]⟩ : ByteArray) else ⟨(dec3 n.toNat).toArray⟩
theorem txtM_size (n : Int) : (txtM n).size ≤ 3 := by
  unfold txtM dec3
  split
  · decide
  · show List.length (List.toArray _).toList ≤ 3
    split
    · simp
    · split <;> simp
theorem txtM_itoa {n : Int} (h0 : -1 ≤ n) (h1 : n ≤ 999) : (⟨(Lib.itoa n).toArray⟩ : ByteArray) = txtM n := by
  unfold txtM Lib.itoa
  by_cases h : n < 0
  · obtain rfl : n = -1 := by omega
    rw [if_pos h, if_pos h, show (-1 : Int).natAbs = 1 from rfl, dec3_eq (by omega)]
    rfl
  · rw [if_neg h, if_neg h, dec3_eq (by omega)]
theorem strN (x : Int) (r : ByteArray) : strOfNums [x] ++ r = ⟨(UInt8.ofNat x.toNat :: r.data.toList).toArray⟩ := by
  apply ByteArray.ext
  rw [ByteArray.data_append]
  apply Array.toList_inj.mp
  simp [strOfNums]
theorem tdig (n : Int) (h0 : 0 ≤ n) : wrap64 (48 + Int.tmod n 10) % 256 = 48 + n % 10 := by
  rw [Int.tmod_eq_emod_of_nonneg h0, w64 (by omega) (by omega)]
  omega
theorem tdiv10 (n : Int) (h0 : 0 ≤ n) (h1 : n ≤ 999) : wrap64 (Int.tdiv n 10) = n / 10 := by
  rw [Int.tdiv_eq_ediv_of_nonneg h0, w64 (by omega) (by omega)]
theorem l7_txt {n : Int} (h0 : -1 ≤ n) (h1 : n ≤ 999) : spec_l7Text.f 3 n = some (txtM n) := by
  unfold spec_l7Text.f txtM
  by_cases h : n < 0
  · rw [if_pos h, if_pos h]
  · rw [if_neg h, if_neg h, tdig n (by omega)]
    unfold dec3
    have e1 : strOfNums [48 + n % 10] = (⟨#[UInt8.ofNat (48 + n % 10).toNat]⟩ : ByteArray) := rfl
    rw [e1]
    by_cases h2 : n < 10
    · rw [if_pos (by omega), spec_l7Text.l0, if_neg (by omega), show (48 + n % 10).toNat = 48 + n.toNat by omega]
    · rw [if_neg (by omega), spec_l7Text.l0, if_pos (by omega), tdiv10 n (by omega) h1, tdig (n / 10) (by omega)]
      simp only [Option.bind_some]
      rw [if_pos (by rw [strOfNums_size]; show 1 + 1 ≤ _; decide), strN]
      by_cases h3 : n < 100
      · rw [if_pos (by omega), spec_l7Text.l0, if_neg (by omega), show (48 + n % 10).toNat = 48 + n.toNat % 10 by omega, show (48 + n / 10 % 10).toNat = 48 + n.toNat / 10 by omega]
      · rw [if_neg (by omega), spec_l7Text.l0, if_pos (by omega), tdiv10 (n / 10) (by omega) (by omega), tdig (n / 10 / 10) (by omega)]
        simp only [Option.bind_some]
        rw [if_pos (by rw [strOfNums_size]; show 1 + 2 ≤ _; decide), strN, spec_l7Text.l0, if_neg (by omega)]
        rw [show (48 + n % 10).toNat = 48 + n.toNat % 10 by omega, show (48 + n / 10 % 10).toNat = 48 + n.toNat / 10 % 10 by omega, show (48 + n / 10 / 10 % 10).toNat = 48 + n.toNat / 10 / 10 by omega]
theorem spec_l7Text.M (n : Int) (w : World) (h : -1 ≤ n ∧ n ≤ 999) : Calls Tryd.prog 29 #[.int .i64 n] w fun e w' => e = .returned (.string (txtM n)) ∧ Below w.heap.size w w' := spec_l7Text.calls 3 n _ w (l7_txt h.1 h.2)
/-- the table of powers of ten, as the row lays it -/
def TT (w : World) : Prop := Lib.TabIs Tryd.prog w "internal/strconv.uint64pow10" .u64 Lib.pow10Tab
theorem tt_on {w W : World} (T : Aside0 (TT w)) (B : Aside0 (Below w.heap.size w W)) : TT W := Lib.tabBelow_of_tabIs T.out W B.out
theorem strconv_Itoa.M (n : Int) (w W : World) (T : Aside0 (TT w)) (B : Aside0 (Below w.heap.size w W)) (h : -1 ≤ n ∧ n ≤ 999) : Calls Tryd.prog 31 #[.int .i64 n] W fun e w' => e = .returned (.string (txtM n)) ∧ Below W.heap.size W w' :=
  (Tryd.strconv_Itoa n (by omega) (by omega) W (tt_on T B)).mono (by
    rintro e w' ⟨rfl, k, os, rfl⟩
    exact ⟨by rw [txtM_itoa h.1 h.2], Lib.below_grow _ _ (Nat.le_refl _) _ _⟩)

/-! Strings compared. -/
theorem less_total : ∀ x y : List UInt8, (Op.bytesLess x y || x == y) = !(Op.bytesLess y x)
  | [], [] => rfl
  | [], _ :: _ => rfl
  | _ :: _, [] => rfl
  | a :: x, b :: y => by
    have ih := less_total x y
    simp only [Op.bytesLess]
    by_cases h : a = b
    · subst h
      simpa using ih
    · have h2 : (a == b) = false := beq_eq_false_iff_ne.mpr h
      have h3 : (b == a) = false := beq_eq_false_iff_ne.mpr (Ne.symm h)
      have h4 : (a :: x == b :: y) = false := beq_eq_false_iff_ne.mpr fun q => h (List.cons.inj q).1
      rw [h2, h3, h4]
      simp only [Bool.false_and, Bool.or_false]
      by_cases hl : a < b
      · have : ¬ b < a := by rw [UInt8.lt_iff_toNat_lt] at *; omega
        simp [hl, this]
      · have : b < a := by
          rw [UInt8.lt_iff_toNat_lt] at *
          have : a.toNat ≠ b.toNat := fun q => h (UInt8.toNat_inj.mp q)
          omega
        simp [hl, this]
theorem leq_str (t : TypeId) (a b : ByteArray) : binOp .leq t (.string a) (.string b) = pure (.bool !(Op.bytesLess b.toList a.toList)) := by
  rw [← less_total]
  simp [binOp, Op.stringOp]
theorem geq_str (t : TypeId) (a b : ByteArray) : binOp .geq t (.string a) (.string b) = pure (.bool !(Op.bytesLess a.toList b.toList)) := by
  simp [binOp, Op.stringOp]
theorem gtr_str (t : TypeId) (a b : ByteArray) : binOp .gtr t (.string a) (.string b) = pure (.bool (Op.bytesLess b.toList a.toList)) := by
  have h : (!(Op.bytesLess a.toList b.toList || a.toList == b.toList)) = Op.bytesLess b.toList a.toList := by rw [less_total, Bool.not_not]
  rw [← h, Bool.not_or]
  simp [binOp, Op.stringOp]
attribute [local go_sem] leq_str geq_str gtr_str

/-! Keys. -/
theorem ba_toList (s : ByteArray) : s.toList = s.data.toList := Lib.toList_data s
theorem ba_inj {s t : ByteArray} (h : s.toList = t.toList) : s = t := by
  rw [ba_toList, ba_toList] at h
  cases s; cases t; simp only [ByteArray.mk.injEq]; exact Array.toList_inj.mp h
theorem str_beq (a b : ByteArray) : (a.toList == b.toList) = decide (a = b) := by
  by_cases h : a = b
  · subst h; simp
  · rw [decide_eq_false h]; exact beq_eq_false_iff_ne.mpr fun q => h (ba_inj q)
theorem nil_iff (s : ByteArray) : s.toList = ([] : List UInt8) ↔ s.size = 0 := by
  rw [ba_toList]
  refine ⟨fun h => ?_, fun h => ?_⟩
  · have := data_length s
    rw [h] at this
    exact this.symm
  · exact List.eq_nil_of_length_eq_zero (by rw [data_length]; exact h)
def lowB (x : Int) : Bool := decide (97 ≤ x) && decide (x ≤ 122)
def keyB (s : ByteArray) : Bool := decide (1 ≤ s.size) && decide (s.size ≤ 4) && (bytesOf s).all lowB
theorem bt_drop' {s : ByteArray} {j : Nat} (h : j < s.size) : (bytesOf s).drop j = bt s (j : Int) :: (bytesOf s).drop (j + 1) := by
  rw [rd_drop (by rw [bytesOf_length]; exact h), rd_bytesOf]
theorem bytesOf_tail (s : ByteArray) : bytesOf (s.extract 1 s.size) = (bytesOf s).drop 1 := by
  unfold bytesOf
  rw [← List.map_drop]
  refine congrArg _ ?_
  rw [ByteArray.data_extract, Array.toList_extract]
  rw [List.extract_eq_take_drop, List.take_of_length_le (by rw [List.length_drop, data_length]; omega)]
def l1B (n lo hi : Int) : Bool := decide (lo ≤ n) && decide (n ≤ hi)
theorem spec_l1In.M (n lo hi : Int) (w : World) : Calls Tryd.prog 28 #[.int .i64 n, .int .i64 lo, .int .i64 hi] w fun e w' => e = .returned (.bool (l1B n lo hi)) ∧ Below w.heap.size w w' := by
  go_enter Tryd.func28, Tryd.ntmps28
  go_wp2
  all_goals go_ret
  all_goals (refine ⟨?_, Below.refl _ _⟩; unfold l1B; simp_all; try omega)
theorem spec_KeyValid.M (a : ByteArray) (w : World) : Calls Tryd.prog 45 #[.string a] w fun e w' => e = .returned (.bool (keyB a)) ∧ Below w.heap.size w w' := by
  have B := Aside0.mk (Below.refl w.heap.size w)
  obtain ⟨r, hr⟩ : ∃ r, keyB a = r := ⟨_, rfl⟩
  rw [hr]
  unfold keyB at hr
  by_cases hs : 1 ≤ a.size ∧ a.size ≤ 4
  · have hl : l1B (a.size : Int) 1 4 = true := by unfold l1B; simp; omega
    have H := Aside0.mk (show ((bytesOf a).drop 0).all lowB = r by simpa [hs.1, hs.2] using hr)
    clear hr
    go_enter Tryd.func45, Tryd.ntmps45
    go_wp2_with (first
      | (go_at_call 28; with_reducible refine cl (clv (spec_l1In.M _ 1 4 _) (congrArg Value.bool hl)) B fun w1 hb B => ?_; clear hb))
    go_loopg [3] (a.size + 1) (fun kx v3 wr => ∃ j : Nat, v3 = .int .i64 (j : Int) ∧ j ≤ a.size ∧ a.size < j + kx ∧ Aside0 (Below w.heap.size w wr) ∧ Aside0 (((bytesOf a).drop j).all lowB = r))
    case atStart => exact ⟨0, rfl, by omega, by omega, B, H⟩
    case round =>
      clear H B
      obtain ⟨j, rfl, hj, hk, B, H⟩ := hrel
      have H := H.out
      by_cases hlt : j < a.size
      · have p := eq_true (show (0 : Int) ≤ (j : Int) by omega)
        have q := eq_true (show (j : Int) < (a.size : Int) by omega)
        have q' := decide_eq_true (show (j : Int) < (a.size : Int) by omega)
        have hx : ((a[j]'hlt).toNat : Int) = bt a (j : Int) := bt_at a (j : Int) (by rw [Int.toNat_natCast]; exact hlt)
        rw [bt_drop' hlt] at H
        simp only [List.all_cons] at H
        generalize bt a (j : Int) = x at *
        obtain ⟨d, rfl⟩ : ∃ d, gk = d + 1 := ⟨gk - 1, by omega⟩
        by_cases hx : lowB x = true
        · have H' := Aside0.mk (show ((bytesOf a).drop (j + 1)).all lowB = r by simpa [hx] using H)
          clear H
          unfold lowB at hx
          simp only [Bool.and_eq_true, decide_eq_true_eq] at hx
          have d1 : decide (x < 97) = false := decide_eq_false (by omega)
          have d2 : decide (122 < x) = false := decide_eq_false (by omega)
          go_wp2
          go_roundg d
          case measure => omega
          case rel => exact ⟨j + 1, congrArg (Value.int .i64) (Int.natCast_succ _).symm, by omega, by omega, B, H'⟩
        · have hr : r = false := by simpa [hx] using H.symm
          subst hr
          clear H
          unfold lowB at hx
          simp only [Bool.and_eq_true, decide_eq_true_eq] at hx
          by_cases h97 : x < 97
          · have d1 : decide (x < 97) = true := decide_eq_true h97
            go_wp2
            go_ret
            exact ⟨by simp, B.out⟩
          · have d1 : decide (x < 97) = false := decide_eq_false h97
            have d2 : decide (122 < x) = true := decide_eq_true (by omega)
            go_wp2
            go_ret
            exact ⟨by simp, B.out⟩
      · have q' := decide_eq_false (show ¬ (j : Int) < (a.size : Int) by omega)
        have hr : r = true := by
          rw [List.drop_of_length_le (by rw [bytesOf_length]; omega)] at H
          simpa using H.symm
        subst hr
        go_wp2
        go_ret
        exact ⟨by simp, B.out⟩
  · have hl : l1B (a.size : Int) 1 4 = false := by unfold l1B; simp; omega
    have hr : r = false := by
      rw [← hr, Bool.and_eq_false_iff, Bool.and_eq_false_iff, decide_eq_false_iff_not, decide_eq_false_iff_not]
      omega
    subst hr
    go_enter Tryd.func45, Tryd.ntmps45
    go_wp2_with (first
      | (go_at_call 28; with_reducible refine cl (clv (spec_l1In.M _ 1 4 _) (congrArg Value.bool hl)) B fun w1 hb B => ?_; clear hb))
    go_ret
    exact ⟨by simp, B.out⟩
theorem impl_lettersOnly.M : ∀ (n : Nat) (a : ByteArray) (w : World), a.size = n → Calls Tryd.prog 52 #[.string a] w fun e w' => e = .returned (.bool ((bytesOf a).all lowB)) ∧ Below w.heap.size w w'
  | 0, a, w, h => by
    have hn : a.toList = [] := (nil_iff a).mpr h
    go_enter Tryd.func52, Tryd.ntmps52
    go_wp2
    all_goals (first | go_ret | skip)
    all_goals (first | exact absurd hn (by assumption) | skip)
    refine ⟨?_, Below.refl _ _⟩
    have : bytesOf a = [] := List.eq_nil_of_length_eq_zero (by rw [bytesOf_length]; exact h)
    rw [this]
    rfl
  | n + 1, a, w, h => by
    have B := Aside0.mk (Below.refl w.heap.size w)
    have hn : ¬ a.toList = [] := fun q => by have := (nil_iff a).mp q; omega
    have IH := Aside0.mk (fun W => impl_lettersOnly.M n (a.extract 1 a.size) W (by simp [h]))
    have hb0 := bt_drop' (s := a) (j := 0) (by omega)
    have h0 : 0 < a.size := by omega
    have hx : ((a[0]'h0).toNat : Int) = bt a ((0 : Nat) : Int) := bt_at a 0 (by simp; omega)
    have p := eq_true (show (0 : Int) < (a.size : Int) by omega)
    have p1 := eq_true (show 0 < a.size by omega)
    have p2 := eq_true (show 1 ≤ a.size by omega)
    rw [List.drop_zero] at hb0
    rw [bytesOf_tail] at IH
    rw [hb0]
    simp only [List.all_cons]
    clear hb0
    rw [Nat.zero_add]
    generalize (List.drop 1 (bytesOf a)).all lowB = r at IH ⊢
    generalize bt a ((0 : Nat) : Int) = x at hx ⊢
    clear h
    go_enter Tryd.func52, Tryd.ntmps52
    go_wp2_with (first
      | (go_at_call 52; with_reducible refine cl (IH.out _) B fun w1 hb B => ?_; clear hb))
    all_goals go_ret
    all_goals (refine ⟨?_, B.out⟩; unfold lowB; simp_all; try omega)
theorem impl_KeyValid.M (a : ByteArray) (w : World) : Calls Tryd.prog 43 #[.string a] w fun e w' => e = .returned (.bool (keyB a)) ∧ Below w.heap.size w w' := by
  have B := Aside0.mk (Below.refl w.heap.size w)
  go_enter Tryd.func43, Tryd.ntmps43
  go_wp2_with (first
    | (go_at_call 52; with_reducible refine cl (impl_lettersOnly.M _ a _ rfl) B fun w1 hb B => ?_; clear hb))
  all_goals go_ret
  all_goals (refine ⟨?_, B.out⟩; unfold keyB; simp_all; try omega)

/-! The model of commands. -/
def cmdB (k : Int) (key : ByteArray) (v o : Int) : Bool :=
  (keyB key || (decide (k = 5) && decide (key.toList = ([] : List UInt8)))) &&
  (if k = 2 then l1B v 0 999 && decide (o = 0) else if k = 4 then l1B v 0 999 && l1B o (-1) 999 else decide (1 ≤ k ∧ k ≤ 5) && (decide (v = 0) && decide (o = 0)))

/-! The texts of commands. -/
def cmtM (k : Int) (x : ByteArray) (v o : Int) : ByteArray :=
  if cmdB k x v o then
    (if k = 1 then (⟨#[103, 101, 116, 32]⟩ : ByteArray) ++ x
     else if k = 2 then (((⟨#[112, 117, 116, 32]⟩ : ByteArray) ++ x) ++ (⟨#[32]⟩ : ByteArray)) ++ txtM v
     else if k = 3 then (⟨#[100, 114, 111, 112, 32]⟩ : ByteArray) ++ x
     else if k = 4 then (((((⟨#[115, 119, 97, 112, 32]⟩ : ByteArray) ++ x) ++ (⟨#[32]⟩ : ByteArray)) ++ txtM o) ++ (⟨#[32]⟩ : ByteArray)) ++ txtM v
     else if x.toList = ([] : List UInt8) then (⟨#[115, 101, 97, 108]⟩ : ByteArray) else (⟨#[115, 101, 97, 108, 32]⟩ : ByteArray) ++ x)
  else (⟨#[]⟩ : ByteArray)
theorem cmd_cases {k v o : Int} {x : ByteArray} (h : cmdB k x v o = true) : x.size ≤ 4 ∧ (k = 1 ∨ k = 2 ∨ k = 3 ∨ k = 4 ∨ k = 5) ∧ (-1 ≤ v ∧ v ≤ 999) ∧ (-1 ≤ o ∧ o ≤ 999) := by
  unfold cmdB at h
  rw [Bool.and_eq_true] at h
  obtain ⟨h1, h2⟩ := h
  have hx : x.size ≤ 4 := by
    rw [Bool.or_eq_true] at h1
    rcases h1 with h1 | h1
    · unfold keyB at h1
      simp only [Bool.and_eq_true, decide_eq_true_eq] at h1
      omega
    · simp only [Bool.and_eq_true, decide_eq_true_eq] at h1
      have := (nil_iff x).mp h1.2
      omega
  refine ⟨hx, ?_⟩
  by_cases k2 : k = 2
  · rw [if_pos k2] at h2
    simp only [l1B, Bool.and_eq_true, decide_eq_true_eq] at h2
    omega
  · rw [if_neg k2] at h2
    by_cases k4 : k = 4
    · rw [if_pos k4] at h2
      simp only [l1B, Bool.and_eq_true, decide_eq_true_eq] at h2
      omega
    · rw [if_neg k4] at h2
      simp only [Bool.and_eq_true, decide_eq_true_eq] at h2
      omega

theorem impl_valueValid.M (n : Int) (w : World) : Calls Tryd.prog 30 #[.int .i64 n] w fun e w' => e = .returned (.bool (l1B n 0 999)) ∧ Below w.heap.size w w' := by
  go_enter Tryd.func30, Tryd.ntmps30
  go_wp2
  all_goals go_ret
  all_goals (refine ⟨?_, Below.refl _ _⟩; unfold l1B; simp_all; try omega)

theorem impl_CommandValid.M (k : Int) (x : ByteArray) (v o : Int) (w : World) : Calls Tryd.prog 26 #[.agg #[.int .i64 k, .string x, .int .i64 v, .int .i64 o]] w fun e w' => e = .returned (.bool (cmdB k x v o)) ∧ Below w.heap.size w w' := by
  have B := Aside0.mk (Below.refl w.heap.size w)
  have hu := Tryd.underlying28
  go_enter Tryd.func26, Tryd.ntmps26
  go_wp2_with (first
    | ((with_reducible refine gate_dst (N := 1) rfl ?_); refine bx ?hg (N := 1) ?hd (cs := #[.int .i64 (k), .string x, .int .i64 (v), .int .i64 (o)]) (t := 28) ?hr B ?_; (case hd => rfl); (case hg => rfl); (case hr => first | (go_simp; done) | (go_simp; rfl)); intro g1 w1 hb B F1 L1 E1; obtain ⟨c1_0, c1_1, c1_2, c1_3⟩ := cs4 F1; clear hb E1)
    | (go_at_call 43; with_reducible refine cl (impl_KeyValid.M x _) B fun w2 hb B => ?_; replace F1 := bn F1 hb; clear c1_0 c1_1 c1_2 c1_3; obtain ⟨c1_0, c1_1, c1_2, c1_3⟩ := cs4 F1; clear hb)
    | (go_at_call 30; with_reducible refine cl (impl_valueValid.M v _) B fun w3 hb B => ?_; replace F1 := bn F1 hb; clear c1_0 c1_1 c1_2 c1_3; obtain ⟨c1_0, c1_1, c1_2, c1_3⟩ := cs4 F1; clear hb)
    | (go_at_call 30; with_reducible refine cl (impl_valueValid.M v _) B fun w4 hb B => ?_; replace F1 := bn F1 hb; clear c1_0 c1_1 c1_2 c1_3; obtain ⟨c1_0, c1_1, c1_2, c1_3⟩ := cs4 F1; clear hb)
    | (go_at_call 30; with_reducible refine cl (impl_valueValid.M o _) B fun w5 hb B => ?_; replace F1 := bn F1 hb; clear c1_0 c1_1 c1_2 c1_3; obtain ⟨c1_0, c1_1, c1_2, c1_3⟩ := cs4 F1; clear hb))
  all_goals (go_ret; exact ⟨congrArg (fun b => Ending.returned (Value.bool b)) (by unfold cmdB; grind [l1B]), B.out⟩)

theorem spec_CommandValid.M (k : Int) (x : ByteArray) (v o : Int) (w : World) : Calls Tryd.prog 32 #[.agg #[.int .i64 k, .string x, .int .i64 v, .int .i64 o]] w fun e w' => e = .returned (.bool (cmdB k x v o)) ∧ Below w.heap.size w w' := by
  have B := Aside0.mk (Below.refl w.heap.size w)
  have hu := Tryd.underlying28
  go_enter Tryd.func32, Tryd.ntmps32
  go_wp2_with (first
    | ((with_reducible refine gate_dst (N := 1) rfl ?_); refine bx ?hg (N := 1) ?hd (cs := #[.int .i64 (k), .string x, .int .i64 (v), .int .i64 (o)]) (t := 28) ?hr B ?_; (case hd => rfl); (case hg => rfl); (case hr => first | (go_simp; done) | (go_simp; rfl)); intro g1 w1 hb B F1 L1 E1; obtain ⟨c1_0, c1_1, c1_2, c1_3⟩ := cs4 F1; clear hb E1)
    | (go_at_call 45; with_reducible refine cl (spec_KeyValid.M x _) B fun w2 hb B => ?_; replace F1 := bn F1 hb; clear c1_0 c1_1 c1_2 c1_3; obtain ⟨c1_0, c1_1, c1_2, c1_3⟩ := cs4 F1; clear hb)
    | (go_at_call 28; with_reducible refine cl (spec_l1In.M v 0 999 _) B fun w3 hb B => ?_; replace F1 := bn F1 hb; clear c1_0 c1_1 c1_2 c1_3; obtain ⟨c1_0, c1_1, c1_2, c1_3⟩ := cs4 F1; clear hb)
    | (go_at_call 28; with_reducible refine cl (spec_l1In.M v 0 999 _) B fun w4 hb B => ?_; replace F1 := bn F1 hb; clear c1_0 c1_1 c1_2 c1_3; obtain ⟨c1_0, c1_1, c1_2, c1_3⟩ := cs4 F1; clear hb)
    | (go_at_call 28; with_reducible refine cl (spec_l1In.M o (-1) 999 _) B fun w5 hb B => ?_; replace F1 := bn F1 hb; clear hb))
  all_goals (go_ret; exact ⟨congrArg (fun b => Ending.returned (Value.bool b)) (by unfold cmdB; grind [l1B]), B.out⟩)

def spec_CommandText.T7 : Bool × List (List Nat × List Nat) := (true, [([], []), ([0], [0]), ([1], [1]), ([2], [2]), ([], []), ([4], [4]), ([5], [5]), ([3, 6], [3, 6]), ([7, 6, 0, 1, 2, 3, 4, 5, 6, 7], [7])])
def spec_CommandText.B7 : List Nat := [0, 1, 3, 7, 0, 16, 48, 127, 255]
theorem spec_CommandText.tab7 : rtab .any (opsOf Tryd.f14 7) = spec_CommandText.T7 := by kernel_rfl
theorem spec_CommandText.bits7 : waitsOk spec_CommandText.T7.2 spec_CommandText.B7 = true := by kernel_rfl
def spec_CommandText.T11 : Bool × List (List Nat × List Nat) := (true, [([], []), ([0], [0]), ([1], [1]), ([2], [2]), ([], []), ([4], [4]), ([5], [5]), ([3, 6], [3, 6]), ([7], [7]), ([], []), ([9], [9]), ([10, 6], [10]), ([8, 11], [8, 11]), ([12, 11, 0, 1, 2, 3, 4, 5, 6, 7, 8, 9, 10, 11, 12], [12])])
def spec_CommandText.B11 : List Nat := [0, 1, 3, 7, 0, 16, 48, 127, 255, 0, 512, 1648, 4095, 8191]
theorem spec_CommandText.tab11 : rtab .any (opsOf Tryd.f14 11) = spec_CommandText.T11 := by kernel_rfl
theorem spec_CommandText.bits11 : waitsOk spec_CommandText.T11.2 spec_CommandText.B11 = true := by kernel_rfl
theorem spec_CommandText.M (k : Int) (x : ByteArray) (v o : Int) (w : World) : Calls Tryd.prog 14 #[.agg #[.int .i64 k, .string x, .int .i64 v, .int .i64 o]] w fun e w' => e = .returned (.string (cmtM k x v o)) ∧ Below w.heap.size w w' := by
  have B := Aside0.mk (Below.refl w.heap.size w)
  have hu := Tryd.underlying28
  obtain ⟨r, hr⟩ : ∃ r, cmtM k x v o = r := ⟨_, rfl⟩
  rw [hr]
  by_cases hv : cmdB k x v o = true
  · obtain ⟨hx, hk, hvv, hoo⟩ := cmd_cases hv
    have h3v := txtM_size v
    have h3o := txtM_size o
    unfold cmtM at hr
    rw [if_pos hv] at hr
    rcases hk with rfl | rfl | rfl | rfl | rfl
    · (try subst hr)
      go_enter Tryd.func14, Tryd.ntmps14
      go_wp2_with (first
        | ((with_reducible refine gate_dst (N := 1) rfl ?_); refine bx ?hg (N := 1) ?hd (cs := #[.int .i64 (1), .string x, .int .i64 (v), .int .i64 (o)]) (t := 28) ?hr B ?_; (case hd => rfl); (case hg => rfl); (case hr => first | (go_simp; done) | (go_simp; rfl)); intro g1 w1 hb B F1 L1 E1; obtain ⟨c1_0, c1_1, c1_2, c1_3⟩ := cs4 F1; clear hb E1)
        | (go_at_call 32; with_reducible refine cl (spec_CommandValid.M 1 x v o _) B fun w2 hb B => ?_; replace F1 := bn F1 hb; clear c1_0 c1_1 c1_2 c1_3; obtain ⟨c1_0, c1_1, c1_2, c1_3⟩ := cs4 F1; clear hb))
      all_goals go_ret
      all_goals ((try subst hr); exact ⟨rfl, B.out⟩)
    · (try subst hr)
      go_enter Tryd.func14, Tryd.ntmps14
      go_wp2_with (first
        | ((with_reducible refine gate_dst (N := 1) rfl ?_); refine bx ?hg (N := 1) ?hd (cs := #[.int .i64 (2), .string x, .int .i64 (v), .int .i64 (o)]) (t := 28) ?hr B ?_; (case hd => rfl); (case hg => rfl); (case hr => first | (go_simp; done) | (go_simp; rfl)); intro g1 w1 hb B F1 L1 E1; obtain ⟨c1_0, c1_1, c1_2, c1_3⟩ := cs4 F1; clear hb E1)
        | (go_at_call 32; with_reducible refine cl (spec_CommandValid.M 2 x v o _) B fun w2 hb B => ?_; replace F1 := bn F1 hb; clear c1_0 c1_1 c1_2 c1_3; obtain ⟨c1_0, c1_1, c1_2, c1_3⟩ := cs4 F1; clear hb))
      all_goals (
        refine rg (n := 9) (S := fun W => W.heap[g1]? = some (.cells #[.int .i64 (2), .string x, .int .i64 (v), .int .i64 (o)] 28 (0, 0))) (ds := []) #[false, false, false, false, false, false, false, false, false] (by kernel_rfl) rfl rfl F1.out id B (fun w3 hb B hHeld => ?_)
        refine with_tabW spec_CommandText.tab7 spec_CommandText.bits7 (fun HT_ HW_ => ?_)
        replace F1 := bn F1 hb
        clear hb
        refine pu (i := 0) (N := some 15) (v := ?_) (bits 9 1) rfl rfl (any_of HT_.out (by kernel_rfl)) (fun _ _ _ h => h) (by kernel_rfl) ?_ ?_; rotate_left; (intro w'; go_simp; with_reducible rfl)
        refine ta (i := 1) (N := some 16) (v := ?_) (bits 9 3) rfl rfl (take_ofW HT_.out HW_.out (by kernel_rfl)) (fun _ _ _ h => h) (by kernel_rfl) hHeld ?_ ?_; rotate_left; (intro w' hS; have s0 := hS; obtain ⟨q0, q1, q2, q3⟩ := cs4 (Aside0.mk s0); go_simp; with_reducible rfl)
        refine pu (i := 2) (N := some 17) (v := .string ((⟨#[112, 117, 116, 32]⟩ : ByteArray) ++ x)) (bits 9 7) rfl rfl (any_of HT_.out (by kernel_rfl)) (fun _ _ _ h => h) (by kernel_rfl) ?_ ?_; (intro w'; go_simp; first | omega | rfl | (simp only [ByteArray.size_append] at *; omega))
        refine pu (i := 3) (N := some 18) (v := .string (((⟨#[112, 117, 116, 32]⟩ : ByteArray) ++ x) ++ (⟨#[32]⟩ : ByteArray))) (bits 9 15) rfl rfl (any_of HT_.out (by kernel_rfl)) (fun _ _ _ h => h) (by kernel_rfl) ?_ ?_; (intro w'; go_simp; first | omega | rfl | (simp only [ByteArray.size_append] at *; omega))
        refine pu (i := 4) (N := some 19) (v := ?_) (bits 9 31) rfl rfl (any_of HT_.out (by kernel_rfl)) (fun _ _ _ h => h) (by kernel_rfl) ?_ ?_; rotate_left; (intro w'; go_simp; with_reducible rfl)
        refine ta (i := 5) (N := some 20) (v := ?_) (bits 9 63) rfl rfl (take_ofW HT_.out HW_.out (by kernel_rfl)) (fun _ _ _ h => h) (by kernel_rfl) hHeld ?_ ?_; rotate_left; (intro w' hS; have s0 := hS; obtain ⟨q0, q1, q2, q3⟩ := cs4 (Aside0.mk s0); go_simp; with_reducible rfl)
        refine norm_ (a' := ?_) ?_ ?_
        rotate_left
        · simp only [Act.put, List.setIfInBounds_toArray, List.set_cons_zero, List.set_cons_succ, i64_w, i32_w]
          rfl
        refine one_ (i := 6) (N := some 21) (bits 9 127) rfl rfl (one_of HT_.out (by kernel_rfl)) (by decide) (fun K hK => ?_)
        refine goes_ Tryd.func29 (by kernel_rfl) rfl #[.int .i64 (v)] (by rfl) rfl rfl (by (try simp only [List.map_toArray, List.map_cons, List.map_nil]); rfl) ?_
        with_reducible refine cl (spec_l7Text.M v _ (by omega)) B fun w4 hb B => ?_
        replace F1 := bn F1 hb
        clear hb
        refine ⟨_, rfl, ?_⟩
        refine hK.out _ _ F1.out (fun hHeld => ?_)
        clear hK K
        refine norm_ (a' := ?_) ?_ ?_
        rotate_left
        · show Act.put _ (some 21) _ = _
          simp only [Act.put, List.setIfInBounds_toArray, List.set_cons_zero, List.set_cons_succ, i64_w, i32_w]
          rfl
        refine pu (i := 7) (N := some 22) (v := .string ((((⟨#[112, 117, 116, 32]⟩ : ByteArray) ++ x) ++ (⟨#[32]⟩ : ByteArray)) ++ txtM v)) (bits 9 255) rfl rfl (any_of HT_.out (by kernel_rfl)) (fun _ _ _ h => h) (by kernel_rfl) ?_ ?_; (intro w'; go_simp; first | omega | rfl | (simp only [ByteArray.size_append] at *; omega))
        refine pu (i := 8) (N := some 2) (v := ?_) (bits 9 511) rfl rfl (any_of HT_.out (by kernel_rfl)) (fun _ _ _ h => h) (by kernel_rfl) ?_ ?_; rotate_left; (intro w'; go_simp; with_reducible rfl)
        refine norm_ (a' := ?_) ?_ ?_
        rotate_left
        · simp only [Act.put, List.setIfInBounds_toArray, List.set_cons_zero, List.set_cons_succ, i64_w, i32_w]
          rfl
        refine done_ (done_of HT_.out (by kernel_rfl)) ?_)
      all_goals try go_wp2
      all_goals go_ret
      all_goals ((try subst hr); exact ⟨rfl, B.out⟩)
    · (try subst hr)
      go_enter Tryd.func14, Tryd.ntmps14
      go_wp2_with (first
        | ((with_reducible refine gate_dst (N := 1) rfl ?_); refine bx ?hg (N := 1) ?hd (cs := #[.int .i64 (3), .string x, .int .i64 (v), .int .i64 (o)]) (t := 28) ?hr B ?_; (case hd => rfl); (case hg => rfl); (case hr => first | (go_simp; done) | (go_simp; rfl)); intro g1 w1 hb B F1 L1 E1; obtain ⟨c1_0, c1_1, c1_2, c1_3⟩ := cs4 F1; clear hb E1)
        | (go_at_call 32; with_reducible refine cl (spec_CommandValid.M 3 x v o _) B fun w2 hb B => ?_; replace F1 := bn F1 hb; clear c1_0 c1_1 c1_2 c1_3; obtain ⟨c1_0, c1_1, c1_2, c1_3⟩ := cs4 F1; clear hb))
      all_goals go_ret
      all_goals ((try subst hr); exact ⟨rfl, B.out⟩)
    · (try subst hr)
      go_enter Tryd.func14, Tryd.ntmps14
      go_wp2_with (first
        | ((with_reducible refine gate_dst (N := 1) rfl ?_); refine bx ?hg (N := 1) ?hd (cs := #[.int .i64 (4), .string x, .int .i64 (v), .int .i64 (o)]) (t := 28) ?hr B ?_; (case hd => rfl); (case hg => rfl); (case hr => first | (go_simp; done) | (go_simp; rfl)); intro g1 w1 hb B F1 L1 E1; obtain ⟨c1_0, c1_1, c1_2, c1_3⟩ := cs4 F1; clear hb E1)
        | (go_at_call 32; with_reducible refine cl (spec_CommandValid.M 4 x v o _) B fun w2 hb B => ?_; replace F1 := bn F1 hb; clear c1_0 c1_1 c1_2 c1_3; obtain ⟨c1_0, c1_1, c1_2, c1_3⟩ := cs4 F1; clear hb))
      all_goals (
        refine rg (n := 14) (S := fun W => W.heap[g1]? = some (.cells #[.int .i64 (4), .string x, .int .i64 (v), .int .i64 (o)] 28 (0, 0))) (ds := []) #[false, false, false, false, false, false, false, false, false, false, false, false, false, false] (by kernel_rfl) rfl rfl F1.out id B (fun w3 hb B hHeld => ?_)
        refine with_tabW spec_CommandText.tab11 spec_CommandText.bits11 (fun HT_ HW_ => ?_)
        replace F1 := bn F1 hb
        clear hb
        refine pu (i := 0) (N := some 30) (v := ?_) (bits 14 1) rfl rfl (any_of HT_.out (by kernel_rfl)) (fun _ _ _ h => h) (by kernel_rfl) ?_ ?_; rotate_left; (intro w'; go_simp; with_reducible rfl)
        refine ta (i := 1) (N := some 31) (v := ?_) (bits 14 3) rfl rfl (take_ofW HT_.out HW_.out (by kernel_rfl)) (fun _ _ _ h => h) (by kernel_rfl) hHeld ?_ ?_; rotate_left; (intro w' hS; have s0 := hS; obtain ⟨q0, q1, q2, q3⟩ := cs4 (Aside0.mk s0); go_simp; with_reducible rfl)
        refine pu (i := 2) (N := some 32) (v := .string ((⟨#[115, 119, 97, 112, 32]⟩ : ByteArray) ++ x)) (bits 14 7) rfl rfl (any_of HT_.out (by kernel_rfl)) (fun _ _ _ h => h) (by kernel_rfl) ?_ ?_; (intro w'; go_simp; first | omega | rfl | (simp only [ByteArray.size_append] at *; omega))
        refine pu (i := 3) (N := some 33) (v := .string (((⟨#[115, 119, 97, 112, 32]⟩ : ByteArray) ++ x) ++ (⟨#[32]⟩ : ByteArray))) (bits 14 15) rfl rfl (any_of HT_.out (by kernel_rfl)) (fun _ _ _ h => h) (by kernel_rfl) ?_ ?_; (intro w'; go_simp; first | omega | rfl | (simp only [ByteArray.size_append] at *; omega))
        refine pu (i := 4) (N := some 34) (v := ?_) (bits 14 31) rfl rfl (any_of HT_.out (by kernel_rfl)) (fun _ _ _ h => h) (by kernel_rfl) ?_ ?_; rotate_left; (intro w'; go_simp; with_reducible rfl)
        refine ta (i := 5) (N := some 35) (v := ?_) (bits 14 63) rfl rfl (take_ofW HT_.out HW_.out (by kernel_rfl)) (fun _ _ _ h => h) (by kernel_rfl) hHeld ?_ ?_; rotate_left; (intro w' hS; have s0 := hS; obtain ⟨q0, q1, q2, q3⟩ := cs4 (Aside0.mk s0); go_simp; with_reducible rfl)
        refine pu (i := 9) (N := some 39) (v := ?_) (bits 14 575) rfl rfl (any_of HT_.out (by kernel_rfl)) (fun _ _ _ h => h) (by kernel_rfl) ?_ ?_; rotate_left; (intro w'; go_simp; with_reducible rfl)
        refine ta (i := 10) (N := some 40) (v := ?_) (bits 14 1599) rfl rfl (take_ofW HT_.out HW_.out (by kernel_rfl)) (fun _ _ _ h => h) (by kernel_rfl) hHeld ?_ ?_; rotate_left; (intro w' hS; have s0 := hS; obtain ⟨q0, q1, q2, q3⟩ := cs4 (Aside0.mk s0); go_simp; with_reducible rfl)
        refine norm_ (a' := ?_) ?_ ?_
        rotate_left
        · simp only [Act.put, List.setIfInBounds_toArray, List.set_cons_zero, List.set_cons_succ, i64_w, i32_w]
          rfl
        refine one_ (i := 6) (N := some 36) (bits 14 1663) rfl rfl (one_of HT_.out (by kernel_rfl)) (by decide) (fun K hK => ?_)
        refine goes_ Tryd.func29 (by kernel_rfl) rfl #[.int .i64 (o)] (by rfl) rfl rfl (by (try simp only [List.map_toArray, List.map_cons, List.map_nil]); rfl) ?_
        with_reducible refine cl (spec_l7Text.M o _ (by omega)) B fun w4 hb B => ?_
        replace F1 := bn F1 hb
        clear hb
        refine ⟨_, rfl, ?_⟩
        refine hK.out _ _ F1.out (fun hHeld => ?_)
        clear hK K
        refine norm_ (a' := ?_) ?_ ?_
        rotate_left
        · show Act.put _ (some 36) _ = _
          simp only [Act.put, List.setIfInBounds_toArray, List.set_cons_zero, List.set_cons_succ, i64_w, i32_w]
          rfl
        refine pu (i := 7) (N := some 37) (v := .string ((((⟨#[115, 119, 97, 112, 32]⟩ : ByteArray) ++ x) ++ (⟨#[32]⟩ : ByteArray)) ++ txtM o)) (bits 14 1791) rfl rfl (any_of HT_.out (by kernel_rfl)) (fun _ _ _ h => h) (by kernel_rfl) ?_ ?_; (intro w'; go_simp; first | omega | rfl | (simp only [ByteArray.size_append] at *; omega))
        refine pu (i := 8) (N := some 38) (v := .string (((((⟨#[115, 119, 97, 112, 32]⟩ : ByteArray) ++ x) ++ (⟨#[32]⟩ : ByteArray)) ++ txtM o) ++ (⟨#[32]⟩ : ByteArray))) (bits 14 2047) rfl rfl (any_of HT_.out (by kernel_rfl)) (fun _ _ _ h => h) (by kernel_rfl) ?_ ?_; (intro w'; go_simp; first | omega | rfl | (simp only [ByteArray.size_append] at *; omega))
        refine norm_ (a' := ?_) ?_ ?_
        rotate_left
        · simp only [Act.put, List.setIfInBounds_toArray, List.set_cons_zero, List.set_cons_succ, i64_w, i32_w]
          rfl
        refine one_ (i := 11) (N := some 41) (bits 14 4095) rfl rfl (one_of HT_.out (by kernel_rfl)) (by decide) (fun K hK => ?_)
        refine goes_ Tryd.func29 (by kernel_rfl) rfl #[.int .i64 (v)] (by rfl) rfl rfl (by (try simp only [List.map_toArray, List.map_cons, List.map_nil]); rfl) ?_
        with_reducible refine cl (spec_l7Text.M v _ (by omega)) B fun w5 hb B => ?_
        replace F1 := bn F1 hb
        clear hb
        refine ⟨_, rfl, ?_⟩
        refine hK.out _ _ F1.out (fun hHeld => ?_)
        clear hK K
        refine norm_ (a' := ?_) ?_ ?_
        rotate_left
        · show Act.put _ (some 41) _ = _
          simp only [Act.put, List.setIfInBounds_toArray, List.set_cons_zero, List.set_cons_succ, i64_w, i32_w]
          rfl
        refine pu (i := 12) (N := some 42) (v := .string ((((((⟨#[115, 119, 97, 112, 32]⟩ : ByteArray) ++ x) ++ (⟨#[32]⟩ : ByteArray)) ++ txtM o) ++ (⟨#[32]⟩ : ByteArray)) ++ txtM v)) (bits 14 8191) rfl rfl (any_of HT_.out (by kernel_rfl)) (fun _ _ _ h => h) (by kernel_rfl) ?_ ?_; (intro w'; go_simp; first | omega | rfl | (simp only [ByteArray.size_append] at *; omega))
        refine pu (i := 13) (N := some 2) (v := ?_) (bits 14 16383) rfl rfl (any_of HT_.out (by kernel_rfl)) (fun _ _ _ h => h) (by kernel_rfl) ?_ ?_; rotate_left; (intro w'; go_simp; with_reducible rfl)
        refine norm_ (a' := ?_) ?_ ?_
        rotate_left
        · simp only [Act.put, List.setIfInBounds_toArray, List.set_cons_zero, List.set_cons_succ, i64_w, i32_w]
          rfl
        refine done_ (done_of HT_.out (by kernel_rfl)) ?_)
      all_goals try go_wp2
      all_goals go_ret
      all_goals ((try subst hr); exact ⟨rfl, B.out⟩)
    · rw [if_neg (by decide), if_neg (by decide), if_neg (by decide), if_neg (by decide)] at hr
      go_enter Tryd.func14, Tryd.ntmps14
      go_wp2_with (first
        | ((with_reducible refine gate_dst (N := 1) rfl ?_); refine bx ?hg (N := 1) ?hd (cs := #[.int .i64 (5), .string x, .int .i64 (v), .int .i64 (o)]) (t := 28) ?hr B ?_; (case hd => rfl); (case hg => rfl); (case hr => first | (go_simp; done) | (go_simp; rfl)); intro g1 w1 hb B F1 L1 E1; obtain ⟨c1_0, c1_1, c1_2, c1_3⟩ := cs4 F1; clear hb E1)
        | (go_at_call 32; with_reducible refine cl (spec_CommandValid.M 5 x v o _) B fun w2 hb B => ?_; replace F1 := bn F1 hb; clear c1_0 c1_1 c1_2 c1_3; obtain ⟨c1_0, c1_1, c1_2, c1_3⟩ := cs4 F1; clear hb))
      all_goals go_ret
      all_goals ((refine ⟨?_, B.out⟩; rw [← hr]; first | (rw [if_pos (by simp_all)]; rfl) | (rw [if_neg (by simp_all)]; rfl)))
  · have hM : r = (⟨#[]⟩ : ByteArray) := by rw [← hr]; unfold cmtM; rw [if_neg hv]
    replace hv := Bool.eq_false_iff.mpr hv
    clear hr
    go_enter Tryd.func14, Tryd.ntmps14
    go_wp2_with (first
      | ((with_reducible refine gate_dst (N := 1) rfl ?_); refine bx ?hg (N := 1) ?hd (cs := #[.int .i64 (k), .string x, .int .i64 (v), .int .i64 (o)]) (t := 28) ?hr B ?_; (case hd => rfl); (case hg => rfl); (case hr => first | (go_simp; done) | (go_simp; rfl)); intro g1 w1 hb B F1 L1 E1; obtain ⟨c1_0, c1_1, c1_2, c1_3⟩ := cs4 F1; clear hb E1)
      | (go_at_call 32; with_reducible refine cl (spec_CommandValid.M k x v o _) B fun w2 hb B => ?_; replace F1 := bn F1 hb; clear hb))
    all_goals go_ret
    all_goals (subst hM; exact ⟨rfl, B.out⟩)
def impl_CommandText.T7 : Bool × List (List Nat × List Nat) := (true, [([], []), ([0], [0]), ([1], [1]), ([2], [2]), ([], []), ([4], [4]), ([5], [5]), ([3, 6], [3, 6]), ([7, 6, 0, 1, 2, 3, 4, 5, 6, 7], [7])])
def impl_CommandText.B7 : List Nat := [0, 1, 3, 7, 0, 16, 48, 127, 255]
theorem impl_CommandText.tab7 : rtab .any (opsOf Tryd.f16 7) = impl_CommandText.T7 := by kernel_rfl
theorem impl_CommandText.bits7 : waitsOk impl_CommandText.T7.2 impl_CommandText.B7 = true := by kernel_rfl
def impl_CommandText.T11 : Bool × List (List Nat × List Nat) := (true, [([], []), ([0], [0]), ([1], [1]), ([2], [2]), ([], []), ([4], [4]), ([5], [5]), ([3, 6], [3, 6]), ([7], [7]), ([], []), ([9], [9]), ([10, 6], [10]), ([8, 11], [8, 11]), ([12, 11, 0, 1, 2, 3, 4, 5, 6, 7, 8, 9, 10, 11, 12], [12])])
def impl_CommandText.B11 : List Nat := [0, 1, 3, 7, 0, 16, 48, 127, 255, 0, 512, 1648, 4095, 8191]
theorem impl_CommandText.tab11 : rtab .any (opsOf Tryd.f16 11) = impl_CommandText.T11 := by kernel_rfl
theorem impl_CommandText.bits11 : waitsOk impl_CommandText.T11.2 impl_CommandText.B11 = true := by kernel_rfl
theorem impl_CommandText.M (k : Int) (x : ByteArray) (v o : Int) (w : World) (ht : TT w) : Calls Tryd.prog 16 #[.agg #[.int .i64 k, .string x, .int .i64 v, .int .i64 o]] w fun e w' => e = .returned (.string (cmtM k x v o)) ∧ Below w.heap.size w w' := by
  have B := Aside0.mk (Below.refl w.heap.size w)
  have hu := Tryd.underlying28
  have HT := Aside0.mk ht
  clear ht
  obtain ⟨r, hr⟩ : ∃ r, cmtM k x v o = r := ⟨_, rfl⟩
  rw [hr]
  by_cases hv : cmdB k x v o = true
  · obtain ⟨hx, hk, hvv, hoo⟩ := cmd_cases hv
    have h3v := txtM_size v
    have h3o := txtM_size o
    unfold cmtM at hr
    rw [if_pos hv] at hr
    rcases hk with rfl | rfl | rfl | rfl | rfl
    · (try subst hr)
      go_enter Tryd.func16, Tryd.ntmps16
      go_wp2_with (first
        | ((with_reducible refine gate_dst (N := 1) rfl ?_); refine bx ?hg (N := 1) ?hd (cs := #[.int .i64 (1), .string x, .int .i64 (v), .int .i64 (o)]) (t := 28) ?hr B ?_; (case hd => rfl); (case hg => rfl); (case hr => first | (go_simp; done) | (go_simp; rfl)); intro g1 w1 hb B F1 L1 E1; obtain ⟨c1_0, c1_1, c1_2, c1_3⟩ := cs4 F1; clear hb E1)
        | (go_at_call 26; with_reducible refine cl (impl_CommandValid.M 1 x v o _) B fun w2 hb B => ?_; replace F1 := bn F1 hb; clear c1_0 c1_1 c1_2 c1_3; obtain ⟨c1_0, c1_1, c1_2, c1_3⟩ := cs4 F1; clear hb))
      all_goals go_ret
      all_goals ((try subst hr); exact ⟨rfl, B.out⟩)
    · (try subst hr)
      go_enter Tryd.func16, Tryd.ntmps16
      go_wp2_with (first
        | ((with_reducible refine gate_dst (N := 1) rfl ?_); refine bx ?hg (N := 1) ?hd (cs := #[.int .i64 (2), .string x, .int .i64 (v), .int .i64 (o)]) (t := 28) ?hr B ?_; (case hd => rfl); (case hg => rfl); (case hr => first | (go_simp; done) | (go_simp; rfl)); intro g1 w1 hb B F1 L1 E1; obtain ⟨c1_0, c1_1, c1_2, c1_3⟩ := cs4 F1; clear hb E1)
        | (go_at_call 26; with_reducible refine cl (impl_CommandValid.M 2 x v o _) B fun w2 hb B => ?_; replace F1 := bn F1 hb; clear c1_0 c1_1 c1_2 c1_3; obtain ⟨c1_0, c1_1, c1_2, c1_3⟩ := cs4 F1; clear hb))
      all_goals (
        refine rg (n := 9) (S := fun W => W.heap[g1]? = some (.cells #[.int .i64 (2), .string x, .int .i64 (v), .int .i64 (o)] 28 (0, 0))) (ds := []) #[false, false, false, false, false, false, false, false, false] (by kernel_rfl) rfl rfl F1.out id B (fun w3 hb B hHeld => ?_)
        refine with_tabW impl_CommandText.tab7 impl_CommandText.bits7 (fun HT_ HW_ => ?_)
        replace F1 := bn F1 hb
        clear hb
        refine pu (i := 0) (N := some 15) (v := ?_) (bits 9 1) rfl rfl (any_of HT_.out (by kernel_rfl)) (fun _ _ _ h => h) (by kernel_rfl) ?_ ?_; rotate_left; (intro w'; go_simp; with_reducible rfl)
        refine ta (i := 1) (N := some 16) (v := ?_) (bits 9 3) rfl rfl (take_ofW HT_.out HW_.out (by kernel_rfl)) (fun _ _ _ h => h) (by kernel_rfl) hHeld ?_ ?_; rotate_left; (intro w' hS; have s0 := hS; obtain ⟨q0, q1, q2, q3⟩ := cs4 (Aside0.mk s0); go_simp; with_reducible rfl)
        refine pu (i := 2) (N := some 17) (v := .string ((⟨#[112, 117, 116, 32]⟩ : ByteArray) ++ x)) (bits 9 7) rfl rfl (any_of HT_.out (by kernel_rfl)) (fun _ _ _ h => h) (by kernel_rfl) ?_ ?_; (intro w'; go_simp; first | omega | rfl | (simp only [ByteArray.size_append] at *; omega))
        refine pu (i := 3) (N := some 18) (v := .string (((⟨#[112, 117, 116, 32]⟩ : ByteArray) ++ x) ++ (⟨#[32]⟩ : ByteArray))) (bits 9 15) rfl rfl (any_of HT_.out (by kernel_rfl)) (fun _ _ _ h => h) (by kernel_rfl) ?_ ?_; (intro w'; go_simp; first | omega | rfl | (simp only [ByteArray.size_append] at *; omega))
        refine pu (i := 4) (N := some 19) (v := ?_) (bits 9 31) rfl rfl (any_of HT_.out (by kernel_rfl)) (fun _ _ _ h => h) (by kernel_rfl) ?_ ?_; rotate_left; (intro w'; go_simp; with_reducible rfl)
        refine ta (i := 5) (N := some 20) (v := ?_) (bits 9 63) rfl rfl (take_ofW HT_.out HW_.out (by kernel_rfl)) (fun _ _ _ h => h) (by kernel_rfl) hHeld ?_ ?_; rotate_left; (intro w' hS; have s0 := hS; obtain ⟨q0, q1, q2, q3⟩ := cs4 (Aside0.mk s0); go_simp; with_reducible rfl)
        refine norm_ (a' := ?_) ?_ ?_
        rotate_left
        · simp only [Act.put, List.setIfInBounds_toArray, List.set_cons_zero, List.set_cons_succ, i64_w, i32_w]
          rfl
        refine one_ (i := 6) (N := some 21) (bits 9 127) rfl rfl (one_of HT_.out (by kernel_rfl)) (by decide) (fun K hK => ?_)
        refine goes_ Tryd.func31 (by kernel_rfl) rfl #[.int .i64 (v)] (by rfl) rfl rfl (by (try simp only [List.map_toArray, List.map_cons, List.map_nil]); rfl) ?_
        with_reducible refine cl (strconv_Itoa.M v w _ HT B (by omega)) B fun w4 hb B => ?_
        replace F1 := bn F1 hb
        clear hb
        refine ⟨_, rfl, ?_⟩
        refine hK.out _ _ F1.out (fun hHeld => ?_)
        clear hK K
        refine norm_ (a' := ?_) ?_ ?_
        rotate_left
        · show Act.put _ (some 21) _ = _
          simp only [Act.put, List.setIfInBounds_toArray, List.set_cons_zero, List.set_cons_succ, i64_w, i32_w]
          rfl
        refine pu (i := 7) (N := some 22) (v := .string ((((⟨#[112, 117, 116, 32]⟩ : ByteArray) ++ x) ++ (⟨#[32]⟩ : ByteArray)) ++ txtM v)) (bits 9 255) rfl rfl (any_of HT_.out (by kernel_rfl)) (fun _ _ _ h => h) (by kernel_rfl) ?_ ?_; (intro w'; go_simp; first | omega | rfl | (simp only [ByteArray.size_append] at *; omega))
        refine pu (i := 8) (N := some 2) (v := ?_) (bits 9 511) rfl rfl (any_of HT_.out (by kernel_rfl)) (fun _ _ _ h => h) (by kernel_rfl) ?_ ?_; rotate_left; (intro w'; go_simp; with_reducible rfl)
        refine norm_ (a' := ?_) ?_ ?_
        rotate_left
        · simp only [Act.put, List.setIfInBounds_toArray, List.set_cons_zero, List.set_cons_succ, i64_w, i32_w]
          rfl
        refine done_ (done_of HT_.out (by kernel_rfl)) ?_)
      all_goals try go_wp2
      all_goals go_ret
      all_goals ((try subst hr); exact ⟨rfl, B.out⟩)
    · (try subst hr)
      go_enter Tryd.func16, Tryd.ntmps16
      go_wp2_with (first
        | ((with_reducible refine gate_dst (N := 1) rfl ?_); refine bx ?hg (N := 1) ?hd (cs := #[.int .i64 (3), .string x, .int .i64 (v), .int .i64 (o)]) (t := 28) ?hr B ?_; (case hd => rfl); (case hg => rfl); (case hr => first | (go_simp; done) | (go_simp; rfl)); intro g1 w1 hb B F1 L1 E1; obtain ⟨c1_0, c1_1, c1_2, c1_3⟩ := cs4 F1; clear hb E1)
        | (go_at_call 26; with_reducible refine cl (impl_CommandValid.M 3 x v o _) B fun w2 hb B => ?_; replace F1 := bn F1 hb; clear c1_0 c1_1 c1_2 c1_3; obtain ⟨c1_0, c1_1, c1_2, c1_3⟩ := cs4 F1; clear hb))
      all_goals go_ret
      all_goals ((try subst hr); exact ⟨rfl, B.out⟩)
    · (try subst hr)
      go_enter Tryd.func16, Tryd.ntmps16
      go_wp2_with (first
        | ((with_reducible refine gate_dst (N := 1) rfl ?_); refine bx ?hg (N := 1) ?hd (cs := #[.int .i64 (4), .string x, .int .i64 (v), .int .i64 (o)]) (t := 28) ?hr B ?_; (case hd => rfl); (case hg => rfl); (case hr => first | (go_simp; done) | (go_simp; rfl)); intro g1 w1 hb B F1 L1 E1; obtain ⟨c1_0, c1_1, c1_2, c1_3⟩ := cs4 F1; clear hb E1)
        | (go_at_call 26; with_reducible refine cl (impl_CommandValid.M 4 x v o _) B fun w2 hb B => ?_; replace F1 := bn F1 hb; clear c1_0 c1_1 c1_2 c1_3; obtain ⟨c1_0, c1_1, c1_2, c1_3⟩ := cs4 F1; clear hb))
      all_goals (
        refine rg (n := 14) (S := fun W => W.heap[g1]? = some (.cells #[.int .i64 (4), .string x, .int .i64 (v), .int .i64 (o)] 28 (0, 0))) (ds := []) #[false, false, false, false, false, false, false, false, false, false, false, false, false, false] (by kernel_rfl) rfl rfl F1.out id B (fun w3 hb B hHeld => ?_)
        refine with_tabW impl_CommandText.tab11 impl_CommandText.bits11 (fun HT_ HW_ => ?_)
        replace F1 := bn F1 hb
        clear hb
        refine pu (i := 0) (N := some 30) (v := ?_) (bits 14 1) rfl rfl (any_of HT_.out (by kernel_rfl)) (fun _ _ _ h => h) (by kernel_rfl) ?_ ?_; rotate_left; (intro w'; go_simp; with_reducible rfl)
        refine ta (i := 1) (N := some 31) (v := ?_) (bits 14 3) rfl rfl (take_ofW HT_.out HW_.out (by kernel_rfl)) (fun _ _ _ h => h) (by kernel_rfl) hHeld ?_ ?_; rotate_left; (intro w' hS; have s0 := hS; obtain ⟨q0, q1, q2, q3⟩ := cs4 (Aside0.mk s0); go_simp; with_reducible rfl)
        refine pu (i := 2) (N := some 32) (v := .string ((⟨#[115, 119, 97, 112, 32]⟩ : ByteArray) ++ x)) (bits 14 7) rfl rfl (any_of HT_.out (by kernel_rfl)) (fun _ _ _ h => h) (by kernel_rfl) ?_ ?_; (intro w'; go_simp; first | omega | rfl | (simp only [ByteArray.size_append] at *; omega))
        refine pu (i := 3) (N := some 33) (v := .string (((⟨#[115, 119, 97, 112, 32]⟩ : ByteArray) ++ x) ++ (⟨#[32]⟩ : ByteArray))) (bits 14 15) rfl rfl (any_of HT_.out (by kernel_rfl)) (fun _ _ _ h => h) (by kernel_rfl) ?_ ?_; (intro w'; go_simp; first | omega | rfl | (simp only [ByteArray.size_append] at *; omega))
        refine pu (i := 4) (N := some 34) (v := ?_) (bits 14 31) rfl rfl (any_of HT_.out (by kernel_rfl)) (fun _ _ _ h => h) (by kernel_rfl) ?_ ?_; rotate_left; (intro w'; go_simp; with_reducible rfl)
        refine ta (i := 5) (N := some 35) (v := ?_) (bits 14 63) rfl rfl (take_ofW HT_.out HW_.out (by kernel_rfl)) (fun _ _ _ h => h) (by kernel_rfl) hHeld ?_ ?_; rotate_left; (intro w' hS; have s0 := hS; obtain ⟨q0, q1, q2, q3⟩ := cs4 (Aside0.mk s0); go_simp; with_reducible rfl)
        refine pu (i := 9) (N := some 39) (v := ?_) (bits 14 575) rfl rfl (any_of HT_.out (by kernel_rfl)) (fun _ _ _ h => h) (by kernel_rfl) ?_ ?_; rotate_left; (intro w'; go_simp; with_reducible rfl)
        refine ta (i := 10) (N := some 40) (v := ?_) (bits 14 1599) rfl rfl (take_ofW HT_.out HW_.out (by kernel_rfl)) (fun _ _ _ h => h) (by kernel_rfl) hHeld ?_ ?_; rotate_left; (intro w' hS; have s0 := hS; obtain ⟨q0, q1, q2, q3⟩ := cs4 (Aside0.mk s0); go_simp; with_reducible rfl)
        refine norm_ (a' := ?_) ?_ ?_
        rotate_left
        · simp only [Act.put, List.setIfInBounds_toArray, List.set_cons_zero, List.set_cons_succ, i64_w, i32_w]
          rfl
        refine one_ (i := 6) (N := some 36) (bits 14 1663) rfl rfl (one_of HT_.out (by kernel_rfl)) (by decide) (fun K hK => ?_)
        refine goes_ Tryd.func31 (by kernel_rfl) rfl #[.int .i64 (o)] (by rfl) rfl rfl (by (try simp only [List.map_toArray, List.map_cons, List.map_nil]); rfl) ?_
        with_reducible refine cl (strconv_Itoa.M o w _ HT B (by omega)) B fun w4 hb B => ?_
        replace F1 := bn F1 hb
        clear hb
        refine ⟨_, rfl, ?_⟩
        refine hK.out _ _ F1.out (fun hHeld => ?_)
        clear hK K
        refine norm_ (a' := ?_) ?_ ?_
        rotate_left
        · show Act.put _ (some 36) _ = _
          simp only [Act.put, List.setIfInBounds_toArray, List.set_cons_zero, List.set_cons_succ, i64_w, i32_w]
          rfl
        refine pu (i := 7) (N := some 37) (v := .string ((((⟨#[115, 119, 97, 112, 32]⟩ : ByteArray) ++ x) ++ (⟨#[32]⟩ : ByteArray)) ++ txtM o)) (bits 14 1791) rfl rfl (any_of HT_.out (by kernel_rfl)) (fun _ _ _ h => h) (by kernel_rfl) ?_ ?_; (intro w'; go_simp; first | omega | rfl | (simp only [ByteArray.size_append] at *; omega))
        refine pu (i := 8) (N := some 38) (v := .string (((((⟨#[115, 119, 97, 112, 32]⟩ : ByteArray) ++ x) ++ (⟨#[32]⟩ : ByteArray)) ++ txtM o) ++ (⟨#[32]⟩ : ByteArray))) (bits 14 2047) rfl rfl (any_of HT_.out (by kernel_rfl)) (fun _ _ _ h => h) (by kernel_rfl) ?_ ?_; (intro w'; go_simp; first | omega | rfl | (simp only [ByteArray.size_append] at *; omega))
        refine norm_ (a' := ?_) ?_ ?_
        rotate_left
        · simp only [Act.put, List.setIfInBounds_toArray, List.set_cons_zero, List.set_cons_succ, i64_w, i32_w]
          rfl
        refine one_ (i := 11) (N := some 41) (bits 14 4095) rfl rfl (one_of HT_.out (by kernel_rfl)) (by decide) (fun K hK => ?_)
        refine goes_ Tryd.func31 (by kernel_rfl) rfl #[.int .i64 (v)] (by rfl) rfl rfl (by (try simp only [List.map_toArray, List.map_cons, List.map_nil]); rfl) ?_
        with_reducible refine cl (strconv_Itoa.M v w _ HT B (by omega)) B fun w5 hb B => ?_
        replace F1 := bn F1 hb
        clear hb
        refine ⟨_, rfl, ?_⟩
        refine hK.out _ _ F1.out (fun hHeld => ?_)
        clear hK K
        refine norm_ (a' := ?_) ?_ ?_
        rotate_left
        · show Act.put _ (some 41) _ = _
          simp only [Act.put, List.setIfInBounds_toArray, List.set_cons_zero, List.set_cons_succ, i64_w, i32_w]
          rfl
        refine pu (i := 12) (N := some 42) (v := .string ((((((⟨#[115, 119, 97, 112, 32]⟩ : ByteArray) ++ x) ++ (⟨#[32]⟩ : ByteArray)) ++ txtM o) ++ (⟨#[32]⟩ : ByteArray)) ++ txtM v)) (bits 14 8191) rfl rfl (any_of HT_.out (by kernel_rfl)) (fun _ _ _ h => h) (by kernel_rfl) ?_ ?_; (intro w'; go_simp; first | omega | rfl | (simp only [ByteArray.size_append] at *; omega))
        refine pu (i := 13) (N := some 2) (v := ?_) (bits 14 16383) rfl rfl (any_of HT_.out (by kernel_rfl)) (fun _ _ _ h => h) (by kernel_rfl) ?_ ?_; rotate_left; (intro w'; go_simp; with_reducible rfl)
        refine norm_ (a' := ?_) ?_ ?_
        rotate_left
        · simp only [Act.put, List.setIfInBounds_toArray, List.set_cons_zero, List.set_cons_succ, i64_w, i32_w]
          rfl
        refine done_ (done_of HT_.out (by kernel_rfl)) ?_)
      all_goals try go_wp2
      all_goals go_ret
      all_goals ((try subst hr); exact ⟨rfl, B.out⟩)
    · rw [if_neg (by decide), if_neg (by decide), if_neg (by decide), if_neg (by decide)] at hr
      go_enter Tryd.func16, Tryd.ntmps16
      go_wp2_with (first
        | ((with_reducible refine gate_dst (N := 1) rfl ?_); refine bx ?hg (N := 1) ?hd (cs := #[.int .i64 (5), .string x, .int .i64 (v), .int .i64 (o)]) (t := 28) ?hr B ?_; (case hd => rfl); (case hg => rfl); (case hr => first | (go_simp; done) | (go_simp; rfl)); intro g1 w1 hb B F1 L1 E1; obtain ⟨c1_0, c1_1, c1_2, c1_3⟩ := cs4 F1; clear hb E1)
        | (go_at_call 26; with_reducible refine cl (impl_CommandValid.M 5 x v o _) B fun w2 hb B => ?_; replace F1 := bn F1 hb; clear c1_0 c1_1 c1_2 c1_3; obtain ⟨c1_0, c1_1, c1_2, c1_3⟩ := cs4 F1; clear hb))
      all_goals go_ret
      all_goals ((refine ⟨?_, B.out⟩; rw [← hr]; first | (rw [if_pos (by simp_all)]; rfl) | (rw [if_neg (by simp_all)]; rfl)))
  · have hM : r = (⟨#[]⟩ : ByteArray) := by rw [← hr]; unfold cmtM; rw [if_neg hv]
    replace hv := Bool.eq_false_iff.mpr hv
    clear hr
    go_enter Tryd.func16, Tryd.ntmps16
    go_wp2_with (first
      | ((with_reducible refine gate_dst (N := 1) rfl ?_); refine bx ?hg (N := 1) ?hd (cs := #[.int .i64 (k), .string x, .int .i64 (v), .int .i64 (o)]) (t := 28) ?hr B ?_; (case hd => rfl); (case hg => rfl); (case hr => first | (go_simp; done) | (go_simp; rfl)); intro g1 w1 hb B F1 L1 E1; obtain ⟨c1_0, c1_1, c1_2, c1_3⟩ := cs4 F1; clear hb E1)
      | (go_at_call 26; with_reducible refine cl (impl_CommandValid.M k x v o _) B fun w2 hb B => ?_; replace F1 := bn F1 hb; clear hb))
    all_goals go_ret
    all_goals (subst hM; exact ⟨rfl, B.out⟩)

end Go.Proofs.YtnogoanlfmflcaaDoor.PFnReadCommand
