/- Walks over models, part 0: base nums txtm strs keys keyval repm numm rri num7 rrm reply sread iread lawFnExactReadReply. -/
import Derived.Test.YtnogoanlfmflcaaDoorPFnExactReadReplyx0
import Derived.Deep.RegionHeld3
import Derived.Test.YtnogoanlfmflcaaDoorShelfB
import Derived.Lib.AtoiTie
import Derived.Lib.ItoaNum
import Derived.Lib.AppendIntMem
import Derived.Test.YtnogoanlfmflcaaDoorShelfA
import Derived.Test.YtnogoanlfmflcaaDoorPFnExactReadReplyx2
import Derived.Lib.Strings
import Derived.Laws.BytesArg
import Derived.Test.YtnogoanlfmflcaaDoorPFnExactReadReplyx4
namespace Go.Proofs.YtnogoanlfmflcaaDoor.PFnExactReadReply
open Go.RowKit Go.Proofs.YtnogoanlfmflcaaDoorW.PrintWords Go.Proofs.YtnogoanlfmflcaaDoorW.PrintLast Go.Proofs.YtnogoanlfmflcaaDoorW.PrintMore
set_option linter.unusedVariables false
set_option linter.unusedSimpArgs false
set_option maxHeartbeats 4000000
set_option maxRecDepth 100000
def bits (n m : Nat) : Array Bool := ((List.range n).map fun i => m.testBit i).toArray
/-! Words: a call by its contract, boxes and rows carried on. -/
section
variable {P : Program} {F : FuncId} {args : Array Value} {w W W' : World} {v : Value} {Q : Ending → World → Prop}
theorem cl (c : Calls P F args W fun e w' => e = .returned v ∧ Below W.heap.size W w') (B : Aside0 (Below w.heap.size w W))
    (h : ∀ W', Below W.heap.size W W' → Aside0 (Below w.heap.size w W') → Q (.returned v) W') : Calls P F args W Q :=
  c.mono (by rintro e W' ⟨rfl, hb⟩; exact h W' hb ⟨below_step B.out hb⟩)
theorem cx {α : Type} {f : α → Value} {p : α → Prop} (c : Calls P F args W fun e w' => ∃ x, e = .returned (f x) ∧ p x ∧ Below W.heap.size W w') (B : Aside0 (Below w.heap.size w W))
    (h : ∀ x, p x → ∀ W', Below W.heap.size W W' → Aside0 (Below w.heap.size w W') → Q (.returned (f x)) W') : Calls P F args W Q :=
  c.mono (by rintro e W' ⟨x, rfl, hx, hb⟩; exact h x hx W' hb ⟨below_step B.out hb⟩)
theorem clv {v v' : Value} (c : Calls P F args W fun e w' => e = .returned v ∧ Below W.heap.size W w') (hv : v = v') : Calls P F args W fun e w' => e = .returned v' ∧ Below W.heap.size W w' := hv ▸ c
theorem drewB {v : Value} (c : Calls P F args W fun e w' => e = .returned v ∧ ∃ n, w' = W.drewN n) : Calls P F args W fun e w' => e = .returned v ∧ Below W.heap.size W w' :=
  c.mono (by rintro e W' ⟨rfl, n, rfl⟩; exact ⟨rfl, pw_below_drewN (Below.refl _ _) n⟩)
variable {α β : Type} {d : Kd α} {d' : Kd β} {e e' b : Nat} {xs : List α} {ys : List β} {f : Value → Value}
/-- what a row of a call's own is known by -/
def Ow (d : Kd α) (e : Nat) (W : World) (b : Nat) (v : Value) (xs : List α) : Prop := Kd.R d e W b (fun _ => True) v xs
/-- the row lies in a block that was not there before -/
def Fr (W : World) (v : Value) : Prop := ∀ k, v.ownBlock = some k → W.heap.size ≤ k
theorem cr (c : Calls P F args W fun r w' => ∃ v0, r = .returned (f v0) ∧ Kd.R d e w' W.heap.size (fun _ => True) v0 xs ∧ Below W.heap.size W w') (B : Aside0 (Below w.heap.size w W))
    (h : ∀ A kk W', Below W.heap.size W W' → Aside0 (Below w.heap.size w W') → Aside0 (Ow d e W' w.heap.size (.slice A xs.length kk) xs) → Aside0 (Fr W (.slice A xs.length kk)) → Q (.returned (f (.slice A xs.length kk))) W') : Calls P F args W Q :=
  c.mono (by
    rintro r W' ⟨v0, rfl, ho, hb⟩
    obtain ⟨A, kk, rfl⟩ := Kd.R_slice ho
    exact h A kk W' hb ⟨below_step B.out hb⟩ ⟨Kd.R_lower ho (below_size B.out)⟩ ⟨fun k hk => Kd.R_base ho k hk⟩)
theorem crz (c : Calls P F args W fun r w' => ∃ v0, r = .returned (f v0) ∧ Kd.R d e w' W.heap.size (fun _ => True) v0 xs ∧ Below W.heap.size W w') (B : Aside0 (Below w.heap.size w W))
    (h : ∀ zs, xs = zs → ∀ A kk W', Below W.heap.size W W' → Aside0 (Below w.heap.size w W') → Aside0 (Ow d e W' w.heap.size (.slice A zs.length kk) zs) → Aside0 (Fr W (.slice A zs.length kk)) → Q (.returned (f (.slice A zs.length kk))) W') : Calls P F args W Q := cr c B (h xs rfl)
theorem bn {g : Nat} {o : Obj} (F : Aside0 (W.heap[g]? = some o)) (hb : Below W.heap.size W W') : Aside0 (W'.heap[g]? = some o) := ⟨blk_below F.out hb⟩
theorem rn {v : Value} (R : Aside0 (Ow d e W b v xs)) (hb : Below W.heap.size W W') : Aside0 (Ow d e W' b v xs) := ⟨Kd.R_below R.out hb⟩
theorem rc {A : Option Addr} {n c : Nat} (R : Aside0 (Ow d e W b (.slice A n c) xs)) : Kd.C d W A xs.length xs := (Kd.R_reads' R.out).2.2
theorem rl {A : Option Addr} {c : Nat} (R : Aside0 (Ow d e W b (.slice A xs.length c) xs)) : xs.length ≤ c := (Kd.R_reads' R.out).2.1
theorem cb {A : Option Addr} {n : Nat} (H : Aside0 (Kd.C d w A n xs)) (B : Aside0 (Below w.heap.size w W)) : Kd.C d W A n xs := Kd.C_below H.out B.out
theorem cs1 {g t : Nat} {a : Value} (F : Aside0 (W.heap[g]? = some (.cells #[a] t (0, 0)))) : W.cell? ⟨g, 0, none⟩ = some a := (blk_cell F.out 0).trans rfl
theorem cs2 {g t : Nat} {a b : Value} (F : Aside0 (W.heap[g]? = some (.cells #[a, b] t (0, 0)))) : W.cell? ⟨g, 0, none⟩ = some a ∧ W.cell? ⟨g, 1, none⟩ = some b := ⟨(blk_cell F.out 0).trans rfl, (blk_cell F.out 1).trans rfl⟩
theorem cs3 {g t : Nat} {a b c : Value} (F : Aside0 (W.heap[g]? = some (.cells #[a, b, c] t (0, 0)))) : W.cell? ⟨g, 0, none⟩ = some a ∧ W.cell? ⟨g, 1, none⟩ = some b ∧ W.cell? ⟨g, 2, none⟩ = some c := ⟨(blk_cell F.out 0).trans rfl, (blk_cell F.out 1).trans rfl, (blk_cell F.out 2).trans rfl⟩
theorem cs4 {g t : Nat} {a b c d : Value} (F : Aside0 (W.heap[g]? = some (.cells #[a, b, c, d] t (0, 0)))) : W.cell? ⟨g, 0, none⟩ = some a ∧ W.cell? ⟨g, 1, none⟩ = some b ∧ W.cell? ⟨g, 2, none⟩ = some c ∧ W.cell? ⟨g, 3, none⟩ = some d := ⟨(blk_cell F.out 0).trans rfl, (blk_cell F.out 1).trans rfl, (blk_cell F.out 2).trans rfl, (blk_cell F.out 3).trans rfl⟩
theorem cs6 {g t : Nat} {a b c d x y : Value} (F : Aside0 (W.heap[g]? = some (.cells #[a, b, c, d, x, y] t (0, 0)))) : W.cell? ⟨g, 0, none⟩ = some a ∧ W.cell? ⟨g, 1, none⟩ = some b ∧ W.cell? ⟨g, 2, none⟩ = some c ∧ W.cell? ⟨g, 3, none⟩ = some d ∧ W.cell? ⟨g, 4, none⟩ = some x ∧ W.cell? ⟨g, 5, none⟩ = some y :=
  ⟨(blk_cell F.out 0).trans rfl, (blk_cell F.out 1).trans rfl, (blk_cell F.out 2).trans rfl, (blk_cell F.out 3).trans rfl, (blk_cell F.out 4).trans rfl, (blk_cell F.out 5).trans rfl⟩
theorem fz {g t : Nat} {cs : Array Value} (F : Aside0 (W.heap[g]? = some (.cells cs t (0, 0)))) (j : Nat) : W.frozen? ⟨g, j, none⟩ = false := blk_frozen F.out j
theorem sets_keep (g : Nat) : ∀ (vs : List Value) (j : Nat) (W1 : World), KeepBut W W1 g none → KeepBut W (W1.setCells g j vs) g none
  | [], _, _, h => h
  | v :: r, j, _, h => sets_keep g r (j + 1) _ (h.set_ j v)
theorem sets_below (g : Nat) (hg : w.heap.size ≤ g) : ∀ (vs : List Value) (j : Nat) (W1 : World), Below w.heap.size w W1 → Below w.heap.size w (W1.setCells g j vs)
  | [], _, _, h => h
  | _ :: r, j, _, h => sets_below g hg r (j + 1) _ (below_set h hg)
theorem sets_blk (g t : Nat) (s : List Value) : ∀ (vs l r : List Value) (W1 : World), r.length = vs.length → W1.heap[g]? = some (.cells (l ++ r ++ s).toArray t (0, 0)) → (W1.setCells g l.length vs).heap[g]? = some (.cells (l ++ vs ++ s).toArray t (0, 0))
  | [], l, r, _, hr, h => by
    obtain rfl : r = [] := List.eq_nil_of_length_eq_zero hr
    exact h
  | v :: vs, l, [], _, hr, h => by cases hr
  | v :: vs, l, x :: r, W1, hr, h => by
    have := sets_blk g t s vs (l ++ [v]) r (W1.setCell ⟨g, l.length, none⟩ v) (by simpa using hr) (by
      rw [blk_set h]
      simp)
    simpa [World.setCells] using this
theorem sets_blk' {g t : Nat} {cs : Array Value} (off : Nat) (ns vs : List Value) (hl : cs.toList.take off ++ ns ++ cs.toList.drop (off + ns.length) = vs) (hs : off + ns.length ≤ cs.size) (F : W.heap[g]? = some (.cells cs t (0, 0))) : (W.setCells g off ns).heap[g]? = some (.cells vs.toArray t (0, 0)) := by
  subst hl
  have h1 : (cs.toList.take off).length = off := by rw [List.length_take, Array.length_toList (xs := cs)]; omega
  have := sets_blk g t (cs.toList.drop (off + ns.length)) ns (cs.toList.take off) ((cs.toList.drop off).take ns.length) W (by rw [List.length_take, List.length_drop, Array.length_toList (xs := cs)]; omega) (by
    rw [F]
    congr 1
    congr 1
    rw [List.append_assoc, ← List.drop_drop, List.take_append_drop, List.take_append_drop])
  rwa [h1] at this
variable {ops ops' : Array Oper} {o : Oper} {rest : List Oper} {a : Act} {QE : Exit → Act → World → Prop}
theorem bx (hgd : o.guard = none) {N : Tmp} (hd : o.dst = some N) {cs : Array Value} {t : TypeId} (hrun : (execOp a.eval o).run P W = .ok (.value (.pointer (some ⟨W.heap.size, 0, none⟩))) (W.alloc (.cells cs t (0, 0))))
    (B : Aside0 (Below w.heap.size w W))
    (h : ∀ g w1, Below W.heap.size W w1 → Aside0 (Below w.heap.size w w1) → Aside0 (w1.heap[g]? = some (.cells cs t (0, 0))) → Aside0 (w.heap.size ≤ g) → Aside0 (g = W.heap.size) → wpList P ops QE rest (a.put o.dst (.pointer (some ⟨g, 0, none⟩))) w1) : wpList P ops QE (o :: rest) a W :=
  box_event hgd hd hrun fun g hg w1 hc hb => h g w1 hb ⟨below_step B.out hb⟩ ⟨hc⟩ ⟨hg ▸ below_size B.out⟩ ⟨hg⟩
theorem sx (hgd : o.guard = none) {t t' : TypeId} {p : Tmp} {v : Operand} (ho : o.op = .store t' (.tmp p) v) (hN : o.dst = none) {g : Nat} {cs : Array Value} (off : Nat) (ns vs : List Value) (hrun : (execOp a.eval o).run P W = .ok .skip (W.setCells g off ns))
    (B : Aside0 (Below w.heap.size w W)) (F : Aside0 (W.heap[g]? = some (.cells cs t (0, 0)))) (L : Aside0 (w.heap.size ≤ g)) (hl : cs.toList.take off ++ ns ++ cs.toList.drop (off + ns.length) = vs) (hs : off + ns.length ≤ cs.size)
    (h : ∀ w', KeepBut W w' g none → Aside0 (Below w.heap.size w w') → Aside0 (w'.heap[g]? = some (.cells vs.toArray t (0, 0))) → wpList P ops QE rest a w') : wpList P ops QE (o :: rest) a W :=
  store_event hgd ho hN hrun fun w' hw => by
    subst hw
    exact h _ (sets_keep g ns off W (KeepBut.refl _ _ _)) ⟨sets_below g L.out ns off W B.out⟩ ⟨sets_blk' off ns vs hl hs F.out⟩
theorem sxs {Kc : Act → World → Prop} {g t : Nat} {cs : Array Value} (off : Nat) (ns vs : List Value) (hw : Region.wanted o (yielded ops' a.tmps) = true) (hN : o.dst = none) (hrun : (execOp a.eval o).run P W = .ok .skip (W.setCells g off ns))
    (B : Aside0 (Below w.heap.size w W)) (F : Aside0 (W.heap[g]? = some (.cells cs t (0, 0)))) (L : Aside0 (w.heap.size ≤ g)) (hl : cs.toList.take off ++ ns ++ cs.toList.drop (off + ns.length) = vs) (hs : off + ns.length ≤ cs.size)
    (h : ∀ w', KeepBut W w' g none → Aside0 (Below w.heap.size w w') → Aside0 (w'.heap[g]? = some (.cells vs.toArray t (0, 0))) → Kc (a.put none undef) w') : if Region.wanted o (yielded ops' a.tmps) = true then Oper.wp P o a W Kc QE else Kc (a.put none undef) W := by
  rw [if_pos hw]
  unfold Oper.wp
  rw [hrun]
  show Kc (a.put o.dst undef) _
  rw [hN]
  exact h _ (sets_keep g ns off W (KeepBut.refl _ _ _)) ⟨sets_below g L.out ns off W B.out⟩ ⟨sets_blk' off ns vs hl hs F.out⟩
theorem rg {S : World → Prop} {ds : List Nat} {id n : Nat} (l : Array Bool) (hm : P.follows .mixedOrders = true) (hn : ops'.size = n) (hl : Array.replicate n false = l) (hS : S W) (hd : S W → S W.drew) (B : Aside0 (Below w.heap.size w W))
    (h : ∀ W', Below W.heap.size W W' → Aside0 (Below w.heap.size w W') → S W' → wpAnyLast P .any ops' QE S ds n l a W') : (Code.region id ops' true).wp P QE a W :=
  start_ l hm hn hl (hd hS) fun hH => h _ (below_drew1 (Below.refl _ _)) ⟨below_drew B.out⟩ hH
theorem sk {S : World → Prop} {md : Region.Mode} {ds : List Nat} {i : Nat} {N : Option Tmp} {oi : Oper} {fuel : Nat} {l : Array Bool} (l' : Array Bool) (hi : ops'[i]? = some oi) (hN : oi.dst = N) (hc : anyB md ops' l l' i = true)
    (hQ : ∀ c a w, QE (.panic c) (a.put oi.dst undef) w → QE (.panic c) a w) (hw : Region.wanted oi (yielded ops' a.tmps) = false) (h : wpAnyLast P md ops' QE S ds fuel l' (a.put N undef) W) : wpAnyLast P md ops' QE S ds (fuel + 1) l a W :=
  pure_ l' hi hN hc hQ (Or.inr ⟨hw, rfl⟩) rfl h
theorem pu {S : World → Prop} {md : Region.Mode} {ds : List Nat} {i : Nat} {N : Option Tmp} {oi : Oper} {v : Value} {fuel : Nat} {l : Array Bool} (l' : Array Bool) (hi : ops'[i]? = some oi) (hN : oi.dst = N) (hc : anyB md ops' l l' i = true)
    (hQ : ∀ c a w, QE (.panic c) (a.put oi.dst v) w → QE (.panic c) a w) (hw : Region.wanted oi (yielded ops' a.tmps) = true) (hy : ∀ w, (execOp a.eval oi).run P w = .ok (.value v) w) (h : wpAnyLast P md ops' QE S ds fuel l' (a.put N v) W) : wpAnyLast P md ops' QE S ds (fuel + 1) l a W :=
  pure_ l' hi hN hc hQ (Or.inl ⟨hw, hy⟩) rfl h
theorem ta {S : World → Prop} {md : Region.Mode} {ds : List Nat} {i : Nat} {N : Option Tmp} {oi : Oper} {v : Value} {fuel : Nat} {l : Array Bool} (l' : Array Bool) (hi : ops'[i]? = some oi) (hN : oi.dst = N) (hc : takeB md ops' ds l l' i = true)
    (hQ : ∀ c a w, QE (.panic c) (a.put oi.dst v) w → QE (.panic c) a w) (hw : Region.wanted oi (yielded ops' a.tmps) = true) (hS : S W) (hy : ∀ w, S w → (execOp a.eval oi).run P w = .ok (.value v) w) (h : wpAnyLast P md ops' QE S ds fuel l' (a.put N v) W) : wpAnyLast P md ops' QE S ds (fuel + 1) l a W :=
  take_ l' hi hN hc hQ (Or.inl ⟨hw, hy⟩) hS rfl h
theorem ne1 {g g' : Nat} {o : Obj} (E : Aside0 (g = W.heap.size)) (F : Aside0 (W.heap[g']? = some o)) : Aside0 (g' ≠ g) := ⟨Nat.ne_of_lt (E.out ▸ blk_lt F.out)⟩
theorem bk {g g' : Nat} {o : Obj} (F : Aside0 (W.heap[g']? = some o)) (hk : KeepBut W W' g none) (N : g' ≠ g) : Aside0 (W'.heap[g']? = some o) := ⟨hk.blk F.out N (by simp)⟩
theorem rk {v : Value} {g t : Nat} {cs : Array Value} (R : Aside0 (Ow d e W b v xs)) (F : Aside0 (W.heap[g]? = some (.cells cs t (0, 0)))) (ht : ∀ q, q ∈ e :: d.E → q ≠ t) (hk : KeepBut W W' g none) : Aside0 (Ow d e W' b v xs) :=
  ⟨Kd.R_mono (Kd.R_keep (Kd.R_types R.out F.out ht) hk (fun _ q => q.2)) (fun _ q => q.1)⟩
end

theorem w64 {x : Int} (h0 : -9223372036854775808 ≤ x) (h1 : x ≤ 9223372036854775807) : wrap64 x = x := by
  unfold wrap64
  omega
theorem rd_drop {xs : List Int} {j : Nat} (h : j < xs.length) : xs.drop j = rd xs (j : Int) :: xs.drop (j + 1) := by
  rw [List.drop_eq_getElem_cons h]
  simp [rd, List.getD_eq_getElem?_getD, List.getElem?_eq_getElem h]
theorem andF {c x r : Bool} (h : (c && x) = r) (hc : c = false) : Ending.returned (Value.bool false) = Ending.returned (.bool r) := by subst h; rw [hc]; rfl
theorem andT {c x r : Bool} (h : (c && x) = r) (hc : c = true) : x = r := by subst h; rw [hc]; rfl
theorem useEq {α : Type} {a b : α} {p : Prop} (h : a = b) (k : a = b → p) : p := k h

/-! The texts of numbers. -/
def dec3 (u : Nat) : List UInt8 := if u < 10 then [UInt8.ofNat (48 + u)] else if u < 100 then [UInt8.ofNat (48 + u / 10), UInt8.ofNat (48 + u % 10)] else [UInt8.ofNat (48 + u / 10 / 10), UInt8.ofNat (48 + u / 10 % 10), UInt8.ofNat (48 + u % 10)]
theorem dec3_eq {u : Nat} (h : u < 1000) : Lib.decDigits u = dec3 u := by
  unfold dec3
  by_cases h1 : u < 10
  · rw [Lib.decDigits, dif_pos h1, if_pos h1]
  · rw [Lib.decDigits, dif_neg h1, if_neg h1]
    by_cases h2 : u < 100
    · rw [Lib.decDigits, dif_pos (by omega), if_pos h2]
      rfl
    · rw [Lib.decDigits, dif_neg (by omega), Lib.decDigits, dif_pos (by omega), if_neg h2]
      rfl
def txtM (n : Int) : ByteArray := if n < 0 then (⟨#[45, 49]⟩ : ByteArray) else ⟨(dec3 n.toNat).toArray⟩
theorem txtM_size (n : Int) : (txtM n).size ≤ 3 := by
  unfold txtM dec3
  split
  · decide
  · show List.length (List.toArray _).toList ≤ 3
    split
    · simp
    · split <;> simp
theorem txtM_itoa {n : Int} (h0 : -1 ≤ n) (h1 : n ≤ 999) : (⟨(Lib.itoa n).toArray⟩ : ByteArray) = txtM n := by
  unfold txtM Lib.itoa
  by_cases h : n < 0
  · obtain rfl : n = -1 := by omega
    rw [if_pos h, if_pos h, show (-1 : Int).natAbs = 1 from rfl, dec3_eq (by omega)]
    rfl
  · rw [if_neg h, if_neg h, dec3_eq (by omega)]
theorem strN (x : Int) (r : ByteArray) : strOfNums [x] ++ r = ⟨(UInt8.ofNat x.toNat :: r.data.toList).toArray⟩ := by
  apply ByteArray.ext
  rw [ByteArray.data_append]
  apply Array.toList_inj.mp
  simp [strOfNums]
theorem tdig (n : Int) (h0 : 0 ≤ n) : wrap64 (48 + Int.tmod n 10) % 256 = 48 + n % 10 := by
  rw [Int.tmod_eq_emod_of_nonneg h0, w64 (by omega) (by omega)]
  omega
theorem tdiv10 (n : Int) (h0 : 0 ≤ n) (h1 : n ≤ 999) : wrap64 (Int.tdiv n 10) = n / 10 := by
  rw [Int.tdiv_eq_ediv_of_nonneg h0, w64 (by omega) (by omega)]
theorem l7_txt {n : Int} (h0 : -1 ≤ n) (h1 : n ≤ 999) : spec_l7Text.f 3 n = some (txtM n) := by
  unfold spec_l7Text.f txtM
  by_cases h : n < 0
  · rw [if_pos h, if_pos h]
  · rw [if_neg h, if_neg h, tdig n (by omega)]
    unfold dec3
    have e1 : strOfNums [48 + n % 10] = (⟨#[UInt8.ofNat (48 + n % 10).toNat]⟩ : ByteArray) := rfl
    rw [e1]
    by_cases h2 : n < 10
    · rw [if_pos (by omega), spec_l7Text.l0, if_neg (by omega), show (48 + n % 10).toNat = 48 + n.toNat by omega]
    · rw [if_neg (by omega), spec_l7Text.l0, if_pos (by omega), tdiv10 n (by omega) h1, tdig (n / 10) (by omega)]
      simp only [Option.bind_some]
      rw [if_pos (by rw [strOfNums_size]; show 1 + 1 ≤ _; decide), strN]
      by_cases h3 : n < 100
      · rw [if_pos (by omega), spec_l7Text.l0, if_neg (by omega), show (48 + n % 10).toNat = 48 + n.toNat % 10 by omega, show (48 + n / 10 % 10).toNat = 48 + n.toNat / 10 by omega]
      · rw [if_neg (by omega), spec_l7Text.l0, if_pos (by omega), tdiv10 (n / 10) (by omega) (by omega), tdig (n / 10 / 10) (by omega)]
        simp only [Option.bind_some]
        rw [if_pos (by rw [strOfNums_size]; show 1 + 2 ≤ _; decide), strN, spec_l7Text.l0, if_neg (by omega)]
        rw [show (48 + n % 10).toNat = 48 + n.toNat % 10 by omega, show (48 + n / 10 % 10).toNat = 48 + n.toNat / 10 % 10 by omega, show (48 + n / 10 / 10 % 10).toNat = 48 + n.toNat / 10 / 10 by omega]
theorem spec_l7Text.M (n : Int) (w : World) (h : -1 ≤ n ∧ n ≤ 999) : Calls Tryd.prog 29 #[.int .i64 n] w fun e w' => e = .returned (.string (txtM n)) ∧ Below w.heap.size w w' := spec_l7Text.calls 3 n _ w (l7_txt h.1 h.2)
/-- the table of powers of ten, as the row lays it -/
def TT (w : World) : Prop := Lib.TabIs Tryd.prog w "internal/strconv.uint64pow10" .u64 Lib.pow10Tab
theorem tt_on {w W : World} (T : Aside0 (TT w)) (B : Aside0 (Below w.heap.size w W)) : TT W := Lib.tabBelow_of_tabIs T.out W B.out
theorem strconv_Itoa.M (n : Int) (w W : World) (T : Aside0 (TT w)) (B : Aside0 (Below w.heap.size w W)) (h : -1 ≤ n ∧ n ≤ 999) : Calls Tryd.prog 31 #[.int .i64 n] W fun e w' => e = .returned (.string (txtM n)) ∧ Below W.heap.size W w' :=
  (Tryd.strconv_Itoa n (by omega) (by omega) W (tt_on T B)).mono (by
    rintro e w' ⟨rfl, k, os, rfl⟩
    exact ⟨by rw [txtM_itoa h.1 h.2], Lib.below_grow _ _ (Nat.le_refl _) _ _⟩)

/-! Strings compared. -/
theorem less_total : ∀ x y : List UInt8, (Op.bytesLess x y || x == y) = !(Op.bytesLess y x)
  | [], [] => rfl
  | [], _ :: _ => rfl
  | _ :: _, [] => rfl
  | a :: x, b :: y => by
    have ih := less_total x y
    simp only [Op.bytesLess]
    by_cases h : a = b
    · subst h
      simpa using ih
    · have h2 : (a == b) = false := beq_eq_false_iff_ne.mpr h
      have h3 : (b == a) = false := beq_eq_false_iff_ne.mpr (Ne.symm h)
      have h4 : (a :: x == b :: y) = false := beq_eq_false_iff_ne.mpr fun q => h (List.cons.inj q).1
      rw [h2, h3, h4]
      simp only [Bool.false_and, Bool.or_false]
      by_cases hl : a < b
      · have : ¬ b < a := by rw [UInt8.lt_iff_toNat_lt] at *; omega
        simp [hl, this]
      · have : b < a := by
          rw [UInt8.lt_iff_toNat_lt] at *
          have : a.toNat ≠ b.toNat := fun q => h (UInt8.toNat_inj.mp q)
          omega
        simp [hl, this]
theorem leq_str (t : TypeId) (a b : ByteArray) : binOp .leq t (.string a) (.string b) = pure (.bool !(Op.bytesLess b.toList a.toList)) := by
  rw [← less_total]
  simp [binOp, Op.stringOp]
theorem geq_str (t : TypeId) (a b : ByteArray) : binOp .geq t (.string a) (.string b) = pure (.bool !(Op.bytesLess a.toList b.toList)) := by
  simp [binOp, Op.stringOp]
theorem gtr_str (t : TypeId) (a b : ByteArray) : binOp .gtr t (.string a) (.string b) = pure (.bool (Op.bytesLess b.toList a.toList)) := by
  have h : (!(Op.bytesLess a.toList b.toList || a.toList == b.toList)) = Op.bytesLess b.toList a.toList := by rw [less_total, Bool.not_not]
  rw [← h, Bool.not_or]
  simp [binOp, Op.stringOp]
attribute [local go_sem] leq_str geq_str gtr_str

/-! Keys. -/
theorem ba_toList (s : ByteArray) : s.toList = s.data.toList := Lib.toList_data s
theorem ba_inj {s t : ByteArray} (h : s.toList = t.toList) : s = t := by
  rw [ba_toList, ba_toList] at h
  cases s; cases t; simp only [ByteArray.mk.injEq]; exact Array.toList_inj.mp h
theorem str_beq (a b : ByteArray) : (a.toList == b.toList) = decide (a = b) := by
  by_cases h : a = b
  · subst h; simp
  · rw [decide_eq_false h]; exact beq_eq_false_iff_ne.mpr fun q => h (ba_inj q)
theorem nil_iff (s : ByteArray) : s.toList = ([] : List UInt8) ↔ s.size = 0 := by
  rw [ba_toList]
  refine ⟨fun h => ?_, fun h => ?_⟩
  · have := data_length s
    rw [h] at this
    exact this.symm
  · exact List.eq_nil_of_length_eq_zero (by rw [data_length]; exact h)
def lowB (x : Int) : Bool := decide (97 ≤ x) && decide (x ≤ 122)
def keyB (s : ByteArray) : Bool := decide (1 ≤ s.size) && decide (s.size ≤ 4) && (bytesOf s).all lowB
theorem bt_drop' {s : ByteArray} {j : Nat} (h : j < s.size) : (bytesOf s).drop j = bt s (j : Int) :: (bytesOf s).drop (j + 1) := by
  rw [rd_drop (by rw [bytesOf_length]; exact h), rd_bytesOf]
theorem bytesOf_tail (s : ByteArray) : bytesOf (s.extract 1 s.size) = (bytesOf s).drop 1 := by
  unfold bytesOf
  rw [← List.map_drop]
  refine congrArg _ ?_
  rw [ByteArray.data_extract, Array.toList_extract]
  rw [List.extract_eq_take_drop, List.take_of_length_le (by rw [List.length_drop, data_length]; omega)]
def l1B (n lo hi : Int) : Bool := decide (lo ≤ n) && decide (n ≤ hi)
theorem spec_l1In.M (n lo hi : Int) (w : World) : Calls Tryd.prog 28 #[.int .i64 n, .int .i64 lo, .int .i64 hi] w fun e w' => e = .returned (.bool (l1B n lo hi)) ∧ Below w.heap.size w w' := by
  go_enter Tryd.func28, Tryd.ntmps28
  go_wp2
  all_goals go_ret
  all_goals (refine ⟨?_, Below.refl _ _⟩; unfold l1B; simp_all; try omega)
theorem spec_KeyValid.M (a : ByteArray) (w : World) : Calls Tryd.prog 45 #[.string a] w fun e w' => e = .returned (.bool (keyB a)) ∧ Below w.heap.size w w' := by
  have B := Aside0.mk (Below.refl w.heap.size w)
  obtain ⟨r, hr⟩ : ∃ r, keyB a = r := ⟨_, rfl⟩
  rw [hr]
  unfold keyB at hr
  by_cases hs : 1 ≤ a.size ∧ a.size ≤ 4
  · have hl : l1B (a.size : Int) 1 4 = true := by unfold l1B; simp; omega
    have H := Aside0.mk (show ((bytesOf a).drop 0).all lowB = r by simpa [hs.1, hs.2] using hr)
    clear hr
    go_enter Tryd.func45, Tryd.ntmps45
    go_wp2_with (first
      | (go_at_call 28; with_reducible refine cl (clv (spec_l1In.M _ 1 4 _) (congrArg Value.bool hl)) B fun w1 hb B => ?_; clear hb))
    go_loopg [3] (a.size + 1) (fun kx v3 wr => ∃ j : Nat, v3 = .int .i64 (j : Int) ∧ j ≤ a.size ∧ a.size < j + kx ∧ Aside0 (Below w.heap.size w wr) ∧ Aside0 (((bytesOf a).drop j).all lowB = r))
    case atStart => exact ⟨0, rfl, by omega, by omega, B, H⟩
    case round =>
      clear H B
      obtain ⟨j, rfl, hj, hk, B, H⟩ := hrel
      have H := H.out
      by_cases hlt : j < a.size
      · have p := eq_true (show (0 : Int) ≤ (j : Int) by omega)
        have q := eq_true (show (j : Int) < (a.size : Int) by omega)
        have q' := decide_eq_true (show (j : Int) < (a.size : Int) by omega)
        have hx : ((a[j]'hlt).toNat : Int) = bt a (j : Int) := bt_at a (j : Int) (by rw [Int.toNat_natCast]; exact hlt)
        rw [bt_drop' hlt] at H
        simp only [List.all_cons] at H
        generalize bt a (j : Int) = x at *
        obtain ⟨d, rfl⟩ : ∃ d, gk = d + 1 := ⟨gk - 1, by omega⟩
        by_cases hx : lowB x = true
        · have H' := Aside0.mk (show ((bytesOf a).drop (j + 1)).all lowB = r by simpa [hx] using H)
          clear H
          unfold lowB at hx
          simp only [Bool.and_eq_true, decide_eq_true_eq] at hx
          have d1 : decide (x < 97) = false := decide_eq_false (by omega)
          have d2 : decide (122 < x) = false := decide_eq_false (by omega)
          go_wp2
          go_roundg d
          case measure => omega
          case rel => exact ⟨j + 1, congrArg (Value.int .i64) (Int.natCast_succ _).symm, by omega, by omega, B, H'⟩
        · have hr : r = false := by simpa [hx] using H.symm
          subst hr
          clear H
          unfold lowB at hx
          simp only [Bool.and_eq_true, decide_eq_true_eq] at hx
          by_cases h97 : x < 97
          · have d1 : decide (x < 97) = true := decide_eq_true h97
            go_wp2
            go_ret
            exact ⟨by simp, B.out⟩
          · have d1 : decide (x < 97) = false := decide_eq_false h97
            have d2 : decide (122 < x) = true := decide_eq_true (by omega)
            go_wp2
            go_ret
            exact ⟨by simp, B.out⟩
      · have q' := decide_eq_false (show ¬ (j : Int) < (a.size : Int) by omega)
        have hr : r = true := by
          rw [List.drop_of_length_le (by rw [bytesOf_length]; omega)] at H
          simpa using H.symm
        subst hr
        go_wp2
        go_ret
        exact ⟨by simp, B.out⟩
  · have hl : l1B (a.size : Int) 1 4 = false := by unfold l1B; simp; omega
    have hr : r = false := by
      rw [← hr, Bool.and_eq_false_iff, Bool.and_eq_false_iff, decide_eq_false_iff_not, decide_eq_false_iff_not]
      omega
    subst hr
    go_enter Tryd.func45, Tryd.ntmps45
    go_wp2_with (first
      | (go_at_call 28; with_reducible refine cl (clv (spec_l1In.M _ 1 4 _) (congrArg Value.bool hl)) B fun w1 hb B => ?_; clear hb))
    go_ret
    exact ⟨by simp, B.out⟩
theorem impl_lettersOnly.M : ∀ (n : Nat) (a : ByteArray) (w : World), a.size = n → Calls Tryd.prog 52 #[.string a] w fun e w' => e = .returned (.bool ((bytesOf a).all lowB)) ∧ Below w.heap.size w w'
  | 0, a, w, h => by
    have hn : a.toList = [] := (nil_iff a).mpr h
    go_enter Tryd.func52, Tryd.ntmps52
    go_wp2
    all_goals (first | go_ret | skip)
    all_goals (first | exact absurd hn (by assumption) | skip)
    refine ⟨?_, Below.refl _ _⟩
    have : bytesOf a = [] := List.eq_nil_of_length_eq_zero (by rw [bytesOf_length]; exact h)
    rw [this]
    rfl
  | n + 1, a, w, h => by
    have B := Aside0.mk (Below.refl w.heap.size w)
    have hn : ¬ a.toList = [] := fun q => by have := (nil_iff a).mp q; omega
    have IH := Aside0.mk (fun W => impl_lettersOnly.M n (a.extract 1 a.size) W (by simp [h]))
    have hb0 := bt_drop' (s := a) (j := 0) (by omega)
    have h0 : 0 < a.size := by omega
    have hx : ((a[0]'h0).toNat : Int) = bt a ((0 : Nat) : Int) := bt_at a 0 (by simp; omega)
    have p := eq_true (show (0 : Int) < (a.size : Int) by omega)
    have p1 := eq_true (show 0 < a.size by omega)
    have p2 := eq_true (show 1 ≤ a.size by omega)
    rw [List.drop_zero] at hb0
    rw [bytesOf_tail] at IH
    rw [hb0]
    simp only [List.all_cons]
    clear hb0
    rw [Nat.zero_add]
    generalize (List.drop 1 (bytesOf a)).all lowB = r at IH ⊢
    generalize bt a ((0 : Nat) : Int) = x at hx ⊢
    clear h
    go_enter Tryd.func52, Tryd.ntmps52
    go_wp2_with (first
      | (go_at_call 52; with_reducible refine cl (IH.out _) B fun w1 hb B => ?_; clear hb))
    all_goals go_ret
    all_goals (refine ⟨?_, B.out⟩; unfold lowB; simp_all; try omega)
theorem impl_KeyValid.M (a : ByteArray) (w : World) : Calls Tryd.prog 43 #[.string a] w fun e w' => e = .returned (.bool (keyB a)) ∧ Below w.heap.size w w' := by
  have B := Aside0.mk (Below.refl w.heap.size w)
  go_enter Tryd.func43, Tryd.ntmps43
  go_wp2_with (first
    | (go_at_call 52; with_reducible refine cl (impl_lettersOnly.M _ a _ rfl) B fun w1 hb B => ?_; clear hb))
  all_goals go_ret
  all_goals (refine ⟨?_, B.out⟩; unfold keyB; simp_all; try omega)

theorem impl_valueValid.M (n : Int) (w : World) : Calls Tryd.prog 30 #[.int .i64 n] w fun e w' => e = .returned (.bool (l1B n 0 999)) ∧ Below w.heap.size w w' := by
  go_enter Tryd.func30, Tryd.ntmps30
  go_wp2
  all_goals go_ret
  all_goals (refine ⟨?_, Below.refl _ _⟩; unfold l1B; simp_all; try omega)

/-! The texts of replies. -/
def repM (n : Int) : ByteArray := if n = -1 then (⟨#[110, 111, 110, 101]⟩ : ByteArray) else if n = -2 then (⟨#[102, 117, 108, 108]⟩ : ByteArray) else if n = -3 then (⟨#[109, 111, 118, 101, 100]⟩ : ByteArray) else if n = -4 then (⟨#[115, 116, 97, 108, 101]⟩ : ByteArray) else if 0 ≤ n ∧ n ≤ 999 then txtM n else (⟨#[]⟩ : ByteArray)

/-! The numbers that texts spell. -/
def numM (s : ByteArray) : Int := match Lib.atoiAll s.data.toList with
  | .ok v => v
  | _ => -2
theorem dig_val : ∀ d : Fin 10, Lib.digitVal (UInt8.ofNat (48 + d.val)) = some d.val := by decide
theorem dig_nat (d : Nat) (h : d < 10) : Lib.digitVal (UInt8.ofNat (48 + d)) = some d := dig_val ⟨d, h⟩
theorem dig_sign : ∀ d : Fin 10, (UInt8.ofNat (48 + d.val) == 45) = false ∧ (UInt8.ofNat (48 + d.val) == 43) = false := by decide
theorem atoi_dec3 {u : Nat} (h : u < 1000) : Lib.atoi (dec3 u) = some (u : Int) := by
  unfold dec3
  by_cases h1 : u < 10
  · rw [if_pos h1]
    have hs := dig_sign ⟨u, h1⟩
    simp only at hs
    simp only [Lib.atoi, hs.1, hs.2, Lib.decNat, Lib.decFrom, List.isEmpty_cons, dig_nat u h1]
    simp
  · rw [if_neg h1]
    by_cases h2 : u < 100
    · rw [if_pos h2]
      have hs := dig_sign ⟨u / 10, by omega⟩
      simp only at hs
      simp only [Lib.atoi, hs.1, hs.2, Lib.decNat, Lib.decFrom, List.isEmpty_cons, dig_nat (u / 10) (by omega), dig_nat (u % 10) (by omega)]
      simp
      omega
    · rw [if_neg h2]
      have hs := dig_sign ⟨u / 10 / 10, by omega⟩
      simp only at hs
      simp only [Lib.atoi, hs.1, hs.2, Lib.decNat, Lib.decFrom, List.isEmpty_cons, dig_nat (u / 10 / 10) (by omega), dig_nat (u / 10 % 10) (by omega), dig_nat (u % 10) (by omega)]
      simp
      omega
theorem dec3_len (u : Nat) : (dec3 u).length ≤ 3 := by
  unfold dec3
  split
  · simp
  · split <;> simp
theorem numM_txt {n : Int} (h0 : -1 ≤ n) (h1 : n ≤ 999) : numM (txtM n) = n := by
  unfold txtM numM
  by_cases h : n < 0
  · obtain rfl : n = -1 := by omega
    decide +kernel
  · rw [if_neg h]
    show (match Lib.atoiAll (dec3 n.toNat) with | .ok v => v | _ => -2) = n
    rw [Lib.atoiAll_short _ (by have := dec3_len n.toNat; omega), atoi_dec3 (by omega)]
    show ((n.toNat : Nat) : Int) = n
    omega
/-- the variables of the errors hold errors -/
def TE (w : World) : Prop := TT w ∧ (∃ te pe, w.cell? ⟨1, 0, none⟩ = some (.iface te pe)) ∧ ∃ te pe, w.cell? ⟨2, 0, none⟩ = some (.iface te pe)
theorem cell_lt {w : World} {g o : Nat} {v : Value} (h : w.cell? ⟨g, o, none⟩ = some v) : g < w.heap.size := World.block_lt_of_cell? w _ h
theorem te_on {w W : World} (T : Aside0 (TE w)) (B : Aside0 (Below w.heap.size w W)) : TE W := by
  obtain ⟨h1, ⟨te, pe, h2⟩, te', pe', h3⟩ := T.out
  exact ⟨tt_on ⟨h1⟩ B, ⟨te, pe, (B.out.cell (cell_lt h2)).trans h2⟩, te', pe', (B.out.cell (cell_lt h3)).trans h3⟩
theorem te_tt {w W : World} (T : Aside0 (TE w)) (B : Aside0 (Below w.heap.size w W)) : TT W := (te_on T B).1
theorem impl_numberOf.M (s : ByteArray) (w W : World) (T : Aside0 (TE w)) (B : Aside0 (Below w.heap.size w W)) (hs : s.size ≤ 64) : Calls Tryd.prog 34 #[.string s] W fun e w' => e = .returned (.int .i64 (numM s)) ∧ Below W.heap.size W w' := by
  obtain ⟨_, ⟨te, pe, c1⟩, te', pe', c2⟩ := te_on T B
  obtain ⟨r, hr⟩ : ∃ r, numM s = r := ⟨_, rfl⟩
  rw [hr]
  unfold numM at hr
  rcases h : Lib.atoiAll s.data.toList with v | _ | _
  · rw [h] at hr
    replace hr : v = r := hr
    subst hr
    go_enter Tryd.func34, Tryd.ntmps34
    go_wp2_with (first | (go_at_call 46; refine (Tryd.strconv_Atoi_ok s (by omega) v h W).mono ?_; rintro e w1 ⟨rfl, hw⟩))
    go_ret
    refine ⟨rfl, ?_⟩
    rcases hw with rfl | ⟨t, rfl⟩
    · exact Below.refl _ _
    · exact Lib.bytesWorld_below _ _ _
  · rw [h] at hr
    replace hr : -2 = r := hr
    subst hr
    have hns : ∀ e, Lib.atoiAll s.data.toList = e → (∀ v, e ≠ .ok v) ∧ e ≠ .range := by
      intro e he
      rw [h] at he
      subst he
      exact ⟨fun v q => (by cases q), fun q => (by cases q)⟩
    go_enter Tryd.func34, Tryd.ntmps34
    go_wp2_with (first | (go_at_call 46; refine (Tryd.strconv_Atoi_syntax s (by omega) hns _ W c1 (Or.inr ⟨te, pe, rfl⟩)).mono ?_; rintro e w1 ⟨N, rfl, _, _, hw⟩))
    go_ret
    exact ⟨rfl, hw⟩
  · rw [h] at hr
    replace hr : -2 = r := hr
    subst hr
    go_enter Tryd.func34, Tryd.ntmps34
    go_wp2_with (first | (go_at_call 46; refine (Tryd.strconv_Atoi_range s (by omega) h _ W c2 (Or.inr ⟨te', pe', rfl⟩)).mono ?_; rintro e w1 ⟨N, rfl, _, _, hw⟩))
    go_ret
    exact ⟨rfl, hw⟩

/-! What a text of a reply is read as. -/
theorem repM_size (n : Int) : (repM n).size ≤ 5 := by
  unfold repM
  split
  · decide
  · split
    · decide
    · split
      · decide
      · split
        · decide
        · split
          · have := txtM_size n; omega
          · decide
theorem repM_num {n : Int} {s : ByteArray} (hs : s.toList ≠ ([] : List UInt8)) (h : repM n = s) : n = -1 ∨ n = -2 ∨ n = -3 ∨ n = -4 ∨ (0 ≤ n ∧ n ≤ 999 ∧ txtM n = s) := by
  unfold repM at h
  split at h
  · omega
  · split at h
    · omega
    · split at h
      · omega
      · split at h
        · omega
        · split at h
          · rename_i hn; exact .inr (.inr (.inr (.inr ⟨hn.1, hn.2, h⟩)))
          · subst h; exact absurd (by rw [ba_toList]) hs
def rrI (s : ByteArray) : Int × Bool :=
  if repM (-4) = s then (-4, true) else if repM (-3) = s then (-3, true) else if repM (-2) = s then (-2, true) else if repM (-1) = s then (-1, true)
  else if s.toList ≠ ([] : List UInt8) ∧ repM (numM s) = s then (numM s, true) else (0, false)
theorem rrI_long {s : ByteArray} (h : 64 < s.size) : rrI s = (0, false) := by
  have hn : ∀ n, ¬ repM n = s := fun n e => by have := repM_size n; rw [e] at this; omega
  unfold rrI
  rw [if_neg (hn _), if_neg (hn _), if_neg (hn _), if_neg (hn _), if_neg (fun k => hn _ k.2)]
theorem rep_words : (repM (-4)).toList = [115, 116, 97, 108, 101] ∧ (repM (-3)).toList = [109, 111, 118, 101, 100] ∧ (repM (-2)).toList = [102, 117, 108, 108] ∧ (repM (-1)).toList = [110, 111, 110, 101] := by
  refine ⟨?_, ?_, ?_, ?_⟩ <;> (rw [ba_toList]; rfl)

def num7 (s : ByteArray) : Int := (spec_l7Number.f 6 s).getD 0
theorem l7n_some (s : ByteArray) (hs : s.size ≤ 4) (d : Nat) : ∀ (j k : Nat) (a : Int), j + d = s.size → d + 1 ≤ k → ∃ m, spec_l7Number.l0 k s a (j : Int) = some m := by
  induction d with
  | zero =>
    intro j k a hj hk
    obtain ⟨k, rfl⟩ : ∃ i, k = i + 1 := ⟨k - 1, by omega⟩
    rw [spec_l7Number.l0, if_neg (by omega)]
    exact ⟨_, rfl⟩
  | succ d ih =>
    intro j k a hj hk
    obtain ⟨k, rfl⟩ : ∃ i, k = i + 1 := ⟨k - 1, by omega⟩
    rw [spec_l7Number.l0, if_pos (by omega), if_pos (by omega)]
    split
    · exact ⟨_, rfl⟩
    · split
      · exact ⟨_, rfl⟩
      · rw [w64 (x := (j : Int) + 1) (by omega) (by omega), show (j : Int) + 1 = ((j + 1 : Nat) : Int) by omega]
        exact ih (j + 1) k _ (by omega) (by omega)
theorem l7n (s : ByteArray) : spec_l7Number.f 6 s = some (num7 s) := by
  have h : ∃ m, spec_l7Number.f 6 s = some m := by
    unfold spec_l7Number.f
    have e : spec_l1In.f (s.size : Int) 1 4 = some (l1B (s.size : Int) 1 4) := by unfold spec_l1In.f l1B; first | rfl | (simp; grind)
    rw [e, Option.bind_some]
    split
    · rename_i hl
      simp only [l1B, Bool.and_eq_true, decide_eq_true_eq] at hl
      exact l7n_some s (by omega) s.size 0 6 0 (by omega) (by omega)
    · exact ⟨_, rfl⟩
  obtain ⟨m, h⟩ := h
  unfold num7
  rw [h]
  rfl
theorem num7_fin : ∀ n : Fin 1000, spec_l7Number.f 6 (txtM (n.val : Int)) = some (n.val : Int) := by decide +kernel
theorem num7_txt {n : Int} (h0 : 0 ≤ n) (h1 : n ≤ 999) : num7 (txtM n) = n := by
  have h := num7_fin ⟨n.toNat, by omega⟩
  have e : ((n.toNat : Nat) : Int) = n := by omega
  simp only [e] at h
  unfold num7
  rw [h]
  rfl
theorem spec_l7Number.M (s : ByteArray) (w : World) : Calls Tryd.prog 33 #[.string s] w fun e w' => e = .returned (.int .i64 (num7 s)) ∧ Below w.heap.size w w' :=
  (spec_l7Number.calls 6 s _ w (l7n s)).mono (fun _ _ h => ⟨h.1, h.2.below⟩)

def rrM (s : ByteArray) : Int × Bool :=
  if repM (-4) = s then (-4, true) else if repM (-3) = s then (-3, true) else if repM (-2) = s then (-2, true) else if repM (-1) = s then (-1, true)
  else if s.toList ≠ ([] : List UInt8) ∧ repM (num7 s) = s then (num7 s, true) else (0, false)
theorem rr_no {s : ByteArray} (h4 : ¬ repM (-4) = s) (h3 : ¬ repM (-3) = s) (h2 : ¬ repM (-2) = s) (h1 : ¬ repM (-1) = s) : (s.toList ≠ ([] : List UInt8) ∧ repM (num7 s) = s) ↔ (s.toList ≠ ([] : List UInt8) ∧ repM (numM s) = s) := by
  constructor
  · rintro ⟨hs, h⟩
    rcases repM_num hs h with e | e | e | e | ⟨e0, e1, e⟩
    · rw [e] at h; exact absurd h h1
    · rw [e] at h; exact absurd h h2
    · rw [e] at h; exact absurd h h3
    · rw [e] at h; exact absurd h h4
    · refine ⟨hs, ?_⟩
      have := numM_txt (n := num7 s) (by omega) e1
      rw [e] at this
      rw [this]
      exact h
  · rintro ⟨hs, h⟩
    rcases repM_num hs h with e | e | e | e | ⟨e0, e1, e⟩
    · rw [e] at h; exact absurd h h1
    · rw [e] at h; exact absurd h h2
    · rw [e] at h; exact absurd h h3
    · rw [e] at h; exact absurd h h4
    · refine ⟨hs, ?_⟩
      have := num7_txt (n := numM s) e0 e1
      rw [e] at this
      rw [this]
      exact h
theorem rr_same {s : ByteArray} (h4 : ¬ repM (-4) = s) (h3 : ¬ repM (-3) = s) (h2 : ¬ repM (-2) = s) (h1 : ¬ repM (-1) = s) (hs : s.toList ≠ ([] : List UInt8)) (h : repM (numM s) = s) : numM s = num7 s := by
  rcases repM_num hs h with e | e | e | e | ⟨e0, e1, e⟩
  · rw [e] at h; exact absurd h h1
  · rw [e] at h; exact absurd h h2
  · rw [e] at h; exact absurd h h3
  · rw [e] at h; exact absurd h h4
  · have := num7_txt (n := numM s) e0 e1
    rw [e] at this
    exact this.symm
theorem rrI_eq (s : ByteArray) : rrI s = rrM s := by
  unfold rrI rrM
  split
  · rfl
  · rename_i h4
    split
    · rfl
    · rename_i h3
      split
      · rfl
      · rename_i h2
        split
        · rfl
        · rename_i h1
          by_cases h : s.toList ≠ ([] : List UInt8) ∧ repM (numM s) = s
          · rw [if_pos h, if_pos ((rr_no h4 h3 h2 h1).mpr h), rr_same h4 h3 h2 h1 h.1 h.2]
          · rw [if_neg h, if_neg (fun k => h ((rr_no h4 h3 h2 h1).mp k))]
theorem rr_long {s : ByteArray} (h : 64 < s.size) : rrM s = (0, false) := by
  have hn : ∀ n, ¬ repM n = s := fun n e => by have := repM_size n; rw [e] at this; omega
  unfold rrM
  rw [if_neg (hn _), if_neg (hn _), if_neg (hn _), if_neg (hn _), if_neg (fun k => hn _ k.2)]

theorem spec_ReplyText.M (n : Int) (w : World) : Calls Tryd.prog 11 #[.int .i64 n] w fun e w' => e = .returned (.string (repM n)) ∧ Below w.heap.size w w' := by
  have B := Aside0.mk (Below.refl w.heap.size w)
  obtain ⟨r, hr⟩ : ∃ r, repM n = r := ⟨_, rfl⟩
  rw [hr]
  by_cases h1 : n = -1 ∨ n = -2 ∨ n = -3 ∨ n = -4
  · rcases h1 with rfl | rfl | rfl | rfl
    all_goals
      subst hr
      go_enter Tryd.func11, Tryd.ntmps11
      go_wp2
      all_goals go_ret
      all_goals exact ⟨rfl, B.out⟩
  · have e1 : (n == -1) = false := by simp; omega
    have e2 : (n == -2) = false := by simp; omega
    have e3 : (n == -3) = false := by simp; omega
    have e4 : (n == -4) = false := by simp; omega
    by_cases hl : 0 ≤ n ∧ n ≤ 999
    · have hv : l1B n 0 999 = true := by unfold l1B; simp [hl]
      have hM : r = txtM n := by rw [← hr]; unfold repM; rw [if_neg (by omega), if_neg (by omega), if_neg (by omega), if_neg (by omega), if_pos hl]
      clear hr h1
      go_enter Tryd.func11, Tryd.ntmps11
      go_wp2_with (first
        | (go_at_call 28; with_reducible refine cl (spec_l1In.M n 0 999 _) B fun w1 hb B => ?_; clear hb)
        | (go_at_call 29; with_reducible refine cl (spec_l7Text.M n _ (by omega)) B fun w2 hb B => ?_; clear hb))
      all_goals go_ret
      all_goals (subst hM; exact ⟨rfl, B.out⟩)
    · have hv : l1B n 0 999 = false := by unfold l1B; simp; omega
      have hM : r = (⟨#[]⟩ : ByteArray) := by rw [← hr]; unfold repM; rw [if_neg (by omega), if_neg (by omega), if_neg (by omega), if_neg (by omega), if_neg hl]
      clear hr h1 hl
      go_enter Tryd.func11, Tryd.ntmps11
      go_wp2_with (first
        | (go_at_call 28; with_reducible refine cl (spec_l1In.M n 0 999 _) B fun w1 hb B => ?_; clear hb)
        | (go_at_call 29; with_reducible refine cl (spec_l7Text.M n _ (by omega)) B fun w2 hb B => ?_; clear hb))
      all_goals go_ret
      all_goals (subst hM; exact ⟨rfl, B.out⟩)
theorem impl_ReplyText.M (n : Int) (w : World) (ht : TT w) : Calls Tryd.prog 12 #[.int .i64 n] w fun e w' => e = .returned (.string (repM n)) ∧ Below w.heap.size w w' := by
  have B := Aside0.mk (Below.refl w.heap.size w)
  have HT := Aside0.mk ht
  clear ht
  obtain ⟨r, hr⟩ : ∃ r, repM n = r := ⟨_, rfl⟩
  rw [hr]
  by_cases h1 : n = -1 ∨ n = -2 ∨ n = -3 ∨ n = -4
  · rcases h1 with rfl | rfl | rfl | rfl
    all_goals
      subst hr
      go_enter Tryd.func12, Tryd.ntmps12
      go_wp2
      all_goals go_ret
      all_goals exact ⟨rfl, B.out⟩
  · have e1 : (n == -1) = false := by simp; omega
    have e2 : (n == -2) = false := by simp; omega
    have e3 : (n == -3) = false := by simp; omega
    have e4 : (n == -4) = false := by simp; omega
    by_cases hl : 0 ≤ n ∧ n ≤ 999
    · have hv : l1B n 0 999 = true := by unfold l1B; simp [hl]
      have hM : r = txtM n := by rw [← hr]; unfold repM; rw [if_neg (by omega), if_neg (by omega), if_neg (by omega), if_neg (by omega), if_pos hl]
      clear hr h1
      go_enter Tryd.func12, Tryd.ntmps12
      go_wp2_with (first
        | (go_at_call 30; with_reducible refine cl (impl_valueValid.M n _) B fun w1 hb B => ?_; clear hb)
        | (go_at_call 31; with_reducible refine cl (strconv_Itoa.M n w _ HT B (by omega)) B fun w2 hb B => ?_; clear hb))
      all_goals go_ret
      all_goals (subst hM; exact ⟨rfl, B.out⟩)
    · have hv : l1B n 0 999 = false := by unfold l1B; simp; omega
      have hM : r = (⟨#[]⟩ : ByteArray) := by rw [← hr]; unfold repM; rw [if_neg (by omega), if_neg (by omega), if_neg (by omega), if_neg (by omega), if_neg hl]
      clear hr h1 hl
      go_enter Tryd.func12, Tryd.ntmps12
      go_wp2_with (first
        | (go_at_call 30; with_reducible refine cl (impl_valueValid.M n _) B fun w1 hb B => ?_; clear hb)
        | (go_at_call 31; with_reducible refine cl (strconv_Itoa.M n w _ HT B (by omega)) B fun w2 hb B => ?_; clear hb))
      all_goals go_ret
      all_goals (subst hM; exact ⟨rfl, B.out⟩)

theorem spec_ReadReply.M (s : ByteArray) (w : World) : Calls Tryd.prog 17 #[.string s] w fun e w' => e = .returned (.tuple #[.int .i64 (rrM s).1, .bool (rrM s).2]) ∧ Below w.heap.size w w' := by
  have B := Aside0.mk (Below.refl w.heap.size w)
  obtain ⟨r, hr⟩ : ∃ r, rrM s = r := ⟨_, rfl⟩
  rw [hr]
  go_enter Tryd.func17, Tryd.ntmps17
  go_wp2
  go_loopg [4] 5 (fun kx v4 wr => ∃ m : Int, v4 = .int .i64 m ∧ -4 ≤ m ∧ m ≤ 0 ∧ -m < (kx : Int) ∧ Aside0 (Below w.heap.size w wr) ∧ Aside0 (∀ j, -4 ≤ j → j < m → ¬ repM j = s))
  case atStart => exact ⟨-4, rfl, by omega, by omega, by omega, B, ⟨fun j h1 h2 => by omega⟩⟩
  case round =>
    clear B
    obtain ⟨m, rfl, hm0, hm1, hk, B, H⟩ := hrel
    by_cases hlt : m < 0
    · have cj : decide (m < 0) = true := decide_eq_true hlt
      obtain ⟨d, rfl⟩ : ∃ d, gk = d + 1 := ⟨gk - 1, by omega⟩
      by_cases hq : repM m = s
      · have hb : ((repM m).toList == s.toList) = true := by rw [hq]; simp
        have hM : r = (m, true) := by
          rw [← hr]
          have H' := H.out
          unfold rrM
          rcases (show m = -4 ∨ m = -3 ∨ m = -2 ∨ m = -1 by omega) with rfl | rfl | rfl | rfl
          · rw [if_pos hq]
          · rw [if_neg (H' (-4) (by omega) (by omega)), if_pos hq]
          · rw [if_neg (H' (-4) (by omega) (by omega)), if_neg (H' (-3) (by omega) (by omega)), if_pos hq]
          · rw [if_neg (H' (-4) (by omega) (by omega)), if_neg (H' (-3) (by omega) (by omega)), if_neg (H' (-2) (by omega) (by omega)), if_pos hq]
        clear hr hq H
        go_wp2_with (first
          | (go_at_call 11; with_reducible refine cl (spec_ReplyText.M m _) B fun w101 hb B => ?_; clear hb))
        go_ret2
        subst hM
        exact ⟨rfl, B.out⟩
      · have hb : ((repM m).toList == s.toList) = false := by rw [str_beq, decide_eq_false hq]
        have H2 := Aside0.mk (show ∀ j, -4 ≤ j → j < m + 1 → ¬ repM j = s from fun j h1 h2 => by
          rcases (show j < m ∨ j = m by omega) with h | h
          · exact H.out j h1 h
          · subst h; exact hq)
        clear hq H
        go_wp2_with (first
          | (go_at_call 11; with_reducible refine cl (spec_ReplyText.M m _) B fun w101 hb B => ?_; clear hb))
        go_roundg d
        case measure => omega
        case rel => exact ⟨m + 1, rfl, by omega, by omega, by omega, B, H2⟩
    · have cj : decide (m < 0) = false := decide_eq_false hlt
      obtain rfl : m = 0 := by omega
      have H' := H.out
      have hM : r = if s.toList ≠ ([] : List UInt8) ∧ repM (num7 s) = s then (num7 s, true) else (0, false) := by
        rw [← hr]
        unfold rrM
        rw [if_neg (H' (-4) (by omega) (by omega)), if_neg (H' (-3) (by omega) (by omega)), if_neg (H' (-2) (by omega) (by omega)), if_neg (H' (-1) (by omega) (by omega))]
      clear hr H H'
      by_cases hs : s.toList = ([] : List UInt8)
      · rw [if_neg (fun k => k.1 hs)] at hM
        subst hM
        go_wp2_with (first
          | (go_at_call 33; with_reducible refine cl (spec_l7Number.M s _) B fun w201 hb B => ?_; clear hb)
          | (go_at_call 11; with_reducible refine cl (spec_ReplyText.M (num7 s) _) B fun w202 hb B => ?_; clear hb))
        go_ret2
        exact ⟨rfl, B.out⟩
      · have hn : (s.toList == ([] : List UInt8)) = false := by simpa using hs
        by_cases hq : repM (num7 s) = s
        · have hb : ((repM (num7 s)).toList == s.toList) = true := by rw [hq]; simp
          rw [if_pos ⟨hs, hq⟩] at hM
          subst hM
          clear hq hs
          go_wp2_with (first
            | (go_at_call 33; with_reducible refine cl (spec_l7Number.M s _) B fun w201 hb B => ?_; clear hb)
            | (go_at_call 11; with_reducible refine cl (spec_ReplyText.M (num7 s) _) B fun w202 hb B => ?_; clear hb))
          go_ret2
          exact ⟨rfl, B.out⟩
        · have hb : ((repM (num7 s)).toList == s.toList) = false := by rw [str_beq, decide_eq_false hq]
          rw [if_neg (fun k => hq k.2)] at hM
          subst hM
          clear hq hs
          go_wp2_with (first
            | (go_at_call 33; with_reducible refine cl (spec_l7Number.M s _) B fun w201 hb B => ?_; clear hb)
            | (go_at_call 11; with_reducible refine cl (spec_ReplyText.M (num7 s) _) B fun w202 hb B => ?_; clear hb))
          go_ret2
          exact ⟨rfl, B.out⟩

theorem impl_ReadReply.M (s : ByteArray) (w : World) (ht : TE w) : Calls Tryd.prog 18 #[.string s] w fun e w' => e = .returned (.tuple #[.int .i64 (rrI s).1, .bool (rrI s).2]) ∧ Below w.heap.size w w' := by
  have B := Aside0.mk (Below.refl w.heap.size w)
  have HT := Aside0.mk ht
  clear ht
  obtain ⟨r, hr⟩ : ∃ r, rrI s = r := ⟨_, rfl⟩
  rw [hr]
  by_cases hl : 64 < s.size
  · have hM : r = (0, false) := by rw [← hr]; exact rrI_long hl
    have d0 : decide (64 < (s.size : Int)) = true := decide_eq_true (by omega)
    subst hM
    clear hr
    go_enter Tryd.func18, Tryd.ntmps18
    go_wp2
    go_ret2
    exact ⟨rfl, B.out⟩
  · have d0 : decide (64 < (s.size : Int)) = false := decide_eq_false (by omega)
    unfold rrI at hr
    obtain ⟨w4, w3, w2, w1⟩ := rep_words
    by_cases h4 : repM (-4) = s
    · rw [if_pos h4] at hr
      have hz : s.toList = (repM (-4)).toList := by rw [h4]
      rw [w4] at hz
      subst hr
      clear h4 w1 w2 w3
      go_enter Tryd.func18, Tryd.ntmps18
      go_wp2_with (first
        | (go_at_call 34; with_reducible refine cl (impl_numberOf.M s w _ HT B (by omega)) B fun w1 hb B => ?_; clear hb)
        | (go_at_call 12; with_reducible refine cl (impl_ReplyText.M (-4) _ (te_tt HT B)) B fun w2 hb B => ?_; clear hb))
      go_ret2
      exact ⟨rfl, B.out⟩
    · rw [if_neg h4] at hr
      by_cases h3 : repM (-3) = s
      · rw [if_pos h3] at hr
        have hz : s.toList = (repM (-3)).toList := by rw [h3]
        rw [w3] at hz
        subst hr
        clear h3 w1 w2 w4 h4
        go_enter Tryd.func18, Tryd.ntmps18
        go_wp2_with (first
          | (go_at_call 34; with_reducible refine cl (impl_numberOf.M s w _ HT B (by omega)) B fun w1 hb B => ?_; clear hb)
          | (go_at_call 12; with_reducible refine cl (impl_ReplyText.M (-3) _ (te_tt HT B)) B fun w2 hb B => ?_; clear hb))
        go_ret2
        exact ⟨rfl, B.out⟩
      · rw [if_neg h3] at hr
        by_cases h2 : repM (-2) = s
        · rw [if_pos h2] at hr
          have hz : s.toList = (repM (-2)).toList := by rw [h2]
          rw [w2] at hz
          subst hr
          clear h2 w1 w3 w4 h3 h4
          go_enter Tryd.func18, Tryd.ntmps18
          go_wp2_with (first
            | (go_at_call 34; with_reducible refine cl (impl_numberOf.M s w _ HT B (by omega)) B fun w1 hb B => ?_; clear hb)
            | (go_at_call 12; with_reducible refine cl (impl_ReplyText.M (-2) _ (te_tt HT B)) B fun w2 hb B => ?_; clear hb))
          go_ret2
          exact ⟨rfl, B.out⟩
        · rw [if_neg h2] at hr
          by_cases h1 : repM (-1) = s
          · rw [if_pos h1] at hr
            have hz : s.toList = (repM (-1)).toList := by rw [h1]
            rw [w1] at hz
            subst hr
            clear h1 w2 w3 w4 h2 h3 h4
            go_enter Tryd.func18, Tryd.ntmps18
            go_wp2_with (first
              | (go_at_call 34; with_reducible refine cl (impl_numberOf.M s w _ HT B (by omega)) B fun w1 hb B => ?_; clear hb)
              | (go_at_call 12; with_reducible refine cl (impl_ReplyText.M (-1) _ (te_tt HT B)) B fun w2 hb B => ?_; clear hb))
            go_ret2
            exact ⟨rfl, B.out⟩
          · rw [if_neg h1] at hr
            have b4 : (s.toList == [115, 116, 97, 108, 101]) = false := by rw [← w4, str_beq, decide_eq_false (fun e => h4 e.symm)]
            have b3 : (s.toList == [109, 111, 118, 101, 100]) = false := by rw [← w3, str_beq, decide_eq_false (fun e => h3 e.symm)]
            have b2 : (s.toList == [102, 117, 108, 108]) = false := by rw [← w2, str_beq, decide_eq_false (fun e => h2 e.symm)]
            have b1 : (s.toList == [110, 111, 110, 101]) = false := by rw [← w1, str_beq, decide_eq_false (fun e => h1 e.symm)]
            clear h1 h2 h3 h4 w1 w2 w3 w4
            by_cases hs : s.toList = ([] : List UInt8)
            · rw [if_neg (fun k => k.1 hs)] at hr
              subst hr
              clear b1 b2 b3 b4
              go_enter Tryd.func18, Tryd.ntmps18
              go_wp2_with (first
                | (go_at_call 34; with_reducible refine cl (impl_numberOf.M s w _ HT B (by omega)) B fun w1 hb B => ?_; clear hb)
                | (go_at_call 12; with_reducible refine cl (impl_ReplyText.M (numM s) _ (te_tt HT B)) B fun w2 hb B => ?_; clear hb))
              go_ret2
              exact ⟨rfl, B.out⟩
            · have hn : (s.toList == ([] : List UInt8)) = false := by simpa using hs
              by_cases hq : repM (numM s) = s
              · have hb : ((repM (numM s)).toList == s.toList) = true := by rw [hq]; simp
                rw [if_pos ⟨hs, hq⟩] at hr
                subst hr
                clear hq hs
                go_enter Tryd.func18, Tryd.ntmps18
                go_wp2_with (first
                  | (go_at_call 34; with_reducible refine cl (impl_numberOf.M s w _ HT B (by omega)) B fun w1 hb B => ?_; clear hb)
                  | (go_at_call 12; with_reducible refine cl (impl_ReplyText.M (numM s) _ (te_tt HT B)) B fun w2 hb B => ?_; clear hb))
                go_ret2
                exact ⟨rfl, B.out⟩
              · have hb : ((repM (numM s)).toList == s.toList) = false := by rw [str_beq, decide_eq_false hq]
                rw [if_neg (fun k => hq k.2)] at hr
                subst hr
                clear hq hs
                go_enter Tryd.func18, Tryd.ntmps18
                go_wp2_with (first
                  | (go_at_call 34; with_reducible refine cl (impl_numberOf.M s w _ HT B (by omega)) B fun w1 hb B => ?_; clear hb)
                  | (go_at_call 12; with_reducible refine cl (impl_ReplyText.M (numM s) _ (te_tt HT B)) B fun w2 hb B => ?_; clear hb))
                go_ret2
                exact ⟨rfl, B.out⟩

theorem impl_ReadReply.M2 (s : ByteArray) (w : World) (ht : TE w) : Calls Tryd.prog 18 #[.string s] w fun e w' => e = .returned (.tuple #[.int .i64 (rrM s).1, .bool (rrM s).2]) ∧ Below w.heap.size w w' := by
  rw [← rrI_eq]
  exact impl_ReadReply.M s w ht
theorem laws_FnExactReadReply.M (s : ByteArray) (w : World) (ht : TE w) : Calls Tryd.prog 5 #[.string s] w fun e w' => e = .returned (.bool true) ∧ Below w.heap.size w w' := by
  have B := Aside0.mk (Below.refl w.heap.size w)
  have HT := Aside0.mk ht
  clear ht
  go_enter Tryd.func5, Tryd.ntmps5
  go_wp2_with (first
    | (go_at_call 17; with_reducible refine cl (spec_ReadReply.M s w) B fun w1 hb B => ?_; clear hb)
    | (go_at_call 18; with_reducible refine cl (impl_ReadReply.M2 s w1 (te_on HT B)) B fun w2 hb B => ?_; clear hb))
  all_goals go_ret
  all_goals exact ⟨rfl, B.out⟩
def laws_FnExactReadReply.f (k : Nat) (s : ByteArray) : Option Bool := if 0 = 0 then some true else none
theorem laws_FnExactReadReply.calls (k : Nat) (s : ByteArray) (r : Bool) (w : World) (ht : TE w) (h : laws_FnExactReadReply.f k s = some r) : Calls Tryd.prog 5 #[.string s] w fun e w' => e = .returned (.bool r) ∧ Below w.heap.size w w' := by
  unfold laws_FnExactReadReply.f at h
  split at h
  · rename_i hc
    obtain rfl := Option.some.inj h
    exact laws_FnExactReadReply.M s w ht
  · cases h

end Go.Proofs.YtnogoanlfmflcaaDoor.PFnExactReadReply
