/- Walks over models, part 0: base nums strs keys ivm iv has inside prsm sesm stm spairs sses scut sstate ipairs ises icut istate szst rows tost tostate eqst lawExactStateValid. -/
import Derived.Test.YtenfiihcdhnamaaPFnExactStateValidx0
import Derived.Deep.RegionHeld3
import Derived.Lib.Strings
import Derived.Laws.BytesArg
namespace Go.Proofs.Ytenfiihcdhnamaa.PFnExactStateValid
open Go.RowKit Go.Proofs.YtenfiihcdhnamaaW.PrintWords Go.Proofs.YtenfiihcdhnamaaW.PrintLast Go.Proofs.YtenfiihcdhnamaaW.PrintMore
set_option linter.unusedVariables false
set_option linter.unusedSimpArgs false
set_option maxHeartbeats 4000000
set_option maxRecDepth 100000
def bits (n m : Nat) : Array Bool := ((List.range n).map fun i => m.testBit i).toArray
/-! Words: a call by its contract, boxes and rows carried on. -/
section
variable {P : Program} {F : FuncId} {args : Array Value} {w W W' : World} {v : Value} {Q : Ending → World → Prop}
theorem cl (c : Calls P F args W fun e w' => e = .returned v ∧ Below W.heap.size W w') (B : Aside0 (Below w.heap.size w W))
    (h : ∀ W', Below W.heap.size W W' → Aside0 (Below w.heap.size w W') → Q (.returned v) W') : Calls P F args W Q :=
  c.mono (by rintro e W' ⟨rfl, hb⟩; exact h W' hb ⟨below_step B.out hb⟩)
theorem cx {α : Type} {f : α → Value} {p : α → Prop} (c : Calls P F args W fun e w' => ∃ x, e = .returned (f x) ∧ p x ∧ Below W.heap.size W w') (B : Aside0 (Below w.heap.size w W))
    (h : ∀ x, p x → ∀ W', Below W.heap.size W W' → Aside0 (Below w.heap.size w W') → Q (.returned (f x)) W') : Calls P F args W Q :=
  c.mono (by rintro e W' ⟨x, rfl, hx, hb⟩; exact h x hx W' hb ⟨below_step B.out hb⟩)
theorem clv {v v' : Value} (c : Calls P F args W fun e w' => e = .returned v ∧ Below W.heap.size W w') (hv : v = v') : Calls P F args W fun e w' => e = .returned v' ∧ Below W.heap.size W w' := hv ▸ c
theorem drewB {v : Value} (c : Calls P F args W fun e w' => e = .returned v ∧ ∃ n, w' = W.drewN n) : Calls P F args W fun e w' => e = .returned v ∧ Below W.heap.size W w' :=
  c.mono (by rintro e W' ⟨rfl, n, rfl⟩; exact ⟨rfl, pw_below_drewN (Below.refl _ _) n⟩)
variable {α β : Type} {d : Kd α} {d' : Kd β} {e e' b : Nat} {xs : List α} {ys : List β} {f : Value → Value}
/-- what a row of a call's own is known by -/
def Ow (d : Kd α) (e : Nat) (W : World) (b : Nat) (v : Value) (xs : List α) : Prop := Kd.R d e W b (fun _ => True) v xs
/-- the row lies in a block that was not there before -/
def Fr (W : World) (v : Value) : Prop := ∀ k, v.ownBlock = some k → W.heap.size ≤ k
theorem cr (c : Calls P F args W fun r w' => ∃ v0, r = .returned (f v0) ∧ Kd.R d e w' W.heap.size (fun _ => True) v0 xs ∧ Below W.heap.size W w') (B : Aside0 (Below w.heap.size w W))
    (h : ∀ A kk W', Below W.heap.size W W' → Aside0 (Below w.heap.size w W') → Aside0 (Ow d e W' w.heap.size (.slice A xs.length kk) xs) → Aside0 (Fr W (.slice A xs.length kk)) → Q (.returned (f (.slice A xs.length kk))) W') : Calls P F args W Q :=
  c.mono (by
    rintro r W' ⟨v0, rfl, ho, hb⟩
    obtain ⟨A, kk, rfl⟩ := Kd.R_slice ho
    exact h A kk W' hb ⟨below_step B.out hb⟩ ⟨Kd.R_lower ho (below_size B.out)⟩ ⟨fun k hk => Kd.R_base ho k hk⟩)
theorem bn {g : Nat} {o : Obj} (F : Aside0 (W.heap[g]? = some o)) (hb : Below W.heap.size W W') : Aside0 (W'.heap[g]? = some o) := ⟨blk_below F.out hb⟩
theorem rn {v : Value} (R : Aside0 (Ow d e W b v xs)) (hb : Below W.heap.size W W') : Aside0 (Ow d e W' b v xs) := ⟨Kd.R_below R.out hb⟩
theorem rc {A : Option Addr} {n c : Nat} (R : Aside0 (Ow d e W b (.slice A n c) xs)) : Kd.C d W A xs.length xs := (Kd.R_reads' R.out).2.2
theorem rl {A : Option Addr} {c : Nat} (R : Aside0 (Ow d e W b (.slice A xs.length c) xs)) : xs.length ≤ c := (Kd.R_reads' R.out).2.1
theorem cb {A : Option Addr} {n : Nat} (H : Aside0 (Kd.C d w A n xs)) (B : Aside0 (Below w.heap.size w W)) : Kd.C d W A n xs := Kd.C_below H.out B.out
theorem cs1 {g t : Nat} {a : Value} (F : Aside0 (W.heap[g]? = some (.cells #[a] t (0, 0)))) : W.cell? ⟨g, 0, none⟩ = some a := (blk_cell F.out 0).trans rfl
theorem cs2 {g t : Nat} {a b : Value} (F : Aside0 (W.heap[g]? = some (.cells #[a, b] t (0, 0)))) : W.cell? ⟨g, 0, none⟩ = some a ∧ W.cell? ⟨g, 1, none⟩ = some b := ⟨(blk_cell F.out 0).trans rfl, (blk_cell F.out 1).trans rfl⟩
theorem cs3 {g t : Nat} {a b c : Value} (F : Aside0 (W.heap[g]? = some (.cells #[a, b, c] t (0, 0)))) : W.cell? ⟨g, 0, none⟩ = some a ∧ W.cell? ⟨g, 1, none⟩ = some b ∧ W.cell? ⟨g, 2, none⟩ = some c := ⟨(blk_cell F.out 0).trans rfl, (blk_cell F.out 1).trans rfl, (blk_cell F.out 2).trans rfl⟩
theorem cs4 {g t : Nat} {a b c d : Value} (F : Aside0 (W.heap[g]? = some (.cells #[a, b, c, d] t (0, 0)))) : W.cell? ⟨g, 0, none⟩ = some a ∧ W.cell? ⟨g, 1, none⟩ = some b ∧ W.cell? ⟨g, 2, none⟩ = some c ∧ W.cell? ⟨g, 3, none⟩ = some d := ⟨(blk_cell F.out 0).trans rfl, (blk_cell F.out 1).trans rfl, (blk_cell F.out 2).trans rfl, (blk_cell F.out 3).trans rfl⟩
theorem cs6 {g t : Nat} {a b c d x y : Value} (F : Aside0 (W.heap[g]? = some (.cells #[a, b, c, d, x, y] t (0, 0)))) : W.cell? ⟨g, 0, none⟩ = some a ∧ W.cell? ⟨g, 1, none⟩ = some b ∧ W.cell? ⟨g, 2, none⟩ = some c ∧ W.cell? ⟨g, 3, none⟩ = some d ∧ W.cell? ⟨g, 4, none⟩ = some x ∧ W.cell? ⟨g, 5, none⟩ = some y :=
  ⟨(blk_cell F.out 0).trans rfl, (blk_cell F.out 1).trans rfl, (blk_cell F.out 2).trans rfl, (blk_cell F.out 3).trans rfl, (blk_cell F.out 4).trans rfl, (blk_cell F.out 5).trans rfl⟩
theorem fz {g t : Nat} {cs : Array Value} (F : Aside0 (W.heap[g]? = some (.cells cs t (0, 0)))) (j : Nat) : W.frozen? ⟨g, j, none⟩ = false := blk_frozen F.out j
theorem sets_keep (g : Nat) : ∀ (vs : List Value) (j : Nat) (W1 : World), KeepBut W W1 g none → KeepBut W (W1.setCells g j vs) g none
  | [], _, _, h => h
  | v :: r, j, _, h => sets_keep g r (j + 1) _ (h.set_ j v)
theorem sets_below (g : Nat) (hg : w.heap.size ≤ g) : ∀ (vs : List Value) (j : Nat) (W1 : World), Below w.heap.size w W1 → Below w.heap.size w (W1.setCells g j vs)
  | [], _, _, h => h
  | _ :: r, j, _, h => sets_below g hg r (j + 1) _ (below_set h hg)
theorem sets_blk (g t : Nat) (s : List Value) : ∀ (vs l r : List Value) (W1 : World), r.length = vs.length → W1.heap[g]? = some (.cells (l ++ r ++ s).toArray t (0, 0)) → (W1.setCells g l.length vs).heap[g]? = some (.cells (l ++ vs ++ s).toArray t (0, 0))
  | [], l, r, _, hr, h => by
    obtain rfl : r = [] := List.eq_nil_of_length_eq_zero hr
    exact h
  | v :: vs, l, [], _, hr, h => by cases hr
  | v :: vs, l, x :: r, W1, hr, h => by
    have := sets_blk g t s vs (l ++ [v]) r (W1.setCell ⟨g, l.length, none⟩ v) (by simpa using hr) (by
      rw [blk_set h]
      simp)
    simpa [World.setCells] using this
theorem sets_blk' {g t : Nat} {cs : Array Value} (off : Nat) (ns vs : List Value) (hl : cs.toList.take off ++ ns ++ cs.toList.drop (off + ns.length) = vs) (hs : off + ns.length ≤ cs.size) (F : W.heap[g]? = some (.cells cs t (0, 0))) : (W.setCells g off ns).heap[g]? = some (.cells vs.toArray t (0, 0)) := by
  subst hl
  have h1 : (cs.toList.take off).length = off := by rw [List.length_take, Array.length_toList (xs := cs)]; omega
  have := sets_blk g t (cs.toList.drop (off + ns.length)) ns (cs.toList.take off) ((cs.toList.drop off).take ns.length) W (by rw [List.length_take, List.length_drop, Array.length_toList (xs := cs)]; omega) (by
    rw [F]
    congr 1
    congr 1
    rw [List.append_assoc, ← List.drop_drop, List.take_append_drop, List.take_append_drop])
  rwa [h1] at this
variable {ops ops' : Array Oper} {o : Oper} {rest : List Oper} {a : Act} {QE : Exit → Act → World → Prop}
theorem bx (hgd : o.guard = none) {N : Tmp} (hd : o.dst = some N) {cs : Array Value} {t : TypeId} (hrun : (execOp a.eval o).run P W = .ok (.value (.pointer (some ⟨W.heap.size, 0, none⟩))) (W.alloc (.cells cs t (0, 0))))
    (B : Aside0 (Below w.heap.size w W))
    (h : ∀ g w1, Below W.heap.size W w1 → Aside0 (Below w.heap.size w w1) → Aside0 (w1.heap[g]? = some (.cells cs t (0, 0))) → Aside0 (w.heap.size ≤ g) → Aside0 (g = W.heap.size) → wpList P ops QE rest (a.put o.dst (.pointer (some ⟨g, 0, none⟩))) w1) : wpList P ops QE (o :: rest) a W :=
  box_event hgd hd hrun fun g hg w1 hc hb => h g w1 hb ⟨below_step B.out hb⟩ ⟨hc⟩ ⟨hg ▸ below_size B.out⟩ ⟨hg⟩
theorem sx (hgd : o.guard = none) {t t' : TypeId} {p : Tmp} {v : Operand} (ho : o.op = .store t' (.tmp p) v) (hN : o.dst = none) {g : Nat} {cs : Array Value} (off : Nat) (ns vs : List Value) (hrun : (execOp a.eval o).run P W = .ok .skip (W.setCells g off ns))
    (B : Aside0 (Below w.heap.size w W)) (F : Aside0 (W.heap[g]? = some (.cells cs t (0, 0)))) (L : Aside0 (w.heap.size ≤ g)) (hl : cs.toList.take off ++ ns ++ cs.toList.drop (off + ns.length) = vs) (hs : off + ns.length ≤ cs.size)
    (h : ∀ w', KeepBut W w' g none → Aside0 (Below w.heap.size w w') → Aside0 (w'.heap[g]? = some (.cells vs.toArray t (0, 0))) → wpList P ops QE rest a w') : wpList P ops QE (o :: rest) a W :=
  store_event hgd ho hN hrun fun w' hw => by
    subst hw
    exact h _ (sets_keep g ns off W (KeepBut.refl _ _ _)) ⟨sets_below g L.out ns off W B.out⟩ ⟨sets_blk' off ns vs hl hs F.out⟩
theorem sxs {Kc : Act → World → Prop} {g t : Nat} {cs : Array Value} (off : Nat) (ns vs : List Value) (hw : Region.wanted o (yielded ops' a.tmps) = true) (hN : o.dst = none) (hrun : (execOp a.eval o).run P W = .ok .skip (W.setCells g off ns))
    (B : Aside0 (Below w.heap.size w W)) (F : Aside0 (W.heap[g]? = some (.cells cs t (0, 0)))) (L : Aside0 (w.heap.size ≤ g)) (hl : cs.toList.take off ++ ns ++ cs.toList.drop (off + ns.length) = vs) (hs : off + ns.length ≤ cs.size)
    (h : ∀ w', KeepBut W w' g none → Aside0 (Below w.heap.size w w') → Aside0 (w'.heap[g]? = some (.cells vs.toArray t (0, 0))) → Kc (a.put none undef) w') : if Region.wanted o (yielded ops' a.tmps) = true then Oper.wp P o a W Kc QE else Kc (a.put none undef) W := by
  rw [if_pos hw]
  unfold Oper.wp
  rw [hrun]
  show Kc (a.put o.dst undef) _
  rw [hN]
  exact h _ (sets_keep g ns off W (KeepBut.refl _ _ _)) ⟨sets_below g L.out ns off W B.out⟩ ⟨sets_blk' off ns vs hl hs F.out⟩
theorem rg {S : World → Prop} {ds : List Nat} {id n : Nat} (l : Array Bool) (hm : P.follows .mixedOrders = true) (hn : ops'.size = n) (hl : Array.replicate n false = l) (hS : S W) (hd : S W → S W.drew) (B : Aside0 (Below w.heap.size w W))
    (h : ∀ W', Below W.heap.size W W' → Aside0 (Below w.heap.size w W') → S W' → wpAnyLast P .any ops' QE S ds n l a W') : (Code.region id ops' true).wp P QE a W :=
  start_ l hm hn hl (hd hS) fun hH => h _ (below_drew1 (Below.refl _ _)) ⟨below_drew B.out⟩ hH
theorem sk {S : World → Prop} {md : Region.Mode} {ds : List Nat} {i : Nat} {N : Option Tmp} {oi : Oper} {fuel : Nat} {l : Array Bool} (l' : Array Bool) (hi : ops'[i]? = some oi) (hN : oi.dst = N) (hc : anyB md ops' l l' i = true)
    (hQ : ∀ c a w, QE (.panic c) (a.put oi.dst undef) w → QE (.panic c) a w) (hw : Region.wanted oi (yielded ops' a.tmps) = false) (h : wpAnyLast P md ops' QE S ds fuel l' (a.put N undef) W) : wpAnyLast P md ops' QE S ds (fuel + 1) l a W :=
  pure_ l' hi hN hc hQ (Or.inr ⟨hw, rfl⟩) rfl h
theorem pu {S : World → Prop} {md : Region.Mode} {ds : List Nat} {i : Nat} {N : Option Tmp} {oi : Oper} {v : Value} {fuel : Nat} {l : Array Bool} (l' : Array Bool) (hi : ops'[i]? = some oi) (hN : oi.dst = N) (hc : anyB md ops' l l' i = true)
    (hQ : ∀ c a w, QE (.panic c) (a.put oi.dst v) w → QE (.panic c) a w) (hw : Region.wanted oi (yielded ops' a.tmps) = true) (hy : ∀ w, (execOp a.eval oi).run P w = .ok (.value v) w) (h : wpAnyLast P md ops' QE S ds fuel l' (a.put N v) W) : wpAnyLast P md ops' QE S ds (fuel + 1) l a W :=
  pure_ l' hi hN hc hQ (Or.inl ⟨hw, hy⟩) rfl h
theorem ta {S : World → Prop} {md : Region.Mode} {ds : List Nat} {i : Nat} {N : Option Tmp} {oi : Oper} {v : Value} {fuel : Nat} {l : Array Bool} (l' : Array Bool) (hi : ops'[i]? = some oi) (hN : oi.dst = N) (hc : takeB md ops' ds l l' i = true)
    (hQ : ∀ c a w, QE (.panic c) (a.put oi.dst v) w → QE (.panic c) a w) (hw : Region.wanted oi (yielded ops' a.tmps) = true) (hS : S W) (hy : ∀ w, S w → (execOp a.eval oi).run P w = .ok (.value v) w) (h : wpAnyLast P md ops' QE S ds fuel l' (a.put N v) W) : wpAnyLast P md ops' QE S ds (fuel + 1) l a W :=
  take_ l' hi hN hc hQ (Or.inl ⟨hw, hy⟩) hS rfl h
theorem ne1 {g g' : Nat} {o : Obj} (E : Aside0 (g = W.heap.size)) (F : Aside0 (W.heap[g']? = some o)) : Aside0 (g' ≠ g) := ⟨Nat.ne_of_lt (E.out ▸ blk_lt F.out)⟩
theorem bk {g g' : Nat} {o : Obj} (F : Aside0 (W.heap[g']? = some o)) (hk : KeepBut W W' g none) (N : g' ≠ g) : Aside0 (W'.heap[g']? = some o) := ⟨hk.blk F.out N (by simp)⟩
theorem rk {v : Value} {g t : Nat} {cs : Array Value} (R : Aside0 (Ow d e W b v xs)) (F : Aside0 (W.heap[g]? = some (.cells cs t (0, 0)))) (ht : ∀ q, q ∈ e :: d.E → q ≠ t) (hk : KeepBut W W' g none) : Aside0 (Ow d e W' b v xs) :=
  ⟨Kd.R_mono (Kd.R_keep (Kd.R_types R.out F.out ht) hk (fun _ q => q.2)) (fun _ q => q.1)⟩
end

theorem w64 {x : Int} (h0 : -9223372036854775808 ≤ x) (h1 : x ≤ 9223372036854775807) : wrap64 x = x := by
  unfold wrap64
  omega
theorem rd_drop {xs : List Int} {j : Nat} (h : j < xs.length) : xs.drop j = rd xs (j : Int) :: xs.drop (j + 1) := by
  rw [List.drop_eq_getElem_cons h]
  simp [rd, List.getD_eq_getElem?_getD, List.getElem?_eq_getElem h]
theorem andF {c x r : Bool} (h : (c && x) = r) (hc : c = false) : Ending.returned (Value.bool false) = Ending.returned (.bool r) := by subst h; rw [hc]; rfl
theorem andT {c x r : Bool} (h : (c && x) = r) (hc : c = true) : x = r := by subst h; rw [hc]; rfl

/-! Strings compared. -/
theorem less_total : ∀ x y : List UInt8, (Op.bytesLess x y || x == y) = !(Op.bytesLess y x)
  | [], [] => rfl
  | [], _ :: _ => rfl
  | _ :: _, [] => rfl
  | a :: x, b :: y => by
    have ih := less_total x y
    simp only [Op.bytesLess]
    by_cases h : a = b
    · subst h
      simpa using ih
    · have h2 : (a == b) = false := beq_eq_false_iff_ne.mpr h
      have h3 : (b == a) = false := beq_eq_false_iff_ne.mpr (Ne.symm h)
      have h4 : (a :: x == b :: y) = false := beq_eq_false_iff_ne.mpr fun q => h (List.cons.inj q).1
      rw [h2, h3, h4]
      simp only [Bool.false_and, Bool.or_false]
      by_cases hl : a < b
      · have : ¬ b < a := by rw [UInt8.lt_iff_toNat_lt] at *; omega
        simp [hl, this]
      · have : b < a := by
          rw [UInt8.lt_iff_toNat_lt] at *
          have : a.toNat ≠ b.toNat := fun q => h (UInt8.toNat_inj.mp q)
          omega
        simp [hl, this]
theorem leq_str (t : TypeId) (a b : ByteArray) : binOp .leq t (.string a) (.string b) = pure (.bool !(Op.bytesLess b.toList a.toList)) := by
  rw [← less_total]
  simp [binOp, Op.stringOp]
theorem geq_str (t : TypeId) (a b : ByteArray) : binOp .geq t (.string a) (.string b) = pure (.bool !(Op.bytesLess a.toList b.toList)) := by
  simp [binOp, Op.stringOp]
theorem gtr_str (t : TypeId) (a b : ByteArray) : binOp .gtr t (.string a) (.string b) = pure (.bool (Op.bytesLess b.toList a.toList)) := by
  have h : (!(Op.bytesLess a.toList b.toList || a.toList == b.toList)) = Op.bytesLess b.toList a.toList := by rw [less_total, Bool.not_not]
  rw [← h, Bool.not_or]
  simp [binOp, Op.stringOp]
attribute [local go_sem] leq_str geq_str gtr_str

/-! Keys. -/
theorem ba_toList (s : ByteArray) : s.toList = s.data.toList := Lib.toList_data s
theorem ba_inj {s t : ByteArray} (h : s.toList = t.toList) : s = t := by
  rw [ba_toList, ba_toList] at h
  cases s; cases t; simp only [ByteArray.mk.injEq]; exact Array.toList_inj.mp h
theorem nil_iff (s : ByteArray) : s.toList = ([] : List UInt8) ↔ s.size = 0 := by
  rw [ba_toList]
  refine ⟨fun h => ?_, fun h => ?_⟩
  · have := data_length s
    rw [h] at this
    exact this.symm
  · exact List.eq_nil_of_length_eq_zero (by rw [data_length]; exact h)
def lowB (x : Int) : Bool := decide (97 ≤ x) && decide (x ≤ 122)
def keyB (s : ByteArray) : Bool := decide (1 ≤ s.size) && decide (s.size ≤ 4) && (bytesOf s).all lowB
theorem bt_drop' {s : ByteArray} {j : Nat} (h : j < s.size) : (bytesOf s).drop j = bt s (j : Int) :: (bytesOf s).drop (j + 1) := by
  rw [rd_drop (by rw [bytesOf_length]; exact h), rd_bytesOf]
theorem bytesOf_tail (s : ByteArray) : bytesOf (s.extract 1 s.size) = (bytesOf s).drop 1 := by
  unfold bytesOf
  rw [← List.map_drop]
  refine congrArg _ ?_
  rw [ByteArray.data_extract, Array.toList_extract]
  rw [List.extract_eq_take_drop, List.take_of_length_le (by rw [List.length_drop, data_length]; omega)]
def l1B (n lo hi : Int) : Bool := decide (lo ≤ n) && decide (n ≤ hi)
theorem spec_l1In.M (n lo hi : Int) (w : World) : Calls Try.prog 90 #[.int .i64 n, .int .i64 lo, .int .i64 hi] w fun e w' => e = .returned (.bool (l1B n lo hi)) ∧ Below w.heap.size w w' := by
  go_enter Try.func90, Try.ntmps90
  go_wp2
  all_goals go_ret
  all_goals (refine ⟨?_, Below.refl _ _⟩; unfold l1B; simp_all; try omega)
theorem spec_KeyValid.M (a : ByteArray) (w : World) : Calls Try.prog 89 #[.string a] w fun e w' => e = .returned (.bool (keyB a)) ∧ Below w.heap.size w w' := by
  have B := Aside0.mk (Below.refl w.heap.size w)
  obtain ⟨r, hr⟩ : ∃ r, keyB a = r := ⟨_, rfl⟩
  rw [hr]
  unfold keyB at hr
  by_cases hs : 1 ≤ a.size ∧ a.size ≤ 4
  · have hl : l1B (a.size : Int) 1 4 = true := by unfold l1B; simp; omega
    have H := Aside0.mk (show ((bytesOf a).drop 0).all lowB = r by simpa [hs.1, hs.2] using hr)
    clear hr
    go_enter Try.func89, Try.ntmps89
    go_wp2_with (first
      | (go_at_call 90; with_reducible refine cl (clv (spec_l1In.M _ 1 4 _) (congrArg Value.bool hl)) B fun w1 hb B => ?_; clear hb))
    go_loopg [3] (a.size + 1) (fun kx v3 wr => ∃ j : Nat, v3 = .int .i64 (j : Int) ∧ j ≤ a.size ∧ a.size < j + kx ∧ Aside0 (Below w.heap.size w wr) ∧ Aside0 (((bytesOf a).drop j).all lowB = r))
    case atStart => exact ⟨0, rfl, by omega, by omega, B, H⟩
    case round =>
      clear H B
      obtain ⟨j, rfl, hj, hk, B, H⟩ := hrel
      have H := H.out
      by_cases hlt : j < a.size
      · have p := eq_true (show (0 : Int) ≤ (j : Int) by omega)
        have q := eq_true (show (j : Int) < (a.size : Int) by omega)
        have q' := decide_eq_true (show (j : Int) < (a.size : Int) by omega)
        have hx : ((a[j]'hlt).toNat : Int) = bt a (j : Int) := bt_at a (j : Int) (by rw [Int.toNat_natCast]; exact hlt)
        rw [bt_drop' hlt] at H
        simp only [List.all_cons] at H
        generalize bt a (j : Int) = x at *
        obtain ⟨d, rfl⟩ : ∃ d, gk = d + 1 := ⟨gk - 1, by omega⟩
        by_cases hx : lowB x = true
        · have H' := Aside0.mk (show ((bytesOf a).drop (j + 1)).all lowB = r by simpa [hx] using H)
          clear H
          unfold lowB at hx
          simp only [Bool.and_eq_true, decide_eq_true_eq] at hx
          have d1 : decide (x < 97) = false := decide_eq_false (by omega)
          have d2 : decide (122 < x) = false := decide_eq_false (by omega)
          go_wp2
          go_roundg d
          case measure => omega
          case rel => exact ⟨j + 1, congrArg (Value.int .i64) (Int.natCast_succ _).symm, by omega, by omega, B, H'⟩
        · have hr : r = false := by simpa [hx] using H.symm
          subst hr
          clear H
          unfold lowB at hx
          simp only [Bool.and_eq_true, decide_eq_true_eq] at hx
          by_cases h97 : x < 97
          · have d1 : decide (x < 97) = true := decide_eq_true h97
            go_wp2
            go_ret
            exact ⟨by simp, B.out⟩
          · have d1 : decide (x < 97) = false := decide_eq_false h97
            have d2 : decide (122 < x) = true := decide_eq_true (by omega)
            go_wp2
            go_ret
            exact ⟨by simp, B.out⟩
      · have q' := decide_eq_false (show ¬ (j : Int) < (a.size : Int) by omega)
        have hr : r = true := by
          rw [List.drop_of_length_le (by rw [bytesOf_length]; omega)] at H
          simpa using H.symm
        subst hr
        go_wp2
        go_ret
        exact ⟨by simp, B.out⟩
  · have hl : l1B (a.size : Int) 1 4 = false := by unfold l1B; simp; omega
    have hr : r = false := by
      rw [← hr, Bool.and_eq_false_iff, Bool.and_eq_false_iff, decide_eq_false_iff_not, decide_eq_false_iff_not]
      omega
    subst hr
    go_enter Try.func89, Try.ntmps89
    go_wp2_with (first
      | (go_at_call 90; with_reducible refine cl (clv (spec_l1In.M _ 1 4 _) (congrArg Value.bool hl)) B fun w1 hb B => ?_; clear hb))
    go_ret
    exact ⟨by simp, B.out⟩
theorem impl_lettersOnly.M : ∀ (n : Nat) (a : ByteArray) (w : World), a.size = n → Calls Try.prog 108 #[.string a] w fun e w' => e = .returned (.bool ((bytesOf a).all lowB)) ∧ Below w.heap.size w w'
  | 0, a, w, h => by
    have hn : a.toList = [] := (nil_iff a).mpr h
    go_enter Try.func108, Try.ntmps108
    go_wp2
    all_goals (first | go_ret | skip)
    all_goals (first | exact absurd hn (by assumption) | skip)
    refine ⟨?_, Below.refl _ _⟩
    have : bytesOf a = [] := List.eq_nil_of_length_eq_zero (by rw [bytesOf_length]; exact h)
    rw [this]
    rfl
  | n + 1, a, w, h => by
    have B := Aside0.mk (Below.refl w.heap.size w)
    have hn : ¬ a.toList = [] := fun q => by have := (nil_iff a).mp q; omega
    have IH := Aside0.mk (fun W => impl_lettersOnly.M n (a.extract 1 a.size) W (by simp [h]))
    have hb0 := bt_drop' (s := a) (j := 0) (by omega)
    have h0 : 0 < a.size := by omega
    have hx : ((a[0]'h0).toNat : Int) = bt a ((0 : Nat) : Int) := bt_at a 0 (by simp; omega)
    have p := eq_true (show (0 : Int) < (a.size : Int) by omega)
    have p1 := eq_true (show 0 < a.size by omega)
    have p2 := eq_true (show 1 ≤ a.size by omega)
    rw [List.drop_zero] at hb0
    rw [bytesOf_tail] at IH
    rw [hb0]
    simp only [List.all_cons]
    clear hb0
    rw [Nat.zero_add]
    generalize (List.drop 1 (bytesOf a)).all lowB = r at IH ⊢
    generalize bt a ((0 : Nat) : Int) = x at hx ⊢
    clear h
    go_enter Try.func108, Try.ntmps108
    go_wp2_with (first
      | (go_at_call 108; with_reducible refine cl (IH.out _) B fun w1 hb B => ?_; clear hb))
    all_goals go_ret
    all_goals (refine ⟨?_, B.out⟩; unfold lowB; simp_all; try omega)
theorem impl_KeyValid.M (a : ByteArray) (w : World) : Calls Try.prog 80 #[.string a] w fun e w' => e = .returned (.bool (keyB a)) ∧ Below w.heap.size w w' := by
  have B := Aside0.mk (Below.refl w.heap.size w)
  go_enter Try.func80, Try.ntmps80
  go_wp2_with (first
    | (go_at_call 108; with_reducible refine cl (impl_lettersOnly.M _ a _ rfl) B fun w1 hb B => ?_; clear hb))
  all_goals go_ret
  all_goals (refine ⟨?_, B.out⟩; unfold keyB; simp_all; try omega)
theorem impl_valueValid.M (n : Int) (w : World) : Calls Try.prog 94 #[.int .i64 n] w fun e w' => e = .returned (.bool (l1B n 0 999)) ∧ Below w.heap.size w w' := by
  go_enter Try.func94, Try.ntmps94
  go_wp2
  all_goals go_ret
  all_goals (refine ⟨?_, Below.refl _ _⟩; unfold l1B; simp_all; try omega)
theorem impl_seqValid.M (n : Int) (w : World) : Calls Try.prog 95 #[.int .i64 n] w fun e w' => e = .returned (.bool (l1B n 1 999)) ∧ Below w.heap.size w w' := by
  go_enter Try.func95, Try.ntmps95
  go_wp2
  all_goals go_ret
  all_goals (refine ⟨?_, Below.refl _ _⟩; unfold l1B; simp_all; try omega)

/-! The model of intervals. -/
def ivB (lo hi : ByteArray) : Bool :=
  if lo.toList = ([] : List UInt8) then (if hi.toList = ([] : List UInt8) then true else keyB hi && Op.bytesLess [97] hi.toList)
  else keyB lo && (if hi.toList = ([] : List UInt8) then true else keyB hi && Op.bytesLess lo.toList hi.toList)
def insB (lo hi key : ByteArray) : Bool := !(Op.bytesLess key.toList lo.toList) && (if hi.toList = ([] : List UInt8) then true else Op.bytesLess key.toList hi.toList)
def lowK (a : ByteArray) : ByteArray := if a.toList = ([] : List UInt8) then ⟨#[97]⟩ else a
def cutB (lo hi key : ByteArray) : Bool := ivB lo hi && (keyB key && (ivB lo key && ivB key hi))
def cutV (lo hi key : ByteArray) : ByteArray × ByteArray × ByteArray × ByteArray × Bool := if cutB lo hi key = true then (lo, key, key, hi, true) else (⟨#[]⟩, ⟨#[]⟩, ⟨#[]⟩, ⟨#[]⟩, false)
/-- a key begins with a letter, so it is a or greater -/
theorem key_a {s : ByteArray} (h : keyB s = true) : Op.bytesLess [97] s.toList = (Op.bytesLess [] s.toList && (s.toList != ([97] : List UInt8))) := by
  unfold keyB at h
  rw [Bool.and_eq_true, Bool.and_eq_true, decide_eq_true_eq] at h
  have h2 := h.2
  unfold bytesOf at h2
  rw [ba_toList]
  have hs : s.data.toList.length = s.size := data_length s
  generalize s.data.toList = x at *
  cases x with
  | nil => simp only [List.length_nil] at hs; omega
  | cons b r =>
    simp only [List.map_cons, List.all_cons, Bool.and_eq_true] at h2
    have hb := h2.1
    unfold lowB at hb
    rw [Bool.and_eq_true, decide_eq_true_eq] at hb
    have h97 : (97 : UInt8).toNat ≤ b.toNat := by have := hb.1; show 97 ≤ b.toNat; omega
    rw [show Op.bytesLess [] (b :: r) = true from rfl, Bool.true_and]
    simp only [Op.bytesLess]
    by_cases e : b = 97
    · subst e
      cases r with
      | nil => decide
      | cons c r => simp [Op.bytesLess]
    · have h3 : (97 : UInt8) < b := by
        rw [UInt8.lt_iff_toNat_lt]
        have : b.toNat ≠ (97 : UInt8).toNat := fun h => e (UInt8.toNat_inj.mp h)
        omega
      simp [h3, e]
theorem toL97 : (⟨#[97]⟩ : ByteArray).toList = [97] := by rw [ba_toList]
theorem toL0 : (⟨#[]⟩ : ByteArray).toList = [] := by rw [ba_toList]
theorem less_nil {x : List UInt8} (h : ¬ x = []) : Op.bytesLess [] x = true := by cases x with | nil => exact absurd rfl h | cons => rfl
theorem cutV_ok (lo hi key : ByteArray) : (cutV lo hi key).2.2.2.2 = cutB lo hi key := by
  unfold cutV
  cases cutB lo hi key <;> rfl

theorem spec_IntervalValid.M (a b : ByteArray) (w : World) : Calls Try.prog 47 #[.agg #[.string a, .string b]] w fun e w' => e = .returned (.bool (ivB a b)) ∧ Below w.heap.size w w' := by
  have B := Aside0.mk (Below.refl w.heap.size w)
  have hu := Try.underlying30
  go_enter Try.func47, Try.ntmps47
  go_wp2_with (first
    | ((with_reducible refine gate_dst (N := 1) rfl ?_); refine bx ?hg (N := 1) ?hd (cs := #[.string a, .string b]) (t := 30) ?hr B ?_; (case hd => rfl); (case hg => rfl); (case hr => first | (go_simp; done) | (go_simp; rfl)); intro g1 w1 hb B F1 L1 E1; obtain ⟨c1_0, c1_1⟩ := cs2 F1; clear hb E1)
    | (go_at_call 89; with_reducible refine cl (spec_KeyValid.M a _) B fun w2 hb B => ?_; replace F1 := bn F1 hb; clear c1_0 c1_1; obtain ⟨c1_0, c1_1⟩ := cs2 F1; clear hb)
    | (go_at_call 89; with_reducible refine cl (spec_KeyValid.M b _) B fun w3 hb B => ?_; replace F1 := bn F1 hb; clear c1_0 c1_1; obtain ⟨c1_0, c1_1⟩ := cs2 F1; clear hb))
  all_goals go_ret
  all_goals
    refine ⟨?_, B.out⟩
    unfold ivB
    by_cases ha : a.toList = [] <;> by_cases hb : b.toList = [] <;> cases ka : keyB a <;> cases kb : keyB b <;> simp_all [toL97, toL0, key_a, less_nil] <;> (try omega) <;> (rw [show b.toList.isEmpty = false by simp [hb]]; rfl)
theorem impl_lowestKey.M (a b : ByteArray) (w : World) : Calls Try.prog 93 #[.agg #[.string a, .string b]] w fun e w' => e = .returned (.string (lowK a)) ∧ Below w.heap.size w w' := by
  have B := Aside0.mk (Below.refl w.heap.size w)
  have hu := Try.underlying30
  go_enter Try.func93, Try.ntmps93
  go_wp2_with (first
    | ((with_reducible refine gate_dst (N := 1) rfl ?_); refine bx ?hg (N := 1) ?hd (cs := #[.string a, .string b]) (t := 30) ?hr B ?_; (case hd => rfl); (case hg => rfl); (case hr => first | (go_simp; done) | (go_simp; rfl)); intro g1 w1 hb B F1 L1 E1; obtain ⟨c1_0, c1_1⟩ := cs2 F1; clear hb E1))
  all_goals go_ret
  all_goals (refine ⟨?_, B.out⟩; unfold lowK; simp_all)
def impl_IntervalValid.T3 : Bool × List (List Nat × List Nat) := (true, [([], []), ([0], [0]), ([1], [1]), ([2], [2]), ([3], [3]), ([4, 3, 3], [3, 4]), ([3], [3]), ([6, 3], [3, 6]), ([5, 7, 3], [3, 5, 7]), ([3, 8], [3, 8]), ([9, 5, 0, 1, 2, 3, 4, 5, 6, 7, 8, 9], [9])])
def impl_IntervalValid.B3 : List Nat := [0, 1, 3, 7, 15, 31, 15, 79, 255, 511, 1023]
theorem impl_IntervalValid.tab3 : rtab .any (opsOf Try.f55 3) = impl_IntervalValid.T3 := by kernel_rfl
theorem impl_IntervalValid.bits3 : waitsOk impl_IntervalValid.T3.2 impl_IntervalValid.B3 = true := by kernel_rfl
theorem impl_IntervalValid.M (a b : ByteArray) (w : World) : Calls Try.prog 55 #[.agg #[.string a, .string b]] w fun e w' => e = .returned (.bool (ivB a b)) ∧ Below w.heap.size w w' := by
  have B := Aside0.mk (Below.refl w.heap.size w)
  have hu := Try.underlying30
  go_enter Try.func55, Try.ntmps55
  go_wp2_with (first
    | ((with_reducible refine gate_dst (N := 1) rfl ?_); refine bx ?hg (N := 1) ?hd (cs := #[.string a, .string b]) (t := 30) ?hr B ?_; (case hd => rfl); (case hg => rfl); (case hr => first | (go_simp; done) | (go_simp; rfl)); intro g1 w1 hb B F1 L1 E1; obtain ⟨c1_0, c1_1⟩ := cs2 F1; clear hb E1)
    | (go_at_call 80; with_reducible refine cl (impl_KeyValid.M a _) B fun w2 hb B => ?_; replace F1 := bn F1 hb; clear c1_0 c1_1; obtain ⟨c1_0, c1_1⟩ := cs2 F1; clear hb)
    | (go_at_call 80; with_reducible refine cl (impl_KeyValid.M b _) B fun w3 hb B => ?_; replace F1 := bn F1 hb; clear c1_0 c1_1; obtain ⟨c1_0, c1_1⟩ := cs2 F1; clear hb))
  all_goals try (go_ret; refine ⟨?_, B.out⟩; unfold ivB; (try unfold lowK); by_cases ha : a.toList = [] <;> by_cases hb : b.toList = [] <;> cases ka : keyB a <;> cases kb : keyB b <;> simp_all [toL97, toL0]; done)
  all_goals (
    by_cases hq0 : b.toList = ([] : List UInt8)
    · first
      | exact absurd hq0 (by assumption)
      | (
        have hd0 : (b.toList == ([] : List UInt8)) = true := by simp [hq0]
        refine rg (n := 11) (S := fun W => W.heap[g1]? = some (.cells #[.string a, .string b] 30 (0, 0))) (ds := []) #[false, false, false, false, false, false, false, false, false, false, false] (by kernel_rfl) rfl rfl F1.out id B (fun w4 hb B hHeld => ?_)
        refine with_tabW impl_IntervalValid.tab3 impl_IntervalValid.bits3 (fun HT_ HW_ => ?_)
        replace F1 := bn F1 hb
        clear hb
        refine pu (i := 0) (N := some 23) (v := ?_) (bits 11 1) rfl rfl (any_of HT_.out (by kernel_rfl)) (fun _ _ _ h => h) (by kernel_rfl) ?_ ?_; rotate_left; (intro w'; go_simp; with_reducible rfl)
        refine ta (i := 1) (N := some 24) (v := ?_) (bits 11 3) rfl rfl (take_ofW HT_.out HW_.out (by kernel_rfl)) (fun _ _ _ h => h) (by kernel_rfl) hHeld ?_ ?_; rotate_left; (intro w' hS; have s0 := hS; obtain ⟨q0, q1⟩ := cs2 (Aside0.mk s0); go_simp; with_reducible rfl)
        refine pu (i := 2) (N := some 25) (v := ?_) (bits 11 7) rfl rfl (any_of HT_.out (by kernel_rfl)) (fun _ _ _ h => h) (by kernel_rfl) ?_ ?_; rotate_left; (intro w'; go_simp; with_reducible rfl)
        refine pu (i := 3) (N := some 26) (v := ?_) (bits 11 15) rfl rfl (any_of HT_.out (by kernel_rfl)) (fun _ _ _ h => h) (by kernel_rfl) ?_ ?_; rotate_left; (intro w'; go_simp; with_reducible rfl)
        refine sk (i := 4) (N := some 27) (bits 11 31) rfl rfl (any_of HT_.out (by kernel_rfl)) (fun _ _ _ h => h) (by kernel_rfl) ?_
        refine sk (i := 5) (N := some 28) (bits 11 63) rfl rfl (any_of HT_.out (by kernel_rfl)) (fun _ _ _ h => h) (by kernel_rfl) ?_
        refine sk (i := 6) (N := some 29) (bits 11 127) rfl rfl (any_of HT_.out (by kernel_rfl)) (fun _ _ _ h => h) (by kernel_rfl) ?_
        refine sk (i := 7) (N := some 30) (bits 11 255) rfl rfl (any_of HT_.out (by kernel_rfl)) (fun _ _ _ h => h) (by kernel_rfl) ?_
        refine sk (i := 8) (N := some 31) (bits 11 511) rfl rfl (any_of HT_.out (by kernel_rfl)) (fun _ _ _ h => h) (by kernel_rfl) ?_
        refine pu (i := 9) (N := some 32) (v := ?_) (bits 11 1023) rfl rfl (any_of HT_.out (by kernel_rfl)) (fun _ _ _ h => h) (by kernel_rfl) ?_ ?_; rotate_left; (intro w'; go_simp; with_reducible rfl)
        refine pu (i := 10) (N := some 2) (v := ?_) (bits 11 2047) rfl rfl (any_of HT_.out (by kernel_rfl)) (fun _ _ _ h => h) (by kernel_rfl) ?_ ?_; rotate_left; (intro w'; go_simp; with_reducible rfl)
        refine norm_ (a' := ?_) ?_ ?_
        rotate_left
        · simp only [Act.put, List.setIfInBounds_toArray, List.set_cons_zero, List.set_cons_succ, i64_w, i32_w]
          rfl
        refine done_ (done_of HT_.out (by kernel_rfl)) ?_
        try go_wp2
        go_ret
        refine ⟨?_, B.out⟩
        unfold ivB; (try unfold lowK); by_cases ha : a.toList = [] <;> by_cases hb : b.toList = [] <;> cases ka : keyB a <;> cases kb : keyB b <;> simp_all [toL97, toL0]
        )
    · first
      | exact absurd (by assumption) hq0
      | (
        have hd0 : (b.toList == ([] : List UInt8)) = false := by simp [hq0]
        refine rg (n := 11) (S := fun W => W.heap[g1]? = some (.cells #[.string a, .string b] 30 (0, 0))) (ds := []) #[false, false, false, false, false, false, false, false, false, false, false] (by kernel_rfl) rfl rfl F1.out id B (fun w4 hb B hHeld => ?_)
        refine with_tabW impl_IntervalValid.tab3 impl_IntervalValid.bits3 (fun HT_ HW_ => ?_)
        replace F1 := bn F1 hb
        clear hb
        refine pu (i := 0) (N := some 23) (v := ?_) (bits 11 1) rfl rfl (any_of HT_.out (by kernel_rfl)) (fun _ _ _ h => h) (by kernel_rfl) ?_ ?_; rotate_left; (intro w'; go_simp; with_reducible rfl)
        refine ta (i := 1) (N := some 24) (v := ?_) (bits 11 3) rfl rfl (take_ofW HT_.out HW_.out (by kernel_rfl)) (fun _ _ _ h => h) (by kernel_rfl) hHeld ?_ ?_; rotate_left; (intro w' hS; have s0 := hS; obtain ⟨q0, q1⟩ := cs2 (Aside0.mk s0); go_simp; with_reducible rfl)
        refine pu (i := 2) (N := some 25) (v := ?_) (bits 11 7) rfl rfl (any_of HT_.out (by kernel_rfl)) (fun _ _ _ h => h) (by kernel_rfl) ?_ ?_; rotate_left; (intro w'; go_simp; with_reducible rfl)
        refine pu (i := 3) (N := some 26) (v := ?_) (bits 11 15) rfl rfl (any_of HT_.out (by kernel_rfl)) (fun _ _ _ h => h) (by kernel_rfl) ?_ ?_; rotate_left; (intro w'; go_simp; with_reducible rfl)
        refine ta (i := 4) (N := some 27) (v := ?_) (bits 11 31) rfl rfl (take_ofW HT_.out HW_.out (by kernel_rfl)) (fun _ _ _ h => h) (by kernel_rfl) hHeld ?_ ?_; rotate_left; (intro w' hS; have s0 := hS; obtain ⟨q0, q1⟩ := cs2 (Aside0.mk s0); go_simp; with_reducible rfl)
        refine pu (i := 6) (N := some 29) (v := ?_) (bits 11 95) rfl rfl (any_of HT_.out (by kernel_rfl)) (fun _ _ _ h => h) (by kernel_rfl) ?_ ?_; rotate_left; (intro w'; go_simp; with_reducible rfl)
        refine ta (i := 7) (N := some 30) (v := ?_) (bits 11 223) rfl rfl (take_ofW HT_.out HW_.out (by kernel_rfl)) (fun _ _ _ h => h) (by kernel_rfl) hHeld ?_ ?_; rotate_left; (intro w' hS; have s0 := hS; obtain ⟨q0, q1⟩ := cs2 (Aside0.mk s0); go_simp; with_reducible rfl)
        refine norm_ (a' := ?_) ?_ ?_
        rotate_left
        · simp only [Act.put, List.setIfInBounds_toArray, List.set_cons_zero, List.set_cons_succ, i64_w, i32_w]
          rfl
        refine one_ (i := 5) (N := some 28) (bits 11 255) rfl rfl (one_of HT_.out (by kernel_rfl)) (by decide) (fun K hK => ?_)
        refine goes_ Try.func93 (by kernel_rfl) rfl #[.agg #[.string a, .string b]] (by rfl) rfl rfl (by (try simp only [List.map_toArray, List.map_cons, List.map_nil]); rfl) ?_
        with_reducible refine cl (impl_lowestKey.M a b _) B fun w5 hb B => ?_
        replace F1 := bn F1 hb
        clear hb
        refine ⟨_, rfl, ?_⟩
        refine hK.out _ _ F1.out (fun hHeld => ?_)
        clear hK K
        refine norm_ (a' := ?_) ?_ ?_
        rotate_left
        · show Act.put _ (some 28) _ = _
          simp only [Act.put, List.setIfInBounds_toArray, List.set_cons_zero, List.set_cons_succ, i64_w, i32_w]
          rfl
        refine pu (i := 8) (N := some 31) (v := ?_) (bits 11 511) rfl rfl (any_of HT_.out (by kernel_rfl)) (fun _ _ _ h => h) (by kernel_rfl) ?_ ?_; rotate_left; (intro w'; go_simp; with_reducible rfl)
        refine pu (i := 9) (N := some 32) (v := ?_) (bits 11 1023) rfl rfl (any_of HT_.out (by kernel_rfl)) (fun _ _ _ h => h) (by kernel_rfl) ?_ ?_; rotate_left; (intro w'; go_simp; with_reducible rfl)
        refine pu (i := 10) (N := some 2) (v := ?_) (bits 11 2047) rfl rfl (any_of HT_.out (by kernel_rfl)) (fun _ _ _ h => h) (by kernel_rfl) ?_ ?_; rotate_left; (intro w'; go_simp; with_reducible rfl)
        refine norm_ (a' := ?_) ?_ ?_
        rotate_left
        · simp only [Act.put, List.setIfInBounds_toArray, List.set_cons_zero, List.set_cons_succ, i64_w, i32_w]
          rfl
        refine done_ (done_of HT_.out (by kernel_rfl)) ?_
        try go_wp2
        go_ret
        refine ⟨?_, B.out⟩
        unfold ivB; (try unfold lowK); by_cases ha : a.toList = [] <;> by_cases hb : b.toList = [] <;> cases ka : keyB a <;> cases kb : keyB b <;> simp_all [toL97, toL0]
        ))
  all_goals try go_wp2
  all_goals try (go_ret; refine ⟨?_, B.out⟩; unfold ivB; (try unfold lowK); by_cases ha : a.toList = [] <;> by_cases hb : b.toList = [] <;> cases ka : keyB a <;> cases kb : keyB b <;> simp_all [toL97, toL0]; done)

def hasB (a b c : ByteArray) : Bool := ivB a b && (keyB c && insB a b c)
theorem spec_IntervalHas.M (a b c : ByteArray) (w : World) : Calls Try.prog 50 #[.agg #[.string a, .string b], .string c] w fun e w' => e = .returned (.bool (hasB a b c)) ∧ Below w.heap.size w w' := by
  have B := Aside0.mk (Below.refl w.heap.size w)
  have hu := Try.underlying30
  go_enter Try.func50, Try.ntmps50
  go_wp2_with (first
    | ((with_reducible refine gate_dst (N := 2) rfl ?_); refine bx ?hg (N := 2) ?hd (cs := #[.string a, .string b]) (t := 30) ?hr B ?_; (case hd => rfl); (case hg => rfl); (case hr => first | (go_simp; done) | (go_simp; rfl)); intro g2 w1 hb B F2 L2 E2; obtain ⟨c2_0, c2_1⟩ := cs2 F2; clear hb E2)
    | (go_at_call 47; with_reducible refine cl (spec_IntervalValid.M a b _) B fun w2 hb B => ?_; replace F2 := bn F2 hb; clear c2_0 c2_1; obtain ⟨c2_0, c2_1⟩ := cs2 F2; clear hb)
    | (go_at_call 89; with_reducible refine cl (spec_KeyValid.M c _) B fun w3 hb B => ?_; replace F2 := bn F2 hb; clear c2_0 c2_1; obtain ⟨c2_0, c2_1⟩ := cs2 F2; clear hb))
  all_goals go_ret
  all_goals (refine ⟨?_, B.out⟩; unfold hasB insB; simp_all)

theorem impl_inside.M (a b c : ByteArray) (w : World) : Calls Try.prog 58 #[.agg #[.string a, .string b], .string c] w fun e w' => e = .returned (.bool (insB a b c)) ∧ Below w.heap.size w w' := by
  have B := Aside0.mk (Below.refl w.heap.size w)
  have hu := Try.underlying30
  go_enter Try.func58, Try.ntmps58
  go_wp2_with (first
    | ((with_reducible refine gate_dst (N := 2) rfl ?_); refine bx ?hg (N := 2) ?hd (cs := #[.string a, .string b]) (t := 30) ?hr B ?_; (case hd => rfl); (case hg => rfl); (case hr => first | (go_simp; done) | (go_simp; rfl)); intro g2 w1 hb B F2 L2 E2; obtain ⟨c2_0, c2_1⟩ := cs2 F2; clear hb E2))
  all_goals go_ret
  all_goals (refine ⟨?_, B.out⟩; unfold insB; simp_all)

/-! The model of pairs. -/
def ltB (a b : ByteArray) : Bool := Op.bytesLess a.toList b.toList
def okP (p : S61) : Bool := keyB p.f0 && l1B p.f1 0 999
def aboveP (p : Option ByteArray) (c : ByteArray) : Bool := match p with
  | none => true
  | some q => ltB q c
def prG : Option ByteArray → List S61 → Bool
  | _, [] => true
  | p, s :: r => okP s && (aboveP p s.f0 && prG (some s.f0) r)
def prB (l : List S61) : Bool := decide (l.length ≤ 48) && prG none l
def prP (l : List S61) (j : Nat) : Option ByteArray := if j = 0 then none else some (l.getD (j - 1) z61).f0
theorem pr_nat {l : List S61} {j : Nat} (h : j < l.length) : rd_T61 l (j : Int) = l[j] := by
  simp [rd_T61, List.getD_eq_getElem?_getD, List.getElem?_eq_getElem h]
theorem pr_drop {l : List S61} {j : Nat} (h : j < l.length) : l.drop j = rd_T61 l (j : Int) :: l.drop (j + 1) := by
  rw [pr_nat h, List.drop_eq_getElem_cons h]
theorem pr_prev (l : List S61) (j : Nat) : prP l (j + 1) = some (rd_T61 l (j : Int)).f0 := by
  unfold prP rd_T61
  rw [if_neg (by omega), Int.toNat_natCast, Nat.add_sub_cancel]
theorem prB_len {l : List S61} (h : prB l = true) : l.length ≤ 48 := by
  unfold prB at h
  rw [Bool.and_eq_true, decide_eq_true_eq] at h
  exact h.1
def prJ (l : List S61) (j : Nat) : Bool := prG (prP l j) (l.drop j)
theorem prJ_end {l : List S61} {j : Nat} (h : ¬ j < l.length) : prJ l j = true := by
  unfold prJ
  rw [List.drop_of_length_le (by omega)]
  rfl
theorem prJ_step {l : List S61} {j : Nat} (h : j < l.length) :
    prJ l j = ((keyB (rd_T61 l (j : Int)).f0 && (l1B (rd_T61 l (j : Int)).f1 0 999 && (if j = 0 then true else ltB (rd_T61 l ((j - 1 : Nat) : Int)).f0 (rd_T61 l (j : Int)).f0))) && prJ l (j + 1)) := by
  unfold prJ
  rw [pr_drop h, pr_prev]
  simp only [prG]
  unfold okP
  by_cases hj : j = 0
  · subst hj
    simp [prP, aboveP, Bool.and_assoc]
  · obtain ⟨i, rfl⟩ : ∃ i, j = i + 1 := ⟨j - 1, by omega⟩
    rw [pr_prev, if_neg hj, Nat.add_sub_cancel]
    simp [aboveP, Bool.and_assoc]

/-! The model of sessions. -/
def okS (s : S100) : Bool := l1B s.f0 0 3 && (l1B s.f1 1 999 && l1B s.f2 (-2) 999)
def above (p : Option Int) (c : Int) : Bool := match p with
  | none => true
  | some q => decide (q < c)
def sesG : Option Int → List S100 → Bool
  | _, [] => true
  | p, s :: r => okS s && (above p s.f0 && sesG (some s.f0) r)
def sesB (l : List S100) : Bool := sesG none l
def sesP (l : List S100) (j : Nat) : Option Int := if j = 0 then none else some (l.getD (j - 1) z100).f0
theorem ses_nat {l : List S100} {j : Nat} (h : j < l.length) : rd_T100 l (j : Int) = l[j] := by
  simp [rd_T100, List.getD_eq_getElem?_getD, List.getElem?_eq_getElem h]
theorem ses_drop {l : List S100} {j : Nat} (h : j < l.length) : l.drop j = rd_T100 l (j : Int) :: l.drop (j + 1) := by
  rw [ses_nat h, List.drop_eq_getElem_cons h]
theorem ses_prev (l : List S100) (j : Nat) : sesP l (j + 1) = some (rd_T100 l (j : Int)).f0 := by
  unfold sesP rd_T100
  rw [if_neg (by omega), Int.toNat_natCast, Nat.add_sub_cancel]
def sesJ (l : List S100) (j : Nat) : Bool := sesG (sesP l j) (l.drop j)
theorem sesJ_end {l : List S100} {j : Nat} (h : ¬ j < l.length) : sesJ l j = true := by
  unfold sesJ
  rw [List.drop_of_length_le (by omega)]
  rfl
theorem sesJ_step {l : List S100} {j : Nat} (h : j < l.length) :
    sesJ l j = ((l1B (rd_T100 l (j : Int)).f0 0 3 && (l1B (rd_T100 l (j : Int)).f1 1 999 && (l1B (rd_T100 l (j : Int)).f2 (-2) 999 && (if j = 0 then true else decide ((rd_T100 l ((j - 1 : Nat) : Int)).f0 < (rd_T100 l (j : Int)).f0))))) && sesJ l (j + 1)) := by
  unfold sesJ
  rw [ses_drop h, ses_prev]
  simp only [sesG]
  unfold okS
  by_cases hj : j = 0
  · subst hj
    simp [sesP, above, Bool.and_assoc]
  · obtain ⟨i, rfl⟩ : ∃ i, j = i + 1 := ⟨j - 1, by omega⟩
    rw [ses_prev, if_neg hj, Nat.add_sub_cancel]
    simp [above, Bool.and_assoc]

/-! The model of states. -/
def tailB (lo hi : ByteArray) (t : Bool) (c : ByteArray) : Bool := if c.toList = ([] : List UInt8) then true else t && cutB lo hi c
def stB (lo hi : ByteArray) (ps : List S61) (ss : List S100) (t : Bool) (c : ByteArray) : Bool :=
  ivB lo hi && (prB ps && (sesB ss && ((ps.all fun p => insB lo hi p.f0) && tailB lo hi t c)))
theorem pr_key {l : List S61} : ∀ p, prG p l = true → ∀ x ∈ l, keyB x.f0 = true := by
  induction l with
  | nil => intro p _ x hx; cases hx
  | cons s r ih =>
    intro p h x hx
    simp only [prG, Bool.and_eq_true] at h
    rcases List.mem_cons.mp hx with rfl | hx
    · have := h.1
      unfold okP at this
      rw [Bool.and_eq_true] at this
      exact this.1
    · exact ih _ h.2.2 x hx
theorem prB_key {l : List S61} (h : prB l = true) : ∀ x ∈ l, keyB x.f0 = true := by
  unfold prB at h
  rw [Bool.and_eq_true] at h
  exact pr_key none h.2
theorem all_has {lo hi : ByteArray} {ps : List S61} (hv : ivB lo hi = true) (hp : prB ps = true) : (ps.all fun p => hasB lo hi p.f0) = ps.all fun p => insB lo hi p.f0 := by
  have hk := prB_key hp
  clear hp
  induction ps with
  | nil => rfl
  | cons x r ih =>
    simp only [List.all_cons]
    rw [ih fun y hy => hk y (List.mem_cons_of_mem _ hy)]
    unfold hasB
    rw [hv, hk x (List.mem_cons_self ..)]
    rfl

def spec_PairsValid.T6 : Bool × List (List Nat × List Nat) := (true, [([], []), ([], []), ([0, 1], [0, 1]), ([2], [2]), ([3], [3]), ([4], [4]), ([5], [5]), ([6, 5], [6]), ([7], [7]), ([7], [7]), ([8, 9, 7], [7, 8, 9]), ([10, 7], [7, 10]), ([11, 7], [7, 11]), ([12, 7, 7], [7, 12]), ([13, 7], [7, 13]), ([7, 14], [7, 14]), ([15, 13], [15]), ([16], [16]), ([17, 16], [16, 17]), ([18, 16, 16], [16, 18]), ([19], [19]), ([19], [19]), ([20, 21, 19], [19, 20, 21]), ([22, 19], [19, 22]), ([23, 19], [19, 23]), ([19], [19]), ([19], [19]), ([26, 19], [19, 26]), ([25, 27, 19], [19, 25, 27]), ([28, 19], [19, 28]), ([29, 19], [19, 29]), ([24, 30, 19], [19, 24, 30]), ([19, 31, 16], [16, 19, 31]), ([16, 32], [16, 32])])
def spec_PairsValid.B6 : List Nat := [0, 0, 3, 7, 15, 31, 63, 127, 255, 255, 1023, 2047, 4095, 8191, 16383, 32767, 65535, 131071, 262143, 524287, 1048575, 1048575, 4194303, 8388607, 16777215, 1048575, 1048575, 68157439, 235929599, 504365055, 1041235967, 2147483647, 4294967295, 8589934591]
theorem spec_PairsValid.tab6 : rtab .any (opsOf Try.f48 6) = spec_PairsValid.T6 := by kernel_rfl
theorem spec_PairsValid.bits6 : waitsOk spec_PairsValid.T6.2 spec_PairsValid.B6 = true := by kernel_rfl
theorem spec_PairsValid.M (A0 : Option Addr) (c0 : Nat) (l : List S61) (w : World) (hr0 : Kd.C k61 w A0 l.length l) : Calls Try.prog 48 #[.slice A0 l.length c0] w fun e w' => e = .returned (.bool (prB l)) ∧ Below w.heap.size w w' := by
  have hu := Try.underlying61
  have B := Aside0.mk (Below.refl w.heap.size w)
  have HR0 := Aside0.mk hr0
  clear hr0
  obtain ⟨r, hr⟩ : ∃ r, prB l = r := ⟨_, rfl⟩
  rw [hr]
  unfold prB at hr
  by_cases hl : l.length ≤ 48
  · have H := Aside0.mk (show prJ l 0 = r by unfold prJ prP; simpa [hl] using hr)
    have cl0 : decide (48 < (l.length : Int)) = false := decide_eq_false (by omega)
    have L48 := Aside0.mk (show l.length ≤ 4611686018427387904 by omega)
    clear hl hr
    go_enter Try.func48, Try.ntmps48
    go_wp2
    go_loopg [3] (l.length + 1) (fun kx v3 wr => ∃ j : Nat, v3 = .int .i64 (j : Int) ∧ j ≤ l.length ∧ l.length < j + kx ∧ Aside0 (Below w.heap.size w wr) ∧ Aside0 (prJ l j = r))
    case atStart => exact ⟨0, rfl, by omega, by omega, B, H⟩
    case round =>
      clear H B
      obtain ⟨j, rfl, hj, hk, B, H⟩ := hrel
      by_cases hlt : j < l.length
      · have HS := Aside0.mk ((prJ_step hlt).symm.trans H.out)
        clear H
        obtain ⟨d, rfl⟩ : ∃ d, gk = d + 1 := ⟨gk - 1, by omega⟩
        have h48 := L48.out
        have cj : decide ((j : Int) < (l.length : Int)) = true := decide_eq_true (by omega)
        obtain ⟨ad, hA, y0, y1⟩ := at_T61 (cb HR0 B) (j : Int) (by omega) (by omega)
        cases hA
        rw [Int.toNat_natCast] at y0 y1
        have j1 := eq_true (show (j : Int) < (l.length : Int) by omega)
        have j2 := eq_true hlt
        generalize hy : rd_T61 l (j : Int) = y at *
        try go_wp2
        all_goals try (go_ret; exact ⟨andF HS.out (by grind [l1B, ltB]), B.out⟩)
        all_goals (
          refine rg (n := 34) (S := fun W => Kd.C k61 W (some ad) l.length l) (ds := []) #[false, false, false, false, false, false, false, false, false, false, false, false, false, false, false, false, false, false, false, false, false, false, false, false, false, false, false, false, false, false, false, false, false, false] (by kernel_rfl) rfl rfl (cb HR0 B) id B (fun w1 hb B hHeld => ?_)
          refine with_tabW spec_PairsValid.tab6 spec_PairsValid.bits6 (fun HT_ HW_ => ?_)
          clear hb
          refine pu (i := 0) (N := some 13) (v := ?_) (bits 34 1) rfl rfl (any_of HT_.out (by kernel_rfl)) (fun _ _ _ h => h) (by kernel_rfl) ?_ ?_; rotate_left; (intro w'; go_simp; with_reducible rfl)
          refine pu (i := 1) (N := some 14) (v := ?_) (bits 34 3) rfl rfl (any_of HT_.out (by kernel_rfl)) (fun _ _ _ h => h) (by kernel_rfl) ?_ ?_; rotate_left; (intro w'; go_simp; with_reducible rfl)
          refine pu (i := 2) (N := some 15) (v := ?_) (bits 34 7) rfl rfl (any_of HT_.out (by kernel_rfl)) (fun _ _ _ h => h) (by kernel_rfl) ?_ ?_; rotate_left; (intro w'; go_simp; with_reducible rfl)
          refine pu (i := 3) (N := some 16) (v := ?_) (bits 34 15) rfl rfl (any_of HT_.out (by kernel_rfl)) (fun _ _ _ h => h) (by kernel_rfl) ?_ ?_; rotate_left; (intro w'; go_simp; with_reducible rfl)
          refine ta (i := 4) (N := some 17) (v := ?_) (bits 34 31) rfl rfl (take_ofW HT_.out HW_.out (by kernel_rfl)) (fun _ _ _ h => h) (by kernel_rfl) hHeld ?_ ?_; rotate_left; (intro w' hS; have s0 := hS; obtain ⟨_, hA, q0, q1⟩ := at_T61 s0 (j : Int) (by omega) (by omega); cases hA; rw [Int.toNat_natCast] at q0 q1; rw [hy] at q0 q1; go_simp; with_reducible rfl)
          refine norm_ (a' := ?_) ?_ ?_
          rotate_left
          · simp only [Act.put, List.setIfInBounds_toArray, List.set_cons_zero, List.set_cons_succ, i64_w, i32_w]
            rfl
          refine one_ (i := 5) (N := some 18) (bits 34 63) rfl rfl (one_of HT_.out (by kernel_rfl)) (by decide) (fun K hK => ?_)
          rcases hq1 : (keyB y.f0) with _ | _
          · refine goes_ Try.func89 (by kernel_rfl) rfl #[.string y.f0] (by rfl) rfl rfl (by (try simp only [List.map_toArray, List.map_cons, List.map_nil]); rfl) ?_
            with_reducible refine cl (clv (spec_KeyValid.M y.f0 _) (congrArg Value.bool hq1)) B fun w2 hb B => ?_
            clear hb
            refine ⟨_, rfl, ?_⟩
            refine hK.out _ _ (cb HR0 B) (fun hHeld => ?_)
            clear hK K
            refine norm_ (a' := ?_) ?_ ?_
            rotate_left
            · show Act.put _ (some 18) _ = _
              simp only [Act.put, List.setIfInBounds_toArray, List.set_cons_zero, List.set_cons_succ, i64_w, i32_w]
              rfl
            refine pu (i := 6) (N := some 19) (v := ?_) (bits 34 127) rfl rfl (any_of HT_.out (by kernel_rfl)) (fun _ _ _ h => h) (by kernel_rfl) ?_ ?_; rotate_left; (intro w'; go_simp; with_reducible rfl)
            refine pu (i := 7) (N := some 20) (v := ?_) (bits 34 255) rfl rfl (any_of HT_.out (by kernel_rfl)) (fun _ _ _ h => h) (by kernel_rfl) ?_ ?_; rotate_left; (intro w'; go_simp; with_reducible rfl)
            refine sk (i := 8) (N := some 21) (bits 34 511) rfl rfl (any_of HT_.out (by kernel_rfl)) (fun _ _ _ h => h) (by kernel_rfl) ?_
            refine sk (i := 9) (N := some 22) (bits 34 1023) rfl rfl (any_of HT_.out (by kernel_rfl)) (fun _ _ _ h => h) (by kernel_rfl) ?_
            refine sk (i := 10) (N := some 23) (bits 34 2047) rfl rfl (any_of HT_.out (by kernel_rfl)) (fun _ _ _ h => h) (by kernel_rfl) ?_
            refine sk (i := 11) (N := some 24) (bits 34 4095) rfl rfl (any_of HT_.out (by kernel_rfl)) (fun _ _ _ h => h) (by kernel_rfl) ?_
            refine sk (i := 12) (N := some 25) (bits 34 8191) rfl rfl (any_of HT_.out (by kernel_rfl)) (fun _ _ _ h => h) (by kernel_rfl) ?_
            refine sk (i := 13) (N := some 26) (bits 34 16383) rfl rfl (any_of HT_.out (by kernel_rfl)) (fun _ _ _ h => h) (by kernel_rfl) ?_
            refine sk (i := 14) (N := some 27) (bits 34 32767) rfl rfl (any_of HT_.out (by kernel_rfl)) (fun _ _ _ h => h) (by kernel_rfl) ?_
            refine pu (i := 15) (N := some 28) (v := ?_) (bits 34 65535) rfl rfl (any_of HT_.out (by kernel_rfl)) (fun _ _ _ h => h) (by kernel_rfl) ?_ ?_; rotate_left; (intro w'; go_simp; with_reducible rfl)
            refine pu (i := 16) (N := some 29) (v := ?_) (bits 34 131071) rfl rfl (any_of HT_.out (by kernel_rfl)) (fun _ _ _ h => h) (by kernel_rfl) ?_ ?_; rotate_left; (intro w'; go_simp; with_reducible rfl)
            refine sk (i := 17) (N := some 30) (bits 34 262143) rfl rfl (any_of HT_.out (by kernel_rfl)) (fun _ _ _ h => h) (by kernel_rfl) ?_
            refine sk (i := 18) (N := some 31) (bits 34 524287) rfl rfl (any_of HT_.out (by kernel_rfl)) (fun _ _ _ h => h) (by kernel_rfl) ?_
            refine sk (i := 19) (N := some 32) (bits 34 1048575) rfl rfl (any_of HT_.out (by kernel_rfl)) (fun _ _ _ h => h) (by kernel_rfl) ?_
            refine sk (i := 20) (N := some 33) (bits 34 2097151) rfl rfl (any_of HT_.out (by kernel_rfl)) (fun _ _ _ h => h) (by kernel_rfl) ?_
            refine sk (i := 21) (N := some 34) (bits 34 4194303) rfl rfl (any_of HT_.out (by kernel_rfl)) (fun _ _ _ h => h) (by kernel_rfl) ?_
            refine sk (i := 22) (N := some 35) (bits 34 8388607) rfl rfl (any_of HT_.out (by kernel_rfl)) (fun _ _ _ h => h) (by kernel_rfl) ?_
            refine sk (i := 23) (N := some 36) (bits 34 16777215) rfl rfl (any_of HT_.out (by kernel_rfl)) (fun _ _ _ h => h) (by kernel_rfl) ?_
            refine sk (i := 24) (N := some 37) (bits 34 33554431) rfl rfl (any_of HT_.out (by kernel_rfl)) (fun _ _ _ h => h) (by kernel_rfl) ?_
            refine sk (i := 25) (N := some 38) (bits 34 67108863) rfl rfl (any_of HT_.out (by kernel_rfl)) (fun _ _ _ h => h) (by kernel_rfl) ?_
            refine sk (i := 26) (N := some 39) (bits 34 134217727) rfl rfl (any_of HT_.out (by kernel_rfl)) (fun _ _ _ h => h) (by kernel_rfl) ?_
            refine sk (i := 27) (N := some 40) (bits 34 268435455) rfl rfl (any_of HT_.out (by kernel_rfl)) (fun _ _ _ h => h) (by kernel_rfl) ?_
            refine sk (i := 28) (N := some 41) (bits 34 536870911) rfl rfl (any_of HT_.out (by kernel_rfl)) (fun _ _ _ h => h) (by kernel_rfl) ?_
            refine sk (i := 29) (N := some 42) (bits 34 1073741823) rfl rfl (any_of HT_.out (by kernel_rfl)) (fun _ _ _ h => h) (by kernel_rfl) ?_
            refine sk (i := 30) (N := some 43) (bits 34 2147483647) rfl rfl (any_of HT_.out (by kernel_rfl)) (fun _ _ _ h => h) (by kernel_rfl) ?_
            refine sk (i := 31) (N := some 44) (bits 34 4294967295) rfl rfl (any_of HT_.out (by kernel_rfl)) (fun _ _ _ h => h) (by kernel_rfl) ?_
            refine sk (i := 32) (N := some 45) (bits 34 8589934591) rfl rfl (any_of HT_.out (by kernel_rfl)) (fun _ _ _ h => h) (by kernel_rfl) ?_
            refine pu (i := 33) (N := some 46) (v := ?_) (bits 34 17179869183) rfl rfl (any_of HT_.out (by kernel_rfl)) (fun _ _ _ h => h) (by kernel_rfl) ?_ ?_; rotate_left; (intro w'; go_simp; with_reducible rfl)
            refine norm_ (a' := ?_) ?_ ?_
            rotate_left
            · simp only [Act.put, List.setIfInBounds_toArray, List.set_cons_zero, List.set_cons_succ, i64_w, i32_w]
              rfl
            refine done_ (done_of HT_.out (by kernel_rfl)) ?_
            try go_wp2
            all_goals first
              | (go_roundg d; (case measure => omega); (case rel => exact ⟨j + 1, congrArg (Value.int .i64) (Int.natCast_succ _).symm, by omega, by omega, B, ⟨andT HS.out (by grind [l1B, ltB])⟩⟩))
              | (go_ret; exact ⟨andF HS.out (by grind [l1B, ltB]), B.out⟩)
          · refine goes_ Try.func89 (by kernel_rfl) rfl #[.string y.f0] (by rfl) rfl rfl (by (try simp only [List.map_toArray, List.map_cons, List.map_nil]); rfl) ?_
            with_reducible refine cl (clv (spec_KeyValid.M y.f0 _) (congrArg Value.bool hq1)) B fun w2 hb B => ?_
            clear hb
            refine ⟨_, rfl, ?_⟩
            refine hK.out _ _ (cb HR0 B) (fun hHeld => ?_)
            clear hK K
            refine norm_ (a' := ?_) ?_ ?_
            rotate_left
            · show Act.put _ (some 18) _ = _
              simp only [Act.put, List.setIfInBounds_toArray, List.set_cons_zero, List.set_cons_succ, i64_w, i32_w]
              rfl
            refine pu (i := 6) (N := some 19) (v := ?_) (bits 34 127) rfl rfl (any_of HT_.out (by kernel_rfl)) (fun _ _ _ h => h) (by kernel_rfl) ?_ ?_; rotate_left; (intro w'; go_simp; with_reducible rfl)
            refine pu (i := 7) (N := some 20) (v := ?_) (bits 34 255) rfl rfl (any_of HT_.out (by kernel_rfl)) (fun _ _ _ h => h) (by kernel_rfl) ?_ ?_; rotate_left; (intro w'; go_simp; with_reducible rfl)
            refine pu (i := 8) (N := some 21) (v := ?_) (bits 34 511) rfl rfl (any_of HT_.out (by kernel_rfl)) (fun _ _ _ h => h) (by kernel_rfl) ?_ ?_; rotate_left; (intro w'; go_simp; with_reducible rfl)
            refine pu (i := 9) (N := some 22) (v := ?_) (bits 34 1023) rfl rfl (any_of HT_.out (by kernel_rfl)) (fun _ _ _ h => h) (by kernel_rfl) ?_ ?_; rotate_left; (intro w'; go_simp; with_reducible rfl)
            refine pu (i := 10) (N := some 23) (v := ?_) (bits 34 2047) rfl rfl (any_of HT_.out (by kernel_rfl)) (fun _ _ _ h => h) (by kernel_rfl) ?_ ?_; rotate_left; (intro w'; go_simp; with_reducible rfl)
            refine pu (i := 11) (N := some 24) (v := ?_) (bits 34 4095) rfl rfl (any_of HT_.out (by kernel_rfl)) (fun _ _ _ h => h) (by kernel_rfl) ?_ ?_; rotate_left; (intro w'; go_simp; with_reducible rfl)
            refine ta (i := 12) (N := some 25) (v := ?_) (bits 34 8191) rfl rfl (take_ofW HT_.out HW_.out (by kernel_rfl)) (fun _ _ _ h => h) (by kernel_rfl) hHeld ?_ ?_; rotate_left; (intro w' hS; have s0 := hS; obtain ⟨_, hA, q0, q1⟩ := at_T61 s0 (j : Int) (by omega) (by omega); cases hA; rw [Int.toNat_natCast] at q0 q1; rw [hy] at q0 q1; go_simp; with_reducible rfl)
            refine norm_ (a' := ?_) ?_ ?_
            rotate_left
            · simp only [Act.put, List.setIfInBounds_toArray, List.set_cons_zero, List.set_cons_succ, i64_w, i32_w]
              rfl
            refine one_ (i := 13) (N := some 26) (bits 34 16383) rfl rfl (one_of HT_.out (by kernel_rfl)) (by decide) (fun K hK => ?_)
            rcases hq2 : (l1B y.f1 0 999) with _ | _
            · refine goes_ Try.func90 (by kernel_rfl) rfl #[.int .i64 (y.f1), .int .i64 (0), .int .i64 (999)] (by rfl) rfl rfl (by (try simp only [List.map_toArray, List.map_cons, List.map_nil]); rfl) ?_
              with_reducible refine cl (clv (spec_l1In.M y.f1 0 999 _) (congrArg Value.bool hq2)) B fun w3 hb B => ?_
              clear hb
              refine ⟨_, rfl, ?_⟩
              refine hK.out _ _ (cb HR0 B) (fun hHeld => ?_)
              clear hK K
              refine norm_ (a' := ?_) ?_ ?_
              rotate_left
              · show Act.put _ (some 26) _ = _
                simp only [Act.put, List.setIfInBounds_toArray, List.set_cons_zero, List.set_cons_succ, i64_w, i32_w]
                rfl
              refine pu (i := 14) (N := some 27) (v := ?_) (bits 34 32767) rfl rfl (any_of HT_.out (by kernel_rfl)) (fun _ _ _ h => h) (by kernel_rfl) ?_ ?_; rotate_left; (intro w'; go_simp; with_reducible rfl)
              refine pu (i := 15) (N := some 28) (v := ?_) (bits 34 65535) rfl rfl (any_of HT_.out (by kernel_rfl)) (fun _ _ _ h => h) (by kernel_rfl) ?_ ?_; rotate_left; (intro w'; go_simp; with_reducible rfl)
              refine pu (i := 16) (N := some 29) (v := ?_) (bits 34 131071) rfl rfl (any_of HT_.out (by kernel_rfl)) (fun _ _ _ h => h) (by kernel_rfl) ?_ ?_; rotate_left; (intro w'; go_simp; with_reducible rfl)
              refine sk (i := 17) (N := some 30) (bits 34 262143) rfl rfl (any_of HT_.out (by kernel_rfl)) (fun _ _ _ h => h) (by kernel_rfl) ?_
              refine sk (i := 18) (N := some 31) (bits 34 524287) rfl rfl (any_of HT_.out (by kernel_rfl)) (fun _ _ _ h => h) (by kernel_rfl) ?_
              refine sk (i := 19) (N := some 32) (bits 34 1048575) rfl rfl (any_of HT_.out (by kernel_rfl)) (fun _ _ _ h => h) (by kernel_rfl) ?_
              refine sk (i := 20) (N := some 33) (bits 34 2097151) rfl rfl (any_of HT_.out (by kernel_rfl)) (fun _ _ _ h => h) (by kernel_rfl) ?_
              refine sk (i := 21) (N := some 34) (bits 34 4194303) rfl rfl (any_of HT_.out (by kernel_rfl)) (fun _ _ _ h => h) (by kernel_rfl) ?_
              refine sk (i := 22) (N := some 35) (bits 34 8388607) rfl rfl (any_of HT_.out (by kernel_rfl)) (fun _ _ _ h => h) (by kernel_rfl) ?_
              refine sk (i := 23) (N := some 36) (bits 34 16777215) rfl rfl (any_of HT_.out (by kernel_rfl)) (fun _ _ _ h => h) (by kernel_rfl) ?_
              refine sk (i := 24) (N := some 37) (bits 34 33554431) rfl rfl (any_of HT_.out (by kernel_rfl)) (fun _ _ _ h => h) (by kernel_rfl) ?_
              refine sk (i := 25) (N := some 38) (bits 34 67108863) rfl rfl (any_of HT_.out (by kernel_rfl)) (fun _ _ _ h => h) (by kernel_rfl) ?_
              refine sk (i := 26) (N := some 39) (bits 34 134217727) rfl rfl (any_of HT_.out (by kernel_rfl)) (fun _ _ _ h => h) (by kernel_rfl) ?_
              refine sk (i := 27) (N := some 40) (bits 34 268435455) rfl rfl (any_of HT_.out (by kernel_rfl)) (fun _ _ _ h => h) (by kernel_rfl) ?_
              refine sk (i := 28) (N := some 41) (bits 34 536870911) rfl rfl (any_of HT_.out (by kernel_rfl)) (fun _ _ _ h => h) (by kernel_rfl) ?_
              refine sk (i := 29) (N := some 42) (bits 34 1073741823) rfl rfl (any_of HT_.out (by kernel_rfl)) (fun _ _ _ h => h) (by kernel_rfl) ?_
              refine sk (i := 30) (N := some 43) (bits 34 2147483647) rfl rfl (any_of HT_.out (by kernel_rfl)) (fun _ _ _ h => h) (by kernel_rfl) ?_
              refine sk (i := 31) (N := some 44) (bits 34 4294967295) rfl rfl (any_of HT_.out (by kernel_rfl)) (fun _ _ _ h => h) (by kernel_rfl) ?_
              refine sk (i := 32) (N := some 45) (bits 34 8589934591) rfl rfl (any_of HT_.out (by kernel_rfl)) (fun _ _ _ h => h) (by kernel_rfl) ?_
              refine pu (i := 33) (N := some 46) (v := ?_) (bits 34 17179869183) rfl rfl (any_of HT_.out (by kernel_rfl)) (fun _ _ _ h => h) (by kernel_rfl) ?_ ?_; rotate_left; (intro w'; go_simp; with_reducible rfl)
              refine norm_ (a' := ?_) ?_ ?_
              rotate_left
              · simp only [Act.put, List.setIfInBounds_toArray, List.set_cons_zero, List.set_cons_succ, i64_w, i32_w]
                rfl
              refine done_ (done_of HT_.out (by kernel_rfl)) ?_
              try go_wp2
              all_goals first
                | (go_roundg d; (case measure => omega); (case rel => exact ⟨j + 1, congrArg (Value.int .i64) (Int.natCast_succ _).symm, by omega, by omega, B, ⟨andT HS.out (by grind [l1B, ltB])⟩⟩))
                | (go_ret; exact ⟨andF HS.out (by grind [l1B, ltB]), B.out⟩)
            · refine goes_ Try.func90 (by kernel_rfl) rfl #[.int .i64 (y.f1), .int .i64 (0), .int .i64 (999)] (by rfl) rfl rfl (by (try simp only [List.map_toArray, List.map_cons, List.map_nil]); rfl) ?_
              with_reducible refine cl (clv (spec_l1In.M y.f1 0 999 _) (congrArg Value.bool hq2)) B fun w3 hb B => ?_
              clear hb
              refine ⟨_, rfl, ?_⟩
              refine hK.out _ _ (cb HR0 B) (fun hHeld => ?_)
              clear hK K
              refine norm_ (a' := ?_) ?_ ?_
              rotate_left
              · show Act.put _ (some 26) _ = _
                simp only [Act.put, List.setIfInBounds_toArray, List.set_cons_zero, List.set_cons_succ, i64_w, i32_w]
                rfl
              refine pu (i := 14) (N := some 27) (v := ?_) (bits 34 32767) rfl rfl (any_of HT_.out (by kernel_rfl)) (fun _ _ _ h => h) (by kernel_rfl) ?_ ?_; rotate_left; (intro w'; go_simp; with_reducible rfl)
              refine pu (i := 15) (N := some 28) (v := ?_) (bits 34 65535) rfl rfl (any_of HT_.out (by kernel_rfl)) (fun _ _ _ h => h) (by kernel_rfl) ?_ ?_; rotate_left; (intro w'; go_simp; with_reducible rfl)
              refine pu (i := 16) (N := some 29) (v := ?_) (bits 34 131071) rfl rfl (any_of HT_.out (by kernel_rfl)) (fun _ _ _ h => h) (by kernel_rfl) ?_ ?_; rotate_left; (intro w'; go_simp; with_reducible rfl)
              refine pu (i := 17) (N := some 30) (v := ?_) (bits 34 262143) rfl rfl (any_of HT_.out (by kernel_rfl)) (fun _ _ _ h => h) (by kernel_rfl) ?_ ?_; rotate_left; (intro w'; go_simp; with_reducible rfl)
              by_cases hz : j = 0
              · rw [if_pos hz] at HS
                have dz : decide (0 < (j : Int)) = false := decide_eq_false (by omega)
                have dz2 : decide (0 < j) = false := decide_eq_false (by omega)
                clear hz
                refine pu (i := 18) (N := some 31) (v := ?_) (bits 34 524287) rfl rfl (any_of HT_.out (by kernel_rfl)) (fun _ _ _ h => h) (by kernel_rfl) ?_ ?_; rotate_left; (intro w'; go_simp; with_reducible rfl)
                refine pu (i := 19) (N := some 32) (v := ?_) (bits 34 1048575) rfl rfl (any_of HT_.out (by kernel_rfl)) (fun _ _ _ h => h) (by kernel_rfl) ?_ ?_; rotate_left; (intro w'; go_simp; with_reducible rfl)
                refine sk (i := 20) (N := some 33) (bits 34 2097151) rfl rfl (any_of HT_.out (by kernel_rfl)) (fun _ _ _ h => h) (by kernel_rfl) ?_
                refine sk (i := 21) (N := some 34) (bits 34 4194303) rfl rfl (any_of HT_.out (by kernel_rfl)) (fun _ _ _ h => h) (by kernel_rfl) ?_
                refine sk (i := 22) (N := some 35) (bits 34 8388607) rfl rfl (any_of HT_.out (by kernel_rfl)) (fun _ _ _ h => h) (by kernel_rfl) ?_
                refine sk (i := 23) (N := some 36) (bits 34 16777215) rfl rfl (any_of HT_.out (by kernel_rfl)) (fun _ _ _ h => h) (by kernel_rfl) ?_
                refine sk (i := 24) (N := some 37) (bits 34 33554431) rfl rfl (any_of HT_.out (by kernel_rfl)) (fun _ _ _ h => h) (by kernel_rfl) ?_
                refine sk (i := 25) (N := some 38) (bits 34 67108863) rfl rfl (any_of HT_.out (by kernel_rfl)) (fun _ _ _ h => h) (by kernel_rfl) ?_
                refine sk (i := 26) (N := some 39) (bits 34 134217727) rfl rfl (any_of HT_.out (by kernel_rfl)) (fun _ _ _ h => h) (by kernel_rfl) ?_
                refine sk (i := 27) (N := some 40) (bits 34 268435455) rfl rfl (any_of HT_.out (by kernel_rfl)) (fun _ _ _ h => h) (by kernel_rfl) ?_
                refine sk (i := 28) (N := some 41) (bits 34 536870911) rfl rfl (any_of HT_.out (by kernel_rfl)) (fun _ _ _ h => h) (by kernel_rfl) ?_
                refine sk (i := 29) (N := some 42) (bits 34 1073741823) rfl rfl (any_of HT_.out (by kernel_rfl)) (fun _ _ _ h => h) (by kernel_rfl) ?_
                refine sk (i := 30) (N := some 43) (bits 34 2147483647) rfl rfl (any_of HT_.out (by kernel_rfl)) (fun _ _ _ h => h) (by kernel_rfl) ?_
                refine sk (i := 31) (N := some 44) (bits 34 4294967295) rfl rfl (any_of HT_.out (by kernel_rfl)) (fun _ _ _ h => h) (by kernel_rfl) ?_
                refine pu (i := 32) (N := some 45) (v := ?_) (bits 34 8589934591) rfl rfl (any_of HT_.out (by kernel_rfl)) (fun _ _ _ h => h) (by kernel_rfl) ?_ ?_; rotate_left; (intro w'; go_simp; with_reducible rfl)
                refine pu (i := 33) (N := some 46) (v := ?_) (bits 34 17179869183) rfl rfl (any_of HT_.out (by kernel_rfl)) (fun _ _ _ h => h) (by kernel_rfl) ?_ ?_; rotate_left; (intro w'; go_simp; with_reducible rfl)
                refine norm_ (a' := ?_) ?_ ?_
                rotate_left
                · simp only [Act.put, List.setIfInBounds_toArray, List.set_cons_zero, List.set_cons_succ, i64_w, i32_w]
                  rfl
                refine done_ (done_of HT_.out (by kernel_rfl)) ?_
                try go_wp2
                all_goals first
                  | (go_roundg d; (case measure => omega); (case rel => exact ⟨j + 1, congrArg (Value.int .i64) (Int.natCast_succ _).symm, by omega, by omega, B, ⟨andT HS.out (by grind [l1B, ltB])⟩⟩))
                  | (go_ret; exact ⟨andF HS.out (by grind [l1B, ltB]), B.out⟩)
              · rw [if_neg hz] at HS
                have dz : decide (0 < (j : Int)) = true := decide_eq_true (by omega)
                have dz2 : decide (0 < j) = true := decide_eq_true (by omega)
                obtain ⟨i, hi⟩ : ∃ i, j - 1 = i := ⟨_, rfl⟩
                rw [hi] at HS
                have WI := Aside0.mk (show (j : Int) - 1 = (i : Int) by omega)
                have hij : i < l.length := by omega
                have IW := Aside0.mk (show wrap64 (i : Int) = (i : Int) by unfold wrap64; omega)
                have i1 := eq_true (show (i : Int) < (l.length : Int) by omega)
                have i2 := eq_true hij
                generalize hx : rd_T61 l (i : Int) = x at HS
                clear hz hi
                refine pu (i := 18) (N := some 31) (v := ?_) (bits 34 524287) rfl rfl (any_of HT_.out (by kernel_rfl)) (fun _ _ _ h => h) (by kernel_rfl) ?_ ?_; rotate_left; (intro w'; go_simp; with_reducible rfl)
                refine pu (i := 19) (N := some 32) (v := ?_) (bits 34 1048575) rfl rfl (any_of HT_.out (by kernel_rfl)) (fun _ _ _ h => h) (by kernel_rfl) ?_ ?_; rotate_left; (intro w'; go_simp; with_reducible rfl)
                refine pu (i := 20) (N := some 33) (v := ?_) (bits 34 2097151) rfl rfl (any_of HT_.out (by kernel_rfl)) (fun _ _ _ h => h) (by kernel_rfl) ?_ ?_; rotate_left; (intro w'; go_simp; with_reducible rfl)
                refine pu (i := 21) (N := some 34) (v := ?_) (bits 34 4194303) rfl rfl (any_of HT_.out (by kernel_rfl)) (fun _ _ _ h => h) (by kernel_rfl) ?_ ?_; rotate_left; (intro w'; go_simp; with_reducible rfl)
                refine pu (i := 22) (N := some 35) (v := ?_) (bits 34 8388607) rfl rfl (any_of HT_.out (by kernel_rfl)) (fun _ _ _ h => h) (by kernel_rfl) ?_ ?_; rotate_left; (intro w'; go_simp; with_reducible rfl)
                refine pu (i := 23) (N := some 36) (v := ?_) (bits 34 16777215) rfl rfl (any_of HT_.out (by kernel_rfl)) (fun _ _ _ h => h) (by kernel_rfl) ?_ ?_; rotate_left; (intro w'; go_simp; with_reducible rfl)
                refine ta (i := 24) (N := some 37) (v := ?_) (bits 34 33554431) rfl rfl (take_ofW HT_.out HW_.out (by kernel_rfl)) (fun _ _ _ h => h) (by kernel_rfl) hHeld ?_ ?_; rotate_left; (intro w' hS; have s0 := hS; obtain ⟨_, hA, q0, q1⟩ := at_T61 s0 (j : Int) (by omega) (by omega); cases hA; rw [Int.toNat_natCast] at q0 q1; rw [hy] at q0 q1; go_simp; with_reducible rfl)
                refine pu (i := 25) (N := some 38) (v := ?_) (bits 34 67108863) rfl rfl (any_of HT_.out (by kernel_rfl)) (fun _ _ _ h => h) (by kernel_rfl) ?_ ?_; rotate_left; (intro w'; go_simp; with_reducible rfl)
                refine pu (i := 26) (N := some 39) (v := ?_) (bits 34 134217727) rfl rfl (any_of HT_.out (by kernel_rfl)) (fun _ _ _ h => h) (by kernel_rfl) ?_ ?_; rotate_left; (intro w'; go_simp; with_reducible rfl)
                refine pu (i := 27) (N := some 40) (v := .int .i64 ((i : Int))) (bits 34 268435455) rfl rfl (any_of HT_.out (by kernel_rfl)) (fun _ _ _ h => h) (by kernel_rfl) ?_ ?_; (intro w'; go_simp; rw [WI.out]; exact (i64_w _).trans IW.out)
                refine pu (i := 28) (N := some 41) (v := ?_) (bits 34 536870911) rfl rfl (any_of HT_.out (by kernel_rfl)) (fun _ _ _ h => h) (by kernel_rfl) ?_ ?_; rotate_left; (intro w'; go_simp; with_reducible rfl)
                refine pu (i := 29) (N := some 42) (v := ?_) (bits 34 1073741823) rfl rfl (any_of HT_.out (by kernel_rfl)) (fun _ _ _ h => h) (by kernel_rfl) ?_ ?_; rotate_left; (intro w'; go_simp; with_reducible rfl)
                refine ta (i := 30) (N := some 43) (v := ?_) (bits 34 2147483647) rfl rfl (take_ofW HT_.out HW_.out (by kernel_rfl)) (fun _ _ _ h => h) (by kernel_rfl) hHeld ?_ ?_; rotate_left; (intro w' hS; have s0 := hS; obtain ⟨_, hA, q0, q1⟩ := at_T61 s0 (i : Int) (by omega) (by omega); cases hA; rw [Int.toNat_natCast] at q0 q1; rw [hx] at q0 q1; go_simp; with_reducible rfl)
                refine pu (i := 31) (N := some 44) (v := ?_) (bits 34 4294967295) rfl rfl (any_of HT_.out (by kernel_rfl)) (fun _ _ _ h => h) (by kernel_rfl) ?_ ?_; rotate_left; (intro w'; go_simp; with_reducible rfl)
                refine pu (i := 32) (N := some 45) (v := ?_) (bits 34 8589934591) rfl rfl (any_of HT_.out (by kernel_rfl)) (fun _ _ _ h => h) (by kernel_rfl) ?_ ?_; rotate_left; (intro w'; go_simp; with_reducible rfl)
                refine pu (i := 33) (N := some 46) (v := ?_) (bits 34 17179869183) rfl rfl (any_of HT_.out (by kernel_rfl)) (fun _ _ _ h => h) (by kernel_rfl) ?_ ?_; rotate_left; (intro w'; go_simp; with_reducible rfl)
                refine norm_ (a' := ?_) ?_ ?_
                rotate_left
                · simp only [Act.put, List.setIfInBounds_toArray, List.set_cons_zero, List.set_cons_succ, i64_w, i32_w]
                  rfl
                refine done_ (done_of HT_.out (by kernel_rfl)) ?_
                try go_wp2
                all_goals first
                  | (go_roundg d; (case measure => omega); (case rel => exact ⟨j + 1, congrArg (Value.int .i64) (Int.natCast_succ _).symm, by omega, by omega, B, ⟨andT HS.out (by grind [l1B, ltB])⟩⟩))
                  | (go_ret; exact ⟨andF HS.out (by grind [l1B, ltB]), B.out⟩))
        all_goals try go_wp2
        all_goals try (go_ret; exact ⟨andF HS.out (by grind [l1B, ltB]), B.out⟩)
      · have cj : decide ((j : Int) < (l.length : Int)) = false := decide_eq_false (by omega)
        have hr : r = true := by rw [← H.out]; exact prJ_end hlt
        subst hr
        go_wp2
        go_ret
        exact ⟨rfl, B.out⟩
  · have cl0 : decide (48 < (l.length : Int)) = true := decide_eq_true (by omega)
    have hr : r = false := by rw [← hr, decide_eq_false hl]; rfl
    subst hr
    go_enter Try.func48, Try.ntmps48
    go_wp2
    go_ret
    exact ⟨rfl, B.out⟩

def spec_SessionsValid.T5 : Bool × List (List Nat × List Nat) := (true, [([], []), ([0], [0]), ([1], [1]), ([2], [2]), ([3, 2], [3]), ([4], [4]), ([5, 4], [4, 5]), ([6, 4, 4], [4, 6]), ([7, 4], [4, 7]), ([4, 8], [4, 8]), ([9, 7], [9]), ([10], [10]), ([11, 10], [10, 11]), ([12, 10, 10], [10, 12]), ([13, 10], [10, 13]), ([10, 14], [10, 14]), ([15, 13], [15]), ([16], [16]), ([17, 16], [16, 17]), ([18, 16, 16], [16, 18]), ([19], [19]), ([20, 19], [19, 20]), ([19], [19]), ([19], [19]), ([23, 19], [19, 23]), ([22, 24, 19], [19, 22, 24]), ([25, 19], [19, 25]), ([26, 19], [19, 26]), ([21, 27, 19], [19, 21, 27]), ([19, 28, 16], [16, 19, 28]), ([16, 29], [16, 29])])
def spec_SessionsValid.B5 : List Nat := [0, 1, 3, 7, 15, 31, 63, 127, 255, 511, 1023, 2047, 4095, 8191, 16383, 32767, 65535, 131071, 262143, 524287, 1048575, 2097151, 1048575, 1048575, 9437183, 30408703, 63963135, 131071999, 268435455, 536870911, 1073741823]
theorem spec_SessionsValid.tab5 : rtab .any (opsOf Try.f49 5) = spec_SessionsValid.T5 := by kernel_rfl
theorem spec_SessionsValid.bits5 : waitsOk spec_SessionsValid.T5.2 spec_SessionsValid.B5 = true := by kernel_rfl
theorem spec_SessionsValid.M (A0 : Option Addr) (c0 : Nat) (l : List S100) (w : World) (hr0 : Kd.C k100 w A0 l.length l) : Calls Try.prog 49 #[.slice A0 l.length c0] w fun e w' => e = .returned (.bool (sesB l)) ∧ Below w.heap.size w w' := by
  have hu := Try.underlying100
  have B := Aside0.mk (Below.refl w.heap.size w)
  have HR0 := Aside0.mk hr0
  clear hr0
  obtain ⟨r, hr⟩ : ∃ r, sesB l = r := ⟨_, rfl⟩
  rw [hr]
  unfold sesB at hr
  have H := Aside0.mk (show sesJ l 0 = r from hr)
  have L48 := Aside0.mk (show l.length ≤ 9223372036854775807 from HR0.out.2.1)
  clear hr
  go_enter Try.func49, Try.ntmps49
  go_wp2
  go_loopg [3] (l.length + 1) (fun kx v3 wr => ∃ j : Nat, v3 = .int .i64 (j : Int) ∧ j ≤ l.length ∧ l.length < j + kx ∧ Aside0 (Below w.heap.size w wr) ∧ Aside0 (sesJ l j = r))
  case atStart => exact ⟨0, rfl, by omega, by omega, B, H⟩
  case round =>
    clear H B
    obtain ⟨j, rfl, hj, hk, B, H⟩ := hrel
    by_cases hlt : j < l.length
    · have HS := Aside0.mk ((sesJ_step hlt).symm.trans H.out)
      clear H
      obtain ⟨d, rfl⟩ : ∃ d, gk = d + 1 := ⟨gk - 1, by omega⟩
      have h48 := L48.out
      have cj : decide ((j : Int) < (l.length : Int)) = true := decide_eq_true (by omega)
      obtain ⟨ad, hA, y0, y1, y2⟩ := at_T100 (cb HR0 B) (j : Int) (by omega) (by omega)
      cases hA
      rw [Int.toNat_natCast] at y0 y1 y2
      have j1 := eq_true (show (j : Int) < (l.length : Int) by omega)
      have j2 := eq_true hlt
      generalize hy : rd_T100 l (j : Int) = y at *
      go_wp2_with (first
        | ((with_reducible refine gate_dst (N := 4) rfl ?_); refine bx ?hg (N := 4) ?hd (cs := #[.int .i64 (0), .int .i64 (0), .int .i64 (0)]) (t := 100) ?hr B ?_; (case hd => rfl); (case hg => rfl); (case hr => first | (go_simp; done) | (go_simp; rfl)); intro g4 w1 hb B F4 L4 E4; obtain ⟨c4_0, c4_1, c4_2⟩ := cs3 F4; clear hb E4)
        | ((with_reducible refine gate_store (t := 100) (p := 4) rfl ?_); obtain ⟨y0, y1, y2⟩ := cs3 F4; have z0 := fz F4 0; have z1 := fz F4 1; have z2 := fz F4 2; refine sx (t := 100) (t' := 100) (p := 4) (v := ?vo2) ?hg ?ho ?hn 0 [.int .i64 (y.f0), .int .i64 (y.f1), .int .i64 (y.f2)] [.int .i64 (y.f0), .int .i64 (y.f1), .int .i64 (y.f2)] ?hr B F4 L4 rfl (Nat.le_of_ble_eq_true rfl) ?_; (case ho => rfl); (case hg => rfl); (case hn => rfl); (case hr => first | (go_simp; done) | (go_simp; rfl)); intro w2 hk B G; replace F4 := G; clear c4_0 c4_1 c4_2; obtain ⟨c4_0, c4_1, c4_2⟩ := cs3 F4; clear hk y0 z0 y1 z1 y2 z2))
      all_goals try (go_ret; exact ⟨andF HS.out (by grind [l1B]), B.out⟩)
      all_goals (
        refine rg (n := 31) (S := fun W => W.heap[g4]? = some (.cells #[.int .i64 (y.f0), .int .i64 (y.f1), .int .i64 (y.f2)] 100 (0, 0)) ∧ Kd.C k100 W (some ad) l.length l) (ds := []) #[false, false, false, false, false, false, false, false, false, false, false, false, false, false, false, false, false, false, false, false, false, false, false, false, false, false, false, false, false, false, false] (by kernel_rfl) rfl rfl ⟨F4.out, (cb HR0 B)⟩ id B (fun w3 hb B hHeld => ?_)
        refine with_tabW spec_SessionsValid.tab5 spec_SessionsValid.bits5 (fun HT_ HW_ => ?_)
        replace F4 := bn F4 hb
        clear hb
        refine pu (i := 0) (N := some 15) (v := ?_) (bits 31 1) rfl rfl (any_of HT_.out (by kernel_rfl)) (fun _ _ _ h => h) (by kernel_rfl) ?_ ?_; rotate_left; (intro w'; go_simp; with_reducible rfl)
        refine ta (i := 1) (N := some 16) (v := ?_) (bits 31 3) rfl rfl (take_ofW HT_.out HW_.out (by kernel_rfl)) (fun _ _ _ h => h) (by kernel_rfl) hHeld ?_ ?_; rotate_left; (intro w' hS; obtain ⟨s0, s1⟩ := hS; obtain ⟨q0, q1, q2⟩ := cs3 (Aside0.mk s0); go_simp; with_reducible rfl)
        refine norm_ (a' := ?_) ?_ ?_
        rotate_left
        · simp only [Act.put, List.setIfInBounds_toArray, List.set_cons_zero, List.set_cons_succ, i64_w, i32_w]
          rfl
        refine one_ (i := 2) (N := some 17) (bits 31 7) rfl rfl (one_of HT_.out (by kernel_rfl)) (by decide) (fun K hK => ?_)
        rcases hq1 : (l1B y.f0 0 3) with _ | _
        · refine goes_ Try.func90 (by kernel_rfl) rfl #[.int .i64 (y.f0), .int .i64 (0), .int .i64 (3)] (by rfl) rfl rfl (by (try simp only [List.map_toArray, List.map_cons, List.map_nil]); rfl) ?_
          with_reducible refine cl (clv (spec_l1In.M y.f0 0 3 _) (congrArg Value.bool hq1)) B fun w4 hb B => ?_
          replace F4 := bn F4 hb
          clear hb
          refine ⟨_, rfl, ?_⟩
          refine hK.out _ _ ⟨F4.out, (cb HR0 B)⟩ (fun hHeld => ?_)
          clear hK K
          refine norm_ (a' := ?_) ?_ ?_
          rotate_left
          · show Act.put _ (some 17) _ = _
            simp only [Act.put, List.setIfInBounds_toArray, List.set_cons_zero, List.set_cons_succ, i64_w, i32_w]
            rfl
          refine pu (i := 3) (N := some 18) (v := ?_) (bits 31 15) rfl rfl (any_of HT_.out (by kernel_rfl)) (fun _ _ _ h => h) (by kernel_rfl) ?_ ?_; rotate_left; (intro w'; go_simp; with_reducible rfl)
          refine pu (i := 4) (N := some 19) (v := ?_) (bits 31 31) rfl rfl (any_of HT_.out (by kernel_rfl)) (fun _ _ _ h => h) (by kernel_rfl) ?_ ?_; rotate_left; (intro w'; go_simp; with_reducible rfl)
          refine sk (i := 5) (N := some 20) (bits 31 63) rfl rfl (any_of HT_.out (by kernel_rfl)) (fun _ _ _ h => h) (by kernel_rfl) ?_
          refine sk (i := 6) (N := some 21) (bits 31 127) rfl rfl (any_of HT_.out (by kernel_rfl)) (fun _ _ _ h => h) (by kernel_rfl) ?_
          refine sk (i := 7) (N := some 22) (bits 31 255) rfl rfl (any_of HT_.out (by kernel_rfl)) (fun _ _ _ h => h) (by kernel_rfl) ?_
          refine sk (i := 8) (N := some 23) (bits 31 511) rfl rfl (any_of HT_.out (by kernel_rfl)) (fun _ _ _ h => h) (by kernel_rfl) ?_
          refine pu (i := 9) (N := some 24) (v := ?_) (bits 31 1023) rfl rfl (any_of HT_.out (by kernel_rfl)) (fun _ _ _ h => h) (by kernel_rfl) ?_ ?_; rotate_left; (intro w'; go_simp; with_reducible rfl)
          refine pu (i := 10) (N := some 25) (v := ?_) (bits 31 2047) rfl rfl (any_of HT_.out (by kernel_rfl)) (fun _ _ _ h => h) (by kernel_rfl) ?_ ?_; rotate_left; (intro w'; go_simp; with_reducible rfl)
          refine sk (i := 11) (N := some 26) (bits 31 4095) rfl rfl (any_of HT_.out (by kernel_rfl)) (fun _ _ _ h => h) (by kernel_rfl) ?_
          refine sk (i := 12) (N := some 27) (bits 31 8191) rfl rfl (any_of HT_.out (by kernel_rfl)) (fun _ _ _ h => h) (by kernel_rfl) ?_
          refine sk (i := 13) (N := some 28) (bits 31 16383) rfl rfl (any_of HT_.out (by kernel_rfl)) (fun _ _ _ h => h) (by kernel_rfl) ?_
          refine sk (i := 14) (N := some 29) (bits 31 32767) rfl rfl (any_of HT_.out (by kernel_rfl)) (fun _ _ _ h => h) (by kernel_rfl) ?_
          refine pu (i := 15) (N := some 30) (v := ?_) (bits 31 65535) rfl rfl (any_of HT_.out (by kernel_rfl)) (fun _ _ _ h => h) (by kernel_rfl) ?_ ?_; rotate_left; (intro w'; go_simp; with_reducible rfl)
          refine pu (i := 16) (N := some 31) (v := ?_) (bits 31 131071) rfl rfl (any_of HT_.out (by kernel_rfl)) (fun _ _ _ h => h) (by kernel_rfl) ?_ ?_; rotate_left; (intro w'; go_simp; with_reducible rfl)
          refine sk (i := 17) (N := some 32) (bits 31 262143) rfl rfl (any_of HT_.out (by kernel_rfl)) (fun _ _ _ h => h) (by kernel_rfl) ?_
          refine sk (i := 18) (N := some 33) (bits 31 524287) rfl rfl (any_of HT_.out (by kernel_rfl)) (fun _ _ _ h => h) (by kernel_rfl) ?_
          refine sk (i := 19) (N := some 34) (bits 31 1048575) rfl rfl (any_of HT_.out (by kernel_rfl)) (fun _ _ _ h => h) (by kernel_rfl) ?_
          refine sk (i := 20) (N := some 35) (bits 31 2097151) rfl rfl (any_of HT_.out (by kernel_rfl)) (fun _ _ _ h => h) (by kernel_rfl) ?_
          refine sk (i := 21) (N := some 36) (bits 31 4194303) rfl rfl (any_of HT_.out (by kernel_rfl)) (fun _ _ _ h => h) (by kernel_rfl) ?_
          refine sk (i := 22) (N := some 37) (bits 31 8388607) rfl rfl (any_of HT_.out (by kernel_rfl)) (fun _ _ _ h => h) (by kernel_rfl) ?_
          refine sk (i := 23) (N := some 38) (bits 31 16777215) rfl rfl (any_of HT_.out (by kernel_rfl)) (fun _ _ _ h => h) (by kernel_rfl) ?_
          refine sk (i := 24) (N := some 39) (bits 31 33554431) rfl rfl (any_of HT_.out (by kernel_rfl)) (fun _ _ _ h => h) (by kernel_rfl) ?_
          refine sk (i := 25) (N := some 40) (bits 31 67108863) rfl rfl (any_of HT_.out (by kernel_rfl)) (fun _ _ _ h => h) (by kernel_rfl) ?_
          refine sk (i := 26) (N := some 41) (bits 31 134217727) rfl rfl (any_of HT_.out (by kernel_rfl)) (fun _ _ _ h => h) (by kernel_rfl) ?_
          refine sk (i := 27) (N := some 42) (bits 31 268435455) rfl rfl (any_of HT_.out (by kernel_rfl)) (fun _ _ _ h => h) (by kernel_rfl) ?_
          refine sk (i := 28) (N := some 43) (bits 31 536870911) rfl rfl (any_of HT_.out (by kernel_rfl)) (fun _ _ _ h => h) (by kernel_rfl) ?_
          refine sk (i := 29) (N := some 44) (bits 31 1073741823) rfl rfl (any_of HT_.out (by kernel_rfl)) (fun _ _ _ h => h) (by kernel_rfl) ?_
          refine pu (i := 30) (N := some 45) (v := ?_) (bits 31 2147483647) rfl rfl (any_of HT_.out (by kernel_rfl)) (fun _ _ _ h => h) (by kernel_rfl) ?_ ?_; rotate_left; (intro w'; go_simp; with_reducible rfl)
          refine norm_ (a' := ?_) ?_ ?_
          rotate_left
          · simp only [Act.put, List.setIfInBounds_toArray, List.set_cons_zero, List.set_cons_succ, i64_w, i32_w]
            rfl
          refine done_ (done_of HT_.out (by kernel_rfl)) ?_
          try go_wp2
          all_goals first
            | (go_roundg d; (case measure => omega); (case rel => exact ⟨j + 1, congrArg (Value.int .i64) (Int.natCast_succ _).symm, by omega, by omega, B, ⟨andT HS.out (by grind [l1B])⟩⟩))
            | (go_ret; exact ⟨andF HS.out (by grind [l1B]), B.out⟩)
        · refine goes_ Try.func90 (by kernel_rfl) rfl #[.int .i64 (y.f0), .int .i64 (0), .int .i64 (3)] (by rfl) rfl rfl (by (try simp only [List.map_toArray, List.map_cons, List.map_nil]); rfl) ?_
          with_reducible refine cl (clv (spec_l1In.M y.f0 0 3 _) (congrArg Value.bool hq1)) B fun w4 hb B => ?_
          replace F4 := bn F4 hb
          clear hb
          refine ⟨_, rfl, ?_⟩
          refine hK.out _ _ ⟨F4.out, (cb HR0 B)⟩ (fun hHeld => ?_)
          clear hK K
          refine norm_ (a' := ?_) ?_ ?_
          rotate_left
          · show Act.put _ (some 17) _ = _
            simp only [Act.put, List.setIfInBounds_toArray, List.set_cons_zero, List.set_cons_succ, i64_w, i32_w]
            rfl
          refine pu (i := 3) (N := some 18) (v := ?_) (bits 31 15) rfl rfl (any_of HT_.out (by kernel_rfl)) (fun _ _ _ h => h) (by kernel_rfl) ?_ ?_; rotate_left; (intro w'; go_simp; with_reducible rfl)
          refine pu (i := 4) (N := some 19) (v := ?_) (bits 31 31) rfl rfl (any_of HT_.out (by kernel_rfl)) (fun _ _ _ h => h) (by kernel_rfl) ?_ ?_; rotate_left; (intro w'; go_simp; with_reducible rfl)
          refine pu (i := 5) (N := some 20) (v := ?_) (bits 31 63) rfl rfl (any_of HT_.out (by kernel_rfl)) (fun _ _ _ h => h) (by kernel_rfl) ?_ ?_; rotate_left; (intro w'; go_simp; with_reducible rfl)
          refine ta (i := 6) (N := some 21) (v := ?_) (bits 31 127) rfl rfl (take_ofW HT_.out HW_.out (by kernel_rfl)) (fun _ _ _ h => h) (by kernel_rfl) hHeld ?_ ?_; rotate_left; (intro w' hS; obtain ⟨s0, s1⟩ := hS; obtain ⟨q0, q1, q2⟩ := cs3 (Aside0.mk s0); go_simp; with_reducible rfl)
          refine norm_ (a' := ?_) ?_ ?_
          rotate_left
          · simp only [Act.put, List.setIfInBounds_toArray, List.set_cons_zero, List.set_cons_succ, i64_w, i32_w]
            rfl
          refine one_ (i := 7) (N := some 22) (bits 31 255) rfl rfl (one_of HT_.out (by kernel_rfl)) (by decide) (fun K hK => ?_)
          rcases hq2 : (l1B y.f1 1 999) with _ | _
          · refine goes_ Try.func90 (by kernel_rfl) rfl #[.int .i64 (y.f1), .int .i64 (1), .int .i64 (999)] (by rfl) rfl rfl (by (try simp only [List.map_toArray, List.map_cons, List.map_nil]); rfl) ?_
            with_reducible refine cl (clv (spec_l1In.M y.f1 1 999 _) (congrArg Value.bool hq2)) B fun w5 hb B => ?_
            replace F4 := bn F4 hb
            clear hb
            refine ⟨_, rfl, ?_⟩
            refine hK.out _ _ ⟨F4.out, (cb HR0 B)⟩ (fun hHeld => ?_)
            clear hK K
            refine norm_ (a' := ?_) ?_ ?_
            rotate_left
            · show Act.put _ (some 22) _ = _
              simp only [Act.put, List.setIfInBounds_toArray, List.set_cons_zero, List.set_cons_succ, i64_w, i32_w]
              rfl
            refine pu (i := 8) (N := some 23) (v := ?_) (bits 31 511) rfl rfl (any_of HT_.out (by kernel_rfl)) (fun _ _ _ h => h) (by kernel_rfl) ?_ ?_; rotate_left; (intro w'; go_simp; with_reducible rfl)
            refine pu (i := 9) (N := some 24) (v := ?_) (bits 31 1023) rfl rfl (any_of HT_.out (by kernel_rfl)) (fun _ _ _ h => h) (by kernel_rfl) ?_ ?_; rotate_left; (intro w'; go_simp; with_reducible rfl)
            refine pu (i := 10) (N := some 25) (v := ?_) (bits 31 2047) rfl rfl (any_of HT_.out (by kernel_rfl)) (fun _ _ _ h => h) (by kernel_rfl) ?_ ?_; rotate_left; (intro w'; go_simp; with_reducible rfl)
            refine sk (i := 11) (N := some 26) (bits 31 4095) rfl rfl (any_of HT_.out (by kernel_rfl)) (fun _ _ _ h => h) (by kernel_rfl) ?_
            refine sk (i := 12) (N := some 27) (bits 31 8191) rfl rfl (any_of HT_.out (by kernel_rfl)) (fun _ _ _ h => h) (by kernel_rfl) ?_
            refine sk (i := 13) (N := some 28) (bits 31 16383) rfl rfl (any_of HT_.out (by kernel_rfl)) (fun _ _ _ h => h) (by kernel_rfl) ?_
            refine sk (i := 14) (N := some 29) (bits 31 32767) rfl rfl (any_of HT_.out (by kernel_rfl)) (fun _ _ _ h => h) (by kernel_rfl) ?_
            refine pu (i := 15) (N := some 30) (v := ?_) (bits 31 65535) rfl rfl (any_of HT_.out (by kernel_rfl)) (fun _ _ _ h => h) (by kernel_rfl) ?_ ?_; rotate_left; (intro w'; go_simp; with_reducible rfl)
            refine pu (i := 16) (N := some 31) (v := ?_) (bits 31 131071) rfl rfl (any_of HT_.out (by kernel_rfl)) (fun _ _ _ h => h) (by kernel_rfl) ?_ ?_; rotate_left; (intro w'; go_simp; with_reducible rfl)
            refine sk (i := 17) (N := some 32) (bits 31 262143) rfl rfl (any_of HT_.out (by kernel_rfl)) (fun _ _ _ h => h) (by kernel_rfl) ?_
            refine sk (i := 18) (N := some 33) (bits 31 524287) rfl rfl (any_of HT_.out (by kernel_rfl)) (fun _ _ _ h => h) (by kernel_rfl) ?_
            refine sk (i := 19) (N := some 34) (bits 31 1048575) rfl rfl (any_of HT_.out (by kernel_rfl)) (fun _ _ _ h => h) (by kernel_rfl) ?_
            refine sk (i := 20) (N := some 35) (bits 31 2097151) rfl rfl (any_of HT_.out (by kernel_rfl)) (fun _ _ _ h => h) (by kernel_rfl) ?_
            refine sk (i := 21) (N := some 36) (bits 31 4194303) rfl rfl (any_of HT_.out (by kernel_rfl)) (fun _ _ _ h => h) (by kernel_rfl) ?_
            refine sk (i := 22) (N := some 37) (bits 31 8388607) rfl rfl (any_of HT_.out (by kernel_rfl)) (fun _ _ _ h => h) (by kernel_rfl) ?_
            refine sk (i := 23) (N := some 38) (bits 31 16777215) rfl rfl (any_of HT_.out (by kernel_rfl)) (fun _ _ _ h => h) (by kernel_rfl) ?_
            refine sk (i := 24) (N := some 39) (bits 31 33554431) rfl rfl (any_of HT_.out (by kernel_rfl)) (fun _ _ _ h => h) (by kernel_rfl) ?_
            refine sk (i := 25) (N := some 40) (bits 31 67108863) rfl rfl (any_of HT_.out (by kernel_rfl)) (fun _ _ _ h => h) (by kernel_rfl) ?_
            refine sk (i := 26) (N := some 41) (bits 31 134217727) rfl rfl (any_of HT_.out (by kernel_rfl)) (fun _ _ _ h => h) (by kernel_rfl) ?_
            refine sk (i := 27) (N := some 42) (bits 31 268435455) rfl rfl (any_of HT_.out (by kernel_rfl)) (fun _ _ _ h => h) (by kernel_rfl) ?_
            refine sk (i := 28) (N := some 43) (bits 31 536870911) rfl rfl (any_of HT_.out (by kernel_rfl)) (fun _ _ _ h => h) (by kernel_rfl) ?_
            refine sk (i := 29) (N := some 44) (bits 31 1073741823) rfl rfl (any_of HT_.out (by kernel_rfl)) (fun _ _ _ h => h) (by kernel_rfl) ?_
            refine pu (i := 30) (N := some 45) (v := ?_) (bits 31 2147483647) rfl rfl (any_of HT_.out (by kernel_rfl)) (fun _ _ _ h => h) (by kernel_rfl) ?_ ?_; rotate_left; (intro w'; go_simp; with_reducible rfl)
            refine norm_ (a' := ?_) ?_ ?_
            rotate_left
            · simp only [Act.put, List.setIfInBounds_toArray, List.set_cons_zero, List.set_cons_succ, i64_w, i32_w]
              rfl
            refine done_ (done_of HT_.out (by kernel_rfl)) ?_
            try go_wp2
            all_goals first
              | (go_roundg d; (case measure => omega); (case rel => exact ⟨j + 1, congrArg (Value.int .i64) (Int.natCast_succ _).symm, by omega, by omega, B, ⟨andT HS.out (by grind [l1B])⟩⟩))
              | (go_ret; exact ⟨andF HS.out (by grind [l1B]), B.out⟩)
          · refine goes_ Try.func90 (by kernel_rfl) rfl #[.int .i64 (y.f1), .int .i64 (1), .int .i64 (999)] (by rfl) rfl rfl (by (try simp only [List.map_toArray, List.map_cons, List.map_nil]); rfl) ?_
            with_reducible refine cl (clv (spec_l1In.M y.f1 1 999 _) (congrArg Value.bool hq2)) B fun w5 hb B => ?_
            replace F4 := bn F4 hb
            clear hb
            refine ⟨_, rfl, ?_⟩
            refine hK.out _ _ ⟨F4.out, (cb HR0 B)⟩ (fun hHeld => ?_)
            clear hK K
            refine norm_ (a' := ?_) ?_ ?_
            rotate_left
            · show Act.put _ (some 22) _ = _
              simp only [Act.put, List.setIfInBounds_toArray, List.set_cons_zero, List.set_cons_succ, i64_w, i32_w]
              rfl
            refine pu (i := 8) (N := some 23) (v := ?_) (bits 31 511) rfl rfl (any_of HT_.out (by kernel_rfl)) (fun _ _ _ h => h) (by kernel_rfl) ?_ ?_; rotate_left; (intro w'; go_simp; with_reducible rfl)
            refine pu (i := 9) (N := some 24) (v := ?_) (bits 31 1023) rfl rfl (any_of HT_.out (by kernel_rfl)) (fun _ _ _ h => h) (by kernel_rfl) ?_ ?_; rotate_left; (intro w'; go_simp; with_reducible rfl)
            refine pu (i := 10) (N := some 25) (v := ?_) (bits 31 2047) rfl rfl (any_of HT_.out (by kernel_rfl)) (fun _ _ _ h => h) (by kernel_rfl) ?_ ?_; rotate_left; (intro w'; go_simp; with_reducible rfl)
            refine pu (i := 11) (N := some 26) (v := ?_) (bits 31 4095) rfl rfl (any_of HT_.out (by kernel_rfl)) (fun _ _ _ h => h) (by kernel_rfl) ?_ ?_; rotate_left; (intro w'; go_simp; with_reducible rfl)
            refine ta (i := 12) (N := some 27) (v := ?_) (bits 31 8191) rfl rfl (take_ofW HT_.out HW_.out (by kernel_rfl)) (fun _ _ _ h => h) (by kernel_rfl) hHeld ?_ ?_; rotate_left; (intro w' hS; obtain ⟨s0, s1⟩ := hS; obtain ⟨q0, q1, q2⟩ := cs3 (Aside0.mk s0); go_simp; with_reducible rfl)
            refine norm_ (a' := ?_) ?_ ?_
            rotate_left
            · simp only [Act.put, List.setIfInBounds_toArray, List.set_cons_zero, List.set_cons_succ, i64_w, i32_w]
              rfl
            refine one_ (i := 13) (N := some 28) (bits 31 16383) rfl rfl (one_of HT_.out (by kernel_rfl)) (by decide) (fun K hK => ?_)
            rcases hq3 : (l1B y.f2 (-2) 999) with _ | _
            · refine goes_ Try.func90 (by kernel_rfl) rfl #[.int .i64 (y.f2), .int .i64 (-2), .int .i64 (999)] (by rfl) rfl rfl (by (try simp only [List.map_toArray, List.map_cons, List.map_nil]); rfl) ?_
              with_reducible refine cl (clv (spec_l1In.M y.f2 (-2) 999 _) (congrArg Value.bool hq3)) B fun w6 hb B => ?_
              replace F4 := bn F4 hb
              clear hb
              refine ⟨_, rfl, ?_⟩
              refine hK.out _ _ ⟨F4.out, (cb HR0 B)⟩ (fun hHeld => ?_)
              clear hK K
              refine norm_ (a' := ?_) ?_ ?_
              rotate_left
              · show Act.put _ (some 28) _ = _
                simp only [Act.put, List.setIfInBounds_toArray, List.set_cons_zero, List.set_cons_succ, i64_w, i32_w]
                rfl
              refine pu (i := 14) (N := some 29) (v := ?_) (bits 31 32767) rfl rfl (any_of HT_.out (by kernel_rfl)) (fun _ _ _ h => h) (by kernel_rfl) ?_ ?_; rotate_left; (intro w'; go_simp; with_reducible rfl)
              refine pu (i := 15) (N := some 30) (v := ?_) (bits 31 65535) rfl rfl (any_of HT_.out (by kernel_rfl)) (fun _ _ _ h => h) (by kernel_rfl) ?_ ?_; rotate_left; (intro w'; go_simp; with_reducible rfl)
              refine pu (i := 16) (N := some 31) (v := ?_) (bits 31 131071) rfl rfl (any_of HT_.out (by kernel_rfl)) (fun _ _ _ h => h) (by kernel_rfl) ?_ ?_; rotate_left; (intro w'; go_simp; with_reducible rfl)
              refine sk (i := 17) (N := some 32) (bits 31 262143) rfl rfl (any_of HT_.out (by kernel_rfl)) (fun _ _ _ h => h) (by kernel_rfl) ?_
              refine sk (i := 18) (N := some 33) (bits 31 524287) rfl rfl (any_of HT_.out (by kernel_rfl)) (fun _ _ _ h => h) (by kernel_rfl) ?_
              refine sk (i := 19) (N := some 34) (bits 31 1048575) rfl rfl (any_of HT_.out (by kernel_rfl)) (fun _ _ _ h => h) (by kernel_rfl) ?_
              refine sk (i := 20) (N := some 35) (bits 31 2097151) rfl rfl (any_of HT_.out (by kernel_rfl)) (fun _ _ _ h => h) (by kernel_rfl) ?_
              refine sk (i := 21) (N := some 36) (bits 31 4194303) rfl rfl (any_of HT_.out (by kernel_rfl)) (fun _ _ _ h => h) (by kernel_rfl) ?_
              refine sk (i := 22) (N := some 37) (bits 31 8388607) rfl rfl (any_of HT_.out (by kernel_rfl)) (fun _ _ _ h => h) (by kernel_rfl) ?_
              refine sk (i := 23) (N := some 38) (bits 31 16777215) rfl rfl (any_of HT_.out (by kernel_rfl)) (fun _ _ _ h => h) (by kernel_rfl) ?_
              refine sk (i := 24) (N := some 39) (bits 31 33554431) rfl rfl (any_of HT_.out (by kernel_rfl)) (fun _ _ _ h => h) (by kernel_rfl) ?_
              refine sk (i := 25) (N := some 40) (bits 31 67108863) rfl rfl (any_of HT_.out (by kernel_rfl)) (fun _ _ _ h => h) (by kernel_rfl) ?_
              refine sk (i := 26) (N := some 41) (bits 31 134217727) rfl rfl (any_of HT_.out (by kernel_rfl)) (fun _ _ _ h => h) (by kernel_rfl) ?_
              refine sk (i := 27) (N := some 42) (bits 31 268435455) rfl rfl (any_of HT_.out (by kernel_rfl)) (fun _ _ _ h => h) (by kernel_rfl) ?_
              refine sk (i := 28) (N := some 43) (bits 31 536870911) rfl rfl (any_of HT_.out (by kernel_rfl)) (fun _ _ _ h => h) (by kernel_rfl) ?_
              refine sk (i := 29) (N := some 44) (bits 31 1073741823) rfl rfl (any_of HT_.out (by kernel_rfl)) (fun _ _ _ h => h) (by kernel_rfl) ?_
              refine pu (i := 30) (N := some 45) (v := ?_) (bits 31 2147483647) rfl rfl (any_of HT_.out (by kernel_rfl)) (fun _ _ _ h => h) (by kernel_rfl) ?_ ?_; rotate_left; (intro w'; go_simp; with_reducible rfl)
              refine norm_ (a' := ?_) ?_ ?_
              rotate_left
              · simp only [Act.put, List.setIfInBounds_toArray, List.set_cons_zero, List.set_cons_succ, i64_w, i32_w]
                rfl
              refine done_ (done_of HT_.out (by kernel_rfl)) ?_
              try go_wp2
              all_goals first
                | (go_roundg d; (case measure => omega); (case rel => exact ⟨j + 1, congrArg (Value.int .i64) (Int.natCast_succ _).symm, by omega, by omega, B, ⟨andT HS.out (by grind [l1B])⟩⟩))
                | (go_ret; exact ⟨andF HS.out (by grind [l1B]), B.out⟩)
            · refine goes_ Try.func90 (by kernel_rfl) rfl #[.int .i64 (y.f2), .int .i64 (-2), .int .i64 (999)] (by rfl) rfl rfl (by (try simp only [List.map_toArray, List.map_cons, List.map_nil]); rfl) ?_
              with_reducible refine cl (clv (spec_l1In.M y.f2 (-2) 999 _) (congrArg Value.bool hq3)) B fun w6 hb B => ?_
              replace F4 := bn F4 hb
              clear hb
              refine ⟨_, rfl, ?_⟩
              refine hK.out _ _ ⟨F4.out, (cb HR0 B)⟩ (fun hHeld => ?_)
              clear hK K
              refine norm_ (a' := ?_) ?_ ?_
              rotate_left
              · show Act.put _ (some 28) _ = _
                simp only [Act.put, List.setIfInBounds_toArray, List.set_cons_zero, List.set_cons_succ, i64_w, i32_w]
                rfl
              refine pu (i := 14) (N := some 29) (v := ?_) (bits 31 32767) rfl rfl (any_of HT_.out (by kernel_rfl)) (fun _ _ _ h => h) (by kernel_rfl) ?_ ?_; rotate_left; (intro w'; go_simp; with_reducible rfl)
              refine pu (i := 15) (N := some 30) (v := ?_) (bits 31 65535) rfl rfl (any_of HT_.out (by kernel_rfl)) (fun _ _ _ h => h) (by kernel_rfl) ?_ ?_; rotate_left; (intro w'; go_simp; with_reducible rfl)
              refine pu (i := 16) (N := some 31) (v := ?_) (bits 31 131071) rfl rfl (any_of HT_.out (by kernel_rfl)) (fun _ _ _ h => h) (by kernel_rfl) ?_ ?_; rotate_left; (intro w'; go_simp; with_reducible rfl)
              refine pu (i := 17) (N := some 32) (v := ?_) (bits 31 262143) rfl rfl (any_of HT_.out (by kernel_rfl)) (fun _ _ _ h => h) (by kernel_rfl) ?_ ?_; rotate_left; (intro w'; go_simp; with_reducible rfl)
              by_cases hz : j = 0
              · rw [if_pos hz] at HS
                have dz : decide (0 < (j : Int)) = false := decide_eq_false (by omega)
                have dz2 : decide (0 < j) = false := decide_eq_false (by omega)
                clear hz
                refine pu (i := 18) (N := some 33) (v := ?_) (bits 31 524287) rfl rfl (any_of HT_.out (by kernel_rfl)) (fun _ _ _ h => h) (by kernel_rfl) ?_ ?_; rotate_left; (intro w'; go_simp; with_reducible rfl)
                refine pu (i := 19) (N := some 34) (v := ?_) (bits 31 1048575) rfl rfl (any_of HT_.out (by kernel_rfl)) (fun _ _ _ h => h) (by kernel_rfl) ?_ ?_; rotate_left; (intro w'; go_simp; with_reducible rfl)
                refine sk (i := 20) (N := some 35) (bits 31 2097151) rfl rfl (any_of HT_.out (by kernel_rfl)) (fun _ _ _ h => h) (by kernel_rfl) ?_
                refine sk (i := 21) (N := some 36) (bits 31 4194303) rfl rfl (any_of HT_.out (by kernel_rfl)) (fun _ _ _ h => h) (by kernel_rfl) ?_
                refine sk (i := 22) (N := some 37) (bits 31 8388607) rfl rfl (any_of HT_.out (by kernel_rfl)) (fun _ _ _ h => h) (by kernel_rfl) ?_
                refine sk (i := 23) (N := some 38) (bits 31 16777215) rfl rfl (any_of HT_.out (by kernel_rfl)) (fun _ _ _ h => h) (by kernel_rfl) ?_
                refine sk (i := 24) (N := some 39) (bits 31 33554431) rfl rfl (any_of HT_.out (by kernel_rfl)) (fun _ _ _ h => h) (by kernel_rfl) ?_
                refine sk (i := 25) (N := some 40) (bits 31 67108863) rfl rfl (any_of HT_.out (by kernel_rfl)) (fun _ _ _ h => h) (by kernel_rfl) ?_
                refine sk (i := 26) (N := some 41) (bits 31 134217727) rfl rfl (any_of HT_.out (by kernel_rfl)) (fun _ _ _ h => h) (by kernel_rfl) ?_
                refine sk (i := 27) (N := some 42) (bits 31 268435455) rfl rfl (any_of HT_.out (by kernel_rfl)) (fun _ _ _ h => h) (by kernel_rfl) ?_
                refine sk (i := 28) (N := some 43) (bits 31 536870911) rfl rfl (any_of HT_.out (by kernel_rfl)) (fun _ _ _ h => h) (by kernel_rfl) ?_
                refine pu (i := 29) (N := some 44) (v := ?_) (bits 31 1073741823) rfl rfl (any_of HT_.out (by kernel_rfl)) (fun _ _ _ h => h) (by kernel_rfl) ?_ ?_; rotate_left; (intro w'; go_simp; with_reducible rfl)
                refine pu (i := 30) (N := some 45) (v := ?_) (bits 31 2147483647) rfl rfl (any_of HT_.out (by kernel_rfl)) (fun _ _ _ h => h) (by kernel_rfl) ?_ ?_; rotate_left; (intro w'; go_simp; with_reducible rfl)
                refine norm_ (a' := ?_) ?_ ?_
                rotate_left
                · simp only [Act.put, List.setIfInBounds_toArray, List.set_cons_zero, List.set_cons_succ, i64_w, i32_w]
                  rfl
                refine done_ (done_of HT_.out (by kernel_rfl)) ?_
                try go_wp2
                all_goals first
                  | (go_roundg d; (case measure => omega); (case rel => exact ⟨j + 1, congrArg (Value.int .i64) (Int.natCast_succ _).symm, by omega, by omega, B, ⟨andT HS.out (by grind [l1B])⟩⟩))
                  | (go_ret; exact ⟨andF HS.out (by grind [l1B]), B.out⟩)
              · rw [if_neg hz] at HS
                have dz : decide (0 < (j : Int)) = true := decide_eq_true (by omega)
                have dz2 : decide (0 < j) = true := decide_eq_true (by omega)
                obtain ⟨i, hi⟩ : ∃ i, j - 1 = i := ⟨_, rfl⟩
                rw [hi] at HS
                have WI := Aside0.mk (show (j : Int) - 1 = (i : Int) by omega)
                have hij : i < l.length := by omega
                have IW := Aside0.mk (show wrap64 (i : Int) = (i : Int) by unfold wrap64; omega)
                have i1 := eq_true (show (i : Int) < (l.length : Int) by omega)
                have i2 := eq_true hij
                generalize hx : rd_T100 l (i : Int) = x at HS
                clear hz hi
                refine pu (i := 18) (N := some 33) (v := ?_) (bits 31 524287) rfl rfl (any_of HT_.out (by kernel_rfl)) (fun _ _ _ h => h) (by kernel_rfl) ?_ ?_; rotate_left; (intro w'; go_simp; with_reducible rfl)
                refine pu (i := 19) (N := some 34) (v := ?_) (bits 31 1048575) rfl rfl (any_of HT_.out (by kernel_rfl)) (fun _ _ _ h => h) (by kernel_rfl) ?_ ?_; rotate_left; (intro w'; go_simp; with_reducible rfl)
                refine pu (i := 20) (N := some 35) (v := ?_) (bits 31 2097151) rfl rfl (any_of HT_.out (by kernel_rfl)) (fun _ _ _ h => h) (by kernel_rfl) ?_ ?_; rotate_left; (intro w'; go_simp; with_reducible rfl)
                refine ta (i := 21) (N := some 36) (v := ?_) (bits 31 4194303) rfl rfl (take_ofW HT_.out HW_.out (by kernel_rfl)) (fun _ _ _ h => h) (by kernel_rfl) hHeld ?_ ?_; rotate_left; (intro w' hS; obtain ⟨s0, s1⟩ := hS; obtain ⟨q0, q1, q2⟩ := cs3 (Aside0.mk s0); go_simp; with_reducible rfl)
                refine pu (i := 22) (N := some 37) (v := ?_) (bits 31 8388607) rfl rfl (any_of HT_.out (by kernel_rfl)) (fun _ _ _ h => h) (by kernel_rfl) ?_ ?_; rotate_left; (intro w'; go_simp; with_reducible rfl)
                refine pu (i := 23) (N := some 38) (v := ?_) (bits 31 16777215) rfl rfl (any_of HT_.out (by kernel_rfl)) (fun _ _ _ h => h) (by kernel_rfl) ?_ ?_; rotate_left; (intro w'; go_simp; with_reducible rfl)
                refine pu (i := 24) (N := some 39) (v := .int .i64 ((i : Int))) (bits 31 33554431) rfl rfl (any_of HT_.out (by kernel_rfl)) (fun _ _ _ h => h) (by kernel_rfl) ?_ ?_; (intro w'; go_simp; rw [WI.out]; exact (i64_w _).trans IW.out)
                refine pu (i := 25) (N := some 40) (v := ?_) (bits 31 67108863) rfl rfl (any_of HT_.out (by kernel_rfl)) (fun _ _ _ h => h) (by kernel_rfl) ?_ ?_; rotate_left; (intro w'; go_simp; with_reducible rfl)
                refine pu (i := 26) (N := some 41) (v := ?_) (bits 31 134217727) rfl rfl (any_of HT_.out (by kernel_rfl)) (fun _ _ _ h => h) (by kernel_rfl) ?_ ?_; rotate_left; (intro w'; go_simp; with_reducible rfl)
                refine ta (i := 27) (N := some 42) (v := ?_) (bits 31 268435455) rfl rfl (take_ofW HT_.out HW_.out (by kernel_rfl)) (fun _ _ _ h => h) (by kernel_rfl) hHeld ?_ ?_; rotate_left; (intro w' hS; obtain ⟨s0, s1⟩ := hS; obtain ⟨_, hA, q0, q1, q2⟩ := at_T100 s1 (i : Int) (by omega) (by omega); cases hA; rw [Int.toNat_natCast] at q0 q1 q2; rw [hx] at q0 q1 q2; go_simp; with_reducible rfl)
                refine pu (i := 28) (N := some 43) (v := ?_) (bits 31 536870911) rfl rfl (any_of HT_.out (by kernel_rfl)) (fun _ _ _ h => h) (by kernel_rfl) ?_ ?_; rotate_left; (intro w'; go_simp; with_reducible rfl)
                refine pu (i := 29) (N := some 44) (v := ?_) (bits 31 1073741823) rfl rfl (any_of HT_.out (by kernel_rfl)) (fun _ _ _ h => h) (by kernel_rfl) ?_ ?_; rotate_left; (intro w'; go_simp; with_reducible rfl)
                refine pu (i := 30) (N := some 45) (v := ?_) (bits 31 2147483647) rfl rfl (any_of HT_.out (by kernel_rfl)) (fun _ _ _ h => h) (by kernel_rfl) ?_ ?_; rotate_left; (intro w'; go_simp; with_reducible rfl)
                refine norm_ (a' := ?_) ?_ ?_
                rotate_left
                · simp only [Act.put, List.setIfInBounds_toArray, List.set_cons_zero, List.set_cons_succ, i64_w, i32_w]
                  rfl
                refine done_ (done_of HT_.out (by kernel_rfl)) ?_
                try go_wp2
                all_goals first
                  | (go_roundg d; (case measure => omega); (case rel => exact ⟨j + 1, congrArg (Value.int .i64) (Int.natCast_succ _).symm, by omega, by omega, B, ⟨andT HS.out (by grind [l1B])⟩⟩))
                  | (go_ret; exact ⟨andF HS.out (by grind [l1B]), B.out⟩))
      all_goals try go_wp2
      all_goals try (go_ret; exact ⟨andF HS.out (by grind [l1B]), B.out⟩)
    · have cj : decide ((j : Int) < (l.length : Int)) = false := decide_eq_false (by omega)
      have hr : r = true := by rw [← H.out]; exact sesJ_end hlt
      subst hr
      go_wp2
      go_ret
      exact ⟨rfl, B.out⟩

def spec_IntervalCut.T5 : Bool × List (List Nat × List Nat) := (true, [([], []), ([], []), ([0, 0], [0]), ([1, 2, 0, 1, 2], [1]), ([3, 0, 1, 2, 3], [])])
def spec_IntervalCut.B5 : List Nat := [0, 0, 1, 7, 15]
theorem spec_IntervalCut.tab5 : rtab .any (opsOf Try.f51 5) = spec_IntervalCut.T5 := by kernel_rfl
theorem spec_IntervalCut.bits5 : waitsOk spec_IntervalCut.T5.2 spec_IntervalCut.B5 = true := by kernel_rfl
theorem spec_IntervalCut.M (a b c : ByteArray) (w : World) : Calls Try.prog 51 #[.agg #[.string a, .string b], .string c] w fun e w' => e = .returned (.tuple #[.agg #[.string (cutV a b c).1, .string (cutV a b c).2.1], .agg #[.string (cutV a b c).2.2.1, .string (cutV a b c).2.2.2.1], .bool (cutV a b c).2.2.2.2]) ∧ Below w.heap.size w w' := by
  have B := Aside0.mk (Below.refl w.heap.size w)
  have hu := Try.underlying30
  go_enter Try.func51, Try.ntmps51
  go_wp2_with (first
    | ((with_reducible refine gate_dst (N := 2) rfl ?_); refine bx ?hg (N := 2) ?hd (cs := #[.string a, .string b]) (t := 30) ?hr B ?_; (case hd => rfl); (case hg => rfl); (case hr => first | (go_simp; done) | (go_simp; rfl)); intro g2 w1 hb B F2 L2 E2; obtain ⟨c2_0, c2_1⟩ := cs2 F2; clear hb E2)
    | ((with_reducible refine gate_dst (N := 4) rfl ?_); refine bx ?hg (N := 4) ?hd (cs := #[.string (⟨#[]⟩ : ByteArray), .string (⟨#[]⟩ : ByteArray)]) (t := 30) ?hr B ?_; (case hd => rfl); (case hg => rfl); (case hr => first | (go_simp; done) | (go_simp; rfl)); intro g4 w2 hb B F4 L4 E4; have N2_4 := ne1 E4 F2; replace F2 := bn F2 hb; clear c2_0 c2_1; obtain ⟨c2_0, c2_1⟩ := cs2 F2; clear hb E4)
    | ((with_reducible refine gate_dst (N := 5) rfl ?_); refine bx ?hg (N := 5) ?hd (cs := #[.string (⟨#[]⟩ : ByteArray), .string (⟨#[]⟩ : ByteArray)]) (t := 30) ?hr B ?_; (case hd => rfl); (case hg => rfl); (case hr => first | (go_simp; done) | (go_simp; rfl)); intro g5 w3 hb B F5 L5 E5; have N2_5 := ne1 E5 F2; have N4_5 := ne1 E5 F4; replace F2 := bn F2 hb; replace F4 := bn F4 hb; clear c2_0 c2_1; obtain ⟨c2_0, c2_1⟩ := cs2 F2; clear hb E5)
    | ((with_reducible refine gate_dst (N := 7) rfl ?_); refine bx ?hg (N := 7) ?hd (cs := #[.string (⟨#[]⟩ : ByteArray), .string (⟨#[]⟩ : ByteArray)]) (t := 30) ?hr B ?_; (case hd => rfl); (case hg => rfl); (case hr => first | (go_simp; done) | (go_simp; rfl)); intro g7 w4 hb B F7 L7 E7; have N2_7 := ne1 E7 F2; have N4_7 := ne1 E7 F4; have N5_7 := ne1 E7 F5; replace F2 := bn F2 hb; replace F4 := bn F4 hb; replace F5 := bn F5 hb; clear c2_0 c2_1; obtain ⟨c2_0, c2_1⟩ := cs2 F2; obtain ⟨c7_0, c7_1⟩ := cs2 F7; clear hb E7)
    | ((with_reducible refine gate_store (t := 30) (p := 7) rfl ?_); obtain ⟨y0, y1⟩ := cs2 F7; have z0 := fz F7 0; have z1 := fz F7 1; refine sx (t := 30) (t' := 30) (p := 7) (v := ?vo5) ?hg ?ho ?hn 0 [.string a, .string c] [.string a, .string c] ?hr B F7 L7 rfl (Nat.le_of_ble_eq_true rfl) ?_; (case ho => rfl); (case hg => rfl); (case hn => rfl); (case hr => first | (go_simp; done) | (go_simp; rfl)); intro w5 hk B G; replace F2 := bk F2 hk N2_7.out; replace F4 := bk F4 hk N4_7.out; replace F5 := bk F5 hk N5_7.out; replace F7 := G; clear c2_0 c2_1; obtain ⟨c2_0, c2_1⟩ := cs2 F2; clear c7_0 c7_1; obtain ⟨c7_0, c7_1⟩ := cs2 F7; clear hk y0 z0 y1 z1)
    | ((with_reducible refine gate_dst (N := 8) rfl ?_); refine bx ?hg (N := 8) ?hd (cs := #[.string (⟨#[]⟩ : ByteArray), .string (⟨#[]⟩ : ByteArray)]) (t := 30) ?hr B ?_; (case hd => rfl); (case hg => rfl); (case hr => first | (go_simp; done) | (go_simp; rfl)); intro g8 w6 hb B F8 L8 E8; have N2_8 := ne1 E8 F2; have N4_8 := ne1 E8 F4; have N5_8 := ne1 E8 F5; have N7_8 := ne1 E8 F7; replace F2 := bn F2 hb; replace F4 := bn F4 hb; replace F5 := bn F5 hb; replace F7 := bn F7 hb; clear c2_0 c2_1; obtain ⟨c2_0, c2_1⟩ := cs2 F2; clear c7_0 c7_1; obtain ⟨c7_0, c7_1⟩ := cs2 F7; obtain ⟨c8_0, c8_1⟩ := cs2 F8; clear hb E8)
    | ((with_reducible refine gate_store (t := 30) (p := 8) rfl ?_); obtain ⟨y0, y1⟩ := cs2 F8; have z0 := fz F8 0; have z1 := fz F8 1; refine sx (t := 30) (t' := 30) (p := 8) (v := ?vo7) ?hg ?ho ?hn 0 [.string c, .string b] [.string c, .string b] ?hr B F8 L8 rfl (Nat.le_of_ble_eq_true rfl) ?_; (case ho => rfl); (case hg => rfl); (case hn => rfl); (case hr => first | (go_simp; done) | (go_simp; rfl)); intro w7 hk B G; replace F2 := bk F2 hk N2_8.out; replace F4 := bk F4 hk N4_8.out; replace F5 := bk F5 hk N5_8.out; replace F7 := bk F7 hk N7_8.out; replace F8 := G; clear c2_0 c2_1; obtain ⟨c2_0, c2_1⟩ := cs2 F2; clear c7_0 c7_1; obtain ⟨c7_0, c7_1⟩ := cs2 F7; clear c8_0 c8_1; obtain ⟨c8_0, c8_1⟩ := cs2 F8; clear hk y0 z0 y1 z1)
    | (go_at_call 47; with_reducible refine cl (spec_IntervalValid.M a b _) B fun w8 hb B => ?_; replace F4 := bn F4 hb; replace F5 := bn F5 hb; replace F7 := bn F7 hb; replace F8 := bn F8 hb; clear c7_0 c7_1; obtain ⟨c7_0, c7_1⟩ := cs2 F7; clear c8_0 c8_1; obtain ⟨c8_0, c8_1⟩ := cs2 F8; clear hb)
    | (go_at_call 89; with_reducible refine cl (spec_KeyValid.M c _) B fun w9 hb B => ?_; replace F4 := bn F4 hb; replace F5 := bn F5 hb; replace F7 := bn F7 hb; replace F8 := bn F8 hb; clear c7_0 c7_1; obtain ⟨c7_0, c7_1⟩ := cs2 F7; clear c8_0 c8_1; obtain ⟨c8_0, c8_1⟩ := cs2 F8; clear hb)
    | (go_at_call 47; with_reducible refine cl (spec_IntervalValid.M a c _) B fun w10 hb B => ?_; replace F4 := bn F4 hb; replace F5 := bn F5 hb; replace F7 := bn F7 hb; replace F8 := bn F8 hb; clear c7_0 c7_1; obtain ⟨c7_0, c7_1⟩ := cs2 F7; clear c8_0 c8_1; obtain ⟨c8_0, c8_1⟩ := cs2 F8; clear hb)
    | (go_at_call 47; with_reducible refine cl (spec_IntervalValid.M c b _) B fun w11 hb B => ?_; replace F4 := bn F4 hb; replace F5 := bn F5 hb; replace F7 := bn F7 hb; replace F8 := bn F8 hb; clear c7_0 c7_1; obtain ⟨c7_0, c7_1⟩ := cs2 F7; clear c8_0 c8_1; obtain ⟨c8_0, c8_1⟩ := cs2 F8; clear hb)
    | ((with_reducible refine gate_store (t := 30) (p := 4) rfl ?_); obtain ⟨y0, y1⟩ := cs2 F4; have z0 := fz F4 0; have z1 := fz F4 1; refine sx (t := 30) (t' := 30) (p := 4) (v := ?vo12) ?hg ?ho ?hn 0 [.string (⟨#[]⟩ : ByteArray), .string (⟨#[]⟩ : ByteArray)] [.string (⟨#[]⟩ : ByteArray), .string (⟨#[]⟩ : ByteArray)] ?hr B F4 L4 rfl (Nat.le_of_ble_eq_true rfl) ?_; (case ho => rfl); (case hg => rfl); (case hn => rfl); (case hr => first | (go_simp; done) | (go_simp; rfl)); intro w12 hk B G; replace F5 := bk F5 hk N4_5.out.symm; replace F7 := bk F7 hk N4_7.out.symm; replace F8 := bk F8 hk N4_8.out.symm; replace F4 := G; clear c7_0 c7_1; obtain ⟨c7_0, c7_1⟩ := cs2 F7; clear c8_0 c8_1; obtain ⟨c8_0, c8_1⟩ := cs2 F8; clear hk y0 z0 y1 z1)
    | ((with_reducible refine gate_store (t := 30) (p := 5) rfl ?_); obtain ⟨y0, y1⟩ := cs2 F5; have z0 := fz F5 0; have z1 := fz F5 1; refine sx (t := 30) (t' := 30) (p := 5) (v := ?vo13) ?hg ?ho ?hn 0 [.string (⟨#[]⟩ : ByteArray), .string (⟨#[]⟩ : ByteArray)] [.string (⟨#[]⟩ : ByteArray), .string (⟨#[]⟩ : ByteArray)] ?hr B F5 L5 rfl (Nat.le_of_ble_eq_true rfl) ?_; (case ho => rfl); (case hg => rfl); (case hn => rfl); (case hr => first | (go_simp; done) | (go_simp; rfl)); intro w13 hk B G; replace F4 := bk F4 hk N4_5.out; replace F7 := bk F7 hk N5_7.out.symm; replace F8 := bk F8 hk N5_8.out.symm; replace F5 := G; clear c7_0 c7_1; obtain ⟨c7_0, c7_1⟩ := cs2 F7; clear c8_0 c8_1; obtain ⟨c8_0, c8_1⟩ := cs2 F8; clear hk y0 z0 y1 z1))
  all_goals try (refine bodyPost_ret (results_list (rs := [.cell 4 30, .cell 5 30, .tmp 6]) rfl (by simp) (.cell g4 30 _ (0, 0) _ rfl F4.out hu rfl (by kernel_rfl) (.cell g5 30 _ (0, 0) _ rfl F5.out hu rfl (by kernel_rfl) (.tmp .nil)))) rfl ?_; refine ⟨?_, B.out⟩; unfold cutV cutB; simp_all; done)
  all_goals (
    refine rg (n := 5) (S := fun W => W.heap[g7]? = some (.cells #[.string a, .string c] 30 (0, 0)) ∧ W.heap[g8]? = some (.cells #[.string c, .string b] 30 (0, 0))) (ds := []) #[false, false, false, false, false] (by kernel_rfl) rfl rfl ⟨F7.out, F8.out⟩ id B (fun w14 hb B hHeld => ?_)
    refine with_tabW spec_IntervalCut.tab5 spec_IntervalCut.bits5 (fun HT_ HW_ => ?_)
    replace F4 := bn F4 hb
    replace F5 := bn F5 hb
    replace F7 := bn F7 hb
    replace F8 := bn F8 hb
    clear hb
    refine ta (i := 0) (N := some 37) (v := ?_) (bits 5 1) rfl rfl (take_ofW HT_.out HW_.out (by kernel_rfl)) (fun _ _ _ h => h) (by kernel_rfl) hHeld ?_ ?_; rotate_left; (intro w' hS; obtain ⟨s0, s1⟩ := hS; obtain ⟨q0, q1⟩ := cs2 (Aside0.mk s0); go_simp; with_reducible rfl)
    refine ta (i := 1) (N := some 38) (v := ?_) (bits 5 3) rfl rfl (take_ofW HT_.out HW_.out (by kernel_rfl)) (fun _ _ _ h => h) (by kernel_rfl) hHeld ?_ ?_; rotate_left; (intro w' hS; obtain ⟨s0, s1⟩ := hS; obtain ⟨q0, q1⟩ := cs2 (Aside0.mk s1); go_simp; with_reducible rfl)
    refine norm_ (a' := ?_) ?_ ?_
    rotate_left
    · simp only [Act.put, List.setIfInBounds_toArray, List.set_cons_zero, List.set_cons_succ, i64_w, i32_w]
      rfl
    refine one_ (i := 2) (N := none) (bits 5 7) rfl rfl (one_of HT_.out (by kernel_rfl)) (by decide) (fun K hK => ?_)
    obtain ⟨y0, y1⟩ := cs2 F4
    have z0 := fz F4 0
    have z1 := fz F4 1
    refine sxs (g := g4) 0 [.string a, .string c] [.string a, .string c] (by rfl) rfl ?hr B F4 L4 rfl (Nat.le_of_ble_eq_true rfl) (fun w15 hk B G => ?_)
    (case hr => first | (go_simp; done) | (go_simp; rfl))
    replace F5 := bk F5 hk N4_5.out.symm
    replace F7 := bk F7 hk N4_7.out.symm
    replace F8 := bk F8 hk N4_8.out.symm
    replace F4 := G
    clear hk y0 z0 y1 z1
    refine hK.out _ _ ⟨F7.out, F8.out⟩ (fun hHeld => ?_)
    clear hK K
    refine one_ (i := 3) (N := none) (bits 5 15) rfl rfl (one_of HT_.out (by kernel_rfl)) (by decide) (fun K hK => ?_)
    obtain ⟨y0, y1⟩ := cs2 F5
    have z0 := fz F5 0
    have z1 := fz F5 1
    refine sxs (g := g5) 0 [.string c, .string b] [.string c, .string b] (by rfl) rfl ?hr B F5 L5 rfl (Nat.le_of_ble_eq_true rfl) (fun w16 hk B G => ?_)
    (case hr => first | (go_simp; done) | (go_simp; rfl))
    replace F4 := bk F4 hk N4_5.out
    replace F7 := bk F7 hk N5_7.out.symm
    replace F8 := bk F8 hk N5_8.out.symm
    replace F5 := G
    clear hk y0 z0 y1 z1
    refine hK.out _ _ ⟨F7.out, F8.out⟩ (fun hHeld => ?_)
    clear hK K
    refine pu (i := 4) (N := some 6) (v := ?_) (bits 5 31) rfl rfl (any_of HT_.out (by kernel_rfl)) (fun _ _ _ h => h) (by kernel_rfl) ?_ ?_; rotate_left; (intro w'; go_simp; with_reducible rfl)
    refine norm_ (a' := ?_) ?_ ?_
    rotate_left
    · simp only [Act.put, List.setIfInBounds_toArray, List.set_cons_zero, List.set_cons_succ, i64_w, i32_w]
      rfl
    refine done_ (done_of HT_.out (by kernel_rfl)) ?_)
  all_goals try go_wp2
  all_goals try (refine bodyPost_ret (results_list (rs := [.cell 4 30, .cell 5 30, .tmp 6]) rfl (by simp) (.cell g4 30 _ (0, 0) _ rfl F4.out hu rfl (by kernel_rfl) (.cell g5 30 _ (0, 0) _ rfl F5.out hu rfl (by kernel_rfl) (.tmp .nil)))) rfl ?_; refine ⟨?_, B.out⟩; unfold cutV cutB; simp_all; done)

def spec_StateValid.T6 : Bool × List (List Nat × List Nat) := (true, [([], []), ([0], [0]), ([], []), ([2], [2]), ([], []), ([3, 4], [3, 4]), ([5], [5]), ([6], [6]), ([1, 7], [1, 7]), ([8], [8])])
def spec_StateValid.B6 : List Nat := [0, 1, 0, 4, 0, 28, 60, 124, 255, 511]
theorem spec_StateValid.tab6 : rtab .any (opsOf Try.f12 6) = spec_StateValid.T6 := by kernel_rfl
theorem spec_StateValid.bits6 : waitsOk spec_StateValid.T6.2 spec_StateValid.B6 = true := by kernel_rfl
theorem spec_StateValid.M (a b : ByteArray) (AP : Option Addr) (cP : Nat) (ps : List S61) (AS : Option Addr) (cS : Nat) (ss : List S100) (t : Bool) (c : ByteArray) (w : World) (hrp : Kd.C k61 w AP ps.length ps) (hrs : Kd.C k100 w AS ss.length ss) : Calls Try.prog 12 #[.agg #[.string a, .string b, .slice AP ps.length cP, .slice AS ss.length cS, .bool t, .string c]] w fun e w' => e = .returned (.bool (stB a b ps ss t c)) ∧ Below w.heap.size w w' := by
  have B := Aside0.mk (Below.refl w.heap.size w)
  have hu := Try.underlying34
  have hu2 := Try.underlying30
  have HRP := Aside0.mk hrp
  have HRS := Aside0.mk hrs
  clear hrp hrs
  go_enter Try.func12, Try.ntmps12
  go_wp2_with (first
    | ((with_reducible refine gate_dst (N := 1) rfl ?_); refine bx ?hg (N := 1) ?hd (cs := #[.string a, .string b, .slice AP ps.length cP, .slice AS ss.length cS, .bool t, .string c]) (t := 34) ?hr B ?_; (case hd => rfl); (case hg => rfl); (case hr => first | (go_simp; done) | (go_simp; rfl)); intro g1 w1 hb B F1 L1 E1; obtain ⟨c1_0, c1_1, c1_2, c1_3, c1_4, c1_5⟩ := cs6 F1; clear hb E1)
    | (go_at_call 47; with_reducible refine cl (spec_IntervalValid.M a b _) B fun w2 hb B => ?_; replace F1 := bn F1 hb; clear c1_0 c1_1 c1_2 c1_3 c1_4 c1_5; obtain ⟨c1_0, c1_1, c1_2, c1_3, c1_4, c1_5⟩ := cs6 F1; clear hb)
    | (go_at_call 48; with_reducible refine cl (spec_PairsValid.M _ _ ps _ (cb HRP B)) B fun w3 hb B => ?_; replace F1 := bn F1 hb; clear c1_0 c1_1 c1_2 c1_3 c1_4 c1_5; obtain ⟨c1_0, c1_1, c1_2, c1_3, c1_4, c1_5⟩ := cs6 F1; clear hb)
    | (go_at_call 49; with_reducible refine cl (spec_SessionsValid.M _ _ ss _ (cb HRS B)) B fun w4 hb B => ?_; replace F1 := bn F1 hb; clear hb))
  all_goals try (go_ret; exact ⟨congrArg (fun b => Ending.returned (Value.bool b)) (by grind [stB]), B.out⟩)
  have hv : ivB a b = true ∧ prB ps = true ∧ sesB ss = true := by grind
  have hst : stB a b ps ss t c = ((ps.all fun p => hasB a b p.f0) && tailB a b t c) := by
    unfold stB
    rw [all_has hv.1 hv.2.1, hv.1, hv.2.1, hv.2.2]
    rfl
  obtain ⟨q, hq⟩ : ∃ q, (ps.all fun p => hasB a b p.f0) = q := ⟨_, rfl⟩
  rw [hq] at hst
  have H := Aside0.mk (show ((ps.drop 0).all fun p => hasB a b p.f0) = q from hq)
  have L48 := Aside0.mk (prB_len hv.2.1)
  clear hq hv c1_0 c1_1 c1_2 c1_3 c1_4 c1_5
  have HST := Aside0.mk hst
  clear hst
  go_loopg [3] (ps.length + 1) (fun kx v3 wr => ∃ j : Nat, v3 = .int .i64 (j : Int) ∧ j ≤ ps.length ∧ ps.length < j + kx ∧ Aside0 (Below w.heap.size w wr) ∧ Aside0 (wr.heap[g1]? = some (.cells #[.string a, .string b, .slice AP ps.length cP, .slice AS ss.length cS, .bool t, .string c] 34 (0, 0))) ∧ Aside0 (((ps.drop j).all fun p => hasB a b p.f0) = q))
  case atStart => exact ⟨0, rfl, by omega, by omega, B, F1, H⟩
  case round =>
    clear H B F1
    obtain ⟨j, rfl, hj, hk, B, F1, H⟩ := hrel
    have hst := HST.out
    obtain ⟨c1_0, c1_1, c1_2, c1_3, c1_4, c1_5⟩ := cs6 F1
    by_cases hlt : j < ps.length
    · have HS := H.out
      rw [pr_drop hlt, List.all_cons] at HS
      clear H
      obtain ⟨d, rfl⟩ : ∃ d, gk = d + 1 := ⟨gk - 1, by omega⟩
      have h48 := L48.out
      have cj : decide ((j : Int) < (ps.length : Int)) = true := decide_eq_true (by omega)
      obtain ⟨ad, hA, y0, y1⟩ := at_T61 (cb HRP B) (j : Int) (by omega) (by omega)
      cases hA
      rw [Int.toNat_natCast] at y0 y1
      have j1 := eq_true (show (j : Int) < (ps.length : Int) by omega)
      have j2 := eq_true hlt
      generalize hy : rd_T61 ps (j : Int) = y at *
      try go_wp2
      all_goals (
        refine rg (n := 10) (S := fun W => W.heap[g1]? = some (.cells #[.string a, .string b, .slice (some ad) ps.length cP, .slice AS ss.length cS, .bool t, .string c] 34 (0, 0)) ∧ Kd.C k61 W (some ad) ps.length ps) (ds := []) #[false, false, false, false, false, false, false, false, false, false] (by kernel_rfl) rfl rfl ⟨F1.out, (cb HRP B)⟩ id B (fun w5 hb B hHeld => ?_)
        refine with_tabW spec_StateValid.tab6 spec_StateValid.bits6 (fun HT_ HW_ => ?_)
        replace F1 := bn F1 hb
        clear hb
        refine pu (i := 0) (N := some 30) (v := ?_) (bits 10 1) rfl rfl (any_of HT_.out (by kernel_rfl)) (fun _ _ _ h => h) (by kernel_rfl) ?_ ?_; rotate_left; (intro w'; go_simp; with_reducible rfl)
        refine ta (i := 1) (N := some 31) (v := ?_) (bits 10 3) rfl rfl (take_ofW HT_.out HW_.out (by kernel_rfl)) (fun _ _ _ h => h) (by kernel_rfl) hHeld ?_ ?_; rotate_left; (intro w' hS; obtain ⟨s0, s1⟩ := hS; obtain ⟨q0, q1, q2, q3, q4, q5⟩ := cs6 (Aside0.mk s0); go_simp; with_reducible rfl)
        refine pu (i := 2) (N := some 32) (v := ?_) (bits 10 7) rfl rfl (any_of HT_.out (by kernel_rfl)) (fun _ _ _ h => h) (by kernel_rfl) ?_ ?_; rotate_left; (intro w'; go_simp; with_reducible rfl)
        refine ta (i := 3) (N := some 33) (v := ?_) (bits 10 15) rfl rfl (take_ofW HT_.out HW_.out (by kernel_rfl)) (fun _ _ _ h => h) (by kernel_rfl) hHeld ?_ ?_; rotate_left; (intro w' hS; obtain ⟨s0, s1⟩ := hS; obtain ⟨q0, q1, q2, q3, q4, q5⟩ := cs6 (Aside0.mk s0); go_simp; with_reducible rfl)
        refine pu (i := 4) (N := some 34) (v := ?_) (bits 10 31) rfl rfl (any_of HT_.out (by kernel_rfl)) (fun _ _ _ h => h) (by kernel_rfl) ?_ ?_; rotate_left; (intro w'; go_simp; with_reducible rfl)
        refine pu (i := 5) (N := some 35) (v := ?_) (bits 10 63) rfl rfl (any_of HT_.out (by kernel_rfl)) (fun _ _ _ h => h) (by kernel_rfl) ?_ ?_; rotate_left; (intro w'; go_simp; with_reducible rfl)
        refine pu (i := 6) (N := some 36) (v := ?_) (bits 10 127) rfl rfl (any_of HT_.out (by kernel_rfl)) (fun _ _ _ h => h) (by kernel_rfl) ?_ ?_; rotate_left; (intro w'; go_simp; with_reducible rfl)
        refine ta (i := 7) (N := some 37) (v := ?_) (bits 10 255) rfl rfl (take_ofW HT_.out HW_.out (by kernel_rfl)) (fun _ _ _ h => h) (by kernel_rfl) hHeld ?_ ?_; rotate_left; (intro w' hS; obtain ⟨s0, s1⟩ := hS; obtain ⟨_, hA, q0, q1⟩ := at_T61 s1 (j : Int) (by omega) (by omega); cases hA; rw [Int.toNat_natCast] at q0 q1; rw [hy] at q0 q1; go_simp; with_reducible rfl)
        refine norm_ (a' := ?_) ?_ ?_
        rotate_left
        · simp only [Act.put, List.setIfInBounds_toArray, List.set_cons_zero, List.set_cons_succ, i64_w, i32_w]
          rfl
        refine one_ (i := 8) (N := some 38) (bits 10 511) rfl rfl (one_of HT_.out (by kernel_rfl)) (by decide) (fun K hK => ?_)
        refine goes_ Try.func50 (by kernel_rfl) rfl #[.agg #[.string a, .string b], .string y.f0] (by rfl) rfl rfl (by (try simp only [List.map_toArray, List.map_cons, List.map_nil]); rfl) ?_
        with_reducible refine cl (spec_IntervalHas.M a b y.f0 _) B fun w6 hb B => ?_
        replace F1 := bn F1 hb
        clear hb
        refine ⟨_, rfl, ?_⟩
        refine hK.out _ _ ⟨F1.out, (cb HRP B)⟩ (fun hHeld => ?_)
        clear hK K
        refine norm_ (a' := ?_) ?_ ?_
        rotate_left
        · show Act.put _ (some 38) _ = _
          simp only [Act.put, List.setIfInBounds_toArray, List.set_cons_zero, List.set_cons_succ, i64_w, i32_w]
          rfl
        refine pu (i := 9) (N := some 39) (v := ?_) (bits 10 1023) rfl rfl (any_of HT_.out (by kernel_rfl)) (fun _ _ _ h => h) (by kernel_rfl) ?_ ?_; rotate_left; (intro w'; go_simp; with_reducible rfl)
        refine norm_ (a' := ?_) ?_ ?_
        rotate_left
        · simp only [Act.put, List.setIfInBounds_toArray, List.set_cons_zero, List.set_cons_succ, i64_w, i32_w]
          rfl
        refine done_ (done_of HT_.out (by kernel_rfl)) ?_
        try go_wp2
        all_goals first
          | (go_roundg d; (case measure => omega); (case rel => exact ⟨j + 1, congrArg (Value.int .i64) (Int.natCast_succ _).symm, by omega, by omega, B, F1, ⟨andT HS (by grind)⟩⟩))
          | (go_ret; exact ⟨congrArg (fun b => Ending.returned (Value.bool b)) (by have HS := HS; grind [stB]), B.out⟩))
      all_goals try go_wp2
    · have cj : decide ((j : Int) < (ps.length : Int)) = false := decide_eq_false (by omega)
      have hr : q = true := by rw [← H.out, List.drop_of_length_le (by omega)]; rfl
      clear H
      go_wp2_with (first
        | (go_at_call 51; with_reducible refine cl (spec_IntervalCut.M a b c _) B fun w1 hb B => ?_; replace F1 := bn F1 hb; clear c1_0 c1_1 c1_2 c1_3 c1_4 c1_5; obtain ⟨c1_0, c1_1, c1_2, c1_3, c1_4, c1_5⟩ := cs6 F1; clear hb)
        | ((with_reducible refine gate_dst (N := 4) rfl ?_); refine bx ?hg (N := 4) ?hd (cs := #[.string (⟨#[]⟩ : ByteArray), .string (⟨#[]⟩ : ByteArray)]) (t := 30) ?hr B ?_; (case hd => rfl); (case hg => rfl); (case hr => first | (go_simp; done) | (go_simp; rfl)); intro g4 w2 hb B F4 L4 E4; have N1_4 := ne1 E4 F1; replace F1 := bn F1 hb; clear c1_0 c1_1 c1_2 c1_3 c1_4 c1_5; obtain ⟨c1_0, c1_1, c1_2, c1_3, c1_4, c1_5⟩ := cs6 F1; clear hb E4)
        | ((with_reducible refine gate_dst (N := 5) rfl ?_); refine bx ?hg (N := 5) ?hd (cs := #[.string (⟨#[]⟩ : ByteArray), .string (⟨#[]⟩ : ByteArray)]) (t := 30) ?hr B ?_; (case hd => rfl); (case hg => rfl); (case hr => first | (go_simp; done) | (go_simp; rfl)); intro g5 w3 hb B F5 L5 E5; have N1_5 := ne1 E5 F1; have N4_5 := ne1 E5 F4; replace F1 := bn F1 hb; replace F4 := bn F4 hb; clear c1_0 c1_1 c1_2 c1_3 c1_4 c1_5; obtain ⟨c1_0, c1_1, c1_2, c1_3, c1_4, c1_5⟩ := cs6 F1; clear hb E5)
        | ((with_reducible refine gate_store (t := 30) (p := 4) rfl ?_); obtain ⟨y0, y1⟩ := cs2 F4; have z0 := fz F4 0; have z1 := fz F4 1; refine sx (t := 30) (t' := 30) (p := 4) (v := ?vo4) ?hg ?ho ?hn 0 [.string (cutV a b c).1, .string (cutV a b c).2.1] [.string (cutV a b c).1, .string (cutV a b c).2.1] ?hr B F4 L4 rfl (Nat.le_of_ble_eq_true rfl) ?_; (case ho => rfl); (case hg => rfl); (case hn => rfl); (case hr => first | (go_simp; done) | (go_simp; rfl)); intro w4 hk B G; replace F1 := bk F1 hk N1_4.out; replace F5 := bk F5 hk N4_5.out.symm; replace F4 := G; clear c1_0 c1_1 c1_2 c1_3 c1_4 c1_5; obtain ⟨c1_0, c1_1, c1_2, c1_3, c1_4, c1_5⟩ := cs6 F1; clear hk y0 z0 y1 z1)
        | ((with_reducible refine gate_store (t := 30) (p := 5) rfl ?_); obtain ⟨y0, y1⟩ := cs2 F5; have z0 := fz F5 0; have z1 := fz F5 1; refine sx (t := 30) (t' := 30) (p := 5) (v := ?vo5) ?hg ?ho ?hn 0 [.string (cutV a b c).2.2.1, .string (cutV a b c).2.2.2.1] [.string (cutV a b c).2.2.1, .string (cutV a b c).2.2.2.1] ?hr B F5 L5 rfl (Nat.le_of_ble_eq_true rfl) ?_; (case ho => rfl); (case hg => rfl); (case hn => rfl); (case hr => first | (go_simp; done) | (go_simp; rfl)); intro w5 hk B G; replace F1 := bk F1 hk N1_5.out; replace F5 := G; clear c1_0 c1_1 c1_2 c1_3 c1_4 c1_5; obtain ⟨c1_0, c1_1, c1_2, c1_3, c1_4, c1_5⟩ := cs6 F1; clear hk y0 z0 y1 z1))
      all_goals go_ret
      all_goals
        refine ⟨congrArg (fun b => Ending.returned (Value.bool b)) ?_, B.out⟩
        rw [hst, hr, Bool.true_and]
        unfold tailB
        grind [cutV_ok]

def impl_PairsValid.T8 : Bool × List (List Nat × List Nat) := (true, [([], []), ([0], [0]), ([1], [1]), ([2], [2]), ([2], [2]), ([4, 2], [2, 4]), ([3, 5, 2], [2, 3, 5]), ([6, 2], [2, 6]), ([7, 2], [2, 7]), ([2], [2]), ([9, 2], [2, 9]), ([8, 10, 2], [2, 8, 10]), ([2, 11], [2, 11])])
def impl_PairsValid.B8 : List Nat := [0, 1, 3, 7, 7, 23, 63, 127, 255, 7, 519, 2047, 4095]
theorem impl_PairsValid.tab8 : rtab .any (opsOf Try.f56 8) = impl_PairsValid.T8 := by kernel_rfl
theorem impl_PairsValid.bits8 : waitsOk impl_PairsValid.T8.2 impl_PairsValid.B8 = true := by kernel_rfl
theorem impl_PairsValid.M (A0 : Option Addr) (c0 : Nat) (l : List S61) (w : World) (hr0 : Kd.C k61 w A0 l.length l) : Calls Try.prog 56 #[.slice A0 l.length c0] w fun e w' => e = .returned (.bool (prB l)) ∧ Below w.heap.size w w' := by
  have hu := Try.underlying61
  have B := Aside0.mk (Below.refl w.heap.size w)
  have HR0 := Aside0.mk hr0
  clear hr0
  obtain ⟨r, hr⟩ : ∃ r, prB l = r := ⟨_, rfl⟩
  rw [hr]
  unfold prB at hr
  by_cases hl : l.length ≤ 48
  · have H := Aside0.mk (show prJ l 0 = r by unfold prJ prP; simpa [hl] using hr)
    have cl0 : decide (48 < (l.length : Int)) = false := decide_eq_false (by omega)
    have L48 := Aside0.mk (show l.length ≤ 4611686018427387904 by omega)
    clear hl hr
    go_enter Try.func56, Try.ntmps56
    go_wp2
    go_loopg [10] (l.length + 1) (fun kx v10 wr => ∃ j : Nat, v10 = .int .i64 (j : Int) ∧ j ≤ l.length ∧ l.length < j + kx ∧ Aside0 (Below w.heap.size w wr) ∧ Aside0 (prJ l j = r))
    case atStart => exact ⟨0, rfl, by omega, by omega, B, H⟩
    case round =>
      clear H B
      obtain ⟨j, rfl, hj, hk, B, H⟩ := hrel
      by_cases hlt : j < l.length
      · have HS := Aside0.mk ((prJ_step hlt).symm.trans H.out)
        clear H
        obtain ⟨d, rfl⟩ : ∃ d, gk = d + 1 := ⟨gk - 1, by omega⟩
        have h48 := L48.out
        have cj : decide ((j : Int) < (l.length : Int)) = true := decide_eq_true (by omega)
        obtain ⟨ad, hA, y0, y1⟩ := at_T61 (cb HR0 B) (j : Int) (by omega) (by omega)
        cases hA
        rw [Int.toNat_natCast] at y0 y1
        have j1 := eq_true (show (j : Int) < (l.length : Int) by omega)
        have j2 := eq_true hlt
        generalize hy : rd_T61 l (j : Int) = y at *
        go_wp2_with (first
          | ((with_reducible refine gate_dst (N := 4) rfl ?_); refine bx ?hg (N := 4) ?hd (cs := #[.string (⟨#[]⟩ : ByteArray), .int .i64 (0)]) (t := 61) ?hr B ?_; (case hd => rfl); (case hg => rfl); (case hr => first | (go_simp; done) | (go_simp; rfl)); intro g4 w1 hb B F4 L4 E4; obtain ⟨c4_0, c4_1⟩ := cs2 F4; clear hb E4)
          | ((with_reducible refine gate_store (t := 61) (p := 4) rfl ?_); obtain ⟨y0, y1⟩ := cs2 F4; have z0 := fz F4 0; have z1 := fz F4 1; refine sx (t := 61) (t' := 61) (p := 4) (v := ?vo2) ?hg ?ho ?hn 0 [.string y.f0, .int .i64 (y.f1)] [.string y.f0, .int .i64 (y.f1)] ?hr B F4 L4 rfl (Nat.le_of_ble_eq_true rfl) ?_; (case ho => rfl); (case hg => rfl); (case hn => rfl); (case hr => first | (go_simp; done) | (go_simp; rfl)); intro w2 hk B G; replace F4 := G; clear c4_0 c4_1; obtain ⟨c4_0, c4_1⟩ := cs2 F4; clear hk y0 z0 y1 z1)
          | (go_at_call 80; with_reducible refine cl (impl_KeyValid.M y.f0 _) B fun w3 hb B => ?_; replace F4 := bn F4 hb; clear c4_0 c4_1; obtain ⟨c4_0, c4_1⟩ := cs2 F4; clear hb)
          | (go_at_call 94; with_reducible refine cl (impl_valueValid.M y.f1 _) B fun w4 hb B => ?_; replace F4 := bn F4 hb; clear c4_0 c4_1; obtain ⟨c4_0, c4_1⟩ := cs2 F4; clear hb))
        all_goals try (go_ret; exact ⟨andF HS.out (by grind [l1B, ltB]), B.out⟩)
        all_goals (
          refine rg (n := 13) (S := fun W => Kd.C k61 W (some ad) l.length l ∧ W.heap[g4]? = some (.cells #[.string y.f0, .int .i64 (y.f1)] 61 (0, 0))) (ds := []) #[false, false, false, false, false, false, false, false, false, false, false, false, false] (by kernel_rfl) rfl rfl ⟨(cb HR0 B), F4.out⟩ id B (fun w5 hb B hHeld => ?_)
          refine with_tabW impl_PairsValid.tab8 impl_PairsValid.bits8 (fun HT_ HW_ => ?_)
          replace F4 := bn F4 hb
          clear hb
          refine pu (i := 0) (N := some 25) (v := ?_) (bits 13 1) rfl rfl (any_of HT_.out (by kernel_rfl)) (fun _ _ _ h => h) (by kernel_rfl) ?_ ?_; rotate_left; (intro w'; go_simp; with_reducible rfl)
          by_cases hz : j = 0
          · rw [if_pos hz] at HS
            have dz : decide (0 < (j : Int)) = false := decide_eq_false (by omega)
            have dz2 : decide (0 < j) = false := decide_eq_false (by omega)
            clear hz
            refine pu (i := 1) (N := some 26) (v := ?_) (bits 13 3) rfl rfl (any_of HT_.out (by kernel_rfl)) (fun _ _ _ h => h) (by kernel_rfl) ?_ ?_; rotate_left; (intro w'; go_simp; with_reducible rfl)
            refine pu (i := 2) (N := some 27) (v := ?_) (bits 13 7) rfl rfl (any_of HT_.out (by kernel_rfl)) (fun _ _ _ h => h) (by kernel_rfl) ?_ ?_; rotate_left; (intro w'; go_simp; with_reducible rfl)
            refine sk (i := 3) (N := some 28) (bits 13 15) rfl rfl (any_of HT_.out (by kernel_rfl)) (fun _ _ _ h => h) (by kernel_rfl) ?_
            refine sk (i := 4) (N := some 29) (bits 13 31) rfl rfl (any_of HT_.out (by kernel_rfl)) (fun _ _ _ h => h) (by kernel_rfl) ?_
            refine sk (i := 5) (N := some 30) (bits 13 63) rfl rfl (any_of HT_.out (by kernel_rfl)) (fun _ _ _ h => h) (by kernel_rfl) ?_
            refine sk (i := 6) (N := some 31) (bits 13 127) rfl rfl (any_of HT_.out (by kernel_rfl)) (fun _ _ _ h => h) (by kernel_rfl) ?_
            refine sk (i := 7) (N := some 32) (bits 13 255) rfl rfl (any_of HT_.out (by kernel_rfl)) (fun _ _ _ h => h) (by kernel_rfl) ?_
            refine sk (i := 8) (N := some 33) (bits 13 511) rfl rfl (any_of HT_.out (by kernel_rfl)) (fun _ _ _ h => h) (by kernel_rfl) ?_
            refine sk (i := 9) (N := some 34) (bits 13 1023) rfl rfl (any_of HT_.out (by kernel_rfl)) (fun _ _ _ h => h) (by kernel_rfl) ?_
            refine sk (i := 10) (N := some 35) (bits 13 2047) rfl rfl (any_of HT_.out (by kernel_rfl)) (fun _ _ _ h => h) (by kernel_rfl) ?_
            refine sk (i := 11) (N := some 36) (bits 13 4095) rfl rfl (any_of HT_.out (by kernel_rfl)) (fun _ _ _ h => h) (by kernel_rfl) ?_
            refine pu (i := 12) (N := some 37) (v := ?_) (bits 13 8191) rfl rfl (any_of HT_.out (by kernel_rfl)) (fun _ _ _ h => h) (by kernel_rfl) ?_ ?_; rotate_left; (intro w'; go_simp; with_reducible rfl)
            refine norm_ (a' := ?_) ?_ ?_
            rotate_left
            · simp only [Act.put, List.setIfInBounds_toArray, List.set_cons_zero, List.set_cons_succ, i64_w, i32_w]
              rfl
            refine done_ (done_of HT_.out (by kernel_rfl)) ?_
            try go_wp2
            all_goals first
              | (go_roundg d; (case measure => omega); (case rel => exact ⟨j + 1, congrArg (Value.int .i64) (Int.natCast_succ _).symm, by omega, by omega, B, ⟨andT HS.out (by grind [l1B, ltB])⟩⟩))
              | (go_ret; exact ⟨andF HS.out (by grind [l1B, ltB]), B.out⟩)
          · rw [if_neg hz] at HS
            have dz : decide (0 < (j : Int)) = true := decide_eq_true (by omega)
            have dz2 : decide (0 < j) = true := decide_eq_true (by omega)
            obtain ⟨i, hi⟩ : ∃ i, j - 1 = i := ⟨_, rfl⟩
            rw [hi] at HS
            have WI := Aside0.mk (show (j : Int) - 1 = (i : Int) by omega)
            have hij : i < l.length := by omega
            have IW := Aside0.mk (show wrap64 (i : Int) = (i : Int) by unfold wrap64; omega)
            have i1 := eq_true (show (i : Int) < (l.length : Int) by omega)
            have i2 := eq_true hij
            generalize hx : rd_T61 l (i : Int) = x at HS
            clear hz hi
            refine pu (i := 1) (N := some 26) (v := ?_) (bits 13 3) rfl rfl (any_of HT_.out (by kernel_rfl)) (fun _ _ _ h => h) (by kernel_rfl) ?_ ?_; rotate_left; (intro w'; go_simp; with_reducible rfl)
            refine pu (i := 2) (N := some 27) (v := ?_) (bits 13 7) rfl rfl (any_of HT_.out (by kernel_rfl)) (fun _ _ _ h => h) (by kernel_rfl) ?_ ?_; rotate_left; (intro w'; go_simp; with_reducible rfl)
            refine pu (i := 3) (N := some 28) (v := ?_) (bits 13 15) rfl rfl (any_of HT_.out (by kernel_rfl)) (fun _ _ _ h => h) (by kernel_rfl) ?_ ?_; rotate_left; (intro w'; go_simp; with_reducible rfl)
            refine pu (i := 4) (N := some 29) (v := ?_) (bits 13 31) rfl rfl (any_of HT_.out (by kernel_rfl)) (fun _ _ _ h => h) (by kernel_rfl) ?_ ?_; rotate_left; (intro w'; go_simp; with_reducible rfl)
            refine pu (i := 5) (N := some 30) (v := .int .i64 ((i : Int))) (bits 13 63) rfl rfl (any_of HT_.out (by kernel_rfl)) (fun _ _ _ h => h) (by kernel_rfl) ?_ ?_; (intro w'; go_simp; rw [WI.out]; exact (i64_w _).trans IW.out)
            refine pu (i := 6) (N := some 31) (v := ?_) (bits 13 127) rfl rfl (any_of HT_.out (by kernel_rfl)) (fun _ _ _ h => h) (by kernel_rfl) ?_ ?_; rotate_left; (intro w'; go_simp; with_reducible rfl)
            refine pu (i := 7) (N := some 32) (v := ?_) (bits 13 255) rfl rfl (any_of HT_.out (by kernel_rfl)) (fun _ _ _ h => h) (by kernel_rfl) ?_ ?_; rotate_left; (intro w'; go_simp; with_reducible rfl)
            refine ta (i := 8) (N := some 33) (v := ?_) (bits 13 511) rfl rfl (take_ofW HT_.out HW_.out (by kernel_rfl)) (fun _ _ _ h => h) (by kernel_rfl) hHeld ?_ ?_; rotate_left; (intro w' hS; obtain ⟨s0, s1⟩ := hS; obtain ⟨_, hA, q0, q1⟩ := at_T61 s0 (i : Int) (by omega) (by omega); cases hA; rw [Int.toNat_natCast] at q0 q1; rw [hx] at q0 q1; go_simp; with_reducible rfl)
            refine pu (i := 9) (N := some 34) (v := ?_) (bits 13 1023) rfl rfl (any_of HT_.out (by kernel_rfl)) (fun _ _ _ h => h) (by kernel_rfl) ?_ ?_; rotate_left; (intro w'; go_simp; with_reducible rfl)
            refine ta (i := 10) (N := some 35) (v := ?_) (bits 13 2047) rfl rfl (take_ofW HT_.out HW_.out (by kernel_rfl)) (fun _ _ _ h => h) (by kernel_rfl) hHeld ?_ ?_; rotate_left; (intro w' hS; obtain ⟨s0, s1⟩ := hS; obtain ⟨q0, q1⟩ := cs2 (Aside0.mk s1); go_simp; with_reducible rfl)
            refine pu (i := 11) (N := some 36) (v := ?_) (bits 13 4095) rfl rfl (any_of HT_.out (by kernel_rfl)) (fun _ _ _ h => h) (by kernel_rfl) ?_ ?_; rotate_left; (intro w'; go_simp; with_reducible rfl)
            refine pu (i := 12) (N := some 37) (v := ?_) (bits 13 8191) rfl rfl (any_of HT_.out (by kernel_rfl)) (fun _ _ _ h => h) (by kernel_rfl) ?_ ?_; rotate_left; (intro w'; go_simp; with_reducible rfl)
            refine norm_ (a' := ?_) ?_ ?_
            rotate_left
            · simp only [Act.put, List.setIfInBounds_toArray, List.set_cons_zero, List.set_cons_succ, i64_w, i32_w]
              rfl
            refine done_ (done_of HT_.out (by kernel_rfl)) ?_
            try go_wp2
            all_goals first
              | (go_roundg d; (case measure => omega); (case rel => exact ⟨j + 1, congrArg (Value.int .i64) (Int.natCast_succ _).symm, by omega, by omega, B, ⟨andT HS.out (by grind [l1B, ltB])⟩⟩))
              | (go_ret; exact ⟨andF HS.out (by grind [l1B, ltB]), B.out⟩))
        all_goals try go_wp2
        all_goals try (go_ret; exact ⟨andF HS.out (by grind [l1B, ltB]), B.out⟩)
      · have cj : decide ((j : Int) < (l.length : Int)) = false := decide_eq_false (by omega)
        have hr : r = true := by rw [← H.out]; exact prJ_end hlt
        subst hr
        go_wp2
        go_ret
        exact ⟨rfl, B.out⟩
  · have cl0 : decide (48 < (l.length : Int)) = true := decide_eq_true (by omega)
    have hr : r = false := by rw [← hr, decide_eq_false hl]; rfl
    subst hr
    go_enter Try.func56, Try.ntmps56
    go_wp2
    go_ret
    exact ⟨rfl, B.out⟩

def impl_SessionsValid.T6 : Bool × List (List Nat × List Nat) := (true, [([], []), ([0], [0]), ([1], [1]), ([2], [2]), ([2], [2]), ([4, 2], [2, 4]), ([3, 5, 2], [2, 3, 5]), ([6, 2], [2, 6]), ([7, 2], [2, 7]), ([2], [2]), ([9, 2], [2, 9]), ([8, 10, 2], [2, 8, 10]), ([2, 11], [2, 11])])
def impl_SessionsValid.B6 : List Nat := [0, 1, 3, 7, 7, 23, 63, 127, 255, 7, 519, 2047, 4095]
theorem impl_SessionsValid.tab6 : rtab .any (opsOf Try.f57 6) = impl_SessionsValid.T6 := by kernel_rfl
theorem impl_SessionsValid.bits6 : waitsOk impl_SessionsValid.T6.2 impl_SessionsValid.B6 = true := by kernel_rfl
theorem impl_SessionsValid.M (A0 : Option Addr) (c0 : Nat) (l : List S100) (w : World) (hr0 : Kd.C k100 w A0 l.length l) : Calls Try.prog 57 #[.slice A0 l.length c0] w fun e w' => e = .returned (.bool (sesB l)) ∧ Below w.heap.size w w' := by
  have hu := Try.underlying100
  have B := Aside0.mk (Below.refl w.heap.size w)
  have HR0 := Aside0.mk hr0
  clear hr0
  obtain ⟨r, hr⟩ : ∃ r, sesB l = r := ⟨_, rfl⟩
  rw [hr]
  unfold sesB at hr
  have H := Aside0.mk (show sesJ l 0 = r from hr)
  have L48 := Aside0.mk (show l.length ≤ 9223372036854775807 from HR0.out.2.1)
  clear hr
  go_enter Try.func57, Try.ntmps57
  go_wp2
  go_loopg [7] (l.length + 1) (fun kx v7 wr => ∃ j : Nat, v7 = .int .i64 (j : Int) ∧ j ≤ l.length ∧ l.length < j + kx ∧ Aside0 (Below w.heap.size w wr) ∧ Aside0 (sesJ l j = r))
  case atStart => exact ⟨0, rfl, by omega, by omega, B, H⟩
  case round =>
    clear H B
    obtain ⟨j, rfl, hj, hk, B, H⟩ := hrel
    by_cases hlt : j < l.length
    · have HS := Aside0.mk ((sesJ_step hlt).symm.trans H.out)
      clear H
      obtain ⟨d, rfl⟩ : ∃ d, gk = d + 1 := ⟨gk - 1, by omega⟩
      have h48 := L48.out
      have cj : decide ((j : Int) < (l.length : Int)) = true := decide_eq_true (by omega)
      obtain ⟨ad, hA, y0, y1, y2⟩ := at_T100 (cb HR0 B) (j : Int) (by omega) (by omega)
      cases hA
      rw [Int.toNat_natCast] at y0 y1 y2
      have j1 := eq_true (show (j : Int) < (l.length : Int) by omega)
      have j2 := eq_true hlt
      generalize hy : rd_T100 l (j : Int) = y at *
      go_wp2_with (first
        | ((with_reducible refine gate_dst (N := 4) rfl ?_); refine bx ?hg (N := 4) ?hd (cs := #[.int .i64 (0), .int .i64 (0), .int .i64 (0)]) (t := 100) ?hr B ?_; (case hd => rfl); (case hg => rfl); (case hr => first | (go_simp; done) | (go_simp; rfl)); intro g4 w1 hb B F4 L4 E4; obtain ⟨c4_0, c4_1, c4_2⟩ := cs3 F4; clear hb E4)
        | ((with_reducible refine gate_store (t := 100) (p := 4) rfl ?_); obtain ⟨y0, y1, y2⟩ := cs3 F4; have z0 := fz F4 0; have z1 := fz F4 1; have z2 := fz F4 2; refine sx (t := 100) (t' := 100) (p := 4) (v := ?vo2) ?hg ?ho ?hn 0 [.int .i64 (y.f0), .int .i64 (y.f1), .int .i64 (y.f2)] [.int .i64 (y.f0), .int .i64 (y.f1), .int .i64 (y.f2)] ?hr B F4 L4 rfl (Nat.le_of_ble_eq_true rfl) ?_; (case ho => rfl); (case hg => rfl); (case hn => rfl); (case hr => first | (go_simp; done) | (go_simp; rfl)); intro w2 hk B G; replace F4 := G; clear c4_0 c4_1 c4_2; obtain ⟨c4_0, c4_1, c4_2⟩ := cs3 F4; clear hk y0 z0 y1 z1 y2 z2)
        | (go_at_call 95; with_reducible refine cl (impl_seqValid.M y.f1 _) B fun w3 hb B => ?_; replace F4 := bn F4 hb; clear c4_0 c4_1 c4_2; obtain ⟨c4_0, c4_1, c4_2⟩ := cs3 F4; clear hb))
      all_goals try (go_ret; exact ⟨andF HS.out (by grind [l1B]), B.out⟩)
      all_goals (
        refine rg (n := 13) (S := fun W => Kd.C k100 W (some ad) l.length l ∧ W.heap[g4]? = some (.cells #[.int .i64 (y.f0), .int .i64 (y.f1), .int .i64 (y.f2)] 100 (0, 0))) (ds := []) #[false, false, false, false, false, false, false, false, false, false, false, false, false] (by kernel_rfl) rfl rfl ⟨(cb HR0 B), F4.out⟩ id B (fun w4 hb B hHeld => ?_)
        refine with_tabW impl_SessionsValid.tab6 impl_SessionsValid.bits6 (fun HT_ HW_ => ?_)
        replace F4 := bn F4 hb
        clear hb
        refine pu (i := 0) (N := some 36) (v := ?_) (bits 13 1) rfl rfl (any_of HT_.out (by kernel_rfl)) (fun _ _ _ h => h) (by kernel_rfl) ?_ ?_; rotate_left; (intro w'; go_simp; with_reducible rfl)
        by_cases hz : j = 0
        · rw [if_pos hz] at HS
          have dz : decide (0 < (j : Int)) = false := decide_eq_false (by omega)
          have dz2 : decide (0 < j) = false := decide_eq_false (by omega)
          clear hz
          refine pu (i := 1) (N := some 37) (v := ?_) (bits 13 3) rfl rfl (any_of HT_.out (by kernel_rfl)) (fun _ _ _ h => h) (by kernel_rfl) ?_ ?_; rotate_left; (intro w'; go_simp; with_reducible rfl)
          refine pu (i := 2) (N := some 38) (v := ?_) (bits 13 7) rfl rfl (any_of HT_.out (by kernel_rfl)) (fun _ _ _ h => h) (by kernel_rfl) ?_ ?_; rotate_left; (intro w'; go_simp; with_reducible rfl)
          refine sk (i := 3) (N := some 39) (bits 13 15) rfl rfl (any_of HT_.out (by kernel_rfl)) (fun _ _ _ h => h) (by kernel_rfl) ?_
          refine sk (i := 4) (N := some 40) (bits 13 31) rfl rfl (any_of HT_.out (by kernel_rfl)) (fun _ _ _ h => h) (by kernel_rfl) ?_
          refine sk (i := 5) (N := some 41) (bits 13 63) rfl rfl (any_of HT_.out (by kernel_rfl)) (fun _ _ _ h => h) (by kernel_rfl) ?_
          refine sk (i := 6) (N := some 42) (bits 13 127) rfl rfl (any_of HT_.out (by kernel_rfl)) (fun _ _ _ h => h) (by kernel_rfl) ?_
          refine sk (i := 7) (N := some 43) (bits 13 255) rfl rfl (any_of HT_.out (by kernel_rfl)) (fun _ _ _ h => h) (by kernel_rfl) ?_
          refine sk (i := 8) (N := some 44) (bits 13 511) rfl rfl (any_of HT_.out (by kernel_rfl)) (fun _ _ _ h => h) (by kernel_rfl) ?_
          refine sk (i := 9) (N := some 45) (bits 13 1023) rfl rfl (any_of HT_.out (by kernel_rfl)) (fun _ _ _ h => h) (by kernel_rfl) ?_
          refine sk (i := 10) (N := some 46) (bits 13 2047) rfl rfl (any_of HT_.out (by kernel_rfl)) (fun _ _ _ h => h) (by kernel_rfl) ?_
          refine sk (i := 11) (N := some 47) (bits 13 4095) rfl rfl (any_of HT_.out (by kernel_rfl)) (fun _ _ _ h => h) (by kernel_rfl) ?_
          refine pu (i := 12) (N := some 48) (v := ?_) (bits 13 8191) rfl rfl (any_of HT_.out (by kernel_rfl)) (fun _ _ _ h => h) (by kernel_rfl) ?_ ?_; rotate_left; (intro w'; go_simp; with_reducible rfl)
          refine norm_ (a' := ?_) ?_ ?_
          rotate_left
          · simp only [Act.put, List.setIfInBounds_toArray, List.set_cons_zero, List.set_cons_succ, i64_w, i32_w]
            rfl
          refine done_ (done_of HT_.out (by kernel_rfl)) ?_
          try go_wp2
          all_goals first
            | (go_roundg d; (case measure => omega); (case rel => exact ⟨j + 1, congrArg (Value.int .i64) (Int.natCast_succ _).symm, by omega, by omega, B, ⟨andT HS.out (by grind [l1B])⟩⟩))
            | (go_ret; exact ⟨andF HS.out (by grind [l1B]), B.out⟩)
        · rw [if_neg hz] at HS
          have dz : decide (0 < (j : Int)) = true := decide_eq_true (by omega)
          have dz2 : decide (0 < j) = true := decide_eq_true (by omega)
          obtain ⟨i, hi⟩ : ∃ i, j - 1 = i := ⟨_, rfl⟩
          rw [hi] at HS
          have WI := Aside0.mk (show (j : Int) - 1 = (i : Int) by omega)
          have hij : i < l.length := by omega
          have IW := Aside0.mk (show wrap64 (i : Int) = (i : Int) by unfold wrap64; omega)
          have i1 := eq_true (show (i : Int) < (l.length : Int) by omega)
          have i2 := eq_true hij
          generalize hx : rd_T100 l (i : Int) = x at HS
          clear hz hi
          refine pu (i := 1) (N := some 37) (v := ?_) (bits 13 3) rfl rfl (any_of HT_.out (by kernel_rfl)) (fun _ _ _ h => h) (by kernel_rfl) ?_ ?_; rotate_left; (intro w'; go_simp; with_reducible rfl)
          refine pu (i := 2) (N := some 38) (v := ?_) (bits 13 7) rfl rfl (any_of HT_.out (by kernel_rfl)) (fun _ _ _ h => h) (by kernel_rfl) ?_ ?_; rotate_left; (intro w'; go_simp; with_reducible rfl)
          refine pu (i := 3) (N := some 39) (v := ?_) (bits 13 15) rfl rfl (any_of HT_.out (by kernel_rfl)) (fun _ _ _ h => h) (by kernel_rfl) ?_ ?_; rotate_left; (intro w'; go_simp; with_reducible rfl)
          refine pu (i := 4) (N := some 40) (v := ?_) (bits 13 31) rfl rfl (any_of HT_.out (by kernel_rfl)) (fun _ _ _ h => h) (by kernel_rfl) ?_ ?_; rotate_left; (intro w'; go_simp; with_reducible rfl)
          refine pu (i := 5) (N := some 41) (v := .int .i64 ((i : Int))) (bits 13 63) rfl rfl (any_of HT_.out (by kernel_rfl)) (fun _ _ _ h => h) (by kernel_rfl) ?_ ?_; (intro w'; go_simp; rw [WI.out]; exact (i64_w _).trans IW.out)
          refine pu (i := 6) (N := some 42) (v := ?_) (bits 13 127) rfl rfl (any_of HT_.out (by kernel_rfl)) (fun _ _ _ h => h) (by kernel_rfl) ?_ ?_; rotate_left; (intro w'; go_simp; with_reducible rfl)
          refine pu (i := 7) (N := some 43) (v := ?_) (bits 13 255) rfl rfl (any_of HT_.out (by kernel_rfl)) (fun _ _ _ h => h) (by kernel_rfl) ?_ ?_; rotate_left; (intro w'; go_simp; with_reducible rfl)
          refine ta (i := 8) (N := some 44) (v := ?_) (bits 13 511) rfl rfl (take_ofW HT_.out HW_.out (by kernel_rfl)) (fun _ _ _ h => h) (by kernel_rfl) hHeld ?_ ?_; rotate_left; (intro w' hS; obtain ⟨s0, s1⟩ := hS; obtain ⟨_, hA, q0, q1, q2⟩ := at_T100 s0 (i : Int) (by omega) (by omega); cases hA; rw [Int.toNat_natCast] at q0 q1 q2; rw [hx] at q0 q1 q2; go_simp; with_reducible rfl)
          refine pu (i := 9) (N := some 45) (v := ?_) (bits 13 1023) rfl rfl (any_of HT_.out (by kernel_rfl)) (fun _ _ _ h => h) (by kernel_rfl) ?_ ?_; rotate_left; (intro w'; go_simp; with_reducible rfl)
          refine ta (i := 10) (N := some 46) (v := ?_) (bits 13 2047) rfl rfl (take_ofW HT_.out HW_.out (by kernel_rfl)) (fun _ _ _ h => h) (by kernel_rfl) hHeld ?_ ?_; rotate_left; (intro w' hS; obtain ⟨s0, s1⟩ := hS; obtain ⟨q0, q1, q2⟩ := cs3 (Aside0.mk s1); go_simp; with_reducible rfl)
          refine pu (i := 11) (N := some 47) (v := ?_) (bits 13 4095) rfl rfl (any_of HT_.out (by kernel_rfl)) (fun _ _ _ h => h) (by kernel_rfl) ?_ ?_; rotate_left; (intro w'; go_simp; with_reducible rfl)
          refine pu (i := 12) (N := some 48) (v := ?_) (bits 13 8191) rfl rfl (any_of HT_.out (by kernel_rfl)) (fun _ _ _ h => h) (by kernel_rfl) ?_ ?_; rotate_left; (intro w'; go_simp; with_reducible rfl)
          refine norm_ (a' := ?_) ?_ ?_
          rotate_left
          · simp only [Act.put, List.setIfInBounds_toArray, List.set_cons_zero, List.set_cons_succ, i64_w, i32_w]
            rfl
          refine done_ (done_of HT_.out (by kernel_rfl)) ?_
          try go_wp2
          all_goals first
            | (go_roundg d; (case measure => omega); (case rel => exact ⟨j + 1, congrArg (Value.int .i64) (Int.natCast_succ _).symm, by omega, by omega, B, ⟨andT HS.out (by grind [l1B])⟩⟩))
            | (go_ret; exact ⟨andF HS.out (by grind [l1B]), B.out⟩))
      all_goals try go_wp2
      all_goals try (go_ret; exact ⟨andF HS.out (by grind [l1B]), B.out⟩)
    · have cj : decide ((j : Int) < (l.length : Int)) = false := decide_eq_false (by omega)
      have hr : r = true := by rw [← H.out]; exact sesJ_end hlt
      subst hr
      go_wp2
      go_ret
      exact ⟨rfl, B.out⟩

def impl_IntervalCut.T7 : Bool × List (List Nat × List Nat) := (true, [([], []), ([], []), ([0, 0], [0]), ([1, 2, 0, 1, 2], [1]), ([3, 0, 1, 2, 3], [])])
def impl_IntervalCut.B7 : List Nat := [0, 0, 1, 7, 15]
theorem impl_IntervalCut.tab7 : rtab .any (opsOf Try.f59 7) = impl_IntervalCut.T7 := by kernel_rfl
theorem impl_IntervalCut.bits7 : waitsOk impl_IntervalCut.T7.2 impl_IntervalCut.B7 = true := by kernel_rfl
theorem impl_IntervalCut.M (a b c : ByteArray) (w : World) : Calls Try.prog 59 #[.agg #[.string a, .string b], .string c] w fun e w' => e = .returned (.tuple #[.agg #[.string (cutV a b c).1, .string (cutV a b c).2.1], .agg #[.string (cutV a b c).2.2.1, .string (cutV a b c).2.2.2.1], .bool (cutV a b c).2.2.2.2]) ∧ Below w.heap.size w w' := by
  have B := Aside0.mk (Below.refl w.heap.size w)
  have hu := Try.underlying30
  go_enter Try.func59, Try.ntmps59
  go_wp2_with (first
    | ((with_reducible refine gate_dst (N := 2) rfl ?_); refine bx ?hg (N := 2) ?hd (cs := #[.string a, .string b]) (t := 30) ?hr B ?_; (case hd => rfl); (case hg => rfl); (case hr => first | (go_simp; done) | (go_simp; rfl)); intro g2 w1 hb B F2 L2 E2; obtain ⟨c2_0, c2_1⟩ := cs2 F2; clear hb E2)
    | ((with_reducible refine gate_dst (N := 4) rfl ?_); refine bx ?hg (N := 4) ?hd (cs := #[.string (⟨#[]⟩ : ByteArray), .string (⟨#[]⟩ : ByteArray)]) (t := 30) ?hr B ?_; (case hd => rfl); (case hg => rfl); (case hr => first | (go_simp; done) | (go_simp; rfl)); intro g4 w2 hb B F4 L4 E4; have N2_4 := ne1 E4 F2; replace F2 := bn F2 hb; clear c2_0 c2_1; obtain ⟨c2_0, c2_1⟩ := cs2 F2; clear hb E4)
    | ((with_reducible refine gate_dst (N := 5) rfl ?_); refine bx ?hg (N := 5) ?hd (cs := #[.string (⟨#[]⟩ : ByteArray), .string (⟨#[]⟩ : ByteArray)]) (t := 30) ?hr B ?_; (case hd => rfl); (case hg => rfl); (case hr => first | (go_simp; done) | (go_simp; rfl)); intro g5 w3 hb B F5 L5 E5; have N2_5 := ne1 E5 F2; have N4_5 := ne1 E5 F4; replace F2 := bn F2 hb; replace F4 := bn F4 hb; clear c2_0 c2_1; obtain ⟨c2_0, c2_1⟩ := cs2 F2; clear hb E5)
    | (go_at_call 55; with_reducible refine cl (impl_IntervalValid.M a b _) B fun w4 hb B => ?_; replace F2 := bn F2 hb; replace F4 := bn F4 hb; replace F5 := bn F5 hb; clear c2_0 c2_1; obtain ⟨c2_0, c2_1⟩ := cs2 F2; clear hb)
    | (go_at_call 80; with_reducible refine cl (impl_KeyValid.M c _) B fun w5 hb B => ?_; replace F2 := bn F2 hb; replace F4 := bn F4 hb; replace F5 := bn F5 hb; clear c2_0 c2_1; obtain ⟨c2_0, c2_1⟩ := cs2 F2; clear hb)
    | ((with_reducible refine gate_store (t := 30) (p := 4) rfl ?_); obtain ⟨y0, y1⟩ := cs2 F4; have z0 := fz F4 0; have z1 := fz F4 1; refine sx (t := 30) (t' := 30) (p := 4) (v := ?vo6) ?hg ?ho ?hn 0 [.string (⟨#[]⟩ : ByteArray), .string (⟨#[]⟩ : ByteArray)] [.string (⟨#[]⟩ : ByteArray), .string (⟨#[]⟩ : ByteArray)] ?hr B F4 L4 rfl (Nat.le_of_ble_eq_true rfl) ?_; (case ho => rfl); (case hg => rfl); (case hn => rfl); (case hr => first | (go_simp; done) | (go_simp; rfl)); intro w6 hk B G; replace F2 := bk F2 hk N2_4.out; replace F5 := bk F5 hk N4_5.out.symm; replace F4 := G; clear c2_0 c2_1; obtain ⟨c2_0, c2_1⟩ := cs2 F2; clear hk y0 z0 y1 z1)
    | ((with_reducible refine gate_store (t := 30) (p := 5) rfl ?_); obtain ⟨y0, y1⟩ := cs2 F5; have z0 := fz F5 0; have z1 := fz F5 1; refine sx (t := 30) (t' := 30) (p := 5) (v := ?vo7) ?hg ?ho ?hn 0 [.string (⟨#[]⟩ : ByteArray), .string (⟨#[]⟩ : ByteArray)] [.string (⟨#[]⟩ : ByteArray), .string (⟨#[]⟩ : ByteArray)] ?hr B F5 L5 rfl (Nat.le_of_ble_eq_true rfl) ?_; (case ho => rfl); (case hg => rfl); (case hn => rfl); (case hr => first | (go_simp; done) | (go_simp; rfl)); intro w7 hk B G; replace F2 := bk F2 hk N2_5.out; replace F4 := bk F4 hk N4_5.out; replace F5 := G; clear c2_0 c2_1; obtain ⟨c2_0, c2_1⟩ := cs2 F2; clear hk y0 z0 y1 z1)
    | ((with_reducible refine gate_dst (N := 7) rfl ?_); refine bx ?hg (N := 7) ?hd (cs := #[.string (⟨#[]⟩ : ByteArray), .string (⟨#[]⟩ : ByteArray)]) (t := 30) ?hr B ?_; (case hd => rfl); (case hg => rfl); (case hr => first | (go_simp; done) | (go_simp; rfl)); intro g7 w8 hb B F7 L7 E7; have N2_7 := ne1 E7 F2; have N4_7 := ne1 E7 F4; have N5_7 := ne1 E7 F5; replace F2 := bn F2 hb; replace F4 := bn F4 hb; replace F5 := bn F5 hb; clear c2_0 c2_1; obtain ⟨c2_0, c2_1⟩ := cs2 F2; obtain ⟨c7_0, c7_1⟩ := cs2 F7; clear hb E7)
    | ((with_reducible refine gate_store (t := 30) (p := 7) rfl ?_); obtain ⟨y0, y1⟩ := cs2 F7; have z0 := fz F7 0; have z1 := fz F7 1; refine sx (t := 30) (t' := 30) (p := 7) (v := ?vo9) ?hg ?ho ?hn 0 [.string a, .string c] [.string a, .string c] ?hr B F7 L7 rfl (Nat.le_of_ble_eq_true rfl) ?_; (case ho => rfl); (case hg => rfl); (case hn => rfl); (case hr => first | (go_simp; done) | (go_simp; rfl)); intro w9 hk B G; replace F2 := bk F2 hk N2_7.out; replace F4 := bk F4 hk N4_7.out; replace F5 := bk F5 hk N5_7.out; replace F7 := G; clear c2_0 c2_1; obtain ⟨c2_0, c2_1⟩ := cs2 F2; clear c7_0 c7_1; obtain ⟨c7_0, c7_1⟩ := cs2 F7; clear hk y0 z0 y1 z1)
    | ((with_reducible refine gate_dst (N := 8) rfl ?_); refine bx ?hg (N := 8) ?hd (cs := #[.string (⟨#[]⟩ : ByteArray), .string (⟨#[]⟩ : ByteArray)]) (t := 30) ?hr B ?_; (case hd => rfl); (case hg => rfl); (case hr => first | (go_simp; done) | (go_simp; rfl)); intro g8 w10 hb B F8 L8 E8; have N4_8 := ne1 E8 F4; have N5_8 := ne1 E8 F5; have N7_8 := ne1 E8 F7; replace F4 := bn F4 hb; replace F5 := bn F5 hb; replace F7 := bn F7 hb; clear c7_0 c7_1; obtain ⟨c7_0, c7_1⟩ := cs2 F7; obtain ⟨c8_0, c8_1⟩ := cs2 F8; clear hb E8)
    | ((with_reducible refine gate_store (t := 30) (p := 8) rfl ?_); obtain ⟨y0, y1⟩ := cs2 F8; have z0 := fz F8 0; have z1 := fz F8 1; refine sx (t := 30) (t' := 30) (p := 8) (v := ?vo11) ?hg ?ho ?hn 0 [.string c, .string b] [.string c, .string b] ?hr B F8 L8 rfl (Nat.le_of_ble_eq_true rfl) ?_; (case ho => rfl); (case hg => rfl); (case hn => rfl); (case hr => first | (go_simp; done) | (go_simp; rfl)); intro w11 hk B G; replace F4 := bk F4 hk N4_8.out; replace F5 := bk F5 hk N5_8.out; replace F7 := bk F7 hk N7_8.out; replace F8 := G; clear c7_0 c7_1; obtain ⟨c7_0, c7_1⟩ := cs2 F7; clear c8_0 c8_1; obtain ⟨c8_0, c8_1⟩ := cs2 F8; clear hk y0 z0 y1 z1)
    | (go_at_call 55; with_reducible refine cl (impl_IntervalValid.M a c _) B fun w12 hb B => ?_; replace F4 := bn F4 hb; replace F5 := bn F5 hb; replace F7 := bn F7 hb; replace F8 := bn F8 hb; clear c7_0 c7_1; obtain ⟨c7_0, c7_1⟩ := cs2 F7; clear c8_0 c8_1; obtain ⟨c8_0, c8_1⟩ := cs2 F8; clear hb)
    | (go_at_call 55; with_reducible refine cl (impl_IntervalValid.M c b _) B fun w13 hb B => ?_; replace F4 := bn F4 hb; replace F5 := bn F5 hb; replace F7 := bn F7 hb; replace F8 := bn F8 hb; clear c7_0 c7_1; obtain ⟨c7_0, c7_1⟩ := cs2 F7; clear c8_0 c8_1; obtain ⟨c8_0, c8_1⟩ := cs2 F8; clear hb)
    | ((with_reducible refine gate_store (t := 30) (p := 4) rfl ?_); obtain ⟨y0, y1⟩ := cs2 F4; have z0 := fz F4 0; have z1 := fz F4 1; refine sx (t := 30) (t' := 30) (p := 4) (v := ?vo14) ?hg ?ho ?hn 0 [.string (⟨#[]⟩ : ByteArray), .string (⟨#[]⟩ : ByteArray)] [.string (⟨#[]⟩ : ByteArray), .string (⟨#[]⟩ : ByteArray)] ?hr B F4 L4 rfl (Nat.le_of_ble_eq_true rfl) ?_; (case ho => rfl); (case hg => rfl); (case hn => rfl); (case hr => first | (go_simp; done) | (go_simp; rfl)); intro w14 hk B G; replace F5 := bk F5 hk N4_5.out.symm; replace F7 := bk F7 hk N4_7.out.symm; replace F8 := bk F8 hk N4_8.out.symm; replace F4 := G; clear c7_0 c7_1; obtain ⟨c7_0, c7_1⟩ := cs2 F7; clear c8_0 c8_1; obtain ⟨c8_0, c8_1⟩ := cs2 F8; clear hk y0 z0 y1 z1)
    | ((with_reducible refine gate_store (t := 30) (p := 5) rfl ?_); obtain ⟨y0, y1⟩ := cs2 F5; have z0 := fz F5 0; have z1 := fz F5 1; refine sx (t := 30) (t' := 30) (p := 5) (v := ?vo15) ?hg ?ho ?hn 0 [.string (⟨#[]⟩ : ByteArray), .string (⟨#[]⟩ : ByteArray)] [.string (⟨#[]⟩ : ByteArray), .string (⟨#[]⟩ : ByteArray)] ?hr B F5 L5 rfl (Nat.le_of_ble_eq_true rfl) ?_; (case ho => rfl); (case hg => rfl); (case hn => rfl); (case hr => first | (go_simp; done) | (go_simp; rfl)); intro w15 hk B G; replace F4 := bk F4 hk N4_5.out; replace F7 := bk F7 hk N5_7.out.symm; replace F8 := bk F8 hk N5_8.out.symm; replace F5 := G; clear c7_0 c7_1; obtain ⟨c7_0, c7_1⟩ := cs2 F7; clear c8_0 c8_1; obtain ⟨c8_0, c8_1⟩ := cs2 F8; clear hk y0 z0 y1 z1))
  all_goals try (refine bodyPost_ret (results_list (rs := [.cell 4 30, .cell 5 30, .tmp 6]) rfl (by simp) (.cell g4 30 _ (0, 0) _ rfl F4.out hu rfl (by kernel_rfl) (.cell g5 30 _ (0, 0) _ rfl F5.out hu rfl (by kernel_rfl) (.tmp .nil)))) rfl ?_; refine ⟨?_, B.out⟩; unfold cutV cutB; simp_all; done)
  all_goals (
    refine rg (n := 5) (S := fun W => W.heap[g7]? = some (.cells #[.string a, .string c] 30 (0, 0)) ∧ W.heap[g8]? = some (.cells #[.string c, .string b] 30 (0, 0))) (ds := []) #[false, false, false, false, false] (by kernel_rfl) rfl rfl ⟨F7.out, F8.out⟩ id B (fun w16 hb B hHeld => ?_)
    refine with_tabW impl_IntervalCut.tab7 impl_IntervalCut.bits7 (fun HT_ HW_ => ?_)
    replace F4 := bn F4 hb
    replace F5 := bn F5 hb
    replace F7 := bn F7 hb
    replace F8 := bn F8 hb
    clear hb
    refine ta (i := 0) (N := some 37) (v := ?_) (bits 5 1) rfl rfl (take_ofW HT_.out HW_.out (by kernel_rfl)) (fun _ _ _ h => h) (by kernel_rfl) hHeld ?_ ?_; rotate_left; (intro w' hS; obtain ⟨s0, s1⟩ := hS; obtain ⟨q0, q1⟩ := cs2 (Aside0.mk s0); go_simp; with_reducible rfl)
    refine ta (i := 1) (N := some 38) (v := ?_) (bits 5 3) rfl rfl (take_ofW HT_.out HW_.out (by kernel_rfl)) (fun _ _ _ h => h) (by kernel_rfl) hHeld ?_ ?_; rotate_left; (intro w' hS; obtain ⟨s0, s1⟩ := hS; obtain ⟨q0, q1⟩ := cs2 (Aside0.mk s1); go_simp; with_reducible rfl)
    refine norm_ (a' := ?_) ?_ ?_
    rotate_left
    · simp only [Act.put, List.setIfInBounds_toArray, List.set_cons_zero, List.set_cons_succ, i64_w, i32_w]
      rfl
    refine one_ (i := 2) (N := none) (bits 5 7) rfl rfl (one_of HT_.out (by kernel_rfl)) (by decide) (fun K hK => ?_)
    obtain ⟨y0, y1⟩ := cs2 F4
    have z0 := fz F4 0
    have z1 := fz F4 1
    refine sxs (g := g4) 0 [.string a, .string c] [.string a, .string c] (by rfl) rfl ?hr B F4 L4 rfl (Nat.le_of_ble_eq_true rfl) (fun w17 hk B G => ?_)
    (case hr => first | (go_simp; done) | (go_simp; rfl))
    replace F5 := bk F5 hk N4_5.out.symm
    replace F7 := bk F7 hk N4_7.out.symm
    replace F8 := bk F8 hk N4_8.out.symm
    replace F4 := G
    clear hk y0 z0 y1 z1
    refine hK.out _ _ ⟨F7.out, F8.out⟩ (fun hHeld => ?_)
    clear hK K
    refine one_ (i := 3) (N := none) (bits 5 15) rfl rfl (one_of HT_.out (by kernel_rfl)) (by decide) (fun K hK => ?_)
    obtain ⟨y0, y1⟩ := cs2 F5
    have z0 := fz F5 0
    have z1 := fz F5 1
    refine sxs (g := g5) 0 [.string c, .string b] [.string c, .string b] (by rfl) rfl ?hr B F5 L5 rfl (Nat.le_of_ble_eq_true rfl) (fun w18 hk B G => ?_)
    (case hr => first | (go_simp; done) | (go_simp; rfl))
    replace F4 := bk F4 hk N4_5.out
    replace F7 := bk F7 hk N5_7.out.symm
    replace F8 := bk F8 hk N5_8.out.symm
    replace F5 := G
    clear hk y0 z0 y1 z1
    refine hK.out _ _ ⟨F7.out, F8.out⟩ (fun hHeld => ?_)
    clear hK K
    refine pu (i := 4) (N := some 6) (v := ?_) (bits 5 31) rfl rfl (any_of HT_.out (by kernel_rfl)) (fun _ _ _ h => h) (by kernel_rfl) ?_ ?_; rotate_left; (intro w'; go_simp; with_reducible rfl)
    refine norm_ (a' := ?_) ?_ ?_
    rotate_left
    · simp only [Act.put, List.setIfInBounds_toArray, List.set_cons_zero, List.set_cons_succ, i64_w, i32_w]
      rfl
    refine done_ (done_of HT_.out (by kernel_rfl)) ?_)
  all_goals try go_wp2
  all_goals try (refine bodyPost_ret (results_list (rs := [.cell 4 30, .cell 5 30, .tmp 6]) rfl (by simp) (.cell g4 30 _ (0, 0) _ rfl F4.out hu rfl (by kernel_rfl) (.cell g5 30 _ (0, 0) _ rfl F5.out hu rfl (by kernel_rfl) (.tmp .nil)))) rfl ?_; refine ⟨?_, B.out⟩; unfold cutV cutB; simp_all; done)

theorem impl_StateValid.M (a b : ByteArray) (AP : Option Addr) (cP : Nat) (ps : List S61) (AS : Option Addr) (cS : Nat) (ss : List S100) (t : Bool) (c : ByteArray) (w : World) (hrp : Kd.C k61 w AP ps.length ps) (hrs : Kd.C k100 w AS ss.length ss) : Calls Try.prog 14 #[.agg #[.string a, .string b, .slice AP ps.length cP, .slice AS ss.length cS, .bool t, .string c]] w fun e w' => e = .returned (.bool (stB a b ps ss t c)) ∧ Below w.heap.size w w' := by
  have B := Aside0.mk (Below.refl w.heap.size w)
  have hu := Try.underlying34
  have hu2 := Try.underlying30
  have HRP := Aside0.mk hrp
  have HRS := Aside0.mk hrs
  clear hrp hrs
  go_enter Try.func14, Try.ntmps14
  go_wp2_with (first
    | ((with_reducible refine gate_dst (N := 1) rfl ?_); refine bx ?hg (N := 1) ?hd (cs := #[.string a, .string b, .slice AP ps.length cP, .slice AS ss.length cS, .bool t, .string c]) (t := 34) ?hr B ?_; (case hd => rfl); (case hg => rfl); (case hr => first | (go_simp; done) | (go_simp; rfl)); intro g1 w1 hb B F1 L1 E1; obtain ⟨c1_0, c1_1, c1_2, c1_3, c1_4, c1_5⟩ := cs6 F1; clear hb E1)
    | (go_at_call 55; with_reducible refine cl (impl_IntervalValid.M a b _) B fun w2 hb B => ?_; replace F1 := bn F1 hb; clear c1_0 c1_1 c1_2 c1_3 c1_4 c1_5; obtain ⟨c1_0, c1_1, c1_2, c1_3, c1_4, c1_5⟩ := cs6 F1; clear hb)
    | (go_at_call 56; with_reducible refine cl (impl_PairsValid.M _ _ ps _ (cb HRP B)) B fun w3 hb B => ?_; replace F1 := bn F1 hb; clear c1_0 c1_1 c1_2 c1_3 c1_4 c1_5; obtain ⟨c1_0, c1_1, c1_2, c1_3, c1_4, c1_5⟩ := cs6 F1; clear hb)
    | (go_at_call 57; with_reducible refine cl (impl_SessionsValid.M _ _ ss _ (cb HRS B)) B fun w4 hb B => ?_; replace F1 := bn F1 hb; clear c1_0 c1_1 c1_2 c1_3 c1_4 c1_5; obtain ⟨c1_0, c1_1, c1_2, c1_3, c1_4, c1_5⟩ := cs6 F1; clear hb))
  all_goals try (go_ret; exact ⟨congrArg (fun b => Ending.returned (Value.bool b)) (by grind [stB]), B.out⟩)
  have hv : ivB a b = true ∧ prB ps = true ∧ sesB ss = true := by grind
  have hst : stB a b ps ss t c = ((ps.all fun p => insB a b p.f0) && tailB a b t c) := by
    unfold stB
    rw [hv.1, hv.2.1, hv.2.2]
    rfl
  (try simp only [hv.1, hv.2.1, hv.2.2, Bool.not_true])
  obtain ⟨q, hq⟩ : ∃ q, (ps.all fun p => insB a b p.f0) = q := ⟨_, rfl⟩
  rw [hq] at hst
  have H := Aside0.mk (show ((ps.drop 0).all fun p => insB a b p.f0) = q from hq)
  have L48 := Aside0.mk (prB_len hv.2.1)
  clear hq hv c1_0 c1_1 c1_2 c1_3 c1_4 c1_5
  have HST := Aside0.mk hst
  clear hst
  go_loopg [27] (ps.length + 1) (fun kx v27 wr => ∃ j : Nat, v27 = .int .i64 (j : Int) ∧ j ≤ ps.length ∧ ps.length < j + kx ∧ Aside0 (Below w.heap.size w wr) ∧ Aside0 (wr.heap[g1]? = some (.cells #[.string a, .string b, .slice AP ps.length cP, .slice AS ss.length cS, .bool t, .string c] 34 (0, 0))) ∧ Aside0 (((ps.drop j).all fun p => insB a b p.f0) = q))
  case atStart => exact ⟨0, rfl, by omega, by omega, B, F1, H⟩
  case round =>
    clear H B F1
    obtain ⟨j, rfl, hj, hk, B, F1, H⟩ := hrel
    have hst := HST.out
    obtain ⟨c1_0, c1_1, c1_2, c1_3, c1_4, c1_5⟩ := cs6 F1
    by_cases hlt : j < ps.length
    · have HS := H.out
      rw [pr_drop hlt, List.all_cons] at HS
      clear H
      obtain ⟨d, rfl⟩ : ∃ d, gk = d + 1 := ⟨gk - 1, by omega⟩
      have h48 := L48.out
      have cj : decide ((j : Int) < (ps.length : Int)) = true := decide_eq_true (by omega)
      obtain ⟨ad, hA, y0, y1⟩ := at_T61 (cb HRP B) (j : Int) (by omega) (by omega)
      cases hA
      rw [Int.toNat_natCast] at y0 y1
      have j1 := eq_true (show (j : Int) < (ps.length : Int) by omega)
      have j2 := eq_true hlt
      generalize hy : rd_T61 ps (j : Int) = y at *
      go_wp2_with (first
        | ((with_reducible refine gate_dst (N := 4) rfl ?_); refine bx ?hg (N := 4) ?hd (cs := #[.string (⟨#[]⟩ : ByteArray), .int .i64 (0)]) (t := 61) ?hr B ?_; (case hd => rfl); (case hg => rfl); (case hr => first | (go_simp; done) | (go_simp; rfl)); intro g4 w5 hb B F4 L4 E4; have N1_4 := ne1 E4 F1; replace F1 := bn F1 hb; clear c1_0 c1_1 c1_2 c1_3 c1_4 c1_5; obtain ⟨c1_0, c1_1, c1_2, c1_3, c1_4, c1_5⟩ := cs6 F1; obtain ⟨c4_0, c4_1⟩ := cs2 F4; clear hb E4)
        | ((with_reducible refine gate_store (t := 61) (p := 4) rfl ?_); obtain ⟨y0, y1⟩ := cs2 F4; have z0 := fz F4 0; have z1 := fz F4 1; refine sx (t := 61) (t' := 61) (p := 4) (v := ?vo6) ?hg ?ho ?hn 0 [.string y.f0, .int .i64 (y.f1)] [.string y.f0, .int .i64 (y.f1)] ?hr B F4 L4 rfl (Nat.le_of_ble_eq_true rfl) ?_; (case ho => rfl); (case hg => rfl); (case hn => rfl); (case hr => first | (go_simp; done) | (go_simp; rfl)); intro w6 hk B G; replace F1 := bk F1 hk N1_4.out; replace F4 := G; clear c1_0 c1_1 c1_2 c1_3 c1_4 c1_5; obtain ⟨c1_0, c1_1, c1_2, c1_3, c1_4, c1_5⟩ := cs6 F1; clear c4_0 c4_1; obtain ⟨c4_0, c4_1⟩ := cs2 F4; clear hk y0 z0 y1 z1)
        | (go_at_call 58; with_reducible refine cl (impl_inside.M a b y.f0 _) B fun w7 hb B => ?_; replace F1 := bn F1 hb; clear hb))
      all_goals first
        | (go_roundg d; (case measure => omega); (case rel => exact ⟨j + 1, congrArg (Value.int .i64) (Int.natCast_succ _).symm, by omega, by omega, B, F1, ⟨andT HS (by grind)⟩⟩))
        | (go_ret; exact ⟨congrArg (fun b => Ending.returned (Value.bool b)) (by grind), B.out⟩)
    · have cj : decide ((j : Int) < (ps.length : Int)) = false := decide_eq_false (by omega)
      have hr : q = true := by rw [← H.out, List.drop_of_length_le (by omega)]; rfl
      clear H
      go_wp2_with (first
        | (go_at_call 59; with_reducible refine cl (impl_IntervalCut.M a b c _) B fun w1 hb B => ?_; replace F1 := bn F1 hb; clear c1_0 c1_1 c1_2 c1_3 c1_4 c1_5; obtain ⟨c1_0, c1_1, c1_2, c1_3, c1_4, c1_5⟩ := cs6 F1; clear hb)
        | ((with_reducible refine gate_dst (N := 5) rfl ?_); refine bx ?hg (N := 5) ?hd (cs := #[.string (⟨#[]⟩ : ByteArray), .string (⟨#[]⟩ : ByteArray)]) (t := 30) ?hr B ?_; (case hd => rfl); (case hg => rfl); (case hr => first | (go_simp; done) | (go_simp; rfl)); intro g5 w2 hb B F5 L5 E5; have N1_5 := ne1 E5 F1; replace F1 := bn F1 hb; clear c1_0 c1_1 c1_2 c1_3 c1_4 c1_5; obtain ⟨c1_0, c1_1, c1_2, c1_3, c1_4, c1_5⟩ := cs6 F1; clear hb E5)
        | ((with_reducible refine gate_dst (N := 6) rfl ?_); refine bx ?hg (N := 6) ?hd (cs := #[.string (⟨#[]⟩ : ByteArray), .string (⟨#[]⟩ : ByteArray)]) (t := 30) ?hr B ?_; (case hd => rfl); (case hg => rfl); (case hr => first | (go_simp; done) | (go_simp; rfl)); intro g6 w3 hb B F6 L6 E6; have N1_6 := ne1 E6 F1; have N5_6 := ne1 E6 F5; replace F1 := bn F1 hb; replace F5 := bn F5 hb; clear c1_0 c1_1 c1_2 c1_3 c1_4 c1_5; obtain ⟨c1_0, c1_1, c1_2, c1_3, c1_4, c1_5⟩ := cs6 F1; clear hb E6)
        | ((with_reducible refine gate_store (t := 30) (p := 5) rfl ?_); obtain ⟨y0, y1⟩ := cs2 F5; have z0 := fz F5 0; have z1 := fz F5 1; refine sx (t := 30) (t' := 30) (p := 5) (v := ?vo4) ?hg ?ho ?hn 0 [.string (cutV a b c).1, .string (cutV a b c).2.1] [.string (cutV a b c).1, .string (cutV a b c).2.1] ?hr B F5 L5 rfl (Nat.le_of_ble_eq_true rfl) ?_; (case ho => rfl); (case hg => rfl); (case hn => rfl); (case hr => first | (go_simp; done) | (go_simp; rfl)); intro w4 hk B G; replace F1 := bk F1 hk N1_5.out; replace F6 := bk F6 hk N5_6.out.symm; replace F5 := G; clear c1_0 c1_1 c1_2 c1_3 c1_4 c1_5; obtain ⟨c1_0, c1_1, c1_2, c1_3, c1_4, c1_5⟩ := cs6 F1; clear hk y0 z0 y1 z1)
        | ((with_reducible refine gate_store (t := 30) (p := 6) rfl ?_); obtain ⟨y0, y1⟩ := cs2 F6; have z0 := fz F6 0; have z1 := fz F6 1; refine sx (t := 30) (t' := 30) (p := 6) (v := ?vo5) ?hg ?ho ?hn 0 [.string (cutV a b c).2.2.1, .string (cutV a b c).2.2.2.1] [.string (cutV a b c).2.2.1, .string (cutV a b c).2.2.2.1] ?hr B F6 L6 rfl (Nat.le_of_ble_eq_true rfl) ?_; (case ho => rfl); (case hg => rfl); (case hn => rfl); (case hr => first | (go_simp; done) | (go_simp; rfl)); intro w5 hk B G; replace F1 := bk F1 hk N1_6.out; replace F6 := G; clear c1_0 c1_1 c1_2 c1_3 c1_4 c1_5; obtain ⟨c1_0, c1_1, c1_2, c1_3, c1_4, c1_5⟩ := cs6 F1; clear hk y0 z0 y1 z1))
      all_goals go_ret
      all_goals
        refine ⟨congrArg (fun b => Ending.returned (Value.bool b)) ?_, B.out⟩
        rw [hst, hr, Bool.true_and]
        unfold tailB
        grind [cutV_ok]

theorem laws_szInterval.M (a b : ByteArray) (n : Int) (w : World) (hn : 0 ≤ n ∧ n ≤ 1048576) (ha : a.size ≤ 9223372036854775807) (hb : b.size ≤ 9223372036854775807) : Calls Try.prog 44 #[.agg #[.string a, .string b], .int .i64 n] w fun e w' => ∃ v : Int, e = .returned (.int .i64 v) ∧ (v < 0 ∨ 0 ≤ v ∧ v ≤ n) ∧ Below w.heap.size w w' := by
  have B := Aside0.mk (Below.refl w.heap.size w)
  have hu := Try.underlying23
  go_enter Try.func44, Try.ntmps44
  go_wp2_with (first
    | ((with_reducible refine gate_dst (N := 2) rfl ?_); refine bx ?hg (N := 2) ?hd (cs := #[.string a, .string b]) (t := 23) ?hr B ?_; (case hd => rfl); (case hg => rfl); (case hr => first | (go_simp; done) | (go_simp; rfl)); intro g2 w1 hb B F2 L2 E2; obtain ⟨c2_0, c2_1⟩ := cs2 F2; clear hb E2))
  all_goals go_ret
  all_goals (refine ⟨_, rfl, ?_, B.out⟩; omega)
theorem laws_szPair.M (a : ByteArray) (b n : Int) (w : World) (hn : 0 ≤ n ∧ n ≤ 1048576) (ha : a.size ≤ 9223372036854775807) : Calls Try.prog 88 #[.agg #[.string a, .int .i64 b], .int .i64 n] w fun e w' => ∃ v : Int, e = .returned (.int .i64 v) ∧ (v < 0 ∨ 0 ≤ v ∧ v ≤ n) ∧ Below w.heap.size w w' := by
  have B := Aside0.mk (Below.refl w.heap.size w)
  have hu := Try.underlying108
  go_enter Try.func88, Try.ntmps88
  go_wp2_with (first
    | ((with_reducible refine gate_dst (N := 2) rfl ?_); refine bx ?hg (N := 2) ?hd (cs := #[.string a, .int .i64 (b)]) (t := 108) ?hr B ?_; (case hd => rfl); (case hg => rfl); (case hr => first | (go_simp; done) | (go_simp; rfl)); intro g2 w1 hb B F2 L2 E2; obtain ⟨c2_0, c2_1⟩ := cs2 F2; clear hb E2))
  all_goals go_ret
  all_goals (refine ⟨_, rfl, ?_, B.out⟩; omega)
theorem laws_szPairS.M (A0 : Option Addr) (c0 : Nat) (l : List S108) (n : Int) (w : World) (hr0 : Kd.C k108 w A0 l.length l) (hn : 0 ≤ n ∧ n ≤ 1048576) (hs : ∀ y ∈ l, y.f0.size ≤ 9223372036854775807) : Calls Try.prog 45 #[.slice A0 l.length c0, .int .i64 n] w fun e w' => ∃ v : Int, e = .returned (.int .i64 v) ∧ (v < 0 ∨ 0 ≤ v ∧ v ≤ n ∧ (l.length : Int) ≤ n) ∧ Below w.heap.size w w' := by
  have B := Aside0.mk (Below.refl w.heap.size w)
  have hu := Try.underlying108
  have HR0 := Aside0.mk hr0
  have hm := hr0.2.1
  have HS := Aside0.mk hs
  clear hr0 hs
  go_enter Try.func45, Try.ntmps45
  go_wp2
  · go_ret
    exact ⟨-1, rfl, by omega, B.out⟩
  · go_loopg [1, 5] (l.length + 1) (fun kx v1 v5 wr => ∃ (j : Nat) (m : Int), v1 = .int .i64 m ∧ v5 = .int .i64 (j : Int) ∧ j ≤ l.length ∧ l.length < j + kx ∧ 0 ≤ m ∧ m ≤ n ∧ Aside0 (Below w.heap.size w wr))
    case atStart => exact ⟨0, _, rfl, rfl, by omega, by omega, by omega, by omega, B⟩
    case round =>
      clear B
      obtain ⟨j, m, rfl, rfl, hj, hk, hm0, hm1, B⟩ := hrel
      by_cases hlt : j < l.length
      · obtain ⟨d, rfl⟩ : ∃ d, gk = d + 1 := ⟨gk - 1, by omega⟩
        have cj : decide ((j : Int) < (l.length : Int)) = true := decide_eq_true (by omega)
        obtain ⟨ad, hA, y0, y1⟩ := at_T108 (cb HR0 B) (j : Int) (by omega) (by omega)
        cases hA
        have hz := HS.out (rd_T108 l (j : Int)) (by simp [rd_T108, List.getD_eq_getElem?_getD, List.getElem?_eq_getElem hlt])
        rw [Int.toNat_natCast] at y0 y1
        have j1 := eq_true (show (j : Int) < (l.length : Int) by omega)
        have j2 := eq_true hlt
        generalize hy : rd_T108 l (j : Int) = y at *
        go_wp2_with (first
          | (go_at_call 88; with_reducible refine cx (laws_szPair.M y.f0 y.f1 m _ (by omega) (by omega)) B fun v1 hv1 w1 hb B => ?_; clear hb))
        all_goals first
          | (go_roundg d; (case measure => omega); (case rel => exact ⟨j + 1, _, rfl, congrArg (Value.int .i64) (Int.natCast_succ _).symm, by omega, by omega, by omega, by omega, B⟩))
          | (go_ret; exact ⟨-1, rfl, by omega, B.out⟩)
      · have cj : decide ((j : Int) < (l.length : Int)) = false := decide_eq_false (by omega)
        go_wp2
        go_ret
        exact ⟨m, rfl, by omega, B.out⟩
theorem laws_szSessionS.M (A0 : Option Addr) (c0 : Nat) (l : List S112) (n : Int) (w : World) (hr0 : Kd.C k112 w A0 l.length l) (hn : 0 ≤ n ∧ n ≤ 1048576) : Calls Try.prog 46 #[.slice A0 l.length c0, .int .i64 n] w fun e w' => ∃ v : Int, e = .returned (.int .i64 v) ∧ (v < 0 ∨ 0 ≤ v ∧ v ≤ n ∧ (l.length : Int) ≤ n) ∧ Below w.heap.size w w' := by
  have B := Aside0.mk (Below.refl w.heap.size w)
  have hm := hr0.2.1
  clear hr0
  go_enter Try.func46, Try.ntmps46
  go_wp2
  all_goals go_ret
  all_goals (refine ⟨_, rfl, ?_, B.out⟩; omega)
theorem laws_szState.M (a b : ByteArray) (AP : Option Addr) (cP : Nat) (ps : List S108) (AS : Option Addr) (cS : Nat) (ss : List S112) (t : Bool) (c : ByteArray) (n : Int) (w : World) (hrp : Kd.C k108 w AP ps.length ps) (hrs : Kd.C k112 w AS ss.length ss) (hn : 0 ≤ n ∧ n ≤ 1048576) (hs : a.size ≤ 9223372036854775807 ∧ b.size ≤ 9223372036854775807 ∧ c.size ≤ 9223372036854775807 ∧ ∀ y ∈ ps, y.f0.size ≤ 9223372036854775807) : Calls Try.prog 11 #[.agg #[.string a, .string b, .slice AP ps.length cP, .slice AS ss.length cS, .bool t, .string c], .int .i64 n] w fun e w' => ∃ v : Int, e = .returned (.int .i64 v) ∧ (v < 0 ∨ 0 ≤ v ∧ v ≤ n ∧ (ps.length : Int) ≤ n ∧ (ss.length : Int) ≤ n) ∧ Below w.heap.size w w' := by
  have B := Aside0.mk (Below.refl w.heap.size w)
  have hu := Try.underlying27
  have HRP := Aside0.mk hrp
  have HRS := Aside0.mk hrs
  obtain ⟨ha, hb, hc, hps⟩ := hs
  have HPS := Aside0.mk hps
  clear hrp hrs hps
  go_enter Try.func11, Try.ntmps11
  go_wp2_with (first
    | ((with_reducible refine gate_dst (N := 2) rfl ?_); refine bx ?hg (N := 2) ?hd (cs := #[.string a, .string b, .slice AP ps.length cP, .slice AS ss.length cS, .bool t, .string c]) (t := 27) ?hr B ?_; (case hd => rfl); (case hg => rfl); (case hr => first | (go_simp; done) | (go_simp; rfl)); intro g2 w1 hb B F2 L2 E2; obtain ⟨c2_0, c2_1, c2_2, c2_3, c2_4, c2_5⟩ := cs6 F2; clear hb E2)
    | (go_at_call 44; with_reducible refine cx (laws_szInterval.M a b n _ (by omega) (by omega) (by omega)) B fun v2 hv2 w2 hb B => ?_; replace F2 := bn F2 hb; clear c2_0 c2_1 c2_2 c2_3 c2_4 c2_5; obtain ⟨c2_0, c2_1, c2_2, c2_3, c2_4, c2_5⟩ := cs6 F2; clear hb)
    | (go_at_call 45; with_reducible refine cx (laws_szPairS.M _ _ ps v2 _ (cb HRP B) (by omega) HPS.out) B fun v3 hv3 w3 hb B => ?_; replace F2 := bn F2 hb; clear c2_0 c2_1 c2_2 c2_3 c2_4 c2_5; obtain ⟨c2_0, c2_1, c2_2, c2_3, c2_4, c2_5⟩ := cs6 F2; clear hb)
    | (go_at_call 46; with_reducible refine cx (laws_szSessionS.M _ _ ss v3 _ (cb HRS B) (by omega)) B fun v4 hv4 w4 hb B => ?_; replace F2 := bn F2 hb; clear c2_0 c2_1 c2_2 c2_3 c2_4 c2_5; obtain ⟨c2_0, c2_1, c2_2, c2_3, c2_4, c2_5⟩ := cs6 F2; clear hb))
  all_goals go_ret
  all_goals (refine ⟨_, rfl, ?_, B.out⟩; omega)

/-! Rows that are made and written. -/
section
variable {P : Program} {w W W' : World} {α β : Type} {d : Kd α} {e b : Nat} {xs : List α}
variable {ops ops' : Array Oper} {o : Oper} {rest : List Oper} {a : Act} {QE : Exit → Act → World → Prop}
theorem mkr (d : Kd α) (e : Nat) (hgd : o.guard = none) {N : Tmp} (hd : o.dst = some N) (t : TypeId) (x y : Operand) (ho : o.op = .makeSlice t x y) (n : Nat) (hx : a.eval x = .int .i64 (n : Int)) (hy : a.eval y = .int .i64 (n : Int))
    (ht : P.underlying t = some (.slice e)) (z : Value) (bytes : Nat) (hinfo : (P.info? e).map (fun i => (i.zero, i.size, i.bytes)) = some (some z, d.sz, bytes)) (hz : z.cells.size = d.sz) (hs0 : 0 < d.sz) (hb0 : 0 < bytes)
    (z0 : α) (hzero : d.M W W.heap.size (fun _ => True) z0 z.cells.toList) (hl : n * bytes ≤ 281474976710656) (B : Aside0 (Below w.heap.size w W))
    (h : ∀ A kk w1, Below W.heap.size W w1 → Aside0 (Below w.heap.size w w1) → Aside0 (Ow d e w1 w.heap.size (.slice A n kk) (List.replicate n z0)) → Aside0 (Fr W (.slice A n kk)) → wpList P ops QE rest (a.put o.dst (.slice A n kk)) w1) : wpList P ops QE (o :: rest) a W :=
  Kd.R_make d W.heap.size e hgd hd t x y ho n hx hy ht z bytes hinfo hz hs0 hb0 z0 hzero (fun _ h => h) trivial (Int.natCast_nonneg n) (by rwa [Int.toNat_natCast]) (Below.refl _ _) (Nat.le_refl _) fun v1 w1 hR hb hg hnew => by
    rw [Int.toNat_natCast] at hR
    obtain ⟨A, kk, hv⟩ := Kd.R_slice hR
    rw [List.length_replicate] at hv
    subst hv
    exact h A kk w1 hb ⟨below_step B.out hb⟩ ⟨Kd.R_lower hR (below_size B.out)⟩ ⟨fun k hk => Kd.R_base hR k hk⟩
theorem fr {v v' : Value} {β : Type} {d' : Kd β} {e' : Nat} {ys : List β} (q : Aside0 (Fr W v)) (R : Aside0 (Ow d' e' W b v' ys)) : Aside0 (∀ k, v.ownBlock = some k → v'.ownBlock = some k → False) := ⟨fun k h1 h2 => by
  have := q.out k h1
  have := Kd.R_lt R.out k h2
  omega⟩
/-- the form of a row that is not empty -/
theorem rform {A : Option Addr} {n c : Nat} (R : Aside0 (Ow d e W b (.slice A n c) xs)) (hp : 0 < xs.length) : ∃ g, A = some ⟨g, 0, none⟩ ∧ b ≤ g := by
  obtain ⟨g, cap, hv, hb, _⟩ := Kd.R_form R.out hp
  cases hv
  exact ⟨g, rfl, hb⟩
/-- the cells of an element -/
theorem rcells {g n c : Nat} (z : α) (R : Aside0 (Ow d e W b (.slice (some ⟨g, 0, none⟩) n c) xs)) (i : Nat) (hi : i < n) : ∃ cs, cs.length = d.sz ∧ d.M W b (fun k => True ∧ k ≠ g) (xs.getD i z) cs ∧ (∀ j u, cs[j]? = some u → W.cell? ⟨g, i * d.sz + j, none⟩ = some u) ∧ ∀ j, W.frozen? ⟨g, i * d.sz + j, none⟩ = false := by
  have := Kd.R_elem R.out z (i : Int) (Int.natCast_nonneg i) (by omega)
  rwa [Int.toNat_natCast] at this
theorem es {g n c : Nat} {t : TypeId} {p : Tmp} {v : Operand} (hgd : o.guard = none) (ho : o.op = .store t (.tmp p) v) (hN : o.dst = none) (i off : Nat) (seg : List Value) (x' : α) (hrun : (execOp a.eval o).run P W = .ok .skip (W.setCells g (i * d.sz + off) seg))
    (R : Aside0 (Ow d e W b (.slice (some ⟨g, 0, none⟩) n c) xs)) (hi : i < n) {cs : List Value} (hcl : cs.length = d.sz) (hcc : ∀ j u, cs[j]? = some u → W.cell? ⟨g, i * d.sz + j, none⟩ = some u) (hj : off + seg.length ≤ d.sz)
    (hM : d.M W b (fun _ => False) x' (cs.take off ++ seg ++ cs.drop (off + seg.length))) (B : Aside0 (Below w.heap.size w W)) (hb : w.heap.size ≤ g)
    (h : ∀ w', W.grownBy w' (some g) → Aside0 (Below w.heap.size w w') → Aside0 (Ow d e w' b (.slice (some ⟨g, 0, none⟩) n c) (xs.set i x')) → wpList P ops QE rest a w') : wpList P ops QE (o :: rest) a W :=
  store_event hgd ho hN hrun fun w' hw => by
    have hP := Kd.R_seg R.out (i : Int) (Int.natCast_nonneg i) (by omega) (c := cs) (seg := seg) (j := off) (x' := x') (okp := fun _ => False) hcl (by rw [Int.toNat_natCast]; exact hcc) hj hM (fun _ hk => hk.elim)
    rw [Int.toNat_natCast] at hP
    subst hw
    refine h _ hP.2 ⟨pw_below_grown B.out (some g) (below_size B.out) hP.2 (fun k hk => ?_)⟩ ⟨hP.1⟩
    cases hk
    exact hb
theorem bg {g : Nat} {ob : Obj} {row : Option Nat} (F : Aside0 (W.heap[g]? = some ob)) (hg : W.grownBy W' row) (hne : some g ≠ row) : Aside0 (W'.heap[g]? = some ob) := ⟨blk_grown F.out hg hne⟩
theorem fill_set {f : α → β} {z : β} {l : List α} {j : Nat} (h : j < l.length) : ((l.take j).map f ++ List.replicate (l.length - j) z).set j (f l[j]) = (l.take (j + 1)).map f ++ List.replicate (l.length - (j + 1)) z := by
  have h1 : ((l.take j).map f).length = j := by rw [List.length_map, List.length_take]; omega
  rw [List.set_append_right _ _ (by omega), h1, Nat.sub_self, show l.length - j = (l.length - (j + 1)) + 1 by omega, List.replicate_succ, List.set_cons_zero, List.take_succ_eq_append_getElem h, List.map_append, List.append_assoc]
  rfl
theorem fill_end {f : α → β} {z : β} {l : List α} {j : Nat} (h : ¬ j < l.length) : (l.take j).map f ++ List.replicate (l.length - j) z = l.map f := by
  rw [List.take_of_length_le (by omega), show l.length - j = 0 by omega]
  simp
end

def prOf (x : S108) : S61 := ⟨x.f0, x.f1⟩
theorem laws_toPair.M (x0 : ByteArray) (x1 : Int) (w : World) : Calls Try.prog 91 #[.agg #[.string x0, .int .i64 (x1)]] w fun e w' => e = .returned (.agg #[.string x0, .int .i64 (x1)]) ∧ Below w.heap.size w w' := by
  have B := Aside0.mk (Below.refl w.heap.size w)
  have hu := Try.underlying61
  have hu2 := Try.underlying108
  go_enter Try.func91, Try.ntmps91
  go_wp2_with (first
    | ((with_reducible refine gate_dst (N := 1) rfl ?_); refine bx ?hg (N := 1) ?hd (cs := #[.string x0, .int .i64 (x1)]) (t := 108) ?hr B ?_; (case hd => rfl); (case hg => rfl); (case hr => first | (go_simp; done) | (go_simp; rfl)); intro g1 w1 hb B F1 L1 E1; obtain ⟨c1_0, c1_1⟩ := cs2 F1; clear hb E1)
    | ((with_reducible refine gate_dst (N := 2) rfl ?_); refine bx ?hg (N := 2) ?hd (cs := #[.string (⟨#[]⟩ : ByteArray), .int .i64 (0)]) (t := 61) ?hr B ?_; (case hd => rfl); (case hg => rfl); (case hr => first | (go_simp; done) | (go_simp; rfl)); intro g2 w2 hb B F2 L2 E2; have N1_2 := ne1 E2 F1; replace F1 := bn F1 hb; clear c1_0 c1_1; obtain ⟨c1_0, c1_1⟩ := cs2 F1; clear hb E2)
    | ((with_reducible refine gate_dst (N := 3) rfl ?_); refine bx ?hg (N := 3) ?hd (cs := #[.string (⟨#[]⟩ : ByteArray), .int .i64 (0)]) (t := 61) ?hr B ?_; (case hd => rfl); (case hg => rfl); (case hr => first | (go_simp; done) | (go_simp; rfl)); intro g3 w3 hb B F3 L3 E3; have N1_3 := ne1 E3 F1; have N2_3 := ne1 E3 F2; replace F1 := bn F1 hb; replace F2 := bn F2 hb; clear c1_0 c1_1; obtain ⟨c1_0, c1_1⟩ := cs2 F1; obtain ⟨c3_0, c3_1⟩ := cs2 F3; clear hb E3)
    | ((with_reducible refine gate_store (t := 9) (p := 6) rfl ?_); obtain ⟨y0, y1⟩ := cs2 F3; have z0 := fz F3 0; have z1 := fz F3 1; refine sx (t := 61) (t' := 9) (p := 6) (v := ?vo4) ?hg ?ho ?hn 0 [.string x0] [.string x0, .int .i64 (0)] ?hr B F3 L3 rfl (Nat.le_of_ble_eq_true rfl) ?_; (case ho => rfl); (case hg => rfl); (case hn => rfl); (case hr => first | (go_simp; done) | (go_simp; rfl)); intro w4 hk B G; replace F1 := bk F1 hk N1_3.out; replace F2 := bk F2 hk N2_3.out; replace F3 := G; clear c1_0 c1_1; obtain ⟨c1_0, c1_1⟩ := cs2 F1; clear c3_0 c3_1; obtain ⟨c3_0, c3_1⟩ := cs2 F3; clear hk y0 z0 y1 z1)
    | ((with_reducible refine gate_store (t := 3) (p := 9) rfl ?_); obtain ⟨y0, y1⟩ := cs2 F3; have z0 := fz F3 0; have z1 := fz F3 1; refine sx (t := 61) (t' := 3) (p := 9) (v := ?vo5) ?hg ?ho ?hn 1 [.int .i64 (x1)] [.string x0, .int .i64 (x1)] ?hr B F3 L3 rfl (Nat.le_of_ble_eq_true rfl) ?_; (case ho => rfl); (case hg => rfl); (case hn => rfl); (case hr => first | (go_simp; done) | (go_simp; rfl)); intro w5 hk B G; replace F2 := bk F2 hk N2_3.out; replace F3 := G; clear c3_0 c3_1; obtain ⟨c3_0, c3_1⟩ := cs2 F3; clear hk y0 z0 y1 z1)
    | ((with_reducible refine gate_store (t := 61) (p := 2) rfl ?_); obtain ⟨y0, y1⟩ := cs2 F2; have z0 := fz F2 0; have z1 := fz F2 1; refine sx (t := 61) (t' := 61) (p := 2) (v := ?vo6) ?hg ?ho ?hn 0 [.string x0, .int .i64 (x1)] [.string x0, .int .i64 (x1)] ?hr B F2 L2 rfl (Nat.le_of_ble_eq_true rfl) ?_; (case ho => rfl); (case hg => rfl); (case hn => rfl); (case hr => first | (go_simp; done) | (go_simp; rfl)); intro w6 hk B G; replace F2 := G; clear hk y0 z0 y1 z1))
  refine bodyPost_ret (results_single rfl (.cell g2 61 _ (0, 0) _ rfl F2.out hu rfl (by kernel_rfl) .nil)) rfl ?_
  exact ⟨rfl, B.out⟩
theorem laws_toPairS.M (A0 : Option Addr) (c0 : Nat) (l : List S108) (m : List S61) (w : World) (hr0 : Kd.C k108 w A0 l.length l) (hl : l.length ≤ 1048576) (hm : l.map prOf = m) : Calls Try.prog 53 #[.slice A0 l.length c0] w fun e w' => ∃ v0, e = .returned v0 ∧ Kd.R k61 61 w' w.heap.size (fun _ => True) v0 m ∧ Below w.heap.size w w' := by
  have B := Aside0.mk (Below.refl w.heap.size w)
  subst hm
  have hu := Try.underlying61
  have hu2 := Try.underlying108
  have HR0 := Aside0.mk hr0
  clear hr0
  go_enter Try.func53, Try.ntmps53
  go_wp2_with ((with_reducible refine gate_dst (N := 7) rfl ?_); refine mkr k61 61 rfl (N := 7) rfl 31 _ _ rfl l.length rfl rfl Try.underlying31 (.agg #[.string (⟨#[]⟩ : ByteArray), .int .i64 (0)]) 24 info61 rfl (by decide) (by omega) z61 (k61_mkM _ _ _ z61) (by omega) B ?_; intro A kk w1 hb B R Q; clear hb Q)
  have R0 := Aside0.mk (show Ow k61 61 w1 w.heap.size (.slice A l.length kk) ((l.take 0).map prOf ++ List.replicate (l.length - 0) z61) from R.out)
  clear R
  go_loopg [4] (l.length + 1) (fun kx v4 wr => ∃ j : Nat, v4 = .int .i64 (j : Int) ∧ j ≤ l.length ∧ l.length < j + kx ∧ Aside0 (Below w.heap.size w wr) ∧ Aside0 (Ow k61 61 wr w.heap.size (.slice A l.length kk) ((l.take j).map prOf ++ List.replicate (l.length - j) z61)))
  case atStart => exact ⟨0, rfl, by omega, by omega, B, R0⟩
  case round =>
    clear R0 B
    obtain ⟨j, rfl, hj, hk, B, R⟩ := hrel
    by_cases hlt : j < l.length
    · obtain ⟨d, rfl⟩ : ∃ d, gk = d + 1 := ⟨gk - 1, by omega⟩
      have hln : ((l.take j).map prOf ++ List.replicate (l.length - j) z61).length = l.length := by rw [List.length_append, List.length_map, List.length_take, List.length_replicate]; omega
      obtain ⟨g, rfl, hg⟩ := rform R (by omega)
      have hfs := fill_set (f := prOf) (z := z61) hlt
      have cj : decide ((j : Int) < (l.length : Int)) = true := decide_eq_true (by omega)
      obtain ⟨ad, hA, x0, x1⟩ := at_T108 (cb HR0 B) (j : Int) (by omega) (by omega)
      cases hA
      rw [Int.toNat_natCast] at x0 x1
      have j1 := eq_true (show (j : Int) < (l.length : Int) by omega)
      have j2 := eq_true hlt
      have hy : rd_T108 l (j : Int) = l[j] := by simp [rd_T108, List.getD_eq_getElem?_getD, List.getElem?_eq_getElem hlt]
      rw [← hy] at hfs
      generalize rd_T108 l (j : Int) = y at *
      clear hy
      have HF := Aside0.mk hfs
      clear hfs hln
      go_wp2_with (first
        | (go_at_call 91; with_reducible refine cl (laws_toPair.M y.f0 y.f1 _) B fun w5 hb B => ?_; replace R := rn R hb; obtain ⟨cs, hcl, _, hcc, hfz⟩ := rcells z61 R j hlt; have hsz : k61.sz = 2 := rfl; obtain ⟨u0, hu0⟩ : ∃ u, cs[0]? = some u := ⟨_, List.getElem?_eq_getElem (by rw [hcl]; decide)⟩; have q0 := hcc 0 u0 hu0; have z0 := hfz 0; rw [hsz, Nat.add_zero] at q0 z0; obtain ⟨u1, hu1⟩ : ∃ u, cs[1]? = some u := ⟨_, List.getElem?_eq_getElem (by rw [hcl]; decide)⟩; have q1 := hcc 1 u1 hu1; have z1 := hfz 1; rw [hsz] at q1 z1; clear hb)
        | ((with_reducible refine gate_store (t := 61) (p := 21) rfl ?_); refine es (t := 61) (p := 21) (v := ?vo1) ?hg ?ho ?hn j 0 [.string y.f0, .int .i64 (y.f1)] (prOf y) ?hr R hlt hcl hcc (Nat.le_refl 2) (by rw [List.take_zero, List.drop_of_length_le (by rw [hcl]; exact Nat.le_refl 2)]; exact k61_mkM _ _ _ (prOf y)) B hg ?_; (case ho => rfl); (case hg => rfl); (case hn => rfl); (case hr => first | (go_simp; done) | (go_simp; rfl)); intro w6 _ B R; rw [HF.out] at R))
      go_roundg d
      case measure => omega
      case rel => exact ⟨j + 1, congrArg (Value.int .i64) (Int.natCast_succ _).symm, by omega, by omega, B, R⟩
    · have cj : decide ((j : Int) < (l.length : Int)) = false := decide_eq_false (by omega)
      rw [fill_end hlt] at R
      go_wp2
      go_ret
      exact ⟨_, rfl, R.out, B.out⟩
def sesOf (x : S112) : S100 := ⟨x.f0, x.f1, x.f2⟩
theorem laws_toSession.M (x0 : Int) (x1 : Int) (x2 : Int) (w : World) : Calls Try.prog 92 #[.agg #[.int .i64 (x0), .int .i64 (x1), .int .i64 (x2)]] w fun e w' => e = .returned (.agg #[.int .i64 (x0), .int .i64 (x1), .int .i64 (x2)]) ∧ Below w.heap.size w w' := by
  have B := Aside0.mk (Below.refl w.heap.size w)
  have hu := Try.underlying100
  have hu2 := Try.underlying112
  go_enter Try.func92, Try.ntmps92
  go_wp2_with (first
    | ((with_reducible refine gate_dst (N := 1) rfl ?_); refine bx ?hg (N := 1) ?hd (cs := #[.int .i64 (x0), .int .i64 (x1), .int .i64 (x2)]) (t := 112) ?hr B ?_; (case hd => rfl); (case hg => rfl); (case hr => first | (go_simp; done) | (go_simp; rfl)); intro g1 w1 hb B F1 L1 E1; obtain ⟨c1_0, c1_1, c1_2⟩ := cs3 F1; clear hb E1)
    | ((with_reducible refine gate_dst (N := 2) rfl ?_); refine bx ?hg (N := 2) ?hd (cs := #[.int .i64 (0), .int .i64 (0), .int .i64 (0)]) (t := 100) ?hr B ?_; (case hd => rfl); (case hg => rfl); (case hr => first | (go_simp; done) | (go_simp; rfl)); intro g2 w2 hb B F2 L2 E2; have N1_2 := ne1 E2 F1; replace F1 := bn F1 hb; clear c1_0 c1_1 c1_2; obtain ⟨c1_0, c1_1, c1_2⟩ := cs3 F1; clear hb E2)
    | ((with_reducible refine gate_dst (N := 3) rfl ?_); refine bx ?hg (N := 3) ?hd (cs := #[.int .i64 (0), .int .i64 (0), .int .i64 (0)]) (t := 100) ?hr B ?_; (case hd => rfl); (case hg => rfl); (case hr => first | (go_simp; done) | (go_simp; rfl)); intro g3 w3 hb B F3 L3 E3; have N1_3 := ne1 E3 F1; have N2_3 := ne1 E3 F2; replace F1 := bn F1 hb; replace F2 := bn F2 hb; clear c1_0 c1_1 c1_2; obtain ⟨c1_0, c1_1, c1_2⟩ := cs3 F1; obtain ⟨c3_0, c3_1, c3_2⟩ := cs3 F3; clear hb E3)
    | ((with_reducible refine gate_store (t := 3) (p := 6) rfl ?_); obtain ⟨y0, y1, y2⟩ := cs3 F3; have z0 := fz F3 0; have z1 := fz F3 1; have z2 := fz F3 2; refine sx (t := 100) (t' := 3) (p := 6) (v := ?vo4) ?hg ?ho ?hn 0 [.int .i64 (x0)] [.int .i64 (x0), .int .i64 (0), .int .i64 (0)] ?hr B F3 L3 rfl (Nat.le_of_ble_eq_true rfl) ?_; (case ho => rfl); (case hg => rfl); (case hn => rfl); (case hr => first | (go_simp; done) | (go_simp; rfl)); intro w4 hk B G; replace F1 := bk F1 hk N1_3.out; replace F2 := bk F2 hk N2_3.out; replace F3 := G; clear c1_0 c1_1 c1_2; obtain ⟨c1_0, c1_1, c1_2⟩ := cs3 F1; clear c3_0 c3_1 c3_2; obtain ⟨c3_0, c3_1, c3_2⟩ := cs3 F3; clear hk y0 z0 y1 z1 y2 z2)
    | ((with_reducible refine gate_store (t := 3) (p := 9) rfl ?_); obtain ⟨y0, y1, y2⟩ := cs3 F3; have z0 := fz F3 0; have z1 := fz F3 1; have z2 := fz F3 2; refine sx (t := 100) (t' := 3) (p := 9) (v := ?vo5) ?hg ?ho ?hn 1 [.int .i64 (x1)] [.int .i64 (x0), .int .i64 (x1), .int .i64 (0)] ?hr B F3 L3 rfl (Nat.le_of_ble_eq_true rfl) ?_; (case ho => rfl); (case hg => rfl); (case hn => rfl); (case hr => first | (go_simp; done) | (go_simp; rfl)); intro w5 hk B G; replace F1 := bk F1 hk N1_3.out; replace F2 := bk F2 hk N2_3.out; replace F3 := G; clear c1_0 c1_1 c1_2; obtain ⟨c1_0, c1_1, c1_2⟩ := cs3 F1; clear c3_0 c3_1 c3_2; obtain ⟨c3_0, c3_1, c3_2⟩ := cs3 F3; clear hk y0 z0 y1 z1 y2 z2)
    | ((with_reducible refine gate_store (t := 3) (p := 12) rfl ?_); obtain ⟨y0, y1, y2⟩ := cs3 F3; have z0 := fz F3 0; have z1 := fz F3 1; have z2 := fz F3 2; refine sx (t := 100) (t' := 3) (p := 12) (v := ?vo6) ?hg ?ho ?hn 2 [.int .i64 (x2)] [.int .i64 (x0), .int .i64 (x1), .int .i64 (x2)] ?hr B F3 L3 rfl (Nat.le_of_ble_eq_true rfl) ?_; (case ho => rfl); (case hg => rfl); (case hn => rfl); (case hr => first | (go_simp; done) | (go_simp; rfl)); intro w6 hk B G; replace F2 := bk F2 hk N2_3.out; replace F3 := G; clear c3_0 c3_1 c3_2; obtain ⟨c3_0, c3_1, c3_2⟩ := cs3 F3; clear hk y0 z0 y1 z1 y2 z2)
    | ((with_reducible refine gate_store (t := 100) (p := 2) rfl ?_); obtain ⟨y0, y1, y2⟩ := cs3 F2; have z0 := fz F2 0; have z1 := fz F2 1; have z2 := fz F2 2; refine sx (t := 100) (t' := 100) (p := 2) (v := ?vo7) ?hg ?ho ?hn 0 [.int .i64 (x0), .int .i64 (x1), .int .i64 (x2)] [.int .i64 (x0), .int .i64 (x1), .int .i64 (x2)] ?hr B F2 L2 rfl (Nat.le_of_ble_eq_true rfl) ?_; (case ho => rfl); (case hg => rfl); (case hn => rfl); (case hr => first | (go_simp; done) | (go_simp; rfl)); intro w7 hk B G; replace F2 := G; clear hk y0 z0 y1 z1 y2 z2))
  refine bodyPost_ret (results_single rfl (.cell g2 100 _ (0, 0) _ rfl F2.out hu rfl (by kernel_rfl) .nil)) rfl ?_
  exact ⟨rfl, B.out⟩
theorem laws_toSessionS.M (A0 : Option Addr) (c0 : Nat) (l : List S112) (m : List S100) (w : World) (hr0 : Kd.C k112 w A0 l.length l) (hl : l.length ≤ 1048576) (hm : l.map sesOf = m) : Calls Try.prog 54 #[.slice A0 l.length c0] w fun e w' => ∃ v0, e = .returned v0 ∧ Kd.R k100 100 w' w.heap.size (fun _ => True) v0 m ∧ Below w.heap.size w w' := by
  have B := Aside0.mk (Below.refl w.heap.size w)
  subst hm
  have hu := Try.underlying100
  have hu2 := Try.underlying112
  have HR0 := Aside0.mk hr0
  clear hr0
  go_enter Try.func54, Try.ntmps54
  go_wp2_with ((with_reducible refine gate_dst (N := 7) rfl ?_); refine mkr k100 100 rfl (N := 7) rfl 32 _ _ rfl l.length rfl rfl Try.underlying32 (.agg #[.int .i64 (0), .int .i64 (0), .int .i64 (0)]) 24 info100 rfl (by decide) (by omega) z100 (k100_mkM _ _ _ z100) (by omega) B ?_; intro A kk w1 hb B R Q; clear hb Q)
  have R0 := Aside0.mk (show Ow k100 100 w1 w.heap.size (.slice A l.length kk) ((l.take 0).map sesOf ++ List.replicate (l.length - 0) z100) from R.out)
  clear R
  go_loopg [4] (l.length + 1) (fun kx v4 wr => ∃ j : Nat, v4 = .int .i64 (j : Int) ∧ j ≤ l.length ∧ l.length < j + kx ∧ Aside0 (Below w.heap.size w wr) ∧ Aside0 (Ow k100 100 wr w.heap.size (.slice A l.length kk) ((l.take j).map sesOf ++ List.replicate (l.length - j) z100)))
  case atStart => exact ⟨0, rfl, by omega, by omega, B, R0⟩
  case round =>
    clear R0 B
    obtain ⟨j, rfl, hj, hk, B, R⟩ := hrel
    by_cases hlt : j < l.length
    · obtain ⟨d, rfl⟩ : ∃ d, gk = d + 1 := ⟨gk - 1, by omega⟩
      have hln : ((l.take j).map sesOf ++ List.replicate (l.length - j) z100).length = l.length := by rw [List.length_append, List.length_map, List.length_take, List.length_replicate]; omega
      obtain ⟨g, rfl, hg⟩ := rform R (by omega)
      have hfs := fill_set (f := sesOf) (z := z100) hlt
      have cj : decide ((j : Int) < (l.length : Int)) = true := decide_eq_true (by omega)
      obtain ⟨ad, hA, x0, x1, x2⟩ := at_T112 (cb HR0 B) (j : Int) (by omega) (by omega)
      cases hA
      rw [Int.toNat_natCast] at x0 x1 x2
      have j1 := eq_true (show (j : Int) < (l.length : Int) by omega)
      have j2 := eq_true hlt
      have hy : rd_T112 l (j : Int) = l[j] := by simp [rd_T112, List.getD_eq_getElem?_getD, List.getElem?_eq_getElem hlt]
      rw [← hy] at hfs
      generalize rd_T112 l (j : Int) = y at *
      clear hy
      have HF := Aside0.mk hfs
      clear hfs hln
      go_wp2_with (first
        | (go_at_call 92; with_reducible refine cl (laws_toSession.M y.f0 y.f1 y.f2 _) B fun w5 hb B => ?_; replace R := rn R hb; obtain ⟨cs, hcl, _, hcc, hfz⟩ := rcells z100 R j hlt; have hsz : k100.sz = 3 := rfl; obtain ⟨u0, hu0⟩ : ∃ u, cs[0]? = some u := ⟨_, List.getElem?_eq_getElem (by rw [hcl]; decide)⟩; have q0 := hcc 0 u0 hu0; have z0 := hfz 0; rw [hsz, Nat.add_zero] at q0 z0; obtain ⟨u1, hu1⟩ : ∃ u, cs[1]? = some u := ⟨_, List.getElem?_eq_getElem (by rw [hcl]; decide)⟩; have q1 := hcc 1 u1 hu1; have z1 := hfz 1; rw [hsz] at q1 z1; obtain ⟨u2, hu2⟩ : ∃ u, cs[2]? = some u := ⟨_, List.getElem?_eq_getElem (by rw [hcl]; decide)⟩; have q2 := hcc 2 u2 hu2; have z2 := hfz 2; rw [hsz] at q2 z2; clear hb)
        | ((with_reducible refine gate_store (t := 100) (p := 21) rfl ?_); refine es (t := 100) (p := 21) (v := ?vo1) ?hg ?ho ?hn j 0 [.int .i64 (y.f0), .int .i64 (y.f1), .int .i64 (y.f2)] (sesOf y) ?hr R hlt hcl hcc (Nat.le_refl 3) (by rw [List.take_zero, List.drop_of_length_le (by rw [hcl]; exact Nat.le_refl 3)]; exact k100_mkM _ _ _ (sesOf y)) B hg ?_; (case ho => rfl); (case hg => rfl); (case hn => rfl); (case hr => first | (go_simp; done) | (go_simp; rfl)); intro w6 _ B R; rw [HF.out] at R))
      go_roundg d
      case measure => omega
      case rel => exact ⟨j + 1, congrArg (Value.int .i64) (Int.natCast_succ _).symm, by omega, by omega, B, R⟩
    · have cj : decide ((j : Int) < (l.length : Int)) = false := decide_eq_false (by omega)
      rw [fill_end hlt] at R
      go_wp2
      go_ret
      exact ⟨_, rfl, R.out, B.out⟩
theorem laws_toInterval.M (x0 : ByteArray) (x1 : ByteArray) (w : World) : Calls Try.prog 52 #[.agg #[.string x0, .string x1]] w fun e w' => e = .returned (.agg #[.string x0, .string x1]) ∧ Below w.heap.size w w' := by
  have B := Aside0.mk (Below.refl w.heap.size w)
  have hu := Try.underlying30
  have hu2 := Try.underlying23
  go_enter Try.func52, Try.ntmps52
  go_wp2_with (first
    | ((with_reducible refine gate_dst (N := 1) rfl ?_); refine bx ?hg (N := 1) ?hd (cs := #[.string x0, .string x1]) (t := 23) ?hr B ?_; (case hd => rfl); (case hg => rfl); (case hr => first | (go_simp; done) | (go_simp; rfl)); intro g1 w1 hb B F1 L1 E1; obtain ⟨c1_0, c1_1⟩ := cs2 F1; clear hb E1)
    | ((with_reducible refine gate_dst (N := 2) rfl ?_); refine bx ?hg (N := 2) ?hd (cs := #[.string (⟨#[]⟩ : ByteArray), .string (⟨#[]⟩ : ByteArray)]) (t := 30) ?hr B ?_; (case hd => rfl); (case hg => rfl); (case hr => first | (go_simp; done) | (go_simp; rfl)); intro g2 w2 hb B F2 L2 E2; have N1_2 := ne1 E2 F1; replace F1 := bn F1 hb; clear c1_0 c1_1; obtain ⟨c1_0, c1_1⟩ := cs2 F1; clear hb E2)
    | ((with_reducible refine gate_dst (N := 3) rfl ?_); refine bx ?hg (N := 3) ?hd (cs := #[.string (⟨#[]⟩ : ByteArray), .string (⟨#[]⟩ : ByteArray)]) (t := 30) ?hr B ?_; (case hd => rfl); (case hg => rfl); (case hr => first | (go_simp; done) | (go_simp; rfl)); intro g3 w3 hb B F3 L3 E3; have N1_3 := ne1 E3 F1; have N2_3 := ne1 E3 F2; replace F1 := bn F1 hb; replace F2 := bn F2 hb; clear c1_0 c1_1; obtain ⟨c1_0, c1_1⟩ := cs2 F1; obtain ⟨c3_0, c3_1⟩ := cs2 F3; clear hb E3)
    | ((with_reducible refine gate_store (t := 9) (p := 6) rfl ?_); obtain ⟨y0, y1⟩ := cs2 F3; have z0 := fz F3 0; have z1 := fz F3 1; refine sx (t := 30) (t' := 9) (p := 6) (v := ?vo4) ?hg ?ho ?hn 0 [.string x0] [.string x0, .string (⟨#[]⟩ : ByteArray)] ?hr B F3 L3 rfl (Nat.le_of_ble_eq_true rfl) ?_; (case ho => rfl); (case hg => rfl); (case hn => rfl); (case hr => first | (go_simp; done) | (go_simp; rfl)); intro w4 hk B G; replace F1 := bk F1 hk N1_3.out; replace F2 := bk F2 hk N2_3.out; replace F3 := G; clear c1_0 c1_1; obtain ⟨c1_0, c1_1⟩ := cs2 F1; clear c3_0 c3_1; obtain ⟨c3_0, c3_1⟩ := cs2 F3; clear hk y0 z0 y1 z1)
    | ((with_reducible refine gate_store (t := 9) (p := 9) rfl ?_); obtain ⟨y0, y1⟩ := cs2 F3; have z0 := fz F3 0; have z1 := fz F3 1; refine sx (t := 30) (t' := 9) (p := 9) (v := ?vo5) ?hg ?ho ?hn 1 [.string x1] [.string x0, .string x1] ?hr B F3 L3 rfl (Nat.le_of_ble_eq_true rfl) ?_; (case ho => rfl); (case hg => rfl); (case hn => rfl); (case hr => first | (go_simp; done) | (go_simp; rfl)); intro w5 hk B G; replace F2 := bk F2 hk N2_3.out; replace F3 := G; clear c3_0 c3_1; obtain ⟨c3_0, c3_1⟩ := cs2 F3; clear hk y0 z0 y1 z1)
    | ((with_reducible refine gate_store (t := 30) (p := 2) rfl ?_); obtain ⟨y0, y1⟩ := cs2 F2; have z0 := fz F2 0; have z1 := fz F2 1; refine sx (t := 30) (t' := 30) (p := 2) (v := ?vo6) ?hg ?ho ?hn 0 [.string x0, .string x1] [.string x0, .string x1] ?hr B F2 L2 rfl (Nat.le_of_ble_eq_true rfl) ?_; (case ho => rfl); (case hg => rfl); (case hn => rfl); (case hr => first | (go_simp; done) | (go_simp; rfl)); intro w6 hk B G; replace F2 := G; clear hk y0 z0 y1 z1))
  refine bodyPost_ret (results_single rfl (.cell g2 30 _ (0, 0) _ rfl F2.out hu rfl (by kernel_rfl) .nil)) rfl ?_
  exact ⟨rfl, B.out⟩

theorem c2r {P : Program} {F : FuncId} {args : Array Value} {w W : World} {Q : Ending → World → Prop} {α β : Type} {d : Kd α} {d' : Kd β} {e e' : Nat} {xs : List α} {ys : List β} {f : Value → Value → Value} (c : Calls P F args W fun r w' => ∃ v1 v2, r = .returned (f v1 v2) ∧ Kd.R d e w' W.heap.size (fun _ => True) v1 xs ∧ Kd.R d' e' w' W.heap.size (fun _ => True) v2 ys ∧ Below W.heap.size W w') (B : Aside0 (Below w.heap.size w W))
    (h : ∀ A kk A' kk' W', Below W.heap.size W W' → Aside0 (Below w.heap.size w W') → Aside0 (Ow d e W' w.heap.size (.slice A xs.length kk) xs) → Aside0 (Fr W (.slice A xs.length kk)) → Aside0 (Ow d' e' W' w.heap.size (.slice A' ys.length kk') ys) → Aside0 (Fr W (.slice A' ys.length kk')) → Q (.returned (f (.slice A xs.length kk) (.slice A' ys.length kk'))) W') : Calls P F args W Q :=
  c.mono (by
    rintro r W' ⟨v1, v2, rfl, ho, ho', hb⟩
    obtain ⟨A, kk, rfl⟩ := Kd.R_slice ho
    obtain ⟨A', kk', rfl⟩ := Kd.R_slice ho'
    exact h A kk A' kk' W' hb ⟨below_step B.out hb⟩ ⟨Kd.R_lower ho (below_size B.out)⟩ ⟨fun k hk => Kd.R_base ho k hk⟩ ⟨Kd.R_lower ho' (below_size B.out)⟩ ⟨fun k hk => Kd.R_base ho' k hk⟩)
theorem laws_toState.M (a b : ByteArray) (AP : Option Addr) (cP : Nat) (ps : List S108) (AS : Option Addr) (cS : Nat) (ss : List S112) (t : Bool) (c : ByteArray) (qs : List S61) (us : List S100) (w : World) (hrp : Kd.C k108 w AP ps.length ps) (hrs : Kd.C k112 w AS ss.length ss) (hl : ps.length ≤ 1048576 ∧ ss.length ≤ 1048576) (hqs : ps.map prOf = qs) (hus : ss.map sesOf = us) : Calls Try.prog 13 #[.agg #[.string a, .string b, .slice AP ps.length cP, .slice AS ss.length cS, .bool t, .string c]] w fun e w' => ∃ v2 v3, e = .returned (.agg #[.string a, .string b, v2, v3, .bool t, .string c]) ∧ Kd.R k61 61 w' w.heap.size (fun _ => True) v2 qs ∧ Kd.R k100 100 w' w.heap.size (fun _ => True) v3 us ∧ Below w.heap.size w w' := by
  have B := Aside0.mk (Below.refl w.heap.size w)
  have hu := Try.underlying34
  have hu2 := Try.underlying27
  have HRP := Aside0.mk hrp
  have HRS := Aside0.mk hrs
  have HQS := Aside0.mk hqs
  have HUS := Aside0.mk hus
  obtain ⟨hl1, hl2⟩ := hl
  clear hrp hrs hqs hus
  go_enter Try.func13, Try.ntmps13
  go_wp2_with (first
    | ((with_reducible refine gate_dst (N := 1) rfl ?_); refine bx ?hg (N := 1) ?hd (cs := #[.string a, .string b, .slice AP ps.length cP, .slice AS ss.length cS, .bool t, .string c]) (t := 27) ?hr B ?_; (case hd => rfl); (case hg => rfl); (case hr => first | (go_simp; done) | (go_simp; rfl)); intro g1 w1 hb B F1 L1 E1; obtain ⟨c1_0, c1_1, c1_2, c1_3, c1_4, c1_5⟩ := cs6 F1; clear hb E1)
    | ((with_reducible refine gate_dst (N := 2) rfl ?_); refine bx ?hg (N := 2) ?hd (cs := #[.string (⟨#[]⟩ : ByteArray), .string (⟨#[]⟩ : ByteArray), .slice none 0 0, .slice none 0 0, .bool false, .string (⟨#[]⟩ : ByteArray)]) (t := 34) ?hr B ?_; (case hd => rfl); (case hg => rfl); (case hr => first | (go_simp; done) | (go_simp; rfl)); intro g2 w2 hb B F2 L2 E2; have N1_2 := ne1 E2 F1; replace F1 := bn F1 hb; clear c1_0 c1_1 c1_2 c1_3 c1_4 c1_5; obtain ⟨c1_0, c1_1, c1_2, c1_3, c1_4, c1_5⟩ := cs6 F1; clear hb E2)
    | ((with_reducible refine gate_dst (N := 3) rfl ?_); refine bx ?hg (N := 3) ?hd (cs := #[.string (⟨#[]⟩ : ByteArray), .string (⟨#[]⟩ : ByteArray), .slice none 0 0, .slice none 0 0, .bool false, .string (⟨#[]⟩ : ByteArray)]) (t := 34) ?hr B ?_; (case hd => rfl); (case hg => rfl); (case hr => first | (go_simp; done) | (go_simp; rfl)); intro g3 w3 hb B F3 L3 E3; have N1_3 := ne1 E3 F1; have N2_3 := ne1 E3 F2; replace F1 := bn F1 hb; replace F2 := bn F2 hb; clear c1_0 c1_1 c1_2 c1_3 c1_4 c1_5; obtain ⟨c1_0, c1_1, c1_2, c1_3, c1_4, c1_5⟩ := cs6 F1; obtain ⟨c3_0, c3_1, c3_2, c3_3, c3_4, c3_5⟩ := cs6 F3; clear hb E3)
    | (go_at_call 52; with_reducible refine cl (laws_toInterval.M a b _) B fun w4 hb B => ?_; replace F1 := bn F1 hb; replace F2 := bn F2 hb; replace F3 := bn F3 hb; clear c1_0 c1_1 c1_2 c1_3 c1_4 c1_5; obtain ⟨c1_0, c1_1, c1_2, c1_3, c1_4, c1_5⟩ := cs6 F1; clear c3_0 c3_1 c3_2 c3_3 c3_4 c3_5; obtain ⟨c3_0, c3_1, c3_2, c3_3, c3_4, c3_5⟩ := cs6 F3; clear hb)
    | ((with_reducible refine gate_store (t := 30) (p := 7) rfl ?_); obtain ⟨y0, y1, y2, y3, y4, y5⟩ := cs6 F3; have z0 := fz F3 0; have z1 := fz F3 1; have z2 := fz F3 2; have z3 := fz F3 3; have z4 := fz F3 4; have z5 := fz F3 5; refine sx (t := 34) (t' := 30) (p := 7) (v := ?vo5) ?hg ?ho ?hn 0 [.string a, .string b] [.string a, .string b, .slice none 0 0, .slice none 0 0, .bool false, .string (⟨#[]⟩ : ByteArray)] ?hr B F3 L3 rfl (Nat.le_of_ble_eq_true rfl) ?_; (case ho => rfl); (case hg => rfl); (case hn => rfl); (case hr => first | (go_simp; done) | (go_simp; rfl)); intro w5 hk B G; replace F1 := bk F1 hk N1_3.out; replace F2 := bk F2 hk N2_3.out; replace F3 := G; clear c1_0 c1_1 c1_2 c1_3 c1_4 c1_5; obtain ⟨c1_0, c1_1, c1_2, c1_3, c1_4, c1_5⟩ := cs6 F1; clear c3_0 c3_1 c3_2 c3_3 c3_4 c3_5; obtain ⟨c3_0, c3_1, c3_2, c3_3, c3_4, c3_5⟩ := cs6 F3; clear hk y0 z0 y1 z1 y2 z2 y3 z3 y4 z4 y5 z5)
    | (go_at_call 53; with_reducible refine cr (laws_toPairS.M _ _ ps qs _ (cb HRP B) (by omega) HQS.out) B fun AP6 kP6 w6 hb B RP6 QP6 => ?_; replace F1 := bn F1 hb; replace F2 := bn F2 hb; replace F3 := bn F3 hb; clear QP6; clear c1_0 c1_1 c1_2 c1_3 c1_4 c1_5; obtain ⟨c1_0, c1_1, c1_2, c1_3, c1_4, c1_5⟩ := cs6 F1; clear c3_0 c3_1 c3_2 c3_3 c3_4 c3_5; obtain ⟨c3_0, c3_1, c3_2, c3_3, c3_4, c3_5⟩ := cs6 F3; clear hb)
    | ((with_reducible refine gate_store (t := 31) (p := 11) rfl ?_); obtain ⟨y0, y1, y2, y3, y4, y5⟩ := cs6 F3; have z0 := fz F3 0; have z1 := fz F3 1; have z2 := fz F3 2; have z3 := fz F3 3; have z4 := fz F3 4; have z5 := fz F3 5; refine sx (t := 34) (t' := 31) (p := 11) (v := ?vo7) ?hg ?ho ?hn 2 [.slice AP6 qs.length kP6] [.string a, .string b, .slice AP6 qs.length kP6, .slice none 0 0, .bool false, .string (⟨#[]⟩ : ByteArray)] ?hr B F3 L3 rfl (Nat.le_of_ble_eq_true rfl) ?_; (case ho => rfl); (case hg => rfl); (case hn => rfl); (case hr => first | (go_simp; done) | (go_simp; rfl)); intro w7 hk B G; replace F1 := bk F1 hk N1_3.out; replace F2 := bk F2 hk N2_3.out; replace RP6 := rk RP6 F3 (by decide) hk; replace F3 := G; clear c1_0 c1_1 c1_2 c1_3 c1_4 c1_5; obtain ⟨c1_0, c1_1, c1_2, c1_3, c1_4, c1_5⟩ := cs6 F1; clear c3_0 c3_1 c3_2 c3_3 c3_4 c3_5; obtain ⟨c3_0, c3_1, c3_2, c3_3, c3_4, c3_5⟩ := cs6 F3; clear hk y0 z0 y1 z1 y2 z2 y3 z3 y4 z4 y5 z5)
    | (go_at_call 54; with_reducible refine cr (laws_toSessionS.M _ _ ss us _ (cb HRS B) (by omega) HUS.out) B fun AS8 kS8 w8 hb B RS8 QS8 => ?_; replace F1 := bn F1 hb; replace F2 := bn F2 hb; replace F3 := bn F3 hb; replace RP6 := rn RP6 hb; clear QS8; clear c1_0 c1_1 c1_2 c1_3 c1_4 c1_5; obtain ⟨c1_0, c1_1, c1_2, c1_3, c1_4, c1_5⟩ := cs6 F1; clear c3_0 c3_1 c3_2 c3_3 c3_4 c3_5; obtain ⟨c3_0, c3_1, c3_2, c3_3, c3_4, c3_5⟩ := cs6 F3; clear hb)
    | ((with_reducible refine gate_store (t := 32) (p := 15) rfl ?_); obtain ⟨y0, y1, y2, y3, y4, y5⟩ := cs6 F3; have z0 := fz F3 0; have z1 := fz F3 1; have z2 := fz F3 2; have z3 := fz F3 3; have z4 := fz F3 4; have z5 := fz F3 5; refine sx (t := 34) (t' := 32) (p := 15) (v := ?vo9) ?hg ?ho ?hn 3 [.slice AS8 us.length kS8] [.string a, .string b, .slice AP6 qs.length kP6, .slice AS8 us.length kS8, .bool false, .string (⟨#[]⟩ : ByteArray)] ?hr B F3 L3 rfl (Nat.le_of_ble_eq_true rfl) ?_; (case ho => rfl); (case hg => rfl); (case hn => rfl); (case hr => first | (go_simp; done) | (go_simp; rfl)); intro w9 hk B G; replace F1 := bk F1 hk N1_3.out; replace F2 := bk F2 hk N2_3.out; replace RP6 := rk RP6 F3 (by decide) hk; replace RS8 := rk RS8 F3 (by decide) hk; replace F3 := G; clear c1_0 c1_1 c1_2 c1_3 c1_4 c1_5; obtain ⟨c1_0, c1_1, c1_2, c1_3, c1_4, c1_5⟩ := cs6 F1; clear c3_0 c3_1 c3_2 c3_3 c3_4 c3_5; obtain ⟨c3_0, c3_1, c3_2, c3_3, c3_4, c3_5⟩ := cs6 F3; clear hk y0 z0 y1 z1 y2 z2 y3 z3 y4 z4 y5 z5)
    | ((with_reducible refine gate_store (t := 4) (p := 18) rfl ?_); obtain ⟨y0, y1, y2, y3, y4, y5⟩ := cs6 F3; have z0 := fz F3 0; have z1 := fz F3 1; have z2 := fz F3 2; have z3 := fz F3 3; have z4 := fz F3 4; have z5 := fz F3 5; refine sx (t := 34) (t' := 4) (p := 18) (v := ?vo10) ?hg ?ho ?hn 4 [.bool t] [.string a, .string b, .slice AP6 qs.length kP6, .slice AS8 us.length kS8, .bool t, .string (⟨#[]⟩ : ByteArray)] ?hr B F3 L3 rfl (Nat.le_of_ble_eq_true rfl) ?_; (case ho => rfl); (case hg => rfl); (case hn => rfl); (case hr => first | (go_simp; done) | (go_simp; rfl)); intro w10 hk B G; replace F1 := bk F1 hk N1_3.out; replace F2 := bk F2 hk N2_3.out; replace RP6 := rk RP6 F3 (by decide) hk; replace RS8 := rk RS8 F3 (by decide) hk; replace F3 := G; clear c1_0 c1_1 c1_2 c1_3 c1_4 c1_5; obtain ⟨c1_0, c1_1, c1_2, c1_3, c1_4, c1_5⟩ := cs6 F1; clear c3_0 c3_1 c3_2 c3_3 c3_4 c3_5; obtain ⟨c3_0, c3_1, c3_2, c3_3, c3_4, c3_5⟩ := cs6 F3; clear hk y0 z0 y1 z1 y2 z2 y3 z3 y4 z4 y5 z5)
    | ((with_reducible refine gate_store (t := 9) (p := 21) rfl ?_); obtain ⟨y0, y1, y2, y3, y4, y5⟩ := cs6 F3; have z0 := fz F3 0; have z1 := fz F3 1; have z2 := fz F3 2; have z3 := fz F3 3; have z4 := fz F3 4; have z5 := fz F3 5; refine sx (t := 34) (t' := 9) (p := 21) (v := ?vo11) ?hg ?ho ?hn 5 [.string c] [.string a, .string b, .slice AP6 qs.length kP6, .slice AS8 us.length kS8, .bool t, .string c] ?hr B F3 L3 rfl (Nat.le_of_ble_eq_true rfl) ?_; (case ho => rfl); (case hg => rfl); (case hn => rfl); (case hr => first | (go_simp; done) | (go_simp; rfl)); intro w11 hk B G; replace F2 := bk F2 hk N2_3.out; replace RP6 := rk RP6 F3 (by decide) hk; replace RS8 := rk RS8 F3 (by decide) hk; replace F3 := G; clear c3_0 c3_1 c3_2 c3_3 c3_4 c3_5; obtain ⟨c3_0, c3_1, c3_2, c3_3, c3_4, c3_5⟩ := cs6 F3; clear hk y0 z0 y1 z1 y2 z2 y3 z3 y4 z4 y5 z5)
    | ((with_reducible refine gate_store (t := 34) (p := 2) rfl ?_); obtain ⟨y0, y1, y2, y3, y4, y5⟩ := cs6 F2; have z0 := fz F2 0; have z1 := fz F2 1; have z2 := fz F2 2; have z3 := fz F2 3; have z4 := fz F2 4; have z5 := fz F2 5; refine sx (t := 34) (t' := 34) (p := 2) (v := ?vo12) ?hg ?ho ?hn 0 [.string a, .string b, .slice AP6 qs.length kP6, .slice AS8 us.length kS8, .bool t, .string c] [.string a, .string b, .slice AP6 qs.length kP6, .slice AS8 us.length kS8, .bool t, .string c] ?hr B F2 L2 rfl (Nat.le_of_ble_eq_true rfl) ?_; (case ho => rfl); (case hg => rfl); (case hn => rfl); (case hr => first | (go_simp; done) | (go_simp; rfl)); intro w12 hk B G; replace RP6 := rk RP6 F2 (by decide) hk; replace RS8 := rk RS8 F2 (by decide) hk; replace F2 := G; clear hk y0 z0 y1 z1 y2 z2 y3 z3 y4 z4 y5 z5))
  refine bodyPost_ret (results_single rfl (.cell g2 34 _ (0, 0) _ rfl F2.out hu rfl (by kernel_rfl) .nil)) rfl ?_
  exact ⟨_, _, rfl, RP6.out, RS8.out, B.out⟩

theorem laws_eqInterval.M (x0 : ByteArray) (x1 : ByteArray) (w : World) : Calls Try.prog 60 #[.agg #[.string x0, .string x1], .agg #[.string x0, .string x1]] w fun e w' => e = .returned (.bool true) ∧ Below w.heap.size w w' := by
  have B := Aside0.mk (Below.refl w.heap.size w)
  have hu := Try.underlying30
  go_enter Try.func60, Try.ntmps60
  go_wp2_with (first
    | ((with_reducible refine gate_dst (N := 2) rfl ?_); refine bx ?hg (N := 2) ?hd (cs := #[.string x0, .string x1]) (t := 30) ?hr B ?_; (case hd => rfl); (case hg => rfl); (case hr => first | (go_simp; done) | (go_simp; rfl)); intro g2 w1 hb B F2 L2 E2; obtain ⟨c2_0, c2_1⟩ := cs2 F2; clear hb E2)
    | ((with_reducible refine gate_dst (N := 3) rfl ?_); refine bx ?hg (N := 3) ?hd (cs := #[.string x0, .string x1]) (t := 30) ?hr B ?_; (case hd => rfl); (case hg => rfl); (case hr => first | (go_simp; done) | (go_simp; rfl)); intro g3 w2 hb B F3 L3 E3; replace F2 := bn F2 hb; clear c2_0 c2_1; obtain ⟨c2_0, c2_1⟩ := cs2 F2; obtain ⟨c3_0, c3_1⟩ := cs2 F3; clear hb E3))
  all_goals go_ret
  all_goals (refine ⟨?_, B.out⟩; first | rfl | simp_all)
theorem laws_eqPair.M (x0 : ByteArray) (x1 : Int) (w : World) : Calls Try.prog 67 #[.agg #[.string x0, .int .i64 (x1)], .agg #[.string x0, .int .i64 (x1)]] w fun e w' => e = .returned (.bool true) ∧ Below w.heap.size w w' := by
  have B := Aside0.mk (Below.refl w.heap.size w)
  have hu := Try.underlying61
  go_enter Try.func67, Try.ntmps67
  go_wp2_with (first
    | ((with_reducible refine gate_dst (N := 2) rfl ?_); refine bx ?hg (N := 2) ?hd (cs := #[.string x0, .int .i64 (x1)]) (t := 61) ?hr B ?_; (case hd => rfl); (case hg => rfl); (case hr => first | (go_simp; done) | (go_simp; rfl)); intro g2 w1 hb B F2 L2 E2; obtain ⟨c2_0, c2_1⟩ := cs2 F2; clear hb E2)
    | ((with_reducible refine gate_dst (N := 3) rfl ?_); refine bx ?hg (N := 3) ?hd (cs := #[.string x0, .int .i64 (x1)]) (t := 61) ?hr B ?_; (case hd => rfl); (case hg => rfl); (case hr => first | (go_simp; done) | (go_simp; rfl)); intro g3 w2 hb B F3 L3 E3; replace F2 := bn F2 hb; clear c2_0 c2_1; obtain ⟨c2_0, c2_1⟩ := cs2 F2; obtain ⟨c3_0, c3_1⟩ := cs2 F3; clear hb E3))
  all_goals go_ret
  all_goals (refine ⟨?_, B.out⟩; first | rfl | simp_all)
def laws_eqPairS.T6 : Bool × List (List Nat × List Nat) := (true, [([], []), ([], []), ([0, 1], [0, 1]), ([2], [2]), ([], []), ([], []), ([4, 5], [4, 5]), ([6], [6]), ([3, 7], [3, 7]), ([8], [8])])
def laws_eqPairS.B6 : List Nat := [0, 0, 3, 7, 0, 0, 48, 112, 255, 511]
theorem laws_eqPairS.tab6 : rtab .any (opsOf Try.f22 6) = laws_eqPairS.T6 := by kernel_rfl
theorem laws_eqPairS.bits6 : waitsOk laws_eqPairS.T6.2 laws_eqPairS.B6 = true := by kernel_rfl
theorem laws_eqPairS.M (A0 : Option Addr) (c0 : Nat) (A1 : Option Addr) (c1 : Nat) (l : List S61) (w : World) (hr0 : Kd.C k61 w A0 l.length l) (hr1 : Kd.C k61 w A1 l.length l) : Calls Try.prog 22 #[.slice A0 l.length c0, .slice A1 l.length c1] w fun e w' => e = .returned (.bool true) ∧ Below w.heap.size w w' := by
  have B := Aside0.mk (Below.refl w.heap.size w)
  have hu := Try.underlying61
  have HR0 := Aside0.mk hr0
  have HR1 := Aside0.mk hr1
  have L48 := Aside0.mk hr0.2.1
  clear hr0 hr1
  go_enter Try.func22, Try.ntmps22
  go_wp2
  go_loopg [5] (l.length + 1) (fun kx v5 wr => ∃ j : Nat, v5 = .int .i64 (j : Int) ∧ j ≤ l.length ∧ l.length < j + kx ∧ Aside0 (Below w.heap.size w wr))
  case atStart => exact ⟨0, rfl, by omega, by omega, B⟩
  case round =>
    clear B
    obtain ⟨j, rfl, hj, hk, B⟩ := hrel
    have h48 := L48.out
    by_cases hlt : j < l.length
    · obtain ⟨d, rfl⟩ : ∃ d, gk = d + 1 := ⟨gk - 1, by omega⟩
      have cj : decide ((j : Int) < (l.length : Int)) = true := decide_eq_true (by omega)
      obtain ⟨ad, hA, _⟩ := at_T61 (cb HR0 B) (j : Int) (by omega) (by omega)
      cases hA
      obtain ⟨bd, hA, _⟩ := at_T61 (cb HR1 B) (j : Int) (by omega) (by omega)
      cases hA
      have j1 := eq_true (show (j : Int) < (l.length : Int) by omega)
      have j2 := eq_true hlt
      generalize hy : rd_T61 l (j : Int) = y
      try go_wp2
      all_goals (
        refine rg (n := 10) (S := fun W => Kd.C k61 W (some ad) l.length l ∧ Kd.C k61 W (some bd) l.length l) (ds := []) #[false, false, false, false, false, false, false, false, false, false] (by kernel_rfl) rfl rfl ⟨(cb HR0 B), (cb HR1 B)⟩ id B (fun w1 hb B hHeld => ?_)
        refine with_tabW laws_eqPairS.tab6 laws_eqPairS.bits6 (fun HT_ HW_ => ?_)
        clear hb
        refine pu (i := 0) (N := some 17) (v := ?_) (bits 10 1) rfl rfl (any_of HT_.out (by kernel_rfl)) (fun _ _ _ h => h) (by kernel_rfl) ?_ ?_; rotate_left; (intro w'; go_simp; with_reducible rfl)
        refine pu (i := 1) (N := some 18) (v := ?_) (bits 10 3) rfl rfl (any_of HT_.out (by kernel_rfl)) (fun _ _ _ h => h) (by kernel_rfl) ?_ ?_; rotate_left; (intro w'; go_simp; with_reducible rfl)
        refine pu (i := 2) (N := some 19) (v := ?_) (bits 10 7) rfl rfl (any_of HT_.out (by kernel_rfl)) (fun _ _ _ h => h) (by kernel_rfl) ?_ ?_; rotate_left; (intro w'; go_simp; with_reducible rfl)
        refine ta (i := 3) (N := some 20) (v := ?_) (bits 10 15) rfl rfl (take_ofW HT_.out HW_.out (by kernel_rfl)) (fun _ _ _ h => h) (by kernel_rfl) hHeld ?_ ?_; rotate_left; (intro w' hS; obtain ⟨s0, s1⟩ := hS; obtain ⟨_, hA, q0, q1⟩ := at_T61 s0 (j : Int) (by omega) (by omega); cases hA; rw [Int.toNat_natCast] at q0 q1; rw [hy] at q0 q1; go_simp; with_reducible rfl)
        refine pu (i := 4) (N := some 21) (v := ?_) (bits 10 31) rfl rfl (any_of HT_.out (by kernel_rfl)) (fun _ _ _ h => h) (by kernel_rfl) ?_ ?_; rotate_left; (intro w'; go_simp; with_reducible rfl)
        refine pu (i := 5) (N := some 22) (v := ?_) (bits 10 63) rfl rfl (any_of HT_.out (by kernel_rfl)) (fun _ _ _ h => h) (by kernel_rfl) ?_ ?_; rotate_left; (intro w'; go_simp; with_reducible rfl)
        refine pu (i := 6) (N := some 23) (v := ?_) (bits 10 127) rfl rfl (any_of HT_.out (by kernel_rfl)) (fun _ _ _ h => h) (by kernel_rfl) ?_ ?_; rotate_left; (intro w'; go_simp; with_reducible rfl)
        refine ta (i := 7) (N := some 24) (v := ?_) (bits 10 255) rfl rfl (take_ofW HT_.out HW_.out (by kernel_rfl)) (fun _ _ _ h => h) (by kernel_rfl) hHeld ?_ ?_; rotate_left; (intro w' hS; obtain ⟨s0, s1⟩ := hS; obtain ⟨_, hA, q0, q1⟩ := at_T61 s1 (j : Int) (by omega) (by omega); cases hA; rw [Int.toNat_natCast] at q0 q1; rw [hy] at q0 q1; go_simp; with_reducible rfl)
        refine norm_ (a' := ?_) ?_ ?_
        rotate_left
        · simp only [Act.put, List.setIfInBounds_toArray, List.set_cons_zero, List.set_cons_succ, i64_w, i32_w]
          rfl
        refine one_ (i := 8) (N := some 25) (bits 10 511) rfl rfl (one_of HT_.out (by kernel_rfl)) (by decide) (fun K hK => ?_)
        refine goes_ Try.func67 (by kernel_rfl) rfl #[.agg #[.string y.f0, .int .i64 (y.f1)], .agg #[.string y.f0, .int .i64 (y.f1)]] (by rfl) rfl rfl (by (try simp only [List.map_toArray, List.map_cons, List.map_nil]); rfl) ?_
        with_reducible refine cl (laws_eqPair.M y.f0 y.f1 _) B fun w2 hb B => ?_
        clear hb
        refine ⟨_, rfl, ?_⟩
        refine hK.out _ _ ⟨(cb HR0 B), (cb HR1 B)⟩ (fun hHeld => ?_)
        clear hK K
        refine norm_ (a' := ?_) ?_ ?_
        rotate_left
        · show Act.put _ (some 25) _ = _
          simp only [Act.put, List.setIfInBounds_toArray, List.set_cons_zero, List.set_cons_succ, i64_w, i32_w]
          rfl
        refine pu (i := 9) (N := some 26) (v := ?_) (bits 10 1023) rfl rfl (any_of HT_.out (by kernel_rfl)) (fun _ _ _ h => h) (by kernel_rfl) ?_ ?_; rotate_left; (intro w'; go_simp; with_reducible rfl)
        refine norm_ (a' := ?_) ?_ ?_
        rotate_left
        · simp only [Act.put, List.setIfInBounds_toArray, List.set_cons_zero, List.set_cons_succ, i64_w, i32_w]
          rfl
        refine done_ (done_of HT_.out (by kernel_rfl)) ?_
        try go_wp2
        go_roundg d
        case measure => omega
        case rel => exact ⟨j + 1, congrArg (Value.int .i64) (Int.natCast_succ _).symm, by omega, by omega, B⟩)
      all_goals try go_wp2
    · have cj : decide ((j : Int) < (l.length : Int)) = false := decide_eq_false (by omega)
      go_wp2
      go_ret
      exact ⟨rfl, B.out⟩
theorem laws_eqSession.M (x0 : Int) (x1 : Int) (x2 : Int) (w : World) : Calls Try.prog 96 #[.agg #[.int .i64 (x0), .int .i64 (x1), .int .i64 (x2)], .agg #[.int .i64 (x0), .int .i64 (x1), .int .i64 (x2)]] w fun e w' => e = .returned (.bool true) ∧ Below w.heap.size w w' := by
  have B := Aside0.mk (Below.refl w.heap.size w)
  have hu := Try.underlying100
  go_enter Try.func96, Try.ntmps96
  go_wp2_with (first
    | ((with_reducible refine gate_dst (N := 2) rfl ?_); refine bx ?hg (N := 2) ?hd (cs := #[.int .i64 (x0), .int .i64 (x1), .int .i64 (x2)]) (t := 100) ?hr B ?_; (case hd => rfl); (case hg => rfl); (case hr => first | (go_simp; done) | (go_simp; rfl)); intro g2 w1 hb B F2 L2 E2; obtain ⟨c2_0, c2_1, c2_2⟩ := cs3 F2; clear hb E2)
    | ((with_reducible refine gate_dst (N := 3) rfl ?_); refine bx ?hg (N := 3) ?hd (cs := #[.int .i64 (x0), .int .i64 (x1), .int .i64 (x2)]) (t := 100) ?hr B ?_; (case hd => rfl); (case hg => rfl); (case hr => first | (go_simp; done) | (go_simp; rfl)); intro g3 w2 hb B F3 L3 E3; replace F2 := bn F2 hb; clear c2_0 c2_1 c2_2; obtain ⟨c2_0, c2_1, c2_2⟩ := cs3 F2; obtain ⟨c3_0, c3_1, c3_2⟩ := cs3 F3; clear hb E3))
  all_goals go_ret
  all_goals (refine ⟨?_, B.out⟩; first | rfl | simp_all)
def laws_eqSessionS.T6 : Bool × List (List Nat × List Nat) := (true, [([], []), ([], []), ([0, 1], [0, 1]), ([2], [2]), ([], []), ([], []), ([4, 5], [4, 5]), ([6], [6]), ([3, 7], [3, 7]), ([8], [8])])
def laws_eqSessionS.B6 : List Nat := [0, 0, 3, 7, 0, 0, 48, 112, 255, 511]
theorem laws_eqSessionS.tab6 : rtab .any (opsOf Try.f61 6) = laws_eqSessionS.T6 := by kernel_rfl
theorem laws_eqSessionS.bits6 : waitsOk laws_eqSessionS.T6.2 laws_eqSessionS.B6 = true := by kernel_rfl
theorem laws_eqSessionS.M (A0 : Option Addr) (c0 : Nat) (A1 : Option Addr) (c1 : Nat) (l : List S100) (w : World) (hr0 : Kd.C k100 w A0 l.length l) (hr1 : Kd.C k100 w A1 l.length l) : Calls Try.prog 61 #[.slice A0 l.length c0, .slice A1 l.length c1] w fun e w' => e = .returned (.bool true) ∧ Below w.heap.size w w' := by
  have B := Aside0.mk (Below.refl w.heap.size w)
  have hu := Try.underlying100
  have HR0 := Aside0.mk hr0
  have HR1 := Aside0.mk hr1
  have L48 := Aside0.mk hr0.2.1
  clear hr0 hr1
  go_enter Try.func61, Try.ntmps61
  go_wp2
  go_loopg [5] (l.length + 1) (fun kx v5 wr => ∃ j : Nat, v5 = .int .i64 (j : Int) ∧ j ≤ l.length ∧ l.length < j + kx ∧ Aside0 (Below w.heap.size w wr))
  case atStart => exact ⟨0, rfl, by omega, by omega, B⟩
  case round =>
    clear B
    obtain ⟨j, rfl, hj, hk, B⟩ := hrel
    have h48 := L48.out
    by_cases hlt : j < l.length
    · obtain ⟨d, rfl⟩ : ∃ d, gk = d + 1 := ⟨gk - 1, by omega⟩
      have cj : decide ((j : Int) < (l.length : Int)) = true := decide_eq_true (by omega)
      obtain ⟨ad, hA, _⟩ := at_T100 (cb HR0 B) (j : Int) (by omega) (by omega)
      cases hA
      obtain ⟨bd, hA, _⟩ := at_T100 (cb HR1 B) (j : Int) (by omega) (by omega)
      cases hA
      have j1 := eq_true (show (j : Int) < (l.length : Int) by omega)
      have j2 := eq_true hlt
      generalize hy : rd_T100 l (j : Int) = y
      try go_wp2
      all_goals (
        refine rg (n := 10) (S := fun W => Kd.C k100 W (some ad) l.length l ∧ Kd.C k100 W (some bd) l.length l) (ds := []) #[false, false, false, false, false, false, false, false, false, false] (by kernel_rfl) rfl rfl ⟨(cb HR0 B), (cb HR1 B)⟩ id B (fun w1 hb B hHeld => ?_)
        refine with_tabW laws_eqSessionS.tab6 laws_eqSessionS.bits6 (fun HT_ HW_ => ?_)
        clear hb
        refine pu (i := 0) (N := some 17) (v := ?_) (bits 10 1) rfl rfl (any_of HT_.out (by kernel_rfl)) (fun _ _ _ h => h) (by kernel_rfl) ?_ ?_; rotate_left; (intro w'; go_simp; with_reducible rfl)
        refine pu (i := 1) (N := some 18) (v := ?_) (bits 10 3) rfl rfl (any_of HT_.out (by kernel_rfl)) (fun _ _ _ h => h) (by kernel_rfl) ?_ ?_; rotate_left; (intro w'; go_simp; with_reducible rfl)
        refine pu (i := 2) (N := some 19) (v := ?_) (bits 10 7) rfl rfl (any_of HT_.out (by kernel_rfl)) (fun _ _ _ h => h) (by kernel_rfl) ?_ ?_; rotate_left; (intro w'; go_simp; with_reducible rfl)
        refine ta (i := 3) (N := some 20) (v := ?_) (bits 10 15) rfl rfl (take_ofW HT_.out HW_.out (by kernel_rfl)) (fun _ _ _ h => h) (by kernel_rfl) hHeld ?_ ?_; rotate_left; (intro w' hS; obtain ⟨s0, s1⟩ := hS; obtain ⟨_, hA, q0, q1, q2⟩ := at_T100 s0 (j : Int) (by omega) (by omega); cases hA; rw [Int.toNat_natCast] at q0 q1 q2; rw [hy] at q0 q1 q2; go_simp; with_reducible rfl)
        refine pu (i := 4) (N := some 21) (v := ?_) (bits 10 31) rfl rfl (any_of HT_.out (by kernel_rfl)) (fun _ _ _ h => h) (by kernel_rfl) ?_ ?_; rotate_left; (intro w'; go_simp; with_reducible rfl)
        refine pu (i := 5) (N := some 22) (v := ?_) (bits 10 63) rfl rfl (any_of HT_.out (by kernel_rfl)) (fun _ _ _ h => h) (by kernel_rfl) ?_ ?_; rotate_left; (intro w'; go_simp; with_reducible rfl)
        refine pu (i := 6) (N := some 23) (v := ?_) (bits 10 127) rfl rfl (any_of HT_.out (by kernel_rfl)) (fun _ _ _ h => h) (by kernel_rfl) ?_ ?_; rotate_left; (intro w'; go_simp; with_reducible rfl)
        refine ta (i := 7) (N := some 24) (v := ?_) (bits 10 255) rfl rfl (take_ofW HT_.out HW_.out (by kernel_rfl)) (fun _ _ _ h => h) (by kernel_rfl) hHeld ?_ ?_; rotate_left; (intro w' hS; obtain ⟨s0, s1⟩ := hS; obtain ⟨_, hA, q0, q1, q2⟩ := at_T100 s1 (j : Int) (by omega) (by omega); cases hA; rw [Int.toNat_natCast] at q0 q1 q2; rw [hy] at q0 q1 q2; go_simp; with_reducible rfl)
        refine norm_ (a' := ?_) ?_ ?_
        rotate_left
        · simp only [Act.put, List.setIfInBounds_toArray, List.set_cons_zero, List.set_cons_succ, i64_w, i32_w]
          rfl
        refine one_ (i := 8) (N := some 25) (bits 10 511) rfl rfl (one_of HT_.out (by kernel_rfl)) (by decide) (fun K hK => ?_)
        refine goes_ Try.func96 (by kernel_rfl) rfl #[.agg #[.int .i64 (y.f0), .int .i64 (y.f1), .int .i64 (y.f2)], .agg #[.int .i64 (y.f0), .int .i64 (y.f1), .int .i64 (y.f2)]] (by rfl) rfl rfl (by (try simp only [List.map_toArray, List.map_cons, List.map_nil]); rfl) ?_
        with_reducible refine cl (laws_eqSession.M y.f0 y.f1 y.f2 _) B fun w2 hb B => ?_
        clear hb
        refine ⟨_, rfl, ?_⟩
        refine hK.out _ _ ⟨(cb HR0 B), (cb HR1 B)⟩ (fun hHeld => ?_)
        clear hK K
        refine norm_ (a' := ?_) ?_ ?_
        rotate_left
        · show Act.put _ (some 25) _ = _
          simp only [Act.put, List.setIfInBounds_toArray, List.set_cons_zero, List.set_cons_succ, i64_w, i32_w]
          rfl
        refine pu (i := 9) (N := some 26) (v := ?_) (bits 10 1023) rfl rfl (any_of HT_.out (by kernel_rfl)) (fun _ _ _ h => h) (by kernel_rfl) ?_ ?_; rotate_left; (intro w'; go_simp; with_reducible rfl)
        refine norm_ (a' := ?_) ?_ ?_
        rotate_left
        · simp only [Act.put, List.setIfInBounds_toArray, List.set_cons_zero, List.set_cons_succ, i64_w, i32_w]
          rfl
        refine done_ (done_of HT_.out (by kernel_rfl)) ?_
        try go_wp2
        go_roundg d
        case measure => omega
        case rel => exact ⟨j + 1, congrArg (Value.int .i64) (Int.natCast_succ _).symm, by omega, by omega, B⟩)
      all_goals try go_wp2
    · have cj : decide ((j : Int) < (l.length : Int)) = false := decide_eq_false (by omega)
      go_wp2
      go_ret
      exact ⟨rfl, B.out⟩
theorem laws_eqState.M (a b : ByteArray) (AP : Option Addr) (cP : Nat) (AQ : Option Addr) (cQ : Nat) (ps : List S61) (AS : Option Addr) (cS : Nat) (AU : Option Addr) (cU : Nat) (ss : List S100) (t : Bool) (c : ByteArray) (w : World) (hrp : Kd.C k61 w AP ps.length ps) (hrq : Kd.C k61 w AQ ps.length ps) (hrs : Kd.C k100 w AS ss.length ss) (hru : Kd.C k100 w AU ss.length ss) : Calls Try.prog 15 #[.agg #[.string a, .string b, .slice AP ps.length cP, .slice AS ss.length cS, .bool t, .string c], .agg #[.string a, .string b, .slice AQ ps.length cQ, .slice AU ss.length cU, .bool t, .string c]] w fun e w' => e = .returned (.bool true) ∧ Below w.heap.size w w' := by
  have B := Aside0.mk (Below.refl w.heap.size w)
  have hu := Try.underlying34
  have HRP := Aside0.mk hrp
  have HRQ := Aside0.mk hrq
  have HRS := Aside0.mk hrs
  have HRU := Aside0.mk hru
  clear hrp hrq hrs hru
  go_enter Try.func15, Try.ntmps15
  go_wp2_with (first
    | ((with_reducible refine gate_dst (N := 2) rfl ?_); refine bx ?hg (N := 2) ?hd (cs := #[.string a, .string b, .slice AP ps.length cP, .slice AS ss.length cS, .bool t, .string c]) (t := 34) ?hr B ?_; (case hd => rfl); (case hg => rfl); (case hr => first | (go_simp; done) | (go_simp; rfl)); intro g2 w1 hb B F2 L2 E2; obtain ⟨c2_0, c2_1, c2_2, c2_3, c2_4, c2_5⟩ := cs6 F2; clear hb E2)
    | ((with_reducible refine gate_dst (N := 3) rfl ?_); refine bx ?hg (N := 3) ?hd (cs := #[.string a, .string b, .slice AQ ps.length cQ, .slice AU ss.length cU, .bool t, .string c]) (t := 34) ?hr B ?_; (case hd => rfl); (case hg => rfl); (case hr => first | (go_simp; done) | (go_simp; rfl)); intro g3 w2 hb B F3 L3 E3; replace F2 := bn F2 hb; clear c2_0 c2_1 c2_2 c2_3 c2_4 c2_5; obtain ⟨c2_0, c2_1, c2_2, c2_3, c2_4, c2_5⟩ := cs6 F2; obtain ⟨c3_0, c3_1, c3_2, c3_3, c3_4, c3_5⟩ := cs6 F3; clear hb E3)
    | (go_at_call 60; with_reducible refine cl (laws_eqInterval.M a b _) B fun w3 hb B => ?_; replace F2 := bn F2 hb; replace F3 := bn F3 hb; clear c2_0 c2_1 c2_2 c2_3 c2_4 c2_5; obtain ⟨c2_0, c2_1, c2_2, c2_3, c2_4, c2_5⟩ := cs6 F2; clear c3_0 c3_1 c3_2 c3_3 c3_4 c3_5; obtain ⟨c3_0, c3_1, c3_2, c3_3, c3_4, c3_5⟩ := cs6 F3; clear hb)
    | (go_at_call 22; with_reducible refine cl (laws_eqPairS.M _ _ _ _ ps _ (cb HRP B) (cb HRQ B)) B fun w4 hb B => ?_; replace F2 := bn F2 hb; replace F3 := bn F3 hb; clear c2_0 c2_1 c2_2 c2_3 c2_4 c2_5; obtain ⟨c2_0, c2_1, c2_2, c2_3, c2_4, c2_5⟩ := cs6 F2; clear c3_0 c3_1 c3_2 c3_3 c3_4 c3_5; obtain ⟨c3_0, c3_1, c3_2, c3_3, c3_4, c3_5⟩ := cs6 F3; clear hb)
    | (go_at_call 61; with_reducible refine cl (laws_eqSessionS.M _ _ _ _ ss _ (cb HRS B) (cb HRU B)) B fun w5 hb B => ?_; replace F2 := bn F2 hb; replace F3 := bn F3 hb; clear c2_0 c2_1 c2_2 c2_3 c2_4 c2_5; obtain ⟨c2_0, c2_1, c2_2, c2_3, c2_4, c2_5⟩ := cs6 F2; clear c3_0 c3_1 c3_2 c3_3 c3_4 c3_5; obtain ⟨c3_0, c3_1, c3_2, c3_3, c3_4, c3_5⟩ := cs6 F3; clear hb))
  all_goals go_ret
  all_goals (refine ⟨?_, B.out⟩; first | rfl | simp_all)

def laws_FnExactStateValid.T10 : Bool × List (List Nat × List Nat) := (true, [([], []), ([], []), ([1], [1]), ([0, 2, 2], [0, 2]), ([3], [3])])
def laws_FnExactStateValid.B10 : List Nat := [0, 0, 2, 7, 15]
theorem laws_FnExactStateValid.tab10 : rtab .any (opsOf Try.f3 10) = laws_FnExactStateValid.T10 := by kernel_rfl
theorem laws_FnExactStateValid.bits10 : waitsOk laws_FnExactStateValid.T10.2 laws_FnExactStateValid.B10 = true := by kernel_rfl
theorem laws_FnExactStateValid.M (a b : ByteArray) (AP : Option Addr) (cP : Nat) (ps : List S108) (AS : Option Addr) (cS : Nat) (ss : List S112) (t : Bool) (c : ByteArray) (w : World) (hrp : Kd.C k108 w AP ps.length ps) (hrs : Kd.C k112 w AS ss.length ss) (hs : a.size ≤ 9223372036854775807 ∧ b.size ≤ 9223372036854775807 ∧ c.size ≤ 9223372036854775807 ∧ ∀ y ∈ ps, y.f0.size ≤ 9223372036854775807) : Calls Try.prog 3 #[.agg #[.string a, .string b, .slice AP ps.length cP, .slice AS ss.length cS, .bool t, .string c]] w fun e w' => e = .returned (.bool true) ∧ Below w.heap.size w w' := by
  have B := Aside0.mk (Below.refl w.heap.size w)
  have hu := Try.underlying34
  have hu2 := Try.underlying27
  have HRP := Aside0.mk hrp
  have HRS := Aside0.mk hrs
  have HSA := Aside0.mk hs
  clear hrp hrs hs
  obtain ⟨qs, hqs⟩ : ∃ qs, ps.map prOf = qs := ⟨_, rfl⟩
  obtain ⟨us, hus⟩ : ∃ us, ss.map sesOf = us := ⟨_, rfl⟩
  have HQS := Aside0.mk hqs
  have HUS := Aside0.mk hus
  clear hqs hus
  go_enter Try.func3, Try.ntmps3
  go_wp2_with (first
    | ((with_reducible refine gate_dst (N := 1) rfl ?_); refine bx ?hg (N := 1) ?hd (cs := #[.string a, .string b, .slice AP ps.length cP, .slice AS ss.length cS, .bool t, .string c]) (t := 27) ?hr B ?_; (case hd => rfl); (case hg => rfl); (case hr => first | (go_simp; done) | (go_simp; rfl)); intro g1 w1 hb B F1 L1 E1; obtain ⟨c1_0, c1_1, c1_2, c1_3, c1_4, c1_5⟩ := cs6 F1; clear hb E1)
    | (go_at_call 11; with_reducible refine cx (laws_szState.M a b _ _ ps _ _ ss t c 1048576 w1 (cb HRP B) (cb HRS B) (by omega) HSA.out) B fun v2 hv2 w2 hb B => ?_; replace F1 := bn F1 hb; clear c1_0 c1_1 c1_2 c1_3 c1_4 c1_5; obtain ⟨c1_0, c1_1, c1_2, c1_3, c1_4, c1_5⟩ := cs6 F1; clear hb)
    | (go_at_call 13; with_reducible refine c2r (laws_toState.M a b _ _ ps _ _ ss t c qs us w2 (cb HRP B) (cb HRS B) ⟨by omega, by omega⟩ HQS.out HUS.out) B fun AP3 kP3 AS3 kS3 w3 hb B RP3 QP3 RS3 QS3 => ?_; replace F1 := bn F1 hb; clear QP3 QS3; clear c1_0 c1_1 c1_2 c1_3 c1_4 c1_5; obtain ⟨c1_0, c1_1, c1_2, c1_3, c1_4, c1_5⟩ := cs6 F1; clear hb)
    | (go_at_call 12; with_reducible refine cl (spec_StateValid.M a b _ _ qs _ _ us t c w3 (rc RP3) (rc RS3)) B fun w4 hb B => ?_; replace F1 := bn F1 hb; clear c1_0 c1_1 c1_2 c1_3 c1_4 c1_5; obtain ⟨c1_0, c1_1, c1_2, c1_3, c1_4, c1_5⟩ := cs6 F1; clear hb)
    | (go_at_call 13; with_reducible refine c2r (laws_toState.M a b _ _ ps _ _ ss t c qs us w4 (cb HRP B) (cb HRS B) ⟨by omega, by omega⟩ HQS.out HUS.out) B fun AP5 kP5 AS5 kS5 w5 hb B RP5 QP5 RS5 QS5 => ?_; replace F1 := bn F1 hb; clear QP5 QS5; clear c1_0 c1_1 c1_2 c1_3 c1_4 c1_5; obtain ⟨c1_0, c1_1, c1_2, c1_3, c1_4, c1_5⟩ := cs6 F1; clear hb)
    | ((with_reducible refine gate_dst (N := 5) rfl ?_); refine bx ?hg (N := 5) ?hd (cs := #[.string (⟨#[]⟩ : ByteArray), .string (⟨#[]⟩ : ByteArray), .slice none 0 0, .slice none 0 0, .bool false, .string (⟨#[]⟩ : ByteArray)]) (t := 34) ?hr B ?_; (case hd => rfl); (case hg => rfl); (case hr => first | (go_simp; done) | (go_simp; rfl)); intro g5 w6 hb B F5 L5 E5; have N1_5 := ne1 E5 F1; replace F1 := bn F1 hb; replace RP5 := rn RP5 hb; replace RS5 := rn RS5 hb; clear c1_0 c1_1 c1_2 c1_3 c1_4 c1_5; obtain ⟨c1_0, c1_1, c1_2, c1_3, c1_4, c1_5⟩ := cs6 F1; obtain ⟨c5_0, c5_1, c5_2, c5_3, c5_4, c5_5⟩ := cs6 F5; clear hb E5)
    | ((with_reducible refine gate_store (t := 34) (p := 5) rfl ?_); obtain ⟨y0, y1, y2, y3, y4, y5⟩ := cs6 F5; have z0 := fz F5 0; have z1 := fz F5 1; have z2 := fz F5 2; have z3 := fz F5 3; have z4 := fz F5 4; have z5 := fz F5 5; refine sx (t := 34) (t' := 34) (p := 5) (v := ?vo7) ?hg ?ho ?hn 0 [.string a, .string b, .slice AP5 qs.length kP5, .slice AS5 us.length kS5, .bool t, .string c] [.string a, .string b, .slice AP5 qs.length kP5, .slice AS5 us.length kS5, .bool t, .string c] ?hr B F5 L5 rfl (Nat.le_of_ble_eq_true rfl) ?_; (case ho => rfl); (case hg => rfl); (case hn => rfl); (case hr => first | (go_simp; done) | (go_simp; rfl)); intro w7 hk B G; replace F1 := bk F1 hk N1_5.out; replace RP5 := rk RP5 F5 (by decide) hk; replace RS5 := rk RS5 F5 (by decide) hk; replace F5 := G; clear c1_0 c1_1 c1_2 c1_3 c1_4 c1_5; obtain ⟨c1_0, c1_1, c1_2, c1_3, c1_4, c1_5⟩ := cs6 F1; clear c5_0 c5_1 c5_2 c5_3 c5_4 c5_5; obtain ⟨c5_0, c5_1, c5_2, c5_3, c5_4, c5_5⟩ := cs6 F5; clear hk y0 z0 y1 z1 y2 z2 y3 z3 y4 z4 y5 z5)
    | (go_at_call 14; with_reducible refine cl (impl_StateValid.M a b _ _ qs _ _ us t c w7 (rc RP5) (rc RS5)) B fun w8 hb B => ?_; replace F1 := bn F1 hb; replace F5 := bn F5 hb; replace RP5 := rn RP5 hb; replace RS5 := rn RS5 hb; clear c1_0 c1_1 c1_2 c1_3 c1_4 c1_5; obtain ⟨c1_0, c1_1, c1_2, c1_3, c1_4, c1_5⟩ := cs6 F1; clear c5_0 c5_1 c5_2 c5_3 c5_4 c5_5; obtain ⟨c5_0, c5_1, c5_2, c5_3, c5_4, c5_5⟩ := cs6 F5; clear hb))
  all_goals try (go_ret; exact ⟨rfl, B.out⟩)
  all_goals (
    refine rg (n := 5) (S := fun W => W.heap[g5]? = some (.cells #[.string a, .string b, .slice AP5 qs.length kP5, .slice AS5 us.length kS5, .bool t, .string c] 34 (0, 0)) ∧ W.heap[g1]? = some (.cells #[.string a, .string b, .slice AP ps.length cP, .slice AS ss.length cS, .bool t, .string c] 27 (0, 0))) (ds := []) #[false, false, false, false, false] (by kernel_rfl) rfl rfl ⟨F5.out, F1.out⟩ id B (fun w9 hb B hHeld => ?_)
    refine with_tabW laws_FnExactStateValid.tab10 laws_FnExactStateValid.bits10 (fun HT_ HW_ => ?_)
    replace F1 := bn F1 hb
    replace F5 := bn F5 hb
    replace RP5 := rn RP5 hb
    replace RS5 := rn RS5 hb
    clear hb
    refine ta (i := 0) (N := some 22) (v := ?_) (bits 5 1) rfl rfl (take_ofW HT_.out HW_.out (by kernel_rfl)) (fun _ _ _ h => h) (by kernel_rfl) hHeld ?_ ?_; rotate_left; (intro w' hS; obtain ⟨s0, s1⟩ := hS; obtain ⟨q0, q1, q2, q3, q4, q5⟩ := cs6 (Aside0.mk s0); go_simp; with_reducible rfl)
    refine ta (i := 1) (N := some 23) (v := ?_) (bits 5 3) rfl rfl (take_ofW HT_.out HW_.out (by kernel_rfl)) (fun _ _ _ h => h) (by kernel_rfl) hHeld ?_ ?_; rotate_left; (intro w' hS; obtain ⟨s0, s1⟩ := hS; obtain ⟨q0, q1, q2, q3, q4, q5⟩ := cs6 (Aside0.mk s1); go_simp; with_reducible rfl)
    refine norm_ (a' := ?_) ?_ ?_
    rotate_left
    · simp only [Act.put, List.setIfInBounds_toArray, List.set_cons_zero, List.set_cons_succ, i64_w, i32_w]
      rfl
    refine one_ (i := 2) (N := some 24) (bits 5 7) rfl rfl (one_of HT_.out (by kernel_rfl)) (by decide) (fun K hK => ?_)
    refine goes_ Try.func13 (by kernel_rfl) rfl #[.agg #[.string a, .string b, .slice AP ps.length cP, .slice AS ss.length cS, .bool t, .string c]] (by rfl) rfl rfl (by (try simp only [List.map_toArray, List.map_cons, List.map_nil]); rfl) ?_
    with_reducible refine c2r (laws_toState.M a b _ _ ps _ _ ss t c qs us w9 (cb HRP B) (cb HRS B) ⟨by omega, by omega⟩ HQS.out HUS.out) B fun AP10 kP10 AS10 kS10 w10 hb B RP10 QP10 RS10 QS10 => ?_
    replace F1 := bn F1 hb
    replace F5 := bn F5 hb
    replace RP5 := rn RP5 hb
    replace RS5 := rn RS5 hb
    clear hb
    refine ⟨_, rfl, ?_⟩
    refine hK.out _ _ ⟨F5.out, F1.out⟩ (fun hHeld => ?_)
    clear hK K
    refine norm_ (a' := ?_) ?_ ?_
    rotate_left
    · show Act.put _ (some 24) _ = _
      simp only [Act.put, List.setIfInBounds_toArray, List.set_cons_zero, List.set_cons_succ, i64_w, i32_w]
      rfl
    clear QP10 QS10
    refine one_ (i := 3) (N := some 25) (bits 5 15) rfl rfl (one_of HT_.out (by kernel_rfl)) (by decide) (fun K hK => ?_)
    refine goes_ Try.func15 (by kernel_rfl) rfl #[.agg #[.string a, .string b, .slice AP5 qs.length kP5, .slice AS5 us.length kS5, .bool t, .string c], .agg #[.string a, .string b, .slice AP10 qs.length kP10, .slice AS10 us.length kS10, .bool t, .string c]] (by rfl) rfl rfl (by (try simp only [List.map_toArray, List.map_cons, List.map_nil]); rfl) ?_
    with_reducible refine cl (laws_eqState.M a b _ _ _ _ qs _ _ _ _ us t c w10 (rc RP5) (rc RP10) (rc RS5) (rc RS10)) B fun w11 hb B => ?_
    replace F1 := bn F1 hb
    replace F5 := bn F5 hb
    replace RP5 := rn RP5 hb
    replace RS5 := rn RS5 hb
    clear hb
    refine ⟨_, rfl, ?_⟩
    refine hK.out _ _ ⟨F5.out, F1.out⟩ (fun hHeld => ?_)
    clear hK K
    refine norm_ (a' := ?_) ?_ ?_
    rotate_left
    · show Act.put _ (some 25) _ = _
      simp only [Act.put, List.setIfInBounds_toArray, List.set_cons_zero, List.set_cons_succ, i64_w, i32_w]
      rfl
    refine pu (i := 4) (N := some 26) (v := ?_) (bits 5 31) rfl rfl (any_of HT_.out (by kernel_rfl)) (fun _ _ _ h => h) (by kernel_rfl) ?_ ?_; rotate_left; (intro w'; go_simp; with_reducible rfl)
    refine norm_ (a' := ?_) ?_ ?_
    rotate_left
    · simp only [Act.put, List.setIfInBounds_toArray, List.set_cons_zero, List.set_cons_succ, i64_w, i32_w]
      rfl
    refine done_ (done_of HT_.out (by kernel_rfl)) ?_)
  all_goals try go_wp2
  all_goals try (go_ret; exact ⟨rfl, B.out⟩)
def laws_FnExactStateValid.f (k : Nat) (a b : ByteArray) (ps : List S108) (ss : List S112) (t : Bool) (c : ByteArray) : Option Bool := if a.size ≤ 9223372036854775807 ∧ b.size ≤ 9223372036854775807 ∧ c.size ≤ 9223372036854775807 ∧ ∀ y ∈ ps, y.f0.size ≤ 9223372036854775807 then some true else none
theorem laws_FnExactStateValid.calls (k : Nat) (a b : ByteArray) (AP : Option Addr) (cP : Nat) (ps : List S108) (AS : Option Addr) (cS : Nat) (ss : List S112) (t : Bool) (c : ByteArray) (r : Bool) (w : World) (hrp : Kd.C k108 w AP ps.length ps) (hcp : ps.length ≤ cP) (hrs : Kd.C k112 w AS ss.length ss) (hcs : ss.length ≤ cS) (h : laws_FnExactStateValid.f k a b ps ss t c = some r) : Calls Try.prog 3 #[.agg #[.string a, .string b, .slice AP ps.length cP, .slice AS ss.length cS, .bool t, .string c]] w fun e w' => e = .returned (.bool r) ∧ Below w.heap.size w w' := by
  unfold laws_FnExactStateValid.f at h
  split at h
  · rename_i hc
    obtain rfl := Option.some.inj h
    exact laws_FnExactStateValid.M a b AP cP ps AS cS ss t c w hrp hrs hc
  · cases h

end Go.Proofs.Ytenfiihcdhnamaa.PFnExactStateValid
