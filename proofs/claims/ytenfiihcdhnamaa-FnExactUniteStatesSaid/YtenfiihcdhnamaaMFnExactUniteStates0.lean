/- Walks over models, part 0: base nums rows mat tost c2r tostate tosts szst szsts eqst eqsts markp strs keys sesm marksm markss ivm iv has inside prsm stm smm place ord inm prok getm sputm sjoinm stcutm ij partm unim spairs sses scut sstate nbox drs sparts sunite unil keyval ipairs keyseq ises icut istate iparts iunite. -/
import Derived.Test.YtenfiihcdhnamaaPFnExactUniteStatesx0
import Derived.Deep.RegionHeld3
import Derived.Test.YtenfiihcdhnamaaPFnExactUniteStatesx47
import Derived.Test.YtenfiihcdhnamaaPFnExactUniteStatesx48
import Derived.Test.YtenfiihcdhnamaaPFnExactUniteStatesx50
import Derived.Lib.Strings
import Derived.Laws.BytesArg
namespace Go.Proofs.Ytenfiihcdhnamaa.PFnExactUniteStates
open Go.RowKit Go.Proofs.YtenfiihcdhnamaaW.PrintWords Go.Proofs.YtenfiihcdhnamaaW.PrintLast Go.Proofs.YtenfiihcdhnamaaW.PrintMore
set_option linter.unusedVariables false
set_option linter.unusedSimpArgs false
set_option maxHeartbeats 4000000
set_option maxRecDepth 100000
def bits (n m : Nat) : Array Bool:=((List.range n).map fun i=>m.testBit i).toArray
/-! Words: a call by its contract,boxes and rows carried on. -/
section
variable {P : Program} {F : FuncId} {args : Array Value} {w W W' : World} {v : Value} {Q : Ending→World→Prop}
theorem cl (c : Calls P F args W fun e w'=>e=.returned v∧Below W.heap.size W w') (B : Aside0 (Below w.heap.size w W))
    (h : ∀ W',Below W.heap.size W W'→Aside0 (Below w.heap.size w W')→Q (.returned v) W') : Calls P F args W Q :=
  c.mono (by rintro e W' ⟨rfl,hb⟩;exact h W' hb ⟨below_step B.out hb⟩)
theorem cx {α : Type} {f : α→Value} {p : α→Prop} (c : Calls P F args W fun e w'=>∃ x,e=.returned (f x)∧p x∧Below W.heap.size W w') (B : Aside0 (Below w.heap.size w W))
    (h : ∀ x,p x→∀ W',Below W.heap.size W W'→Aside0 (Below w.heap.size w W')→Q (.returned (f x)) W') : Calls P F args W Q :=
  c.mono (by rintro e W' ⟨x,rfl,hx,hb⟩;exact h x hx W' hb ⟨below_step B.out hb⟩)
theorem clv {v v' : Value} (c : Calls P F args W fun e w'=>e=.returned v∧Below W.heap.size W w') (hv : v=v') : Calls P F args W fun e w'=>e=.returned v'∧Below W.heap.size W w':=hv ▸ c
variable {α β : Type} {d : Kd α} {d' : Kd β} {e e' b : Nat} {xs : List α} {ys : List β} {f : Value→Value}
/-- what a row of a call's own is known by -/
def Ow (d : Kd α) (e : Nat) (W : World) (b : Nat) (v : Value) (xs : List α) : Prop:=Kd.R d e W b (fun _=>True) v xs
/-- the row lies in a block that was not there before -/
def Fr (W : World) (v : Value) : Prop:=∀ k,v.ownBlock=some k→W.heap.size≤k
theorem cr (c : Calls P F args W fun r w'=>∃ v0,r=.returned (f v0)∧Kd.R d e w' W.heap.size (fun _=>True) v0 xs∧Below W.heap.size W w') (B : Aside0 (Below w.heap.size w W))
    (h : ∀ A kk W',Below W.heap.size W W'→Aside0 (Below w.heap.size w W')→Aside0 (Ow d e W' w.heap.size (.slice A xs.length kk) xs)→Aside0 (Fr W (.slice A xs.length kk))→Q (.returned (f (.slice A xs.length kk))) W') : Calls P F args W Q :=
  c.mono (by
    rintro r W' ⟨v0,rfl,ho,hb⟩
    obtain ⟨A,kk,rfl⟩:=Kd.R_slice ho
    exact h A kk W' hb ⟨below_step B.out hb⟩ ⟨Kd.R_lower ho (below_size B.out)⟩ ⟨fun k hk=>Kd.R_base ho k hk⟩)
theorem bn {g : Nat} {o : Obj} (F : Aside0 (W.heap[g]?=some o)) (hb : Below W.heap.size W W') : Aside0 (W'.heap[g]?=some o):=⟨blk_below F.out hb⟩
theorem rn {v : Value} (R : Aside0 (Ow d e W b v xs)) (hb : Below W.heap.size W W') : Aside0 (Ow d e W' b v xs):=⟨Kd.R_below R.out hb⟩
theorem rc {A : Option Addr} {n c : Nat} (R : Aside0 (Ow d e W b (.slice A n c) xs)) : Kd.C d W A xs.length xs:=(Kd.R_reads' R.out).2.2
theorem cb {A : Option Addr} {n : Nat} (H : Aside0 (Kd.C d w A n xs)) (B : Aside0 (Below w.heap.size w W)) : Kd.C d W A n xs:=Kd.C_below H.out B.out
theorem cs2 {g t : Nat} {a b : Value} (F : Aside0 (W.heap[g]?=some (.cells #[a,b] t (0,0)))) : W.cell? ⟨g,0,none⟩=some a∧W.cell? ⟨g,1,none⟩=some b:=⟨(blk_cell F.out 0).trans rfl,(blk_cell F.out 1).trans rfl⟩
theorem cs3 {g t : Nat} {a b c : Value} (F : Aside0 (W.heap[g]?=some (.cells #[a,b,c] t (0,0)))) : W.cell? ⟨g,0,none⟩=some a∧W.cell? ⟨g,1,none⟩=some b∧W.cell? ⟨g,2,none⟩=some c:=⟨(blk_cell F.out 0).trans rfl,(blk_cell F.out 1).trans rfl,(blk_cell F.out 2).trans rfl⟩
theorem cs6 {g t : Nat} {a b c d x y : Value} (F : Aside0 (W.heap[g]?=some (.cells #[a,b,c,d,x,y] t (0,0)))) : W.cell? ⟨g,0,none⟩=some a∧W.cell? ⟨g,1,none⟩=some b∧W.cell? ⟨g,2,none⟩=some c∧W.cell? ⟨g,3,none⟩=some d∧W.cell? ⟨g,4,none⟩=some x∧W.cell? ⟨g,5,none⟩=some y :=
  ⟨(blk_cell F.out 0).trans rfl,(blk_cell F.out 1).trans rfl,(blk_cell F.out 2).trans rfl,(blk_cell F.out 3).trans rfl,(blk_cell F.out 4).trans rfl,(blk_cell F.out 5).trans rfl⟩
theorem fz {g t : Nat} {cs : Array Value} (F : Aside0 (W.heap[g]?=some (.cells cs t (0,0)))) (j : Nat) : W.frozen? ⟨g,j,none⟩=false:=blk_frozen F.out j
theorem cz2 {g t : Nat} {a b : Value} (F : Aside0 (W.heap[g]?=some (.cells #[a,b] t (0,0)))) : W.cell? ⟨g,0,none⟩=some a∧W.cell? ⟨g,1,none⟩=some b∧W.frozen? ⟨g,0,none⟩=false∧W.frozen? ⟨g,1,none⟩=false :=
  ⟨(blk_cell F.out 0).trans rfl,(blk_cell F.out 1).trans rfl,fz F 0,fz F 1⟩
theorem cz3 {g t : Nat} {a b c : Value} (F : Aside0 (W.heap[g]?=some (.cells #[a,b,c] t (0,0)))) : W.cell? ⟨g,0,none⟩=some a∧W.cell? ⟨g,1,none⟩=some b∧W.cell? ⟨g,2,none⟩=some c∧W.frozen? ⟨g,0,none⟩=false∧W.frozen? ⟨g,1,none⟩=false∧W.frozen? ⟨g,2,none⟩=false :=
  ⟨(blk_cell F.out 0).trans rfl,(blk_cell F.out 1).trans rfl,(blk_cell F.out 2).trans rfl,fz F 0,fz F 1,fz F 2⟩
theorem cz6 {g t : Nat} {a b c d x y : Value} (F : Aside0 (W.heap[g]?=some (.cells #[a,b,c,d,x,y] t (0,0)))) : W.cell? ⟨g,0,none⟩=some a∧W.cell? ⟨g,1,none⟩=some b∧W.cell? ⟨g,2,none⟩=some c∧W.cell? ⟨g,3,none⟩=some d∧W.cell? ⟨g,4,none⟩=some x∧W.cell? ⟨g,5,none⟩=some y∧W.frozen? ⟨g,0,none⟩=false∧W.frozen? ⟨g,1,none⟩=false∧W.frozen? ⟨g,2,none⟩=false∧W.frozen? ⟨g,3,none⟩=false∧W.frozen? ⟨g,4,none⟩=false∧W.frozen? ⟨g,5,none⟩=false :=
  ⟨(blk_cell F.out 0).trans rfl,(blk_cell F.out 1).trans rfl,(blk_cell F.out 2).trans rfl,(blk_cell F.out 3).trans rfl,(blk_cell F.out 4).trans rfl,(blk_cell F.out 5).trans rfl,fz F 0,fz F 1,fz F 2,fz F 3,fz F 4,fz F 5⟩
theorem sets_keep (g : Nat) : ∀ (vs : List Value) (j : Nat) (W1 : World),KeepBut W W1 g none→KeepBut W (W1.setCells g j vs) g none
  | [],_,_,h=>h
  | v :: r,j,_,h=>sets_keep g r (j + 1) _ (h.set_ j v)
theorem sets_below (g : Nat) (hg : w.heap.size≤g) : ∀ (vs : List Value) (j : Nat) (W1 : World),Below w.heap.size w W1→Below w.heap.size w (W1.setCells g j vs)
  | [],_,_,h=>h
  | _ :: r,j,_,h=>sets_below g hg r (j + 1) _ (below_set h hg)
theorem sets_blk (g t : Nat) (s : List Value) : ∀ (vs l r : List Value) (W1 : World),r.length=vs.length→W1.heap[g]?=some (.cells (l ++ r ++ s).toArray t (0,0))→(W1.setCells g l.length vs).heap[g]?=some (.cells (l ++ vs ++ s).toArray t (0,0))
  | [],l,r,_,hr,h=>by
    obtain rfl : r=[]:=List.eq_nil_of_length_eq_zero hr
    exact h
  | v :: vs,l,[],_,hr,h=>by cases hr
  | v :: vs,l,x :: r,W1,hr,h=>by
    have:=sets_blk g t s vs (l ++ [v]) r (W1.setCell ⟨g,l.length,none⟩ v) (by simpa using hr) (by
      rw [blk_set h]
      simp)
    simpa [World.setCells] using this
theorem sets_blk' {g t : Nat} {cs : Array Value} (off : Nat) (ns vs : List Value) (hl : cs.toList.take off ++ ns ++ cs.toList.drop (off + ns.length)=vs) (hs : off + ns.length≤cs.size) (F : W.heap[g]?=some (.cells cs t (0,0))) : (W.setCells g off ns).heap[g]?=some (.cells vs.toArray t (0,0)):=by
  subst hl
  have h1 : (cs.toList.take off).length=off:=by rw [List.length_take,Array.length_toList (xs:=cs)];omega
  have:=sets_blk g t (cs.toList.drop (off + ns.length)) ns (cs.toList.take off) ((cs.toList.drop off).take ns.length) W (by rw [List.length_take,List.length_drop,Array.length_toList (xs:=cs)];omega) (by
    rw [F]
    congr 1
    congr 1
    rw [List.append_assoc,← List.drop_drop,List.take_append_drop,List.take_append_drop])
  rwa [h1] at this
variable {ops ops' : Array Oper} {o : Oper} {rest : List Oper} {a : Act} {QE : Exit→Act→World→Prop}
theorem bx (hgd : o.guard=none) {N : Tmp} (hd : o.dst=some N) {cs : Array Value} {t : TypeId} (hrun : (execOp a.eval o).run P W=.ok (.value (.pointer (some ⟨W.heap.size,0,none⟩))) (W.alloc (.cells cs t (0,0))))
    (B : Aside0 (Below w.heap.size w W))
    (h : ∀ g w1,Below W.heap.size W w1→Aside0 (Below w.heap.size w w1)→Aside0 (w1.heap[g]?=some (.cells cs t (0,0)))→Aside0 (w.heap.size≤g)→Aside0 (g=W.heap.size)→wpList P ops QE rest (a.put o.dst (.pointer (some ⟨g,0,none⟩))) w1) : wpList P ops QE (o :: rest) a W :=
  box_event hgd hd hrun fun g hg w1 hc hb=>h g w1 hb ⟨below_step B.out hb⟩ ⟨hc⟩ ⟨hg ▸ below_size B.out⟩ ⟨hg⟩
theorem sx (hgd : o.guard=none) {t t' : TypeId} {p : Tmp} {v : Operand} (ho : o.op=.store t' (.tmp p) v) (hN : o.dst=none) {g : Nat} {cs : Array Value} (off : Nat) (ns vs : List Value) (hrun : (execOp a.eval o).run P W=.ok .skip (W.setCells g off ns))
    (B : Aside0 (Below w.heap.size w W)) (F : Aside0 (W.heap[g]?=some (.cells cs t (0,0)))) (L : Aside0 (w.heap.size≤g)) (hl : cs.toList.take off ++ ns ++ cs.toList.drop (off + ns.length)=vs) (hs : off + ns.length≤cs.size)
    (h : ∀ w',KeepBut W w' g none→Aside0 (Below w.heap.size w w')→Aside0 (w'.heap[g]?=some (.cells vs.toArray t (0,0)))→wpList P ops QE rest a w') : wpList P ops QE (o :: rest) a W :=
  store_event hgd ho hN hrun fun w' hw=>by
    subst hw
    exact h _ (sets_keep g ns off W (KeepBut.refl _ _ _)) ⟨sets_below g L.out ns off W B.out⟩ ⟨sets_blk' off ns vs hl hs F.out⟩
theorem sxs {Kc : Act→World→Prop} {g t : Nat} {cs : Array Value} (off : Nat) (ns vs : List Value) (hw : Region.wanted o (yielded ops' a.tmps)=true) (hN : o.dst=none) (hrun : (execOp a.eval o).run P W=.ok .skip (W.setCells g off ns))
    (B : Aside0 (Below w.heap.size w W)) (F : Aside0 (W.heap[g]?=some (.cells cs t (0,0)))) (L : Aside0 (w.heap.size≤g)) (hl : cs.toList.take off ++ ns ++ cs.toList.drop (off + ns.length)=vs) (hs : off + ns.length≤cs.size)
    (h : ∀ w',KeepBut W w' g none→Aside0 (Below w.heap.size w w')→Aside0 (w'.heap[g]?=some (.cells vs.toArray t (0,0)))→Kc (a.put none undef) w') : if Region.wanted o (yielded ops' a.tmps)=true then Oper.wp P o a W Kc QE else Kc (a.put none undef) W:=by
  rw [if_pos hw]
  unfold Oper.wp
  rw [hrun]
  show Kc (a.put o.dst undef) _
  rw [hN]
  exact h _ (sets_keep g ns off W (KeepBut.refl _ _ _)) ⟨sets_below g L.out ns off W B.out⟩ ⟨sets_blk' off ns vs hl hs F.out⟩
theorem rg {S : World→Prop} {ds : List Nat} {id n : Nat} (l : Array Bool) (hm : P.follows .mixedOrders=true) (hn : ops'.size=n) (hl : Array.replicate n false=l) (hS : S W) (hd : S W→S W.drew) (B : Aside0 (Below w.heap.size w W))
    (h : ∀ W',Below W.heap.size W W'→Aside0 (Below w.heap.size w W')→S W'→wpAnyLast P .any ops' QE S ds n l a W') : (Code.region id ops' true).wp P QE a W :=
  start_ l hm hn hl (hd hS) fun hH=>h _ (below_drew1 (Below.refl _ _)) ⟨below_drew B.out⟩ hH
theorem pu {S : World→Prop} {md : Region.Mode} {ds : List Nat} {i : Nat} {N : Option Tmp} {oi : Oper} {v : Value} {fuel : Nat} {l : Array Bool} (l' : Array Bool) (hi : ops'[i]?=some oi) (hN : oi.dst=N) (hc : anyB md ops' l l' i=true)
    (hQ : ∀ c a w,QE (.panic c) (a.put oi.dst v) w→QE (.panic c) a w) (hw : Region.wanted oi (yielded ops' a.tmps)=true) (hy : ∀ w,(execOp a.eval oi).run P w=.ok (.value v) w) (h : wpAnyLast P md ops' QE S ds fuel l' (a.put N v) W) : wpAnyLast P md ops' QE S ds (fuel + 1) l a W :=
  pure_ l' hi hN hc hQ (Or.inl ⟨hw,hy⟩) rfl h
theorem pv {S : World→Prop} {md : Region.Mode} {ds : List Nat} (i : Nat) (N : Option Tmp) {oi : Oper} {v : Value} {fuel : Nat} {l : Array Bool} {T : Bool × List (List Nat × List Nat)} (l' : Array Bool) (HT : Aside0 (rtab md ops'=T)) (hc : anyT T l.toList l'.toList i=true) (hi : ops'[i]?=some oi) (hN : oi.dst=N)
    (hQ : ∀ c a w,QE (.panic c) (a.put oi.dst v) w→QE (.panic c) a w) (hw : Region.wanted oi (yielded ops' a.tmps)=true) (hy : ∀ w,(execOp a.eval oi).run P w=.ok (.value v) w) (h : wpAnyLast P md ops' QE S ds fuel l' (a.put N v) W) : wpAnyLast P md ops' QE S ds (fuel + 1) l a W :=
  pure_ l' hi hN (any_of HT.out hc) hQ (Or.inl ⟨hw,hy⟩) rfl h
theorem sv {S : World→Prop} {md : Region.Mode} {ds : List Nat} (i : Nat) (N : Option Tmp) {oi : Oper} {fuel : Nat} {l : Array Bool} {T : Bool × List (List Nat × List Nat)} (l' : Array Bool) (HT : Aside0 (rtab md ops'=T)) (hc : anyT T l.toList l'.toList i=true) (hi : ops'[i]?=some oi) (hN : oi.dst=N)
    (hQ : ∀ c a w,QE (.panic c) (a.put oi.dst undef) w→QE (.panic c) a w) (hw : Region.wanted oi (yielded ops' a.tmps)=false) (h : wpAnyLast P md ops' QE S ds fuel l' (a.put N undef) W) : wpAnyLast P md ops' QE S ds (fuel + 1) l a W :=
  pure_ l' hi hN (any_of HT.out hc) hQ (Or.inr ⟨hw,rfl⟩) rfl h
theorem tv {S : World→Prop} {md : Region.Mode} {ds : List Nat} (i : Nat) (N : Option Tmp) {oi : Oper} {v : Value} {fuel : Nat} {l : Array Bool} {T : Bool × List (List Nat × List Nat)} {U : List Nat} (l' : Array Bool) (HT : Aside0 (rtab md ops'=T)) (HW : Aside0 (waitsOk T.2 U=true)) (hc : takeW T U ds l.toList l'.toList i=true) (hi : ops'[i]?=some oi) (hN : oi.dst=N)
    (hQ : ∀ c a w,QE (.panic c) (a.put oi.dst v) w→QE (.panic c) a w) (hw : Region.wanted oi (yielded ops' a.tmps)=true) (hS : S W) (hy : ∀ w,S w→(execOp a.eval oi).run P w=.ok (.value v) w) (h : wpAnyLast P md ops' QE S ds fuel l' (a.put N v) W) : wpAnyLast P md ops' QE S ds (fuel + 1) l a W :=
  take_ l' hi hN (take_ofW HT.out HW.out hc) hQ (Or.inl ⟨hw,hy⟩) hS rfl h
theorem za {α : Type} (xs : List α) (i : Nat) (x : α) : xs.toArray.setIfInBounds i x=(xs.set i x).toArray:=List.setIfInBounds_toArray ..
theorem zb {α : Type} (x y : α) (xs : List α) : (x :: xs).set 0 y=y :: xs:=rfl
theorem zc {α : Type} (x y : α) (xs : List α) (n : Nat) : (x :: xs).set (n + 1) y=x :: xs.set n y:=rfl
theorem ne1 {g g' : Nat} {o : Obj} (E : Aside0 (g=W.heap.size)) (F : Aside0 (W.heap[g']?=some o)) : Aside0 (g' ≠ g):=⟨Nat.ne_of_lt (E.out ▸ blk_lt F.out)⟩
theorem bk {g g' : Nat} {o : Obj} (F : Aside0 (W.heap[g']?=some o)) (hk : KeepBut W W' g none) (N : g' ≠ g) : Aside0 (W'.heap[g']?=some o):=⟨hk.blk F.out N (by simp)⟩
theorem rk {v : Value} {g t : Nat} {cs : Array Value} (R : Aside0 (Ow d e W b v xs)) (F : Aside0 (W.heap[g]?=some (.cells cs t (0,0)))) (ht : ∀ q,q ∈ e :: d.E→q ≠ t) (hk : KeepBut W W' g none) : Aside0 (Ow d e W' b v xs) :=
  ⟨Kd.R_mono (Kd.R_keep (Kd.R_types R.out F.out ht) hk (fun _ q=>q.2)) (fun _ q=>q.1)⟩
/-! The same with what goes by itself left out. -/
theorem bxq (N : Tmp) (cs : Array Value) (t : TypeId) (B : Aside0 (Below w.heap.size w W))
    (h : ∀ g w1,Below W.heap.size W w1→Aside0 (Below w.heap.size w w1)→Aside0 (w1.heap[g]?=some (.cells cs t (0,0)))→Aside0 (w.heap.size≤g)→Aside0 (g=W.heap.size)→wpList P ops QE rest (a.put o.dst (.pointer (some ⟨g,0,none⟩))) w1)
    (hgd : o.guard=none:=by exact rfl) (hd : o.dst=some N:=by exact rfl) (hrun : (execOp a.eval o).run P W=.ok (.value (.pointer (some ⟨W.heap.size,0,none⟩))) (W.alloc (.cells cs t (0,0))):=by go_simp;first | done | rfl) : wpList P ops QE (o :: rest) a W:=bx hgd hd hrun B h
theorem sxq (t t' : TypeId) (p : Tmp) {v : Operand} {g : Nat} {cs : Array Value} (off : Nat) (ns vs : List Value) (B : Aside0 (Below w.heap.size w W)) (F : Aside0 (W.heap[g]?=some (.cells cs t (0,0)))) (L : Aside0 (w.heap.size≤g))
    (h : ∀ w',KeepBut W w' g none→Aside0 (Below w.heap.size w w')→Aside0 (w'.heap[g]?=some (.cells vs.toArray t (0,0)))→wpList P ops QE rest a w')
    (hgd : o.guard=none:=by exact rfl) (ho : o.op=.store t' (.tmp p) v:=by exact rfl) (hN : o.dst=none:=by exact rfl) (hrun : (execOp a.eval o).run P W=.ok .skip (W.setCells g off ns):=by go_simp;first | done | rfl)
    (hl : cs.toList.take off ++ ns ++ cs.toList.drop (off + ns.length)=vs:=by exact rfl) (hs : off + ns.length≤cs.size:=by exact Nat.le_of_ble_eq_true rfl) : wpList P ops QE (o :: rest) a W:=sx hgd ho hN off ns vs hrun B F L hl hs h
theorem pvq {S : World→Prop} {md : Region.Mode} {ds : List Nat} (i : Nat) (N : Option Tmp) {oi : Oper} {v : Value} {fuel : Nat} {l : Array Bool} {T : Bool × List (List Nat × List Nat)} (l' : Array Bool) (HT : Aside0 (rtab md ops'=T)) (h : wpAnyLast P md ops' QE S ds fuel l' (a.put N v) W)
    (hi : ops'[i]?=some oi:=by exact rfl) (hN : oi.dst=N:=by exact rfl) (hc : anyT T l.toList l'.toList i=true:=by kernel_rfl) (hQ : ∀ c a w,QE (.panic c) (a.put oi.dst v) w→QE (.panic c) a w:=by exact fun _ _ _ h=>h) (hw : Region.wanted oi (yielded ops' a.tmps)=true:=by kernel_rfl)
    (hy : ∀ w,(execOp a.eval oi).run P w=.ok (.value v) w:=by intro w';go_simp;with_reducible rfl) : wpAnyLast P md ops' QE S ds (fuel + 1) l a W:=pv i N l' HT hc hi hN hQ hw hy h
theorem tvq {S : World→Prop} {md : Region.Mode} {ds : List Nat} (i : Nat) (N : Option Tmp) {oi : Oper} {v : Value} {fuel : Nat} {l : Array Bool} {T : Bool × List (List Nat × List Nat)} {U : List Nat} (l' : Array Bool) (HT : Aside0 (rtab md ops'=T)) (HW : Aside0 (waitsOk T.2 U=true)) (hi : ops'[i]?=some oi) (hS : S W)
    (hy : ∀ w,S w→(execOp a.eval oi).run P w=.ok (.value v) w) (h : wpAnyLast P md ops' QE S ds fuel l' (a.put N v) W)
    (hN : oi.dst=N:=by exact rfl) (hc : takeW T U ds l.toList l'.toList i=true:=by kernel_rfl) (hQ : ∀ c a w,QE (.panic c) (a.put oi.dst v) w→QE (.panic c) a w:=by exact fun _ _ _ h=>h) (hw : Region.wanted oi (yielded ops' a.tmps)=true:=by kernel_rfl) : wpAnyLast P md ops' QE S ds (fuel + 1) l a W:=tv i N l' HT HW hc hi hN hQ hw hS hy h
theorem svq {S : World→Prop} {md : Region.Mode} {ds : List Nat} (i : Nat) (N : Option Tmp) {oi : Oper} {fuel : Nat} {l : Array Bool} {T : Bool × List (List Nat × List Nat)} (l' : Array Bool) (HT : Aside0 (rtab md ops'=T)) (h : wpAnyLast P md ops' QE S ds fuel l' (a.put N undef) W)
    (hi : ops'[i]?=some oi:=by exact rfl) (hN : oi.dst=N:=by exact rfl) (hc : anyT T l.toList l'.toList i=true:=by kernel_rfl) (hQ : ∀ c a w,QE (.panic c) (a.put oi.dst undef) w→QE (.panic c) a w:=by exact fun _ _ _ h=>h) (hw : Region.wanted oi (yielded ops' a.tmps)=false:=by kernel_rfl) : wpAnyLast P md ops' QE S ds (fuel + 1) l a W:=sv i N l' HT hc hi hN hQ hw h
theorem gsq {oi : Oper} {N : Option Tmp} {K : Act→World→Prop} {f : FuncId} {fn : Func} {ao : Array Operand} {ts : Array TypeId} (hf : P.funcs[f]?=some fn) (args : Array Value) (h : Calls P f args W fun e w'=>∃ v,e=.returned v∧K (a.put N v) w')
    (hN : oi.dst=N:=by exact rfl) (hop : oi.op=.call { callee:=.value (.func f),args:=ao,argTypes:=ts }:=by exact rfl) (hname : (fn.name == "runtime.NumGoroutine")=false:=by kernel_rfl) (hb : fn.body.isSome=true:=by exact rfl) (hw : Region.wanted oi (yielded ops' a.tmps)=true:=by rfl)
    (hargs : ao.map a.eval=args:=by (try simp only [List.map_toArray,List.map_cons,List.map_nil]);rfl) : if Region.wanted oi (yielded ops' a.tmps)=true then Oper.wp P oi a W K QE else K (a.put N undef) W:=goes_ hf hname hb args hw hN hop hargs h
theorem nmq {S : World→Prop} {md : Region.Mode} {ds : List Nat} {fuel : Nat} {l : Array Bool} {a' : Act} (h : wpAnyLast P md ops' QE S ds fuel l a' W) (ha : a=a':=by simp only [Act.put,za,zb,zc,i64_w,i32_w];rfl) : wpAnyLast P md ops' QE S ds fuel l a W:=norm_ ha h
theorem npq {S : World→Prop} {md : Region.Mode} {ds : List Nat} {fuel : Nat} {l : Array Bool} (N : Option Tmp) {v : Value} {a' : Act} (h : wpAnyLast P md ops' QE S ds fuel l a' W) (ha : a.put N v=a':=by simp only [Act.put,za,zb,zc,i64_w,i32_w];rfl) : wpAnyLast P md ops' QE S ds fuel l (a.put N v) W:=norm_ ha h
end

theorem w64 {x : Int} (h0 : -9223372036854775808≤x) (h1 : x≤9223372036854775807) : wrap64 x=x:=by
  unfold wrap64
  omega
theorem rd_drop {xs : List Int} {j : Nat} (h : j < xs.length) : xs.drop j=rd xs (j : Int) :: xs.drop (j + 1):=by
  rw [List.drop_eq_getElem_cons h]
  simp [rd,List.getD_eq_getElem?_getD,List.getElem?_eq_getElem h]
theorem andF {c x r : Bool} (h : (c && x)=r) (hc : c=false) : Ending.returned (Value.bool false)=Ending.returned (.bool r):=by subst h;rw [hc];rfl
theorem andT {c x r : Bool} (h : (c && x)=r) (hc : c=true) : x=r:=by subst h;rw [hc];rfl
theorem useEq {α : Type} {a b : α} {p : Prop} (h : a=b) (k : a=b→p) : p:=k h

/-! Rows that are made and written. -/
section
variable {P : Program} {w W W' : World} {α β : Type} {d : Kd α} {e b : Nat} {xs : List α}
variable {ops ops' : Array Oper} {o : Oper} {rest : List Oper} {a : Act} {QE : Exit→Act→World→Prop}
theorem mkr (d : Kd α) (e : Nat) (hgd : o.guard=none) {N : Tmp} (hd : o.dst=some N) (t : TypeId) (x y : Operand) (ho : o.op=.makeSlice t x y) (n : Nat) (hx : a.eval x=.int .i64 (n : Int)) (hy : a.eval y=.int .i64 (n : Int))
    (ht : P.underlying t=some (.slice e)) (z : Value) (bytes : Nat) (hinfo : (P.info? e).map (fun i=>(i.zero,i.size,i.bytes))=some (some z,d.sz,bytes)) (hz : z.cells.size=d.sz) (hs0 : 0 < d.sz) (hb0 : 0 < bytes)
    (z0 : α) (hzero : d.M W W.heap.size (fun _=>True) z0 z.cells.toList) (hl : n * bytes≤281474976710656) (B : Aside0 (Below w.heap.size w W))
    (h : ∀ A kk w1,Below W.heap.size W w1→Aside0 (Below w.heap.size w w1)→Aside0 (Ow d e w1 w.heap.size (.slice A n kk) (List.replicate n z0))→Aside0 (Fr W (.slice A n kk))→wpList P ops QE rest (a.put o.dst (.slice A n kk)) w1) : wpList P ops QE (o :: rest) a W :=
  Kd.R_make d W.heap.size e hgd hd t x y ho n hx hy ht z bytes hinfo hz hs0 hb0 z0 hzero (fun _ h=>h) trivial (Int.natCast_nonneg n) (by rwa [Int.toNat_natCast]) (Below.refl _ _) (Nat.le_refl _) fun v1 w1 hR hb hg hnew=>by
    rw [Int.toNat_natCast] at hR
    obtain ⟨A,kk,hv⟩:=Kd.R_slice hR
    rw [List.length_replicate] at hv
    subst hv
    exact h A kk w1 hb ⟨below_step B.out hb⟩ ⟨Kd.R_lower hR (below_size B.out)⟩ ⟨fun k hk=>Kd.R_base hR k hk⟩
theorem fr {v v' : Value} {β : Type} {d' : Kd β} {e' : Nat} {ys : List β} (q : Aside0 (Fr W v)) (R : Aside0 (Ow d' e' W b v' ys)) : Aside0 (∀ k,v.ownBlock=some k→v'.ownBlock=some k→False):=⟨fun k h1 h2=>by
  have:=q.out k h1
  have:=Kd.R_lt R.out k h2
  omega⟩
/-- the form of a row that is not empty -/
theorem rform {A : Option Addr} {n c : Nat} (R : Aside0 (Ow d e W b (.slice A n c) xs)) (hp : 0 < xs.length) : ∃ g,A=some ⟨g,0,none⟩∧b≤g:=by
  obtain ⟨g,cap,hv,hb,_⟩:=Kd.R_form R.out hp
  cases hv
  exact ⟨g,rfl,hb⟩
/-- the cells of an element -/
theorem rcells {g n c : Nat} (z : α) (R : Aside0 (Ow d e W b (.slice (some ⟨g,0,none⟩) n c) xs)) (i : Nat) (hi : i < n) : ∃ cs,cs.length=d.sz∧d.M W b (fun k=>True∧k ≠ g) (xs.getD i z) cs∧(∀ j u,cs[j]?=some u→W.cell? ⟨g,i * d.sz + j,none⟩=some u)∧∀ j,W.frozen? ⟨g,i * d.sz + j,none⟩=false:=by
  have:=Kd.R_elem R.out z (i : Int) (Int.natCast_nonneg i) (by omega)
  rwa [Int.toNat_natCast] at this
theorem es {g n c : Nat} {t : TypeId} {p : Tmp} {v : Operand} (hgd : o.guard=none) (ho : o.op=.store t (.tmp p) v) (hN : o.dst=none) (i off : Nat) (seg : List Value) (x' : α) (hrun : (execOp a.eval o).run P W=.ok .skip (W.setCells g (i * d.sz + off) seg))
    (R : Aside0 (Ow d e W b (.slice (some ⟨g,0,none⟩) n c) xs)) (hi : i < n) {cs : List Value} (hcl : cs.length=d.sz) (hcc : ∀ j u,cs[j]?=some u→W.cell? ⟨g,i * d.sz + j,none⟩=some u) (hj : off + seg.length≤d.sz)
    (hM : d.M W b (fun _=>False) x' (cs.take off ++ seg ++ cs.drop (off + seg.length))) (B : Aside0 (Below w.heap.size w W)) (hb : w.heap.size≤g)
    (h : ∀ w',W.grownBy w' (some g)→Aside0 (Below w.heap.size w w')→Aside0 (Ow d e w' b (.slice (some ⟨g,0,none⟩) n c) (xs.set i x'))→wpList P ops QE rest a w') : wpList P ops QE (o :: rest) a W :=
  store_event hgd ho hN hrun fun w' hw=>by
    have hP:=Kd.R_seg R.out (i : Int) (Int.natCast_nonneg i) (by omega) (c:=cs) (seg:=seg) (j:=off) (x':=x') (okp:=fun _=>False) hcl (by rw [Int.toNat_natCast];exact hcc) hj hM (fun _ hk=>hk.elim)
    rw [Int.toNat_natCast] at hP
    subst hw
    refine h _ hP.2 ⟨pw_below_grown B.out (some g) (below_size B.out) hP.2 (fun k hk=>?_)⟩ ⟨hP.1⟩
    cases hk
    exact hb
theorem fill_set {f : α→β} {z : β} {l : List α} {j : Nat} (h : j < l.length) : ((l.take j).map f ++ List.replicate (l.length - j) z).set j (f l[j])=(l.take (j + 1)).map f ++ List.replicate (l.length - (j + 1)) z:=by
  have h1 : ((l.take j).map f).length=j:=by rw [List.length_map,List.length_take];omega
  rw [List.set_append_right _ _ (by omega),h1,Nat.sub_self,show l.length - j=(l.length - (j + 1)) + 1 by omega,List.replicate_succ,List.set_cons_zero,List.take_succ_eq_append_getElem h,List.map_append,List.append_assoc]
  rfl
theorem fill_end {f : α→β} {z : β} {l : List α} {j : Nat} (h : ¬ j < l.length) : (l.take j).map f ++ List.replicate (l.length - j) z=l.map f:=by
  rw [List.take_of_length_le (by omega),show l.length - j=0 by omega]
  simp
end
section
variable {P : Program} {w W W' : World} {α β : Type} {d : Kd α} {e b : Nat} {xs : List α}
variable {ops ops' : Array Oper} {o : Oper} {rest : List Oper} {a : Act} {QE : Exit→Act→World→Prop}
/-- a literal of records -/
theorem lt (d : Kd α) (e : Nat) (hgd : o.guard=none) {N : Tmp} (hd : o.dst=some N) (xs : List α) (inner : List Value) (hrun : (execOp a.eval o).run P W=.ok (.value (.slice (some ⟨W.heap.size,0,none⟩) xs.length xs.length)) (W.alloc (.cells inner.toArray e)))
    (hp : Reps (d.M W W.heap.size (fun _=>True)) d.sz xs inner) (hm : xs.length≤9223372036854775807) (B : Aside0 (Below w.heap.size w W))
    (h : ∀ zs,xs=zs→∀ A kk w1,Below W.heap.size W w1→Aside0 (Below w.heap.size w w1)→Aside0 (Ow d e w1 w.heap.size (.slice A zs.length kk) zs)→Aside0 (Fr W (.slice A zs.length kk))→wpList P ops QE rest (a.put o.dst (.slice A zs.length kk)) w1) : wpList P ops QE (o :: rest) a W :=
  Kd.R_lit d (w0:=W) W.heap.size e hgd hd hrun hp (fun _ h=>h) trivial (Below.refl _ _) (Nat.le_refl _) hm fun v1 w1 hR hb hg hnew=>by
    obtain ⟨A,kk,rfl⟩:=Kd.R_slice hR
    exact h xs rfl A kk w1 hb ⟨below_step B.out hb⟩ ⟨Kd.R_lower hR (below_size B.out)⟩ ⟨fun k hk=>Kd.R_base hR k hk⟩
/-- a row is put behind a row of the walk's own -/
theorem apx (d : Kd α) (e : Nat) (hgd : o.guard=none) (s x : Operand) (t : TypeId) (z : Value) (bytes : Nat) (ho : o.op=.call { callee:=.builtin .append,args:=#[s,x],argTypes:=#[t,t] })
    (ht : P.underlying t=some (.slice e)) (hinfo : (P.info? e).map (fun i=>(i.zero,i.size,i.bytes))=some (some z,d.sz,bytes)) (hz : z.cells.size=d.sz) (hs0 : 0 < d.sz) (hb0 : 0 < bytes)
    {v : Value} {ys : List α} {A : Option Addr} {m c : Nat} (hs : a.eval s=v) (hx : a.eval x=.slice A m c) (R : Aside0 (Ow d e W w.heap.size v xs)) (C : d.C W A m ys) (hKM : ∀ x cs,d.K W x cs→d.M W w.heap.size (fun _=>False) x cs)
    (hl : (xs.length + m) * bytes≤140737488355328) (B : Aside0 (Below w.heap.size w W))
    (h : ∀ zs,xs ++ ys=zs→∀ A' kk w1,W.grownBy w1 v.ownBlock→Aside0 (Below w.heap.size w w1)→Aside0 (Ow d e w1 w.heap.size (.slice A' zs.length kk) zs)→Aside0 ((Value.slice A' zs.length kk).ownBlock=v.ownBlock ∨ ∃ b,(Value.slice A' zs.length kk).ownBlock=some b∧W.heap.size≤b)→wpList P ops QE rest (a.put o.dst (.slice A' zs.length kk)) w1) : wpList P ops QE (o :: rest) a W :=
  Kd.R_append_rows d (w0:=w) w.heap.size hgd s x t e z bytes ho ht hinfo hz hs0 hb0 v xs ys A m c (fun _=>True) (fun _=>False) hs hx R.out C hKM (fun _ h=>h.elim) (fun _ _=>trivial) B.out (below_size B.out) hl fun v1 w1 hR hb hg hat=>by
    obtain ⟨A',kk,rfl⟩:=Kd.R_slice hR
    exact h _ rfl A' kk w1 hg ⟨hb⟩ ⟨hR⟩ ⟨hat⟩
/-- what lies elsewhere stays when a row grows -/
theorem bga {g t : Nat} {cs : Array Value} {v : Value} (F : Aside0 (W.heap[g]?=some (.cells cs t (0,0)))) (hg : W.grownBy W' v.ownBlock) (R : Aside0 (Ow d e W b v xs)) (ht : e ≠ t) : Aside0 (W'.heap[g]?=some (.cells cs t (0,0))):=⟨blk_grown F.out hg (Kd.R_ne R.out F.out ht)⟩
theorem rga {d' : Kd β} {e' b' : Nat} {v v' : Value} {ys : List β} (R' : Aside0 (Ow d' e' W b' v' ys)) (hE : d'.E=[]) (hg : W.grownBy W' v.ownBlock) (ne : ∀ k,v'.ownBlock=some k→v.ownBlock=some k→False) : Aside0 (Ow d' e' W' b' v' ys) :=
  ⟨Kd.R_mono (Kd.R_grown (Kd.R_tight hE R'.out) hg (fun k h1 h2=>ne k h1.symm h2.symm)) (fun _ _=>trivial)⟩
theorem dty {d' : Kd β} {e' b' : Nat} {v v' : Value} {ys : List β} (R : Aside0 (Ow d e W b v xs)) (R' : Aside0 (Ow d' e' W b' v' ys)) (h : e ≠ e') : ∀ k,v'.ownBlock=some k→v.ownBlock=some k→False:=fun k h1 h2=>by
  obtain ⟨_,o1⟩:=Kd.R_own R.out
  obtain ⟨_,o2⟩:=Kd.R_own R'.out
  obtain ⟨c1,t1⟩:=own_typed o1 k h2
  obtain ⟨c2,t2⟩:=own_typed o2 k h1
  rw [t1] at t2
  cases t2
  exact h rfl
end
/-! Rows of states of a call's own. -/
structure MAt (ok : Nat→Prop) (w W0 W : World) (v : Value) (xs : List S34) : Prop where
  own : Kd.S k34 34 W w.heap.size (fun k=>ok k ∨ W0.heap.size≤k) v xs
  bel : Below w.heap.size w W
  kep : Kept W0 W ok
def Lim (xs : List S34) : Prop:=∀ y ∈ xs,y.f1.length≤1048576∧y.f2.length≤1048576
theorem Lim.set {xs : List S34} (h : Lim xs) {y : S34} (hy : y.f1.length≤1048576∧y.f2.length≤1048576) (j : Nat) : Lim (xs.set j y):=fun z hz=>by
  rcases List.mem_or_eq_of_mem_set hz with h1 | rfl
  · exact h z h1
  · exact hy
theorem rdst_nat {l : List S34} {j : Nat} (h : j < l.length) : rd_T34 l (j : Int)=l[j]:=by
  simp [rd_T34,List.getD_eq_getElem?_getD,List.getElem?_eq_getElem h]
theorem Lim.at {xs : List S34} (h : Lim xs) {j : Nat} (hj : j < xs.length) : (rd_T34 xs (j : Int)).f1.length≤1048576∧(rd_T34 xs (j : Int)).f2.length≤1048576:=by
  rw [rdst_nat hj]
  exact h _ (List.getElem_mem hj)
section
variable {ok : Nat→Prop} {w W0 W W1 : World} {g n cap : Nat} {xs : List S34}
theorem MAt.len (h : MAt ok w W0 W (.slice (some ⟨g,0,none⟩) n cap) xs) : n=xs.length:=(Kd.S_reads' h.own).1
theorem MAt.below {v : Value} (h : MAt ok w W0 W v xs) (hb : Below W.heap.size W W1) : MAt ok w W0 W1 v xs:=⟨Kd.S_below h.own hb,below_step h.bel hb,Kept.below h.kep hb⟩
theorem MAt.cells (h : MAt ok w W0 W (.slice (some ⟨g,0,none⟩) n cap) xs) {j : Nat} (hj : j < n) : ∃ v2 v3,Ow k61 61 W w.heap.size v2 (rd_T34 xs (j : Int)).f1∧Ow k100 100 W w.heap.size v3 (rd_T34 xs (j : Int)).f2 ∧
    W.cell? ⟨g,j * 6,none⟩=some (.string (rd_T34 xs (j : Int)).f0.f0)∧W.cell? ⟨g,j * 6 + 1,none⟩=some (.string (rd_T34 xs (j : Int)).f0.f1)∧W.cell? ⟨g,j * 6 + 2,none⟩=some v2∧W.cell? ⟨g,j * 6 + 3,none⟩=some v3∧W.cell? ⟨g,j * 6 + 4,none⟩=some (.bool (rd_T34 xs (j : Int)).f3)∧W.cell? ⟨g,j * 6 + 5,none⟩=some (.string (rd_T34 xs (j : Int)).f4) ∧
    W.frozen? ⟨g,j * 6,none⟩=false∧W.frozen? ⟨g,j * 6 + 1,none⟩=false∧W.frozen? ⟨g,j * 6 + 4,none⟩=false∧W.frozen? ⟨g,j * 6 + 5,none⟩=false∧W.frozen? ⟨g,j * 6 + 2,none⟩=false∧W.frozen? ⟨g,j * 6 + 3,none⟩=false:=by
  obtain ⟨oki,c,hcl,hM,hcc,hfr,hoki,hH⟩:=Kd.S_elem h.own z34 (j : Int) (by omega) (by omega)
  obtain ⟨v2,v3,rfl,g2,g3⟩:=k34_openM hM
  exact ⟨v2,v3,Kd.R_mono g2 (fun _ _=>trivial),Kd.R_mono g3 (fun _ _=>trivial),hcc 0 _ rfl,hcc 1 _ rfl,hcc 2 _ rfl,hcc 3 _ rfl,hcc 4 _ rfl,hcc 5 _ rfl,hfr 0,hfr 1,hfr 4,hfr 5,hfr 2,hfr 3⟩
theorem MAt.put (h : MAt ok w W0 W (.slice (some ⟨g,0,none⟩) n cap) xs) {j : Nat} (hj : j < n) (u : Value) (hu : u.oneCell'=true) (m : Nat) (hm : m < 6) (x' : S34) (h1 : x'.f1=(rd_T34 xs (j : Int)).f1) (h2 : x'.f2=(rd_T34 xs (j : Int)).f2)
    (hc : ∀ v2 v3 : Value,([.string (rd_T34 xs (j : Int)).f0.f0,.string (rd_T34 xs (j : Int)).f0.f1,v2,v3,.bool (rd_T34 xs (j : Int)).f3,.string (rd_T34 xs (j : Int)).f4] : List Value).set m u=[.string x'.f0.f0,.string x'.f0.f1,v2,v3,.bool x'.f3,.string x'.f4]) :
    MAt ok w W0 (W.setCell ⟨g,j * 6 + m,none⟩ u) (.slice (some ⟨g,0,none⟩) n cap) (xs.set j x'):=by
  have hn:=h.len
  obtain ⟨oki,c,hcl,hM,hcc,hfr,hoki,hH⟩:=Kd.S_elem h.own z34 (j : Int) (by omega) (by omega)
  obtain ⟨v2,v3,rfl,g2,g3⟩:=k34_openM hM
  obtain ⟨hS,hg⟩:=Kd.H_seg hH (by omega) (by omega) (seg:=[u]) (j:=m) (show m + 1≤6 by omega) (fun q hq=>by rw [List.mem_singleton.mp hq];exact hu)
  have e : (W.setCells g ((j : Int).toNat * 6 + m) [u])=W.setCell ⟨g,j * 6 + m,none⟩ u:=by
    rw [Int.toNat_natCast]
    rfl
  have hS':=hS
  have hg' : W.grownBy (W.setCell ⟨g,j * 6 + m,none⟩ u) (some g):=by rw [← e];exact hg
  have hgb : w.heap.size≤g:=Kd.S_base h.own g (by simp [Value.ownBlock])
  have mv : ∀ k,oki k→k < W.heap.size→(W.setCell ⟨g,j * 6 + m,none⟩ u).heap[k]?=W.heap[k]?:=fun k hk hlt=>hg'.block k hlt (fun he=>(hoki k hk).2 (by injection he))
  have hmm : k34.M (W.setCell ⟨g,j * 6 + m,none⟩ u) w.heap.size oki x' [.string x'.f0.f0,.string x'.f0.f1,v2,v3,.bool x'.f3,.string x'.f4]:=k34_mkM _ _ _ x' (h1 ▸ Kd.R_step g2 mv) (h2 ▸ Kd.R_step g3 mv)
  refine ⟨?_,below_set h.bel hgb,Kept.of_grown hg' h.kep (fun k hk=>(Kd.S_R h.own).1 k (by rw [← hk];simp [Value.ownBlock]))⟩
  rw [← e] at hmm ⊢
  have hset:=hc v2 v3
  rw [List.set_eq_take_append_cons_drop,if_pos (by simpa using hm)] at hset
  have key : ∀ c',c'=[.string x'.f0.f0,.string x'.f0.f1,v2,v3,.bool x'.f3,.string x'.f4]→k34.M (W.setCells g ((j : Int).toNat * 6 + m) [u]) w.heap.size oki x' c':=fun c' hc'=>by rw [hc'];exact hmm
  have hb:=Kd.H_back (x':=x') (okp:=oki) hS (key _ (by rw [← hset,List.append_assoc];rfl)) (fun _ hk=>hk)
  rwa [Int.toNat_natCast] at hb
theorem MAt.pairs (h : MAt ok w W0 W (.slice (some ⟨g,0,none⟩) n cap) xs) {j : Nat} (hj : j < n) {v2 : Value} (hv : W.cell? ⟨g,j * 6 + 2,none⟩=some v2) (zs : List S61)
    (hR : Kd.R k61 61 W1 w.heap.size (fun k_=>(some k_=v2.ownBlock ∨ W.heap.size≤k_)) v2 zs) (hb : Below w.heap.size w W1) (hk : Kept W W1 (fun k_=>some k_=v2.ownBlock)) : MAt ok w W0 W1 (.slice (some ⟨g,0,none⟩) n cap) (xs.set j { rd_T34 xs (j : Int) with f1:=zs }):=by
  have hn:=h.len
  obtain ⟨oki,c,hcl,hM,hcc,hfr,hoki,hH⟩:=Kd.S_elem h.own z34 (j : Int) (by omega) (by omega)
  obtain ⟨u2,u3,rfl,g2,g3⟩:=k34_openM hM
  obtain rfl : u2=v2:=by
    have:=hcc 2 _ rfl
    rw [Int.toNat_natCast] at this
    exact Option.some.inj (this.symm.trans hv)
  have o2 : ∀ k,some k=u2.ownBlock→oki k:=fun k hk=>g2.1 k hk.symm
  have ne : ∀ k,some k=u3.ownBlock→¬ some k=u2.ownBlock:=fun k h1 h2=>dty (Aside0.mk (Kd.R_mono (ok':=fun _=>True) g2 (fun _ _=>trivial))) (Aside0.mk (Kd.R_mono (ok':=fun _=>True) g3 (fun _ _=>trivial))) (by decide) k h1.symm h2.symm
  have hb1:=Kd.H_back (x':={ rd_T34 xs (j : Int) with f1:=zs }) (okp:=oki) (Kd.H_kept hH hk (fun k _ hn hs=>hn (o2 k hs))) (k34_mkM _ _ _ { rd_T34 xs (j : Int) with f1:=zs } (Kd.R_mono (Kd.R_tight rfl hR) o2) (Kd.R_mono (Kd.R_kept (Kd.R_tight rfl g3) hk ne) (fun k hk=>g3.1 k hk.symm))) (fun _ hk=>hk)
  rw [Int.toNat_natCast] at hb1
  exact ⟨hb1,hb,Kept.then_ h.kep hk (fun k hk=>(hoki k (o2 k hk)).1)⟩
theorem MAt.sess (h : MAt ok w W0 W (.slice (some ⟨g,0,none⟩) n cap) xs) {j : Nat} (hj : j < n) {v3 : Value} (hv : W.cell? ⟨g,j * 6 + 3,none⟩=some v3) (zs : List S100)
    (hR : Kd.R k100 100 W1 w.heap.size (fun k_=>(some k_=v3.ownBlock ∨ W.heap.size≤k_)) v3 zs) (hb : Below w.heap.size w W1) (hk : Kept W W1 (fun k_=>some k_=v3.ownBlock)) : MAt ok w W0 W1 (.slice (some ⟨g,0,none⟩) n cap) (xs.set j { rd_T34 xs (j : Int) with f2:=zs }):=by
  have hn:=h.len
  obtain ⟨oki,c,hcl,hM,hcc,hfr,hoki,hH⟩:=Kd.S_elem h.own z34 (j : Int) (by omega) (by omega)
  obtain ⟨u2,u3,rfl,g2,g3⟩:=k34_openM hM
  obtain rfl : u3=v3:=by
    have:=hcc 3 _ rfl
    rw [Int.toNat_natCast] at this
    exact Option.some.inj (this.symm.trans hv)
  have o2 : ∀ k,some k=u3.ownBlock→oki k:=fun k hk=>g3.1 k hk.symm
  have ne : ∀ k,some k=u2.ownBlock→¬ some k=u3.ownBlock:=fun k h1 h2=>dty (Aside0.mk (Kd.R_mono (ok':=fun _=>True) g2 (fun _ _=>trivial))) (Aside0.mk (Kd.R_mono (ok':=fun _=>True) g3 (fun _ _=>trivial))) (by decide) k h2.symm h1.symm
  have hb1:=Kd.H_back (x':={ rd_T34 xs (j : Int) with f2:=zs }) (okp:=oki) (Kd.H_kept hH hk (fun k _ hn hs=>hn (o2 k hs))) (k34_mkM _ _ _ { rd_T34 xs (j : Int) with f2:=zs } (Kd.R_mono (Kd.R_kept (Kd.R_tight rfl g2) hk ne) (fun k hk=>g2.1 k hk.symm)) (Kd.R_mono (Kd.R_tight rfl hR) o2)) (fun _ hk=>hk)
  rw [Int.toNat_natCast] at hb1
  exact ⟨hb1,hb,Kept.then_ h.kep hk (fun k hk=>(hoki k (o2 k hk)).1)⟩
theorem MAt.put0 (h : MAt ok w W0 W (.slice (some ⟨g,0,none⟩) n cap) xs) (hl : Lim xs) {j : Nat} (hj : j < n) (s : ByteArray) (hw : W1=W.setCell ⟨g,j * 6,none⟩ (.string s)) : ∃ ys,MAt ok w W0 W1 (.slice (some ⟨g,0,none⟩) n cap) ys∧Lim ys:=by
  subst hw
  exact ⟨_,h.put hj (.string s) rfl 0 (by omega) ⟨⟨s,(rd_T34 xs (j : Int)).f0.f1⟩,(rd_T34 xs (j : Int)).f1,(rd_T34 xs (j : Int)).f2,(rd_T34 xs (j : Int)).f3,(rd_T34 xs (j : Int)).f4⟩ rfl rfl (fun _ _=>rfl),by refine Lim.set hl ?_ j;exact hl.at (h.len ▸ hj)⟩
theorem MAt.put1 (h : MAt ok w W0 W (.slice (some ⟨g,0,none⟩) n cap) xs) (hl : Lim xs) {j : Nat} (hj : j < n) (s : ByteArray) (hw : W1=W.setCell ⟨g,j * 6 + 1,none⟩ (.string s)) : ∃ ys,MAt ok w W0 W1 (.slice (some ⟨g,0,none⟩) n cap) ys∧Lim ys:=by
  subst hw
  exact ⟨_,h.put hj (.string s) rfl 1 (by omega) ⟨⟨(rd_T34 xs (j : Int)).f0.f0,s⟩,(rd_T34 xs (j : Int)).f1,(rd_T34 xs (j : Int)).f2,(rd_T34 xs (j : Int)).f3,(rd_T34 xs (j : Int)).f4⟩ rfl rfl (fun _ _=>rfl),by refine Lim.set hl ?_ j;exact hl.at (h.len ▸ hj)⟩
theorem MAt.put4 (h : MAt ok w W0 W (.slice (some ⟨g,0,none⟩) n cap) xs) (hl : Lim xs) {j : Nat} (hj : j < n) (b : Bool) (hw : W1=W.setCell ⟨g,j * 6 + 4,none⟩ (.bool b)) : ∃ ys,MAt ok w W0 W1 (.slice (some ⟨g,0,none⟩) n cap) ys∧Lim ys:=by
  subst hw
  exact ⟨_,h.put hj (.bool b) rfl 4 (by omega) ⟨⟨(rd_T34 xs (j : Int)).f0.f0,(rd_T34 xs (j : Int)).f0.f1⟩,(rd_T34 xs (j : Int)).f1,(rd_T34 xs (j : Int)).f2,b,(rd_T34 xs (j : Int)).f4⟩ rfl rfl (fun _ _=>rfl),by refine Lim.set hl ?_ j;exact hl.at (h.len ▸ hj)⟩
theorem MAt.put5 (h : MAt ok w W0 W (.slice (some ⟨g,0,none⟩) n cap) xs) (hl : Lim xs) {j : Nat} (hj : j < n) (s : ByteArray) (hw : W1=W.setCell ⟨g,j * 6 + 5,none⟩ (.string s)) : ∃ ys,MAt ok w W0 W1 (.slice (some ⟨g,0,none⟩) n cap) ys∧Lim ys:=by
  subst hw
  exact ⟨_,h.put hj (.string s) rfl 5 (by omega) ⟨⟨(rd_T34 xs (j : Int)).f0.f0,(rd_T34 xs (j : Int)).f0.f1⟩,(rd_T34 xs (j : Int)).f1,(rd_T34 xs (j : Int)).f2,(rd_T34 xs (j : Int)).f3,s⟩ rfl rfl (fun _ _=>rfl),by refine Lim.set hl ?_ j;exact hl.at (h.len ▸ hj)⟩
end
def StE (w : World) (p : Addr) (y : S34) (A2 : Option Addr) (c2 : Nat) (A3 : Option Addr) (c3 : Nat) : Prop :=
  w.cell? p=some (.string y.f0.f0)∧w.cell? ⟨p.block,p.off + 1,none⟩=some (.string y.f0.f1)∧w.cell? ⟨p.block,p.off + 2,none⟩=some (.slice A2 y.f1.length c2)∧w.cell? ⟨p.block,p.off + 3,none⟩=some (.slice A3 y.f2.length c3)∧w.cell? ⟨p.block,p.off + 4,none⟩=some (.bool y.f3)∧w.cell? ⟨p.block,p.off + 5,none⟩=some (.string y.f4)
theorem StE.go {w W : World} {p : Addr} {y : S34} {A2 : Option Addr} {c2 : Nat} {A3 : Option Addr} {c3 : Nat} (h : StE w p y A2 c2 A3 c3) (B : Below w.heap.size w W) : StE W p y A2 c2 A3 c3:=by
  obtain ⟨h0,h1,h2,h3,h4,h5⟩:=h
  exact ⟨(B.cell (World.block_lt_of_cell? w _ h0)).trans h0,(B.cell (World.block_lt_of_cell? w _ h1)).trans h1,(B.cell (World.block_lt_of_cell? w _ h2)).trans h2,(B.cell (World.block_lt_of_cell? w _ h3)).trans h3,(B.cell (World.block_lt_of_cell? w _ h4)).trans h4,(B.cell (World.block_lt_of_cell? w _ h5)).trans h5⟩
theorem StE.q {w W : World} {p : Addr} {y : S34} {A2 : Option Addr} {c2 : Nat} {A3 : Option Addr} {c3 : Nat} (h : Aside0 (StE w p y A2 c2 A3 c3)) (B : Aside0 (Below w.heap.size w W)) :
  W.cell? p=some (.string y.f0.f0)∧W.cell? ⟨p.block,p.off + 1,none⟩=some (.string y.f0.f1)∧W.cell? ⟨p.block,p.off + 2,none⟩=some (.slice A2 y.f1.length c2)∧W.cell? ⟨p.block,p.off + 3,none⟩=some (.slice A3 y.f2.length c3)∧W.cell? ⟨p.block,p.off + 4,none⟩=some (.bool y.f3)∧W.cell? ⟨p.block,p.off + 5,none⟩=some (.string y.f4):=h.out.go B.out
theorem StE_of {w : World} {A : Option Addr} {l : List S34} (h : Kd.C k34 w A l.length l) {j : Nat} (hj : j < l.length) : ∃ ad A2 c2 A3 c3,A=some ad∧StE w (ad.add (j * 6)) (rd_T34 l (j : Int)) A2 c2 A3 c3∧Kd.C k61 w A2 (rd_T34 l (j : Int)).f1.length (rd_T34 l (j : Int)).f1∧Kd.C k100 w A3 (rd_T34 l (j : Int)).f2.length (rd_T34 l (j : Int)).f2:=by
  obtain ⟨ad,A2,c2,A3,c3,hA,x0,x1,x2,x3,x4,x5,l2,i2,l3,i3⟩:=at_T34 h (j : Int) (by omega) (by omega)
  rw [Int.toNat_natCast] at x0 x1 x2 x3 x4 x5
  exact ⟨ad,A2,c2,A3,c3,hA,⟨x0,x1,x2,x3,x4,x5⟩,i2,i3⟩
def StEl (w : World) (p : Addr) (y : S27) (A2 : Option Addr) (c2 : Nat) (A3 : Option Addr) (c3 : Nat) : Prop :=
  w.cell? p=some (.string y.f0.f0)∧w.cell? ⟨p.block,p.off + 1,none⟩=some (.string y.f0.f1)∧w.cell? ⟨p.block,p.off + 2,none⟩=some (.slice A2 y.f1.length c2)∧w.cell? ⟨p.block,p.off + 3,none⟩=some (.slice A3 y.f2.length c3)∧w.cell? ⟨p.block,p.off + 4,none⟩=some (.bool y.f3)∧w.cell? ⟨p.block,p.off + 5,none⟩=some (.string y.f4)
theorem StEl.go {w W : World} {p : Addr} {y : S27} {A2 : Option Addr} {c2 : Nat} {A3 : Option Addr} {c3 : Nat} (h : StEl w p y A2 c2 A3 c3) (B : Below w.heap.size w W) : StEl W p y A2 c2 A3 c3:=by
  obtain ⟨h0,h1,h2,h3,h4,h5⟩:=h
  exact ⟨(B.cell (World.block_lt_of_cell? w _ h0)).trans h0,(B.cell (World.block_lt_of_cell? w _ h1)).trans h1,(B.cell (World.block_lt_of_cell? w _ h2)).trans h2,(B.cell (World.block_lt_of_cell? w _ h3)).trans h3,(B.cell (World.block_lt_of_cell? w _ h4)).trans h4,(B.cell (World.block_lt_of_cell? w _ h5)).trans h5⟩
theorem StEl.q {w W : World} {p : Addr} {y : S27} {A2 : Option Addr} {c2 : Nat} {A3 : Option Addr} {c3 : Nat} (h : Aside0 (StEl w p y A2 c2 A3 c3)) (B : Aside0 (Below w.heap.size w W)) :
  W.cell? p=some (.string y.f0.f0)∧W.cell? ⟨p.block,p.off + 1,none⟩=some (.string y.f0.f1)∧W.cell? ⟨p.block,p.off + 2,none⟩=some (.slice A2 y.f1.length c2)∧W.cell? ⟨p.block,p.off + 3,none⟩=some (.slice A3 y.f2.length c3)∧W.cell? ⟨p.block,p.off + 4,none⟩=some (.bool y.f3)∧W.cell? ⟨p.block,p.off + 5,none⟩=some (.string y.f4):=h.out.go B.out
theorem StEl_of {w : World} {A : Option Addr} {l : List S27} (h : Kd.C k27 w A l.length l) {j : Nat} (hj : j < l.length) : ∃ ad A2 c2 A3 c3,A=some ad∧StEl w (ad.add (j * 6)) (rd_T27 l (j : Int)) A2 c2 A3 c3∧Kd.C k108 w A2 (rd_T27 l (j : Int)).f1.length (rd_T27 l (j : Int)).f1∧Kd.C k112 w A3 (rd_T27 l (j : Int)).f2.length (rd_T27 l (j : Int)).f2:=by
  obtain ⟨ad,A2,c2,A3,c3,hA,x0,x1,x2,x3,x4,x5,l2,i2,l3,i3⟩:=at_T27 h (j : Int) (by omega) (by omega)
  rw [Int.toNat_natCast] at x0 x1 x2 x3 x4 x5
  exact ⟨ad,A2,c2,A3,c3,hA,⟨x0,x1,x2,x3,x4,x5⟩,i2,i3⟩

theorem laws_toInterval.M (x0 : ByteArray) (x1 : ByteArray) (w : World) : Calls Try.prog 52 #[.agg #[.string x0,.string x1]] w fun e w'=>e=.returned (.agg #[.string x0,.string x1])∧Below w.heap.size w w':=by
 have B:=Aside0.mk (Below.refl w.heap.size w)
 have hu:=Try.underlying30
 have hu2:=Try.underlying23
 go_enter Try.func52,Try.ntmps52
 go_wp2_with (first
  | ((with_reducible refine gate_dst (N:=1) rfl ?_);refine bxq 1 #[.string x0,.string x1] 23 B fun g1 w1 hb B F1 L1 E1=>?_;obtain ⟨c1_0,c1_1⟩:=cs2 F1;clear hb E1)
  | ((with_reducible refine gate_dst (N:=2) rfl ?_);refine bxq 2 #[.string (⟨#[]⟩ : ByteArray),.string (⟨#[]⟩ : ByteArray)] 30 B fun g2 w2 hb B F2 L2 E2=>?_;have N1_2:=ne1 E2 F1;replace F1:=bn F1 hb;clear c1_0 c1_1;obtain ⟨c1_0,c1_1⟩:=cs2 F1;clear hb E2)
  | ((with_reducible refine gate_dst (N:=3) rfl ?_);refine bxq 3 #[.string (⟨#[]⟩ : ByteArray),.string (⟨#[]⟩ : ByteArray)] 30 B fun g3 w3 hb B F3 L3 E3=>?_;have N1_3:=ne1 E3 F1;have N2_3:=ne1 E3 F2;replace F1:=bn F1 hb;replace F2:=bn F2 hb;clear c1_0 c1_1;obtain ⟨c1_0,c1_1⟩:=cs2 F1;obtain ⟨c3_0,c3_1⟩:=cs2 F3;clear hb E3)
  | ((with_reducible refine gate_store (t:=9) (p:=6) rfl ?_);obtain ⟨y0,y1,z0,z1⟩:=cz2 F3;refine sxq 30 9 6 0 [.string x0] [.string x0,.string (⟨#[]⟩ : ByteArray)] B F3 L3 fun w4 hk B G=>?_;replace F1:=bk F1 hk N1_3.out;replace F2:=bk F2 hk N2_3.out;replace F3:=G;clear c1_0 c1_1;obtain ⟨c1_0,c1_1⟩:=cs2 F1;clear c3_0 c3_1;obtain ⟨c3_0,c3_1⟩:=cs2 F3;clear hk y0 z0 y1 z1)
  | ((with_reducible refine gate_store (t:=9) (p:=9) rfl ?_);obtain ⟨y0,y1,z0,z1⟩:=cz2 F3;refine sxq 30 9 9 1 [.string x1] [.string x0,.string x1] B F3 L3 fun w5 hk B G=>?_;replace F2:=bk F2 hk N2_3.out;replace F3:=G;clear c3_0 c3_1;obtain ⟨c3_0,c3_1⟩:=cs2 F3;clear hk y0 z0 y1 z1)
  | ((with_reducible refine gate_store (t:=30) (p:=2) rfl ?_);obtain ⟨y0,y1,z0,z1⟩:=cz2 F2;refine sxq 30 30 2 0 [.string x0,.string x1] [.string x0,.string x1] B F2 L2 fun w6 hk B G=>?_;replace F2:=G;clear hk y0 z0 y1 z1))
 refine bodyPost_ret (results_single rfl (.cell g2 30 _ (0,0) _ rfl F2.out hu rfl (by kernel_rfl) .nil)) rfl ?_
 exact ⟨rfl,B.out⟩
def prOf (x : S108) : S61:=⟨x.f0,x.f1⟩
theorem laws_toPair.M (x0 : ByteArray) (x1 : Int) (w : World) : Calls Try.prog 91 #[.agg #[.string x0,.int .i64 (x1)]] w fun e w'=>e=.returned (.agg #[.string x0,.int .i64 (x1)])∧Below w.heap.size w w':=by
 have B:=Aside0.mk (Below.refl w.heap.size w)
 have hu:=Try.underlying61
 have hu2:=Try.underlying108
 go_enter Try.func91,Try.ntmps91
 go_wp2_with (first
  | ((with_reducible refine gate_dst (N:=1) rfl ?_);refine bxq 1 #[.string x0,.int .i64 (x1)] 108 B fun g1 w1 hb B F1 L1 E1=>?_;obtain ⟨c1_0,c1_1⟩:=cs2 F1;clear hb E1)
  | ((with_reducible refine gate_dst (N:=2) rfl ?_);refine bxq 2 #[.string (⟨#[]⟩ : ByteArray),.int .i64 (0)] 61 B fun g2 w2 hb B F2 L2 E2=>?_;have N1_2:=ne1 E2 F1;replace F1:=bn F1 hb;clear c1_0 c1_1;obtain ⟨c1_0,c1_1⟩:=cs2 F1;clear hb E2)
  | ((with_reducible refine gate_dst (N:=3) rfl ?_);refine bxq 3 #[.string (⟨#[]⟩ : ByteArray),.int .i64 (0)] 61 B fun g3 w3 hb B F3 L3 E3=>?_;have N1_3:=ne1 E3 F1;have N2_3:=ne1 E3 F2;replace F1:=bn F1 hb;replace F2:=bn F2 hb;clear c1_0 c1_1;obtain ⟨c1_0,c1_1⟩:=cs2 F1;obtain ⟨c3_0,c3_1⟩:=cs2 F3;clear hb E3)
  | ((with_reducible refine gate_store (t:=9) (p:=6) rfl ?_);obtain ⟨y0,y1,z0,z1⟩:=cz2 F3;refine sxq 61 9 6 0 [.string x0] [.string x0,.int .i64 (0)] B F3 L3 fun w4 hk B G=>?_;replace F1:=bk F1 hk N1_3.out;replace F2:=bk F2 hk N2_3.out;replace F3:=G;clear c1_0 c1_1;obtain ⟨c1_0,c1_1⟩:=cs2 F1;clear c3_0 c3_1;obtain ⟨c3_0,c3_1⟩:=cs2 F3;clear hk y0 z0 y1 z1)
  | ((with_reducible refine gate_store (t:=3) (p:=9) rfl ?_);obtain ⟨y0,y1,z0,z1⟩:=cz2 F3;refine sxq 61 3 9 1 [.int .i64 (x1)] [.string x0,.int .i64 (x1)] B F3 L3 fun w5 hk B G=>?_;replace F2:=bk F2 hk N2_3.out;replace F3:=G;clear c3_0 c3_1;obtain ⟨c3_0,c3_1⟩:=cs2 F3;clear hk y0 z0 y1 z1)
  | ((with_reducible refine gate_store (t:=61) (p:=2) rfl ?_);obtain ⟨y0,y1,z0,z1⟩:=cz2 F2;refine sxq 61 61 2 0 [.string x0,.int .i64 (x1)] [.string x0,.int .i64 (x1)] B F2 L2 fun w6 hk B G=>?_;replace F2:=G;clear hk y0 z0 y1 z1))
 refine bodyPost_ret (results_single rfl (.cell g2 61 _ (0,0) _ rfl F2.out hu rfl (by kernel_rfl) .nil)) rfl ?_
 exact ⟨rfl,B.out⟩
theorem laws_toPairS.M (A0 : Option Addr) (c0 : Nat) (l : List S108) (m : List S61) (w : World) (hr0 : Kd.C k108 w A0 l.length l) (hl : l.length≤1048576) (hm : l.map prOf=m) : Calls Try.prog 53 #[.slice A0 l.length c0] w fun e w'=>∃ v0,e=.returned v0∧Kd.R k61 61 w' w.heap.size (fun _=>True) v0 m∧Below w.heap.size w w':=by
 have B:=Aside0.mk (Below.refl w.heap.size w)
 subst hm
 have hu:=Try.underlying61
 have hu2:=Try.underlying108
 have HR0:=Aside0.mk hr0
 clear hr0
 go_enter Try.func53,Try.ntmps53
 go_wp2_with ((with_reducible refine gate_dst (N:=7) rfl ?_);refine mkr k61 61 rfl (N:=7) rfl 31 _ _ rfl l.length rfl rfl Try.underlying31 (.agg #[.string (⟨#[]⟩ : ByteArray),.int .i64 (0)]) 24 info61 rfl (by decide) (by omega) z61 (k61_mkM _ _ _ z61) (by omega) B ?_;intro A kk w1 hb B R Q;clear hb Q)
 have R0:=Aside0.mk (show Ow k61 61 w1 w.heap.size (.slice A l.length kk) ((l.take 0).map prOf ++ List.replicate (l.length - 0) z61) from R.out)
 clear R
 go_loopg [4] (l.length + 1) (fun kx v4 wr=>∃ j : Nat,v4=.int .i64 (j : Int)∧j≤l.length∧l.length < j + kx∧Aside0 (Below w.heap.size w wr)∧Aside0 (Ow k61 61 wr w.heap.size (.slice A l.length kk) ((l.take j).map prOf ++ List.replicate (l.length - j) z61)))
 case atStart=>exact ⟨0,rfl,by omega,by omega,B,R0⟩
 case round =>
  clear R0 B
  obtain ⟨j,rfl,hj,hk,B,R⟩:=hrel
  by_cases hlt : j < l.length
  ·obtain ⟨d,rfl⟩ : ∃ d,gk=d + 1:=⟨gk - 1,by omega⟩
   have hln : ((l.take j).map prOf ++ List.replicate (l.length - j) z61).length=l.length:=by rw [List.length_append,List.length_map,List.length_take,List.length_replicate];omega
   obtain ⟨g,rfl,hg⟩:=rform R (by omega)
   have hfs:=fill_set (f:=prOf) (z:=z61) hlt
   have cj : decide ((j : Int) < (l.length : Int))=true:=decide_eq_true (by omega)
   obtain ⟨ad,hA,x0,x1⟩:=at_T108 (cb HR0 B) (j : Int) (by omega) (by omega)
   cases hA
   rw [Int.toNat_natCast] at x0 x1
   have j1:=eq_true (show (j : Int) < (l.length : Int) by omega)
   have j2:=eq_true hlt
   have hy : rd_T108 l (j : Int)=l[j]:=by simp [rd_T108,List.getD_eq_getElem?_getD,List.getElem?_eq_getElem hlt]
   rw [← hy] at hfs
   generalize rd_T108 l (j : Int)=y at *
   clear hy
   have HF:=Aside0.mk hfs
   clear hfs hln
   go_wp2_with (first
    | (go_at_call 91;with_reducible refine cl (laws_toPair.M y.f0 y.f1 _) B fun w5 hb B=>?_;replace R:=rn R hb;obtain ⟨cs,hcl,_,hcc,hfz⟩:=rcells z61 R j hlt;have hsz : k61.sz=2:=rfl;obtain ⟨u0,hu0⟩ : ∃ u,cs[0]?=some u:=⟨_,List.getElem?_eq_getElem (by rw [hcl];decide)⟩;have q0:=hcc 0 u0 hu0;have z0:=hfz 0;rw [hsz,Nat.add_zero] at q0 z0;obtain ⟨u1,hu1⟩ : ∃ u,cs[1]?=some u:=⟨_,List.getElem?_eq_getElem (by rw [hcl];decide)⟩;have q1:=hcc 1 u1 hu1;have z1:=hfz 1;rw [hsz] at q1 z1;clear hb)
    | ((with_reducible refine gate_store (t:=61) (p:=21) rfl ?_);refine es (t:=61) (p:=21) (v:=?vo1) ?hg ?ho ?hn j 0 [.string y.f0,.int .i64 (y.f1)] (prOf y) ?hr R hlt hcl hcc (Nat.le_refl 2) (by rw [List.take_zero,List.drop_of_length_le (by rw [hcl];exact Nat.le_refl 2)];exact k61_mkM _ _ _ (prOf y)) B hg ?_;(case ho=>rfl);(case hg=>rfl);(case hn=>rfl);(case hr=>first | (go_simp;done) | (go_simp;rfl));intro w6 _ B R;rw [HF.out] at R))
   go_roundg d
   case measure=>omega
   case rel=>exact ⟨j + 1,congrArg (Value.int .i64) (Int.natCast_succ _).symm,by omega,by omega,B,R⟩
  ·have cj : decide ((j : Int) < (l.length : Int))=false:=decide_eq_false (by omega)
   rw [fill_end hlt] at R
   go_wp2
   go_ret
   exact ⟨_,rfl,R.out,B.out⟩
def sesOf (x : S112) : S100:=⟨x.f0,x.f1,x.f2⟩
theorem laws_toSession.M (x0 : Int) (x1 : Int) (x2 : Int) (w : World) : Calls Try.prog 92 #[.agg #[.int .i64 (x0),.int .i64 (x1),.int .i64 (x2)]] w fun e w'=>e=.returned (.agg #[.int .i64 (x0),.int .i64 (x1),.int .i64 (x2)])∧Below w.heap.size w w':=by
 have B:=Aside0.mk (Below.refl w.heap.size w)
 have hu:=Try.underlying100
 have hu2:=Try.underlying112
 go_enter Try.func92,Try.ntmps92
 go_wp2_with (first
  | ((with_reducible refine gate_dst (N:=1) rfl ?_);refine bxq 1 #[.int .i64 (x0),.int .i64 (x1),.int .i64 (x2)] 112 B fun g1 w1 hb B F1 L1 E1=>?_;obtain ⟨c1_0,c1_1,c1_2⟩:=cs3 F1;clear hb E1)
  | ((with_reducible refine gate_dst (N:=2) rfl ?_);refine bxq 2 #[.int .i64 (0),.int .i64 (0),.int .i64 (0)] 100 B fun g2 w2 hb B F2 L2 E2=>?_;have N1_2:=ne1 E2 F1;replace F1:=bn F1 hb;clear c1_0 c1_1 c1_2;obtain ⟨c1_0,c1_1,c1_2⟩:=cs3 F1;clear hb E2)
  | ((with_reducible refine gate_dst (N:=3) rfl ?_);refine bxq 3 #[.int .i64 (0),.int .i64 (0),.int .i64 (0)] 100 B fun g3 w3 hb B F3 L3 E3=>?_;have N1_3:=ne1 E3 F1;have N2_3:=ne1 E3 F2;replace F1:=bn F1 hb;replace F2:=bn F2 hb;clear c1_0 c1_1 c1_2;obtain ⟨c1_0,c1_1,c1_2⟩:=cs3 F1;obtain ⟨c3_0,c3_1,c3_2⟩:=cs3 F3;clear hb E3)
  | ((with_reducible refine gate_store (t:=3) (p:=6) rfl ?_);obtain ⟨y0,y1,y2,z0,z1,z2⟩:=cz3 F3;refine sxq 100 3 6 0 [.int .i64 (x0)] [.int .i64 (x0),.int .i64 (0),.int .i64 (0)] B F3 L3 fun w4 hk B G=>?_;replace F1:=bk F1 hk N1_3.out;replace F2:=bk F2 hk N2_3.out;replace F3:=G;clear c1_0 c1_1 c1_2;obtain ⟨c1_0,c1_1,c1_2⟩:=cs3 F1;clear c3_0 c3_1 c3_2;obtain ⟨c3_0,c3_1,c3_2⟩:=cs3 F3;clear hk y0 z0 y1 z1 y2 z2)
  | ((with_reducible refine gate_store (t:=3) (p:=9) rfl ?_);obtain ⟨y0,y1,y2,z0,z1,z2⟩:=cz3 F3;refine sxq 100 3 9 1 [.int .i64 (x1)] [.int .i64 (x0),.int .i64 (x1),.int .i64 (0)] B F3 L3 fun w5 hk B G=>?_;replace F1:=bk F1 hk N1_3.out;replace F2:=bk F2 hk N2_3.out;replace F3:=G;clear c1_0 c1_1 c1_2;obtain ⟨c1_0,c1_1,c1_2⟩:=cs3 F1;clear c3_0 c3_1 c3_2;obtain ⟨c3_0,c3_1,c3_2⟩:=cs3 F3;clear hk y0 z0 y1 z1 y2 z2)
  | ((with_reducible refine gate_store (t:=3) (p:=12) rfl ?_);obtain ⟨y0,y1,y2,z0,z1,z2⟩:=cz3 F3;refine sxq 100 3 12 2 [.int .i64 (x2)] [.int .i64 (x0),.int .i64 (x1),.int .i64 (x2)] B F3 L3 fun w6 hk B G=>?_;replace F2:=bk F2 hk N2_3.out;replace F3:=G;clear c3_0 c3_1 c3_2;obtain ⟨c3_0,c3_1,c3_2⟩:=cs3 F3;clear hk y0 z0 y1 z1 y2 z2)
  | ((with_reducible refine gate_store (t:=100) (p:=2) rfl ?_);obtain ⟨y0,y1,y2,z0,z1,z2⟩:=cz3 F2;refine sxq 100 100 2 0 [.int .i64 (x0),.int .i64 (x1),.int .i64 (x2)] [.int .i64 (x0),.int .i64 (x1),.int .i64 (x2)] B F2 L2 fun w7 hk B G=>?_;replace F2:=G;clear hk y0 z0 y1 z1 y2 z2))
 refine bodyPost_ret (results_single rfl (.cell g2 100 _ (0,0) _ rfl F2.out hu rfl (by kernel_rfl) .nil)) rfl ?_
 exact ⟨rfl,B.out⟩
theorem laws_toSessionS.M (A0 : Option Addr) (c0 : Nat) (l : List S112) (m : List S100) (w : World) (hr0 : Kd.C k112 w A0 l.length l) (hl : l.length≤1048576) (hm : l.map sesOf=m) : Calls Try.prog 54 #[.slice A0 l.length c0] w fun e w'=>∃ v0,e=.returned v0∧Kd.R k100 100 w' w.heap.size (fun _=>True) v0 m∧Below w.heap.size w w':=by
 have B:=Aside0.mk (Below.refl w.heap.size w)
 subst hm
 have hu:=Try.underlying100
 have hu2:=Try.underlying112
 have HR0:=Aside0.mk hr0
 clear hr0
 go_enter Try.func54,Try.ntmps54
 go_wp2_with ((with_reducible refine gate_dst (N:=7) rfl ?_);refine mkr k100 100 rfl (N:=7) rfl 32 _ _ rfl l.length rfl rfl Try.underlying32 (.agg #[.int .i64 (0),.int .i64 (0),.int .i64 (0)]) 24 info100 rfl (by decide) (by omega) z100 (k100_mkM _ _ _ z100) (by omega) B ?_;intro A kk w1 hb B R Q;clear hb Q)
 have R0:=Aside0.mk (show Ow k100 100 w1 w.heap.size (.slice A l.length kk) ((l.take 0).map sesOf ++ List.replicate (l.length - 0) z100) from R.out)
 clear R
 go_loopg [4] (l.length + 1) (fun kx v4 wr=>∃ j : Nat,v4=.int .i64 (j : Int)∧j≤l.length∧l.length < j + kx∧Aside0 (Below w.heap.size w wr)∧Aside0 (Ow k100 100 wr w.heap.size (.slice A l.length kk) ((l.take j).map sesOf ++ List.replicate (l.length - j) z100)))
 case atStart=>exact ⟨0,rfl,by omega,by omega,B,R0⟩
 case round =>
  clear R0 B
  obtain ⟨j,rfl,hj,hk,B,R⟩:=hrel
  by_cases hlt : j < l.length
  ·obtain ⟨d,rfl⟩ : ∃ d,gk=d + 1:=⟨gk - 1,by omega⟩
   have hln : ((l.take j).map sesOf ++ List.replicate (l.length - j) z100).length=l.length:=by rw [List.length_append,List.length_map,List.length_take,List.length_replicate];omega
   obtain ⟨g,rfl,hg⟩:=rform R (by omega)
   have hfs:=fill_set (f:=sesOf) (z:=z100) hlt
   have cj : decide ((j : Int) < (l.length : Int))=true:=decide_eq_true (by omega)
   obtain ⟨ad,hA,x0,x1,x2⟩:=at_T112 (cb HR0 B) (j : Int) (by omega) (by omega)
   cases hA
   rw [Int.toNat_natCast] at x0 x1 x2
   have j1:=eq_true (show (j : Int) < (l.length : Int) by omega)
   have j2:=eq_true hlt
   have hy : rd_T112 l (j : Int)=l[j]:=by simp [rd_T112,List.getD_eq_getElem?_getD,List.getElem?_eq_getElem hlt]
   rw [← hy] at hfs
   generalize rd_T112 l (j : Int)=y at *
   clear hy
   have HF:=Aside0.mk hfs
   clear hfs hln
   go_wp2_with (first
    | (go_at_call 92;with_reducible refine cl (laws_toSession.M y.f0 y.f1 y.f2 _) B fun w5 hb B=>?_;replace R:=rn R hb;obtain ⟨cs,hcl,_,hcc,hfz⟩:=rcells z100 R j hlt;have hsz : k100.sz=3:=rfl;obtain ⟨u0,hu0⟩ : ∃ u,cs[0]?=some u:=⟨_,List.getElem?_eq_getElem (by rw [hcl];decide)⟩;have q0:=hcc 0 u0 hu0;have z0:=hfz 0;rw [hsz,Nat.add_zero] at q0 z0;obtain ⟨u1,hu1⟩ : ∃ u,cs[1]?=some u:=⟨_,List.getElem?_eq_getElem (by rw [hcl];decide)⟩;have q1:=hcc 1 u1 hu1;have z1:=hfz 1;rw [hsz] at q1 z1;obtain ⟨u2,hu2⟩ : ∃ u,cs[2]?=some u:=⟨_,List.getElem?_eq_getElem (by rw [hcl];decide)⟩;have q2:=hcc 2 u2 hu2;have z2:=hfz 2;rw [hsz] at q2 z2;clear hb)
    | ((with_reducible refine gate_store (t:=100) (p:=21) rfl ?_);refine es (t:=100) (p:=21) (v:=?vo1) ?hg ?ho ?hn j 0 [.int .i64 (y.f0),.int .i64 (y.f1),.int .i64 (y.f2)] (sesOf y) ?hr R hlt hcl hcc (Nat.le_refl 3) (by rw [List.take_zero,List.drop_of_length_le (by rw [hcl];exact Nat.le_refl 3)];exact k100_mkM _ _ _ (sesOf y)) B hg ?_;(case ho=>rfl);(case hg=>rfl);(case hn=>rfl);(case hr=>first | (go_simp;done) | (go_simp;rfl));intro w6 _ B R;rw [HF.out] at R))
   go_roundg d
   case measure=>omega
   case rel=>exact ⟨j + 1,congrArg (Value.int .i64) (Int.natCast_succ _).symm,by omega,by omega,B,R⟩
  ·have cj : decide ((j : Int) < (l.length : Int))=false:=decide_eq_false (by omega)
   rw [fill_end hlt] at R
   go_wp2
   go_ret
   exact ⟨_,rfl,R.out,B.out⟩

/-! Calls that give or write several rows. -/
theorem laws_toState.M (a b : ByteArray) (AP : Option Addr) (cP : Nat) (ps : List S108) (AS : Option Addr) (cS : Nat) (ss : List S112) (t : Bool) (c : ByteArray) (qs : List S61) (us : List S100) (w : World) (hrp : Kd.C k108 w AP ps.length ps) (hrs : Kd.C k112 w AS ss.length ss) (hl : ps.length≤1048576∧ss.length≤1048576) (hqs : ps.map prOf=qs) (hus : ss.map sesOf=us) : Calls Try.prog 13 #[.agg #[.string a,.string b,.slice AP ps.length cP,.slice AS ss.length cS,.bool t,.string c]] w fun e w'=>∃ v2 v3,e=.returned (.agg #[.string a,.string b,v2,v3,.bool t,.string c])∧Kd.R k61 61 w' w.heap.size (fun _=>True) v2 qs∧Kd.R k100 100 w' w.heap.size (fun _=>True) v3 us∧Below w.heap.size w w':=by
 have B:=Aside0.mk (Below.refl w.heap.size w)
 have hu:=Try.underlying34
 have hu2:=Try.underlying27
 have HRP:=Aside0.mk hrp
 have HRS:=Aside0.mk hrs
 have HQS:=Aside0.mk hqs
 have HUS:=Aside0.mk hus
 obtain ⟨hl1,hl2⟩:=hl
 clear hrp hrs hqs hus
 go_enter Try.func13,Try.ntmps13
 go_wp2_with (first
  | ((with_reducible refine gate_dst (N:=1) rfl ?_);refine bxq 1 #[.string a,.string b,.slice AP ps.length cP,.slice AS ss.length cS,.bool t,.string c] 27 B fun g1 w1 hb B F1 L1 E1=>?_;obtain ⟨c1_0,c1_1,c1_2,c1_3,c1_4,c1_5⟩:=cs6 F1;clear hb E1)
  | ((with_reducible refine gate_dst (N:=2) rfl ?_);refine bxq 2 #[.string (⟨#[]⟩ : ByteArray),.string (⟨#[]⟩ : ByteArray),.slice none 0 0,.slice none 0 0,.bool false,.string (⟨#[]⟩ : ByteArray)] 34 B fun g2 w2 hb B F2 L2 E2=>?_;have N1_2:=ne1 E2 F1;replace F1:=bn F1 hb;clear c1_0 c1_1 c1_2 c1_3 c1_4 c1_5;obtain ⟨c1_0,c1_1,c1_2,c1_3,c1_4,c1_5⟩:=cs6 F1;clear hb E2)
  | ((with_reducible refine gate_dst (N:=3) rfl ?_);refine bxq 3 #[.string (⟨#[]⟩ : ByteArray),.string (⟨#[]⟩ : ByteArray),.slice none 0 0,.slice none 0 0,.bool false,.string (⟨#[]⟩ : ByteArray)] 34 B fun g3 w3 hb B F3 L3 E3=>?_;have N1_3:=ne1 E3 F1;have N2_3:=ne1 E3 F2;replace F1:=bn F1 hb;replace F2:=bn F2 hb;clear c1_0 c1_1 c1_2 c1_3 c1_4 c1_5;obtain ⟨c1_0,c1_1,c1_2,c1_3,c1_4,c1_5⟩:=cs6 F1;obtain ⟨c3_0,c3_1,c3_2,c3_3,c3_4,c3_5⟩:=cs6 F3;clear hb E3)
  | (go_at_call 52;with_reducible refine cl (laws_toInterval.M a b _) B fun w4 hb B=>?_;replace F1:=bn F1 hb;replace F2:=bn F2 hb;replace F3:=bn F3 hb;clear c1_0 c1_1 c1_2 c1_3 c1_4 c1_5;obtain ⟨c1_0,c1_1,c1_2,c1_3,c1_4,c1_5⟩:=cs6 F1;clear c3_0 c3_1 c3_2 c3_3 c3_4 c3_5;obtain ⟨c3_0,c3_1,c3_2,c3_3,c3_4,c3_5⟩:=cs6 F3;clear hb)
  | ((with_reducible refine gate_store (t:=30) (p:=7) rfl ?_);obtain ⟨y0,y1,y2,y3,y4,y5,z0,z1,z2,z3,z4,z5⟩:=cz6 F3;refine sxq 34 30 7 0 [.string a,.string b] [.string a,.string b,.slice none 0 0,.slice none 0 0,.bool false,.string (⟨#[]⟩ : ByteArray)] B F3 L3 fun w5 hk B G=>?_;replace F1:=bk F1 hk N1_3.out;replace F2:=bk F2 hk N2_3.out;replace F3:=G;clear c1_0 c1_1 c1_2 c1_3 c1_4 c1_5;obtain ⟨c1_0,c1_1,c1_2,c1_3,c1_4,c1_5⟩:=cs6 F1;clear c3_0 c3_1 c3_2 c3_3 c3_4 c3_5;obtain ⟨c3_0,c3_1,c3_2,c3_3,c3_4,c3_5⟩:=cs6 F3;clear hk y0 z0 y1 z1 y2 z2 y3 z3 y4 z4 y5 z5)
  | (go_at_call 53;with_reducible refine cr (laws_toPairS.M _ _ ps qs _ (cb HRP B) (by omega) HQS.out) B fun AP6 kP6 w6 hb B RP6 QP6=>?_;replace F1:=bn F1 hb;replace F2:=bn F2 hb;replace F3:=bn F3 hb;clear QP6;clear c1_0 c1_1 c1_2 c1_3 c1_4 c1_5;obtain ⟨c1_0,c1_1,c1_2,c1_3,c1_4,c1_5⟩:=cs6 F1;clear c3_0 c3_1 c3_2 c3_3 c3_4 c3_5;obtain ⟨c3_0,c3_1,c3_2,c3_3,c3_4,c3_5⟩:=cs6 F3;clear hb)
  | ((with_reducible refine gate_store (t:=31) (p:=11) rfl ?_);obtain ⟨y0,y1,y2,y3,y4,y5,z0,z1,z2,z3,z4,z5⟩:=cz6 F3;refine sxq 34 31 11 2 [.slice AP6 qs.length kP6] [.string a,.string b,.slice AP6 qs.length kP6,.slice none 0 0,.bool false,.string (⟨#[]⟩ : ByteArray)] B F3 L3 fun w7 hk B G=>?_;replace F1:=bk F1 hk N1_3.out;replace F2:=bk F2 hk N2_3.out;replace RP6:=rk RP6 F3 (by decide) hk;replace F3:=G;clear c1_0 c1_1 c1_2 c1_3 c1_4 c1_5;obtain ⟨c1_0,c1_1,c1_2,c1_3,c1_4,c1_5⟩:=cs6 F1;clear c3_0 c3_1 c3_2 c3_3 c3_4 c3_5;obtain ⟨c3_0,c3_1,c3_2,c3_3,c3_4,c3_5⟩:=cs6 F3;clear hk y0 z0 y1 z1 y2 z2 y3 z3 y4 z4 y5 z5)
  | (go_at_call 54;with_reducible refine cr (laws_toSessionS.M _ _ ss us _ (cb HRS B) (by omega) HUS.out) B fun AS8 kS8 w8 hb B RS8 QS8=>?_;replace F1:=bn F1 hb;replace F2:=bn F2 hb;replace F3:=bn F3 hb;replace RP6:=rn RP6 hb;clear QS8;clear c1_0 c1_1 c1_2 c1_3 c1_4 c1_5;obtain ⟨c1_0,c1_1,c1_2,c1_3,c1_4,c1_5⟩:=cs6 F1;clear c3_0 c3_1 c3_2 c3_3 c3_4 c3_5;obtain ⟨c3_0,c3_1,c3_2,c3_3,c3_4,c3_5⟩:=cs6 F3;clear hb)
  | ((with_reducible refine gate_store (t:=32) (p:=15) rfl ?_);obtain ⟨y0,y1,y2,y3,y4,y5,z0,z1,z2,z3,z4,z5⟩:=cz6 F3;refine sxq 34 32 15 3 [.slice AS8 us.length kS8] [.string a,.string b,.slice AP6 qs.length kP6,.slice AS8 us.length kS8,.bool false,.string (⟨#[]⟩ : ByteArray)] B F3 L3 fun w9 hk B G=>?_;replace F1:=bk F1 hk N1_3.out;replace F2:=bk F2 hk N2_3.out;replace RP6:=rk RP6 F3 (by decide) hk;replace RS8:=rk RS8 F3 (by decide) hk;replace F3:=G;clear c1_0 c1_1 c1_2 c1_3 c1_4 c1_5;obtain ⟨c1_0,c1_1,c1_2,c1_3,c1_4,c1_5⟩:=cs6 F1;clear c3_0 c3_1 c3_2 c3_3 c3_4 c3_5;obtain ⟨c3_0,c3_1,c3_2,c3_3,c3_4,c3_5⟩:=cs6 F3;clear hk y0 z0 y1 z1 y2 z2 y3 z3 y4 z4 y5 z5)
  | ((with_reducible refine gate_store (t:=4) (p:=18) rfl ?_);obtain ⟨y0,y1,y2,y3,y4,y5,z0,z1,z2,z3,z4,z5⟩:=cz6 F3;refine sxq 34 4 18 4 [.bool t] [.string a,.string b,.slice AP6 qs.length kP6,.slice AS8 us.length kS8,.bool t,.string (⟨#[]⟩ : ByteArray)] B F3 L3 fun w10 hk B G=>?_;replace F1:=bk F1 hk N1_3.out;replace F2:=bk F2 hk N2_3.out;replace RP6:=rk RP6 F3 (by decide) hk;replace RS8:=rk RS8 F3 (by decide) hk;replace F3:=G;clear c1_0 c1_1 c1_2 c1_3 c1_4 c1_5;obtain ⟨c1_0,c1_1,c1_2,c1_3,c1_4,c1_5⟩:=cs6 F1;clear c3_0 c3_1 c3_2 c3_3 c3_4 c3_5;obtain ⟨c3_0,c3_1,c3_2,c3_3,c3_4,c3_5⟩:=cs6 F3;clear hk y0 z0 y1 z1 y2 z2 y3 z3 y4 z4 y5 z5)
  | ((with_reducible refine gate_store (t:=9) (p:=21) rfl ?_);obtain ⟨y0,y1,y2,y3,y4,y5,z0,z1,z2,z3,z4,z5⟩:=cz6 F3;refine sxq 34 9 21 5 [.string c] [.string a,.string b,.slice AP6 qs.length kP6,.slice AS8 us.length kS8,.bool t,.string c] B F3 L3 fun w11 hk B G=>?_;replace F2:=bk F2 hk N2_3.out;replace RP6:=rk RP6 F3 (by decide) hk;replace RS8:=rk RS8 F3 (by decide) hk;replace F3:=G;clear c3_0 c3_1 c3_2 c3_3 c3_4 c3_5;obtain ⟨c3_0,c3_1,c3_2,c3_3,c3_4,c3_5⟩:=cs6 F3;clear hk y0 z0 y1 z1 y2 z2 y3 z3 y4 z4 y5 z5)
  | ((with_reducible refine gate_store (t:=34) (p:=2) rfl ?_);obtain ⟨y0,y1,y2,y3,y4,y5,z0,z1,z2,z3,z4,z5⟩:=cz6 F2;refine sxq 34 34 2 0 [.string a,.string b,.slice AP6 qs.length kP6,.slice AS8 us.length kS8,.bool t,.string c] [.string a,.string b,.slice AP6 qs.length kP6,.slice AS8 us.length kS8,.bool t,.string c] B F2 L2 fun w12 hk B G=>?_;replace RP6:=rk RP6 F2 (by decide) hk;replace RS8:=rk RS8 F2 (by decide) hk;replace F2:=G;clear hk y0 z0 y1 z1 y2 z2 y3 z3 y4 z4 y5 z5))
 refine bodyPost_ret (results_single rfl (.cell g2 34 _ (0,0) _ rfl F2.out hu rfl (by kernel_rfl) .nil)) rfl ?_
 exact ⟨_,_,rfl,RP6.out,RS8.out,B.out⟩

/-! Lists of states made anew. -/
def stOf (x : S27) : S34:=⟨⟨x.f0.f0,x.f0.f1⟩,x.f1.map prOf,x.f2.map sesOf,x.f3,x.f4⟩
section
variable {w W W1 W2 : World} {g n cap : Nat} {xs : List S34}
theorem MAt.lay (h : MAt (fun _=>True) w w W (.slice (some ⟨g,0,none⟩) n cap) xs) (hb : Below W.heap.size W W1) {v2 v3 : Value} {qs : List S61} {us : List S100} (g2 : Kd.R k61 61 W1 W.heap.size (fun _=>True) v2 qs) (g3 : Kd.R k100 100 W1 W.heap.size (fun _=>True) v3 us) {j : Nat} (hj : j < n) {a b c : ByteArray} {t : Bool}
    (hw : W2=(((((W1.setCell ⟨g,j * 6,none⟩ (.string a)).setCell ⟨g,j * 6 + 1,none⟩ (.string b)).setCell ⟨g,j * 6 + 2,none⟩ v2).setCell ⟨g,j * 6 + 3,none⟩ v3).setCell ⟨g,j * 6 + 4,none⟩ (.bool t)).setCell ⟨g,j * 6 + 5,none⟩ (.string c)) : MAt (fun _=>True) w w W2 (.slice (some ⟨g,0,none⟩) n cap) (xs.set j ⟨⟨a,b⟩,qs,us,t,c⟩):=by
  have hsz:=below_size h.bel
  have hn:=h.len
  have hgl : g < W.heap.size:=Kd.S_lt h.own g (by simp [Value.ownBlock])
  have hgb : w.heap.size≤g:=Kd.S_base h.own g (by simp [Value.ownBlock])
  have hx : Kd.S k34 34 W1 w.heap.size (fun k=>True∧¬ (some k=v2.ownBlock ∨ some k=v3.ownBlock)) (.slice (some ⟨g,0,none⟩) n cap) xs:=Kd.S_mono (Kd.S_old h.own hb) (fun k hk=>⟨trivial,fun he=>he.elim (fun he=>absurd (Kd.R_base g2 k he.symm) (by have:=hk.2;omega)) (fun he=>absurd (Kd.R_base g3 k he.symm) (by have:=hk.2;omega))⟩)
  obtain ⟨oki,ce,hcl,hM,hcc,hfr,hoki,hH⟩:=Kd.S_elem hx z34 (j : Int) (by omega) (by omega)
  obtain ⟨u2,u3,rfl,_,_⟩:=k34_openM hM
  have hP:=Kd.S_seg hH (by omega) (by omega) (seg:=[.string a,.string b,v2,v3,.bool t,.string c]) (j:=0) (show 6≤6 from by decide) (x':=(⟨⟨a,b⟩,qs,us,t,c⟩ : S34)) (okp:=fun k=>some k=v2.ownBlock ∨ some k=v3.ownBlock)
    (k34_mkM _ _ _ (⟨⟨a,b⟩,qs,us,t,c⟩ : S34) (Kd.R_lower (Kd.R_mono (Kd.R_tight rfl g2) (fun _ h_=>Or.inl h_)) hsz) (Kd.R_lower (Kd.R_mono (Kd.R_tight rfl g3) (fun _ h_=>Or.inr h_)) hsz)) (fun _ hk=>Or.inr hk) (fun k hk=>⟨trivial,fun e=>by
      subst e
      exact hk.elim (fun he=>absurd (Kd.R_base g2 _ he.symm) (by omega)) (fun he=>absurd (Kd.R_base g3 _ he.symm) (by omega))⟩)
  rw [Int.toNat_natCast] at hP
  have e : W1.setCells g (j * 6 + 0) [.string a,.string b,v2,v3,.bool t,.string c]=W2:=by rw [hw];rfl
  have hb2 : Below w.heap.size w W2:=by
    rw [hw]
    exact below_set (below_set (below_set (below_set (below_set (below_set (below_step h.bel hb) hgb) hgb) hgb) hgb) hgb) hgb
  refine ⟨?_,hb2,below_size hb2,fun _ _ h=>absurd trivial h⟩
  rw [← e]
  exact Kd.S_mono hP.1 (fun _ _=>Or.inl trivial)
end
theorem rdls_nat {l : List S27} {j : Nat} (h : j < l.length) : rd_T27 l (j : Int)=l[j]:=by
  simp [rd_T27,List.getD_eq_getElem?_getD,List.getElem?_eq_getElem h]
theorem toS_step {l : List S27} {xs : List S34} {j : Nat} {y : S27} (hl : xs.length=l.length) (hj : j < l.length) (hy : rd_T27 l (j : Int)=y) (ht : xs.take j=(l.map stOf).take j) : (xs.set j (stOf y)).take (j + 1)=(l.map stOf).take (j + 1):=by
  rw [List.take_succ_eq_append_getElem (by simp;omega),List.take_succ_eq_append_getElem (by simpa using hj),← ht,← hy,rdls_nat hj]
  simp [List.take_set_of_le]
set_option maxHeartbeats 4000000 in
theorem laws_toStateS.M (A0 : Option Addr) (c0 : Nat) (l : List S27) (w : World) (hr0 : Kd.C k27 w A0 l.length l) (hn : l.length≤1048576) (hl : ∀ y ∈ l,y.f1.length≤1048576∧y.f2.length≤1048576) :
    Calls Try.prog 20 #[.slice A0 l.length c0] w fun e w'=>∃ v,e=.returned v∧Kd.S k34 34 w' w.heap.size (fun _=>True) v (l.map stOf)∧Below w.heap.size w w':=by
  have HR0:=Aside0.mk hr0
  clear hr0
  have SZ:=Aside0.mk hn
  have HL:=Aside0.mk hl
  clear hl
  have hu:=Try.underlying34
  have hu2:=Try.underlying27
  go_enter Try.func20,Try.ntmps20
  go_wp2_with (first | ((with_reducible refine gate_dst (N:=7) rfl ?_);refine Kd.S_make k34 _ 34 rfl (N:=7) rfl 46 _ _ rfl (l.length : Int) rfl rfl Try.underlying46 (.agg #[(.string ⟨#[]⟩),(.string ⟨#[]⟩),(.slice none 0 0),(.slice none 0 0),(.bool false),(.string ⟨#[]⟩)]) 104 info34 rfl (by decide) (by omega) z34 (ok:=fun _=>True) (okp:=fun _=>True) (k34_mkM _ _ _ z34 (Kd.R_nil _ _ _ _ _) (Kd.R_nil _ _ _ _ _)) (fun _ hk=>hk) trivial (Int.natCast_nonneg _) (Nat.le_trans (Nat.mul_le_mul_right _ (show (l.length : Int).toNat≤1048576 from SZ.out)) (by omega)) (Below.refl _ _) (Nat.le_refl _) ?_;intro v w1 ho hb _ _;obtain ⟨Av,cv,hv⟩ : ∃ A c,v=.slice A l.length c:=(by obtain ⟨A,c,h⟩:=Kd.S_slice ho;exact ⟨A,c,by simpa using h⟩);subst hv;have M:=Aside0.mk (MAt.mk (ok:=fun _=>True) (W0:=w) (Kd.S_mono ho (fun _ _=>Or.inl trivial)) hb ⟨below_size hb,fun _ _ h=>absurd trivial h⟩);clear ho hb))
  go_loopg [4] (l.length + 1) (fun kx v4 wr=>∃ (j : Nat) (xs : List S34),v4=.int .i64 (j : Int)∧j≤l.length∧l.length < j + kx∧Aside0 (xs.length=l.length)∧Aside0 (xs.take j=(l.map stOf).take j)∧Aside0 (MAt (fun _=>True) w w wr (.slice Av l.length cv) xs))
  case atStart=>exact ⟨0,List.replicate (l.length : Int).toNat z34,rfl,by omega,by omega,⟨by simp⟩,⟨rfl⟩,M⟩
  case round =>
    clear M
    obtain ⟨j,xs,rfl,hj,hk,HX,HT,M⟩:=hrel
    by_cases hlt : j < l.length
    · obtain ⟨d,rfl⟩ : ∃ d,gk=d + 1:=⟨gk - 1,by omega⟩
      have cj : decide ((j : Int) < (l.length : Int))=true:=decide_eq_true (by omega)
      obtain ⟨g,hA⟩ : ∃ g,Av=some ⟨g,0,none⟩:=by
        obtain ⟨g,cap,hv,_⟩:=Kd.S_form M.out.own (by have:=HX.out;omega)
        injection hv with hA _ _
        exact ⟨g,hA⟩
      subst hA
      obtain ⟨ad,A2,c2,A3,c3,hA,x0,x1,x2,x3,x4,x5,l2,i2,l3,i3⟩:=at_T27 HR0.out (j : Int) (by omega) (by omega)
      subst hA
      have j1:=eq_true (show (j : Int) < (l.length : Int) by omega)
      have j2:=eq_true hlt
      obtain ⟨y,hy⟩ : ∃ y,rd_T27 l (j : Int)=y:=⟨_,rfl⟩
      have HY:=Aside0.mk (show y.f1.length≤1048576∧y.f2.length≤1048576 from HL.out y (by rw [← hy,rdls_nat hlt];exact List.getElem_mem hlt))
      have HS:=Aside0.mk (toS_step HX.out hlt hy HT.out)
      rw [hy,Int.toNat_natCast] at x0 x1 x2 x3 x4 x5
      rw [hy] at l2 i2 l3 i3
      clear hy HT
      replace x0:=(M.out.bel.cell (World.block_lt_of_cell? w _ x0)).trans x0
      replace x1:=(M.out.bel.cell (World.block_lt_of_cell? w _ x1)).trans x1
      replace x2:=(M.out.bel.cell (World.block_lt_of_cell? w _ x2)).trans x2
      replace x3:=(M.out.bel.cell (World.block_lt_of_cell? w _ x3)).trans x3
      replace x4:=(M.out.bel.cell (World.block_lt_of_cell? w _ x4)).trans x4
      replace x5:=(M.out.bel.cell (World.block_lt_of_cell? w _ x5)).trans x5
      have I2:=Aside0.mk (Kd.C_below i2 M.out.bel)
      have I3:=Aside0.mk (Kd.C_below i3 M.out.bel)
      clear l2 i2 l3 i3
      go_wp2_with (first
        | (go_at_call 13;with_reducible refine (laws_toState.M y.f0.f0 y.f0.f1 _ _ y.f1 _ _ y.f2 y.f3 y.f4 _ _ _ I2.out I3.out HY.out rfl rfl).mono ?_;rintro e w2 ⟨v2,v3,rfl,g2,g3,hb⟩;obtain ⟨B2,d2,hv2⟩:=Kd.R_slice g2;rw [List.length_map] at hv2;subst hv2;obtain ⟨B3,d3,hv3⟩:=Kd.R_slice g3;rw [List.length_map] at hv3;subst hv3;have G2:=Aside0.mk g2;have G3:=Aside0.mk g3;have HB:=Aside0.mk hb;clear g2 g3 hb x0 x1 x2 x3 x4 x5;obtain ⟨_,_,-,-,q0,q1,q2,q3,q4,q5,f0,f1,f4,f5,f2,f3⟩:=(M.out.below HB.out).cells hlt;skip)
        | ((with_reducible refine gate_store (t:=34) (p:=21) rfl ?_);refine store_event (t:=34) (p:=21) (v:=?vo) (w1:=(((((w2.setCell ⟨g,j * 6,none⟩ (.string y.f0.f0)).setCell ⟨g,j * 6 + 1,none⟩ (.string y.f0.f1)).setCell ⟨g,j * 6 + 2,none⟩ (.slice B2 y.f1.length d2)).setCell ⟨g,j * 6 + 3,none⟩ (.slice B3 y.f2.length d3)).setCell ⟨g,j * 6 + 4,none⟩ (.bool y.f3)).setCell ⟨g,j * 6 + 5,none⟩ (.string y.f4)) ?hg ?ho ?hn ?hr ?_;(case ho | hg | hn=>rfl);(case hr=>first | (go_simp;done) | (go_simp;rfl));intro w3 hw;clear q0 q1 q2 q3 q4 q5 f0 f1 f4 f5 f2 f3;replace M:=Aside0.mk (M.out.lay HB.out G2.out G3.out hlt hw);clear hw HB G2 G3))
      go_roundg d
      case measure=>omega
      case rel=>exact ⟨j + 1,_,congrArg (Value.int .i64) (Int.natCast_succ _).symm,by omega,by omega,⟨by rw [List.length_set];exact HX.out⟩,HS,M⟩
    · have cj : decide ((j : Int) < (l.length : Int))=false:=decide_eq_false (by omega)
      have hh:=HT.out
      rw [List.take_of_length_le (by have:=HX.out;omega),List.take_of_length_le (by rw [List.length_map];omega)] at hh
      subst hh
      go_wp2
      go_ret
      exact ⟨_,rfl,Kd.S_mono M.out.own (fun _ _=>trivial),M.out.bel⟩

theorem laws_szInterval.M (a b : ByteArray) (n : Int) (w : World) (hn : 0≤n∧n≤1048576) (ha : a.size≤9223372036854775807) (hb : b.size≤9223372036854775807) : Calls Try.prog 44 #[.agg #[.string a,.string b],.int .i64 n] w fun e w'=>∃ v : Int,e=.returned (.int .i64 v)∧(v < 0 ∨ 0≤v∧v≤n)∧Below w.heap.size w w':=by
 have B:=Aside0.mk (Below.refl w.heap.size w)
 have hu:=Try.underlying23
 go_enter Try.func44,Try.ntmps44
 go_wp2_with (first
  | ((with_reducible refine gate_dst (N:=2) rfl ?_);refine bxq 2 #[.string a,.string b] 23 B fun g2 w1 hb B F2 L2 E2=>?_;obtain ⟨c2_0,c2_1⟩:=cs2 F2;clear hb E2))
 all_goals go_ret
 all_goals (refine ⟨_,rfl,?_,B.out⟩;omega)
theorem laws_szPair.M (a : ByteArray) (b n : Int) (w : World) (hn : 0≤n∧n≤1048576) (ha : a.size≤9223372036854775807) : Calls Try.prog 88 #[.agg #[.string a,.int .i64 b],.int .i64 n] w fun e w'=>∃ v : Int,e=.returned (.int .i64 v)∧(v < 0 ∨ 0≤v∧v≤n)∧Below w.heap.size w w':=by
 have B:=Aside0.mk (Below.refl w.heap.size w)
 have hu:=Try.underlying108
 go_enter Try.func88,Try.ntmps88
 go_wp2_with (first
  | ((with_reducible refine gate_dst (N:=2) rfl ?_);refine bxq 2 #[.string a,.int .i64 (b)] 108 B fun g2 w1 hb B F2 L2 E2=>?_;obtain ⟨c2_0,c2_1⟩:=cs2 F2;clear hb E2))
 all_goals go_ret
 all_goals (refine ⟨_,rfl,?_,B.out⟩;omega)
theorem laws_szPairS.M (A0 : Option Addr) (c0 : Nat) (l : List S108) (n : Int) (w : World) (hr0 : Kd.C k108 w A0 l.length l) (hn : 0≤n∧n≤1048576) (hs : ∀ y ∈ l,y.f0.size≤9223372036854775807) : Calls Try.prog 45 #[.slice A0 l.length c0,.int .i64 n] w fun e w'=>∃ v : Int,e=.returned (.int .i64 v)∧(v < 0 ∨ 0≤v∧v≤n∧(l.length : Int)≤n)∧Below w.heap.size w w':=by
 have B:=Aside0.mk (Below.refl w.heap.size w)
 have hu:=Try.underlying108
 have HR0:=Aside0.mk hr0
 have hm:=hr0.2.1
 have HS:=Aside0.mk hs
 clear hr0 hs
 go_enter Try.func45,Try.ntmps45
 go_wp2
 ·go_ret
  exact ⟨-1,rfl,by omega,B.out⟩
 ·go_loopg [1,5] (l.length + 1) (fun kx v1 v5 wr=>∃ (j : Nat) (m : Int),v1=.int .i64 m∧v5=.int .i64 (j : Int)∧j≤l.length∧l.length < j + kx∧0≤m∧m≤n∧Aside0 (Below w.heap.size w wr))
  case atStart=>exact ⟨0,_,rfl,rfl,by omega,by omega,by omega,by omega,B⟩
  case round =>
   clear B
   obtain ⟨j,m,rfl,rfl,hj,hk,hm0,hm1,B⟩:=hrel
   by_cases hlt : j < l.length
   ·obtain ⟨d,rfl⟩ : ∃ d,gk=d + 1:=⟨gk - 1,by omega⟩
    have cj : decide ((j : Int) < (l.length : Int))=true:=decide_eq_true (by omega)
    obtain ⟨ad,hA,y0,y1⟩:=at_T108 (cb HR0 B) (j : Int) (by omega) (by omega)
    cases hA
    have hz:=HS.out (rd_T108 l (j : Int)) (by simp [rd_T108,List.getD_eq_getElem?_getD,List.getElem?_eq_getElem hlt])
    rw [Int.toNat_natCast] at y0 y1
    have j1:=eq_true (show (j : Int) < (l.length : Int) by omega)
    have j2:=eq_true hlt
    generalize hy : rd_T108 l (j : Int)=y at *
    go_wp2_with (first
     | (go_at_call 88;with_reducible refine cx (laws_szPair.M y.f0 y.f1 m _ (by omega) (by omega)) B fun v1 hv1 w1 hb B=>?_;clear hb))
    all_goals first
     | (go_roundg d;(case measure=>omega);(case rel=>exact ⟨j + 1,_,rfl,congrArg (Value.int .i64) (Int.natCast_succ _).symm,by omega,by omega,by omega,by omega,B⟩))
     | (go_ret;exact ⟨-1,rfl,by omega,B.out⟩)
   ·have cj : decide ((j : Int) < (l.length : Int))=false:=decide_eq_false (by omega)
    go_wp2
    go_ret
    exact ⟨m,rfl,by omega,B.out⟩
theorem laws_szSessionS.M (A0 : Option Addr) (c0 : Nat) (l : List S112) (n : Int) (w : World) (hr0 : Kd.C k112 w A0 l.length l) (hn : 0≤n∧n≤1048576) : Calls Try.prog 46 #[.slice A0 l.length c0,.int .i64 n] w fun e w'=>∃ v : Int,e=.returned (.int .i64 v)∧(v < 0 ∨ 0≤v∧v≤n∧(l.length : Int)≤n)∧Below w.heap.size w w':=by
 have B:=Aside0.mk (Below.refl w.heap.size w)
 have hm:=hr0.2.1
 clear hr0
 go_enter Try.func46,Try.ntmps46
 go_wp2
 all_goals go_ret
 all_goals (refine ⟨_,rfl,?_,B.out⟩;omega)
theorem laws_szState.M (a b : ByteArray) (AP : Option Addr) (cP : Nat) (ps : List S108) (AS : Option Addr) (cS : Nat) (ss : List S112) (t : Bool) (c : ByteArray) (n : Int) (w : World) (hrp : Kd.C k108 w AP ps.length ps) (hrs : Kd.C k112 w AS ss.length ss) (hn : 0≤n∧n≤1048576) (hs : a.size≤9223372036854775807∧b.size≤9223372036854775807∧c.size≤9223372036854775807∧∀ y ∈ ps,y.f0.size≤9223372036854775807) : Calls Try.prog 11 #[.agg #[.string a,.string b,.slice AP ps.length cP,.slice AS ss.length cS,.bool t,.string c],.int .i64 n] w fun e w'=>∃ v : Int,e=.returned (.int .i64 v)∧(v < 0 ∨ 0≤v∧v≤n∧(ps.length : Int)≤n∧(ss.length : Int)≤n)∧Below w.heap.size w w':=by
 have B:=Aside0.mk (Below.refl w.heap.size w)
 have hu:=Try.underlying27
 have HRP:=Aside0.mk hrp
 have HRS:=Aside0.mk hrs
 obtain ⟨ha,hb,hc,hps⟩:=hs
 have HPS:=Aside0.mk hps
 clear hrp hrs hps
 go_enter Try.func11,Try.ntmps11
 go_wp2_with (first
  | ((with_reducible refine gate_dst (N:=2) rfl ?_);refine bxq 2 #[.string a,.string b,.slice AP ps.length cP,.slice AS ss.length cS,.bool t,.string c] 27 B fun g2 w1 hb B F2 L2 E2=>?_;obtain ⟨c2_0,c2_1,c2_2,c2_3,c2_4,c2_5⟩:=cs6 F2;clear hb E2)
  | (go_at_call 44;with_reducible refine cx (laws_szInterval.M a b n _ (by omega) (by omega) (by omega)) B fun v2 hv2 w2 hb B=>?_;replace F2:=bn F2 hb;clear c2_0 c2_1 c2_2 c2_3 c2_4 c2_5;obtain ⟨c2_0,c2_1,c2_2,c2_3,c2_4,c2_5⟩:=cs6 F2;clear hb)
  | (go_at_call 45;with_reducible refine cx (laws_szPairS.M _ _ ps v2 _ (cb HRP B) (by omega) HPS.out) B fun v3 hv3 w3 hb B=>?_;replace F2:=bn F2 hb;clear c2_0 c2_1 c2_2 c2_3 c2_4 c2_5;obtain ⟨c2_0,c2_1,c2_2,c2_3,c2_4,c2_5⟩:=cs6 F2;clear hb)
  | (go_at_call 46;with_reducible refine cx (laws_szSessionS.M _ _ ss v3 _ (cb HRS B) (by omega)) B fun v4 hv4 w4 hb B=>?_;replace F2:=bn F2 hb;clear c2_0 c2_1 c2_2 c2_3 c2_4 c2_5;obtain ⟨c2_0,c2_1,c2_2,c2_3,c2_4,c2_5⟩:=cs6 F2;clear hb))
 all_goals go_ret
 all_goals (refine ⟨_,rfl,?_,B.out⟩;omega)

def LimU (l : List S27) (n : Nat) : Prop:=∀ i (h : i < l.length),i < n→l[i].f1.length≤1048576∧l[i].f2.length≤1048576
def SzO (l : List S27) : Prop:=∀ y ∈ l,y.f0.f0.size≤9223372036854775807∧y.f0.f1.size≤9223372036854775807∧y.f4.size≤9223372036854775807∧∀ p ∈ y.f1,p.f0.size≤9223372036854775807
theorem LimU.step {l : List S27} {j : Nat} (h : LimU l j) (hj : j < l.length) {y : S27} (hy : rd_T27 l (j : Int)=y) (h1 : y.f1.length≤1048576) (h2 : y.f2.length≤1048576) : LimU l (j + 1):=fun i hi hlt=>by
 by_cases e : i < j
 ·exact h i hi e
 ·obtain rfl : i=j:=by omega
  have : rd_T27 l (i : Int)=l[i]:=by simp [rd_T27,List.getD_eq_getElem?_getD,List.getElem?_eq_getElem hj]
  rw [this] at hy
  rw [hy]
  exact ⟨h1,h2⟩
theorem LimU.all {l : List S27} (h : LimU l l.length) : ∀ y ∈ l,y.f1.length≤1048576∧y.f2.length≤1048576:=fun y hy=>by
 obtain ⟨i,hi,rfl⟩:=List.mem_iff_getElem.mp hy
 exact h i hi hi
theorem SzO.at {l : List S27} (h : SzO l) {j : Nat} (hj : j < l.length) {y : S27} (hy : rd_T27 l (j : Int)=y) : y.f0.f0.size≤9223372036854775807∧y.f0.f1.size≤9223372036854775807∧y.f4.size≤9223372036854775807∧∀ p ∈ y.f1,p.f0.size≤9223372036854775807:=by
 have : rd_T27 l (j : Int)=l[j]:=by simp [rd_T27,List.getD_eq_getElem?_getD,List.getElem?_eq_getElem hj]
 rw [← hy,this]
 exact h _ (List.getElem_mem hj)
theorem laws_szStateS.M (A0 : Option Addr) (c0 : Nat) (l : List S27) (n : Int) (w : World) (hr0 : Kd.C k27 w A0 l.length l) (hn : 0≤n∧n≤1048576) (hs : SzO l) : Calls Try.prog 18 #[.slice A0 l.length c0,.int .i64 n] w fun e w'=>∃ v : Int,e=.returned (.int .i64 v)∧(v < 0 ∨ 0≤v∧v≤n∧(l.length : Int)≤n∧LimU l l.length)∧Below w.heap.size w w':=by
 have B:=Aside0.mk (Below.refl w.heap.size w)
 have hu:=Try.underlying27
 have HR0:=Aside0.mk hr0
 have hm:=hr0.2.1
 have HS:=Aside0.mk hs
 clear hr0 hs
 go_enter Try.func18,Try.ntmps18
 go_wp2
 ·go_ret
  exact ⟨-1,rfl,by omega,B.out⟩
 ·go_loopg [1,5] (l.length + 1) (fun kx v1 v5 wr=>∃ (j : Nat) (m : Int),v1=.int .i64 m∧v5=.int .i64 (j : Int)∧j≤l.length∧l.length < j + kx∧0≤m∧m≤n∧Aside0 (LimU l j)∧Aside0 (Below w.heap.size w wr))
  case atStart=>exact ⟨0,_,rfl,rfl,by omega,by omega,by omega,by omega,⟨fun _ _ h=>absurd h (by omega)⟩,B⟩
  case round =>
   clear B
   obtain ⟨j,m,rfl,rfl,hj,hk,hm0,hm1,HU0,B⟩:=hrel
   by_cases hlt : j < l.length
   ·obtain ⟨d,rfl⟩ : ∃ d,gk=d + 1:=⟨gk - 1,by omega⟩
    have cj : decide ((j : Int) < (l.length : Int))=true:=decide_eq_true (by omega)
    obtain ⟨y,hy⟩ : ∃ y,rd_T27 l (j : Int)=y:=⟨_,rfl⟩
    have HZ:=Aside0.mk (HS.out.at hlt hy)
    have HN:=Aside0.mk (fun h1 h2=>HU0.out.step hlt hy h1 h2)
    obtain ⟨ad,AP0,cP0,AS0,cS0,hA,E0,HP0,HS0⟩:=StEl_of HR0.out hlt
    cases hA
    rw [hy] at E0 HP0 HS0
    have E0:=Aside0.mk E0
    have HP0:=Aside0.mk HP0
    have HS0:=Aside0.mk HS0
    clear hy
    have j1:=eq_true (show (j : Int) < (l.length : Int) by omega)
    have j2:=eq_true hlt
    obtain ⟨q0,q1,q2,q3,q4,q5⟩:=StEl.q E0 B
    go_wp2_with (first
     | (go_at_call 11;with_reducible refine cx (laws_szState.M y.f0.f0 y.f0.f1 _ _ y.f1 _ _ y.f2 y.f3 y.f4 m _ (cb HP0 B) (cb HS0 B) (by omega) HZ.out) B fun v hv w1 hb B=>?_;obtain ⟨q0,q1,q2,q3,q4,q5⟩:=StEl.q E0 B;clear hb))
    all_goals first
     | (go_roundg d;(case measure=>omega);(case rel=>exact ⟨j + 1,_,rfl,congrArg (Value.int .i64) (Int.natCast_succ _).symm,by omega,by omega,by omega,by omega,⟨HN.out (by omega) (by omega)⟩,B⟩))
     | (go_ret;exact ⟨-1,rfl,by omega,B.out⟩)
   ·have cj : decide ((j : Int) < (l.length : Int))=false:=decide_eq_false (by omega)
    obtain rfl : j=l.length:=by omega
    go_wp2
    go_ret
    exact ⟨m,rfl,Or.inr ⟨by omega,by omega,by omega,HU0.out⟩,B.out⟩

theorem laws_eqInterval.M (x0 : ByteArray) (x1 : ByteArray) (w : World) : Calls Try.prog 60 #[.agg #[.string x0,.string x1],.agg #[.string x0,.string x1]] w fun e w'=>e=.returned (.bool true)∧Below w.heap.size w w':=by
 have B:=Aside0.mk (Below.refl w.heap.size w)
 have hu:=Try.underlying30
 go_enter Try.func60,Try.ntmps60
 go_wp2_with (first
  | ((with_reducible refine gate_dst (N:=2) rfl ?_);refine bxq 2 #[.string x0,.string x1] 30 B fun g2 w1 hb B F2 L2 E2=>?_;obtain ⟨c2_0,c2_1⟩:=cs2 F2;clear hb E2)
  | ((with_reducible refine gate_dst (N:=3) rfl ?_);refine bxq 3 #[.string x0,.string x1] 30 B fun g3 w2 hb B F3 L3 E3=>?_;replace F2:=bn F2 hb;clear c2_0 c2_1;obtain ⟨c2_0,c2_1⟩:=cs2 F2;obtain ⟨c3_0,c3_1⟩:=cs2 F3;clear hb E3))
 all_goals go_ret
 all_goals (refine ⟨?_,B.out⟩;first | rfl | simp_all)
theorem laws_eqPair.M (x0 : ByteArray) (x1 : Int) (w : World) : Calls Try.prog 67 #[.agg #[.string x0,.int .i64 (x1)],.agg #[.string x0,.int .i64 (x1)]] w fun e w'=>e=.returned (.bool true)∧Below w.heap.size w w':=by
 have B:=Aside0.mk (Below.refl w.heap.size w)
 have hu:=Try.underlying61
 go_enter Try.func67,Try.ntmps67
 go_wp2_with (first
  | ((with_reducible refine gate_dst (N:=2) rfl ?_);refine bxq 2 #[.string x0,.int .i64 (x1)] 61 B fun g2 w1 hb B F2 L2 E2=>?_;obtain ⟨c2_0,c2_1⟩:=cs2 F2;clear hb E2)
  | ((with_reducible refine gate_dst (N:=3) rfl ?_);refine bxq 3 #[.string x0,.int .i64 (x1)] 61 B fun g3 w2 hb B F3 L3 E3=>?_;replace F2:=bn F2 hb;clear c2_0 c2_1;obtain ⟨c2_0,c2_1⟩:=cs2 F2;obtain ⟨c3_0,c3_1⟩:=cs2 F3;clear hb E3))
 all_goals go_ret
 all_goals (refine ⟨?_,B.out⟩;first | rfl | simp_all)
def laws_eqPairS.T6 : Bool × List (List Nat × List Nat):=(true,[([],[]),([],[]),([0,1],[0,1]),([2],[2]),([],[]),([],[]),([4,5],[4,5]),([6],[6]),([3,7],[3,7]),([8],[8])])
def laws_eqPairS.B6 : List Nat:=[0,0,3,7,0,0,48,112,255,511]
theorem laws_eqPairS.tab6 : rtab .any (opsOf Try.f22 6)=laws_eqPairS.T6:=by kernel_rfl
theorem laws_eqPairS.bits6 : waitsOk laws_eqPairS.T6.2 laws_eqPairS.B6=true:=by kernel_rfl
theorem laws_eqPairS.M (A0 : Option Addr) (c0 : Nat) (A1 : Option Addr) (c1 : Nat) (l : List S61) (w : World) (hr0 : Kd.C k61 w A0 l.length l) (hr1 : Kd.C k61 w A1 l.length l) : Calls Try.prog 22 #[.slice A0 l.length c0,.slice A1 l.length c1] w fun e w'=>e=.returned (.bool true)∧Below w.heap.size w w':=by
 have B:=Aside0.mk (Below.refl w.heap.size w)
 have hu:=Try.underlying61
 have HR0:=Aside0.mk hr0
 have HR1:=Aside0.mk hr1
 have L48:=Aside0.mk hr0.2.1
 clear hr0 hr1
 go_enter Try.func22,Try.ntmps22
 go_wp2
 go_loopg [5] (l.length + 1) (fun kx v5 wr=>∃ j : Nat,v5=.int .i64 (j : Int)∧j≤l.length∧l.length < j + kx∧Aside0 (Below w.heap.size w wr))
 case atStart=>exact ⟨0,rfl,by omega,by omega,B⟩
 case round =>
  clear B
  obtain ⟨j,rfl,hj,hk,B⟩:=hrel
  have h48:=L48.out
  by_cases hlt : j < l.length
  ·obtain ⟨d,rfl⟩ : ∃ d,gk=d + 1:=⟨gk - 1,by omega⟩
   have cj : decide ((j : Int) < (l.length : Int))=true:=decide_eq_true (by omega)
   obtain ⟨ad,hA,_⟩:=at_T61 (cb HR0 B) (j : Int) (by omega) (by omega)
   cases hA
   obtain ⟨bd,hA,_⟩:=at_T61 (cb HR1 B) (j : Int) (by omega) (by omega)
   cases hA
   have j1:=eq_true (show (j : Int) < (l.length : Int) by omega)
   have j2:=eq_true hlt
   generalize hy : rd_T61 l (j : Int)=y
   try go_wp2
   all_goals (
    refine rg (n:=10) (S:=fun W=>Kd.C k61 W (some ad) l.length l∧Kd.C k61 W (some bd) l.length l) (ds:=[]) #[false,false,false,false,false,false,false,false,false,false] (by kernel_rfl) rfl rfl ⟨(cb HR0 B),(cb HR1 B)⟩ id B (fun w1 hb B hHeld=>?_)
    refine with_tabW laws_eqPairS.tab6 laws_eqPairS.bits6 (fun HT_ HW_=>?_)
    clear hb
    refine pvq 0 (some 17) (bits 10 1) HT_ ?_
    refine pvq 1 (some 18) (bits 10 3) HT_ ?_
    refine pvq 2 (some 19) (bits 10 7) HT_ ?_
    refine tvq 3 (some 20) (bits 10 15) HT_ HW_ rfl hHeld (by intro w' hS;obtain ⟨s0,s1⟩:=hS;obtain ⟨_,hA,q0,q1⟩:=at_T61 s0 (j : Int) (by omega) (by omega);cases hA;rw [Int.toNat_natCast] at q0 q1;rw [hy] at q0 q1;go_simp;with_reducible rfl) ?_
    refine pvq 4 (some 21) (bits 10 31) HT_ ?_
    refine pvq 5 (some 22) (bits 10 63) HT_ ?_
    refine pvq 6 (some 23) (bits 10 127) HT_ ?_
    refine tvq 7 (some 24) (bits 10 255) HT_ HW_ rfl hHeld (by intro w' hS;obtain ⟨s0,s1⟩:=hS;obtain ⟨_,hA,q0,q1⟩:=at_T61 s1 (j : Int) (by omega) (by omega);cases hA;rw [Int.toNat_natCast] at q0 q1;rw [hy] at q0 q1;go_simp;with_reducible rfl) ?_
    refine nmq ?_
    refine one_ (i:=8) (N:=some 25) (bits 10 511) rfl rfl (one_of HT_.out (by kernel_rfl)) (by decide) (fun K hK=>?_)
    refine gsq Try.func67 #[.agg #[.string y.f0,.int .i64 (y.f1)],.agg #[.string y.f0,.int .i64 (y.f1)]] ?_
    with_reducible refine cl (laws_eqPair.M y.f0 y.f1 _) B fun w2 hb B=>?_
    clear hb
    refine ⟨_,rfl,?_⟩
    refine hK.out _ _ ⟨(cb HR0 B),(cb HR1 B)⟩ (fun hHeld=>?_)
    clear hK K
    refine npq (some 25) ?_
    refine pvq 9 (some 26) (bits 10 1023) HT_ ?_
    refine nmq ?_
    refine done_ (done_of HT_.out (by kernel_rfl)) ?_
    try go_wp2
    go_roundg d
    case measure=>omega
    case rel=>exact ⟨j + 1,congrArg (Value.int .i64) (Int.natCast_succ _).symm,by omega,by omega,B⟩)
   all_goals try go_wp2
  ·have cj : decide ((j : Int) < (l.length : Int))=false:=decide_eq_false (by omega)
   go_wp2
   go_ret
   exact ⟨rfl,B.out⟩
theorem laws_eqSession.M (x0 : Int) (x1 : Int) (x2 : Int) (w : World) : Calls Try.prog 96 #[.agg #[.int .i64 (x0),.int .i64 (x1),.int .i64 (x2)],.agg #[.int .i64 (x0),.int .i64 (x1),.int .i64 (x2)]] w fun e w'=>e=.returned (.bool true)∧Below w.heap.size w w':=by
 have B:=Aside0.mk (Below.refl w.heap.size w)
 have hu:=Try.underlying100
 go_enter Try.func96,Try.ntmps96
 go_wp2_with (first
  | ((with_reducible refine gate_dst (N:=2) rfl ?_);refine bxq 2 #[.int .i64 (x0),.int .i64 (x1),.int .i64 (x2)] 100 B fun g2 w1 hb B F2 L2 E2=>?_;obtain ⟨c2_0,c2_1,c2_2⟩:=cs3 F2;clear hb E2)
  | ((with_reducible refine gate_dst (N:=3) rfl ?_);refine bxq 3 #[.int .i64 (x0),.int .i64 (x1),.int .i64 (x2)] 100 B fun g3 w2 hb B F3 L3 E3=>?_;replace F2:=bn F2 hb;clear c2_0 c2_1 c2_2;obtain ⟨c2_0,c2_1,c2_2⟩:=cs3 F2;obtain ⟨c3_0,c3_1,c3_2⟩:=cs3 F3;clear hb E3))
 all_goals go_ret
 all_goals (refine ⟨?_,B.out⟩;first | rfl | simp_all)
def laws_eqSessionS.T6 : Bool × List (List Nat × List Nat):=(true,[([],[]),([],[]),([0,1],[0,1]),([2],[2]),([],[]),([],[]),([4,5],[4,5]),([6],[6]),([3,7],[3,7]),([8],[8])])
def laws_eqSessionS.B6 : List Nat:=[0,0,3,7,0,0,48,112,255,511]
theorem laws_eqSessionS.tab6 : rtab .any (opsOf Try.f61 6)=laws_eqSessionS.T6:=by kernel_rfl
theorem laws_eqSessionS.bits6 : waitsOk laws_eqSessionS.T6.2 laws_eqSessionS.B6=true:=by kernel_rfl
theorem laws_eqSessionS.M (A0 : Option Addr) (c0 : Nat) (A1 : Option Addr) (c1 : Nat) (l : List S100) (w : World) (hr0 : Kd.C k100 w A0 l.length l) (hr1 : Kd.C k100 w A1 l.length l) : Calls Try.prog 61 #[.slice A0 l.length c0,.slice A1 l.length c1] w fun e w'=>e=.returned (.bool true)∧Below w.heap.size w w':=by
 have B:=Aside0.mk (Below.refl w.heap.size w)
 have hu:=Try.underlying100
 have HR0:=Aside0.mk hr0
 have HR1:=Aside0.mk hr1
 have L48:=Aside0.mk hr0.2.1
 clear hr0 hr1
 go_enter Try.func61,Try.ntmps61
 go_wp2
 go_loopg [5] (l.length + 1) (fun kx v5 wr=>∃ j : Nat,v5=.int .i64 (j : Int)∧j≤l.length∧l.length < j + kx∧Aside0 (Below w.heap.size w wr))
 case atStart=>exact ⟨0,rfl,by omega,by omega,B⟩
 case round =>
  clear B
  obtain ⟨j,rfl,hj,hk,B⟩:=hrel
  have h48:=L48.out
  by_cases hlt : j < l.length
  ·obtain ⟨d,rfl⟩ : ∃ d,gk=d + 1:=⟨gk - 1,by omega⟩
   have cj : decide ((j : Int) < (l.length : Int))=true:=decide_eq_true (by omega)
   obtain ⟨ad,hA,_⟩:=at_T100 (cb HR0 B) (j : Int) (by omega) (by omega)
   cases hA
   obtain ⟨bd,hA,_⟩:=at_T100 (cb HR1 B) (j : Int) (by omega) (by omega)
   cases hA
   have j1:=eq_true (show (j : Int) < (l.length : Int) by omega)
   have j2:=eq_true hlt
   generalize hy : rd_T100 l (j : Int)=y
   try go_wp2
   all_goals (
    refine rg (n:=10) (S:=fun W=>Kd.C k100 W (some ad) l.length l∧Kd.C k100 W (some bd) l.length l) (ds:=[]) #[false,false,false,false,false,false,false,false,false,false] (by kernel_rfl) rfl rfl ⟨(cb HR0 B),(cb HR1 B)⟩ id B (fun w1 hb B hHeld=>?_)
    refine with_tabW laws_eqSessionS.tab6 laws_eqSessionS.bits6 (fun HT_ HW_=>?_)
    clear hb
    refine pvq 0 (some 17) (bits 10 1) HT_ ?_
    refine pvq 1 (some 18) (bits 10 3) HT_ ?_
    refine pvq 2 (some 19) (bits 10 7) HT_ ?_
    refine tvq 3 (some 20) (bits 10 15) HT_ HW_ rfl hHeld (by intro w' hS;obtain ⟨s0,s1⟩:=hS;obtain ⟨_,hA,q0,q1,q2⟩:=at_T100 s0 (j : Int) (by omega) (by omega);cases hA;rw [Int.toNat_natCast] at q0 q1 q2;rw [hy] at q0 q1 q2;go_simp;with_reducible rfl) ?_
    refine pvq 4 (some 21) (bits 10 31) HT_ ?_
    refine pvq 5 (some 22) (bits 10 63) HT_ ?_
    refine pvq 6 (some 23) (bits 10 127) HT_ ?_
    refine tvq 7 (some 24) (bits 10 255) HT_ HW_ rfl hHeld (by intro w' hS;obtain ⟨s0,s1⟩:=hS;obtain ⟨_,hA,q0,q1,q2⟩:=at_T100 s1 (j : Int) (by omega) (by omega);cases hA;rw [Int.toNat_natCast] at q0 q1 q2;rw [hy] at q0 q1 q2;go_simp;with_reducible rfl) ?_
    refine nmq ?_
    refine one_ (i:=8) (N:=some 25) (bits 10 511) rfl rfl (one_of HT_.out (by kernel_rfl)) (by decide) (fun K hK=>?_)
    refine gsq Try.func96 #[.agg #[.int .i64 (y.f0),.int .i64 (y.f1),.int .i64 (y.f2)],.agg #[.int .i64 (y.f0),.int .i64 (y.f1),.int .i64 (y.f2)]] ?_
    with_reducible refine cl (laws_eqSession.M y.f0 y.f1 y.f2 _) B fun w2 hb B=>?_
    clear hb
    refine ⟨_,rfl,?_⟩
    refine hK.out _ _ ⟨(cb HR0 B),(cb HR1 B)⟩ (fun hHeld=>?_)
    clear hK K
    refine npq (some 25) ?_
    refine pvq 9 (some 26) (bits 10 1023) HT_ ?_
    refine nmq ?_
    refine done_ (done_of HT_.out (by kernel_rfl)) ?_
    try go_wp2
    go_roundg d
    case measure=>omega
    case rel=>exact ⟨j + 1,congrArg (Value.int .i64) (Int.natCast_succ _).symm,by omega,by omega,B⟩)
   all_goals try go_wp2
  ·have cj : decide ((j : Int) < (l.length : Int))=false:=decide_eq_false (by omega)
   go_wp2
   go_ret
   exact ⟨rfl,B.out⟩
theorem laws_eqState.M (a b : ByteArray) (AP : Option Addr) (cP : Nat) (AQ : Option Addr) (cQ : Nat) (ps : List S61) (AS : Option Addr) (cS : Nat) (AU : Option Addr) (cU : Nat) (ss : List S100) (t : Bool) (c : ByteArray) (w : World) (hrp : Kd.C k61 w AP ps.length ps) (hrq : Kd.C k61 w AQ ps.length ps) (hrs : Kd.C k100 w AS ss.length ss) (hru : Kd.C k100 w AU ss.length ss) : Calls Try.prog 15 #[.agg #[.string a,.string b,.slice AP ps.length cP,.slice AS ss.length cS,.bool t,.string c],.agg #[.string a,.string b,.slice AQ ps.length cQ,.slice AU ss.length cU,.bool t,.string c]] w fun e w'=>e=.returned (.bool true)∧Below w.heap.size w w':=by
 have B:=Aside0.mk (Below.refl w.heap.size w)
 have hu:=Try.underlying34
 have HRP:=Aside0.mk hrp
 have HRQ:=Aside0.mk hrq
 have HRS:=Aside0.mk hrs
 have HRU:=Aside0.mk hru
 clear hrp hrq hrs hru
 go_enter Try.func15,Try.ntmps15
 go_wp2_with (first
  | ((with_reducible refine gate_dst (N:=2) rfl ?_);refine bxq 2 #[.string a,.string b,.slice AP ps.length cP,.slice AS ss.length cS,.bool t,.string c] 34 B fun g2 w1 hb B F2 L2 E2=>?_;obtain ⟨c2_0,c2_1,c2_2,c2_3,c2_4,c2_5⟩:=cs6 F2;clear hb E2)
  | ((with_reducible refine gate_dst (N:=3) rfl ?_);refine bxq 3 #[.string a,.string b,.slice AQ ps.length cQ,.slice AU ss.length cU,.bool t,.string c] 34 B fun g3 w2 hb B F3 L3 E3=>?_;replace F2:=bn F2 hb;clear c2_0 c2_1 c2_2 c2_3 c2_4 c2_5;obtain ⟨c2_0,c2_1,c2_2,c2_3,c2_4,c2_5⟩:=cs6 F2;obtain ⟨c3_0,c3_1,c3_2,c3_3,c3_4,c3_5⟩:=cs6 F3;clear hb E3)
  | (go_at_call 60;with_reducible refine cl (laws_eqInterval.M a b _) B fun w3 hb B=>?_;replace F2:=bn F2 hb;replace F3:=bn F3 hb;clear c2_0 c2_1 c2_2 c2_3 c2_4 c2_5;obtain ⟨c2_0,c2_1,c2_2,c2_3,c2_4,c2_5⟩:=cs6 F2;clear c3_0 c3_1 c3_2 c3_3 c3_4 c3_5;obtain ⟨c3_0,c3_1,c3_2,c3_3,c3_4,c3_5⟩:=cs6 F3;clear hb)
  | (go_at_call 22;with_reducible refine cl (laws_eqPairS.M _ _ _ _ ps _ (cb HRP B) (cb HRQ B)) B fun w4 hb B=>?_;replace F2:=bn F2 hb;replace F3:=bn F3 hb;clear c2_0 c2_1 c2_2 c2_3 c2_4 c2_5;obtain ⟨c2_0,c2_1,c2_2,c2_3,c2_4,c2_5⟩:=cs6 F2;clear c3_0 c3_1 c3_2 c3_3 c3_4 c3_5;obtain ⟨c3_0,c3_1,c3_2,c3_3,c3_4,c3_5⟩:=cs6 F3;clear hb)
  | (go_at_call 61;with_reducible refine cl (laws_eqSessionS.M _ _ _ _ ss _ (cb HRS B) (cb HRU B)) B fun w5 hb B=>?_;replace F2:=bn F2 hb;replace F3:=bn F3 hb;clear c2_0 c2_1 c2_2 c2_3 c2_4 c2_5;obtain ⟨c2_0,c2_1,c2_2,c2_3,c2_4,c2_5⟩:=cs6 F2;clear c3_0 c3_1 c3_2 c3_3 c3_4 c3_5;obtain ⟨c3_0,c3_1,c3_2,c3_3,c3_4,c3_5⟩:=cs6 F3;clear hb))
 all_goals go_ret
 all_goals (refine ⟨?_,B.out⟩;first | rfl | simp_all)

def laws_eqStateS.T6 : Bool × List (List Nat × List Nat):=(true,[([],[]),([],[]),([0,1],[0,1]),([2],[2]),([],[]),([],[]),([4,5],[4,5]),([6],[6]),([3,7],[3,7]),([8],[8])])
def laws_eqStateS.B6 : List Nat:=[0,0,3,7,0,0,48,112,255,511]
theorem laws_eqStateS.tab6 : rtab .any (opsOf Try.f23 6)=laws_eqStateS.T6:=by kernel_rfl
theorem laws_eqStateS.bits6 : waitsOk laws_eqStateS.T6.2 laws_eqStateS.B6=true:=by kernel_rfl
theorem laws_eqStateS.M (A0 : Option Addr) (c0 : Nat) (A1 : Option Addr) (c1 : Nat) (l : List S34) (w : World) (hr0 : Kd.C k34 w A0 l.length l) (hr1 : Kd.C k34 w A1 l.length l) (hn : l.length≤1048576) : Calls Try.prog 23 #[.slice A0 l.length c0,.slice A1 l.length c1] w fun e w'=>e=.returned (.bool true)∧Below w.heap.size w w':=by
 have B:=Aside0.mk (Below.refl w.heap.size w)
 have hu:=Try.underlying34
 have HR0:=Aside0.mk hr0
 have HR1:=Aside0.mk hr1
 clear hr0 hr1
 go_enter Try.func23,Try.ntmps23
 go_wp2
 go_loopg [5] (l.length + 1) (fun kx v5 wr=>∃ j : Nat,v5=.int .i64 (j : Int)∧j≤l.length∧l.length < j + kx∧Aside0 (Below w.heap.size w wr))
 case atStart=>exact ⟨0,rfl,by omega,by omega,B⟩
 case round =>
  clear B
  obtain ⟨j,rfl,hj,hk,B⟩:=hrel
  by_cases hlt : j < l.length
  ·obtain ⟨d,rfl⟩ : ∃ d,gk=d + 1:=⟨gk - 1,by omega⟩
   have cj : decide ((j : Int) < (l.length : Int))=true:=decide_eq_true (by omega)
   obtain ⟨y,hy⟩ : ∃ y,rd_T34 l (j : Int)=y:=⟨_,rfl⟩
   obtain ⟨ad,AP0,cP0,AS0,cS0,hA,E0,HP0,HS0⟩:=StE_of HR0.out hlt
   cases hA
   rw [hy] at E0 HP0 HS0
   have E0:=Aside0.mk E0
   have HP0:=Aside0.mk HP0
   have HS0:=Aside0.mk HS0
   obtain ⟨bd,AP1,cP1,AS1,cS1,hA,E1,HP1,HS1⟩:=StE_of HR1.out hlt
   cases hA
   rw [hy] at E1 HP1 HS1
   have E1:=Aside0.mk E1
   have HP1:=Aside0.mk HP1
   have HS1:=Aside0.mk HS1
   clear hy
   have j1:=eq_true (show (j : Int) < (l.length : Int) by omega)
   have j2:=eq_true hlt
   try go_wp2
   all_goals (
    refine rg (n:=10) (S:=fun W=>StE W (ad.add (j * 6)) y AP0 cP0 AS0 cS0∧StE W (bd.add (j * 6)) y AP1 cP1 AS1 cS1) (ds:=[]) #[false,false,false,false,false,false,false,false,false,false] (by kernel_rfl) rfl rfl ⟨(E0.out.go B.out),(E1.out.go B.out)⟩ id B (fun w1 hb B hHeld=>?_)
    refine with_tabW laws_eqStateS.tab6 laws_eqStateS.bits6 (fun HT_ HW_=>?_)
    clear hb
    refine pvq 0 (some 17) (bits 10 1) HT_ ?_
    refine pvq 1 (some 18) (bits 10 3) HT_ ?_
    refine pvq 2 (some 19) (bits 10 7) HT_ ?_
    refine tvq 3 (some 20) (bits 10 15) HT_ HW_ rfl hHeld (by intro w' hS;obtain ⟨s0,s1⟩:=hS;obtain ⟨q0,q1,q2,q3,q4,q5⟩:=s0;go_simp;with_reducible rfl) ?_
    refine pvq 4 (some 21) (bits 10 31) HT_ ?_
    refine pvq 5 (some 22) (bits 10 63) HT_ ?_
    refine pvq 6 (some 23) (bits 10 127) HT_ ?_
    refine tvq 7 (some 24) (bits 10 255) HT_ HW_ rfl hHeld (by intro w' hS;obtain ⟨s0,s1⟩:=hS;obtain ⟨q0,q1,q2,q3,q4,q5⟩:=s1;go_simp;with_reducible rfl) ?_
    refine nmq ?_
    refine one_ (i:=8) (N:=some 25) (bits 10 511) rfl rfl (one_of HT_.out (by kernel_rfl)) (by decide) (fun K hK=>?_)
    refine gsq Try.func15 #[.agg #[.string y.f0.f0,.string y.f0.f1,.slice AP0 y.f1.length cP0,.slice AS0 y.f2.length cS0,.bool y.f3,.string y.f4],.agg #[.string y.f0.f0,.string y.f0.f1,.slice AP1 y.f1.length cP1,.slice AS1 y.f2.length cS1,.bool y.f3,.string y.f4]] ?_
    with_reducible refine cl (laws_eqState.M y.f0.f0 y.f0.f1 _ _ _ _ y.f1 _ _ _ _ y.f2 y.f3 y.f4 _ (cb HP0 B) (cb HP1 B) (cb HS0 B) (cb HS1 B)) B fun w2 hb B=>?_
    clear hb
    refine ⟨_,rfl,?_⟩
    refine hK.out _ _ ⟨(E0.out.go B.out),(E1.out.go B.out)⟩ (fun hHeld=>?_)
    clear hK K
    refine npq (some 25) ?_
    refine pvq 9 (some 26) (bits 10 1023) HT_ ?_
    refine nmq ?_
    refine done_ (done_of HT_.out (by kernel_rfl)) ?_
    try go_wp2
    go_roundg d
    case measure=>omega
    case rel=>exact ⟨j + 1,congrArg (Value.int .i64) (Int.natCast_succ _).symm,by omega,by omega,B⟩)
   all_goals try go_wp2
  ·have cj : decide ((j : Int) < (l.length : Int))=false:=decide_eq_false (by omega)
   go_wp2
   go_ret
   exact ⟨rfl,B.out⟩

/-! Marks: what is written into a list of pairs is found there. -/
theorem mtx_loop (d : Nat) : ∀ (a : Int) (x : ByteArray),0≤a→a≤1000000000000000000→a < 10 ^ d→x.size + d≤1000→∃ r,∀ j,d + 1≤j→laws_markText.l0 j a x=some r:=by
  induction d with
  | zero =>
    intro a x h0 hb h1 hx
    refine ⟨(⟨#[109]⟩ : ByteArray) ++ x,fun j hj=>?_⟩
    obtain ⟨i,rfl⟩ : ∃ i,j=i + 1:=⟨j - 1,by omega⟩
    simp only [laws_markText.l0]
    rw [if_neg (by simp at h1;omega),if_pos (by omega)]
  | succ d ih =>
    intro a x h0 hb h1 hx
    by_cases hp : a > 0
    · have hq : wrap64 (Int.tdiv a 10)=a / 10:=by rw [Int.tdiv_eq_ediv_of_nonneg h0];exact w64 (by omega) (by omega)
      obtain ⟨r,hr⟩:=ih (a / 10) (strOfNums ([(wrap64 (48 + (Int.tmod a 10))) % 256] : List Int) ++ x) (by omega) (by omega) (by rw [Int.pow_succ] at h1;omega) (by rw [ByteArray.size_append,strOfNums_size];simp only [List.length_cons,List.length_nil];omega)
      refine ⟨r,fun j hj=>?_⟩
      obtain ⟨i,rfl⟩ : ∃ i,j=i + 1:=⟨j - 1,by omega⟩
      simp only [laws_markText.l0,Option.bind_some]
      rw [if_pos hp,if_pos (by rw [strOfNums_size];simp only [List.length_cons,List.length_nil];omega),hq]
      exact hr i (by omega)
    · refine ⟨(⟨#[109]⟩ : ByteArray) ++ x,fun j hj=>?_⟩
      obtain ⟨i,rfl⟩ : ∃ i,j=i + 1:=⟨j - 1,by omega⟩
      simp only [laws_markText.l0]
      rw [if_neg hp,if_pos (by omega)]
def mtx (a : Int) : ByteArray:=(laws_markText.f 20 a).getD ⟨#[]⟩
theorem mtx_ok (a : Int) (hb : a≤100000000000000000) (k : Nat) (hk : 20≤k) : laws_markText.f k a=some (mtx a):=by
  unfold mtx laws_markText.f
  by_cases h : a≤0
  · simp only [if_pos h,Option.getD_some]
  · simp only [if_neg h]
    obtain ⟨r,hr⟩:=mtx_loop 19 a ⟨#[]⟩ (by omega) (by omega) (by omega) (by decide)
    rw [hr k (by omega),hr 20 (by omega)]
    rfl
def mkPr (q : Int) : S61:=⟨mtx q,q + 1⟩
def prTo (n : Nat) (q : Int) : List S61:=(List.range n).map fun (i : Nat)=>mkPr (q + 2 * (i : Int))
theorem prTo_length (n : Nat) (q : Int) : (prTo n q).length=n:=by simp [prTo]
theorem rdp_nat {l : List S61} {j : Nat} (h : j < l.length) : rd_T61 l (j : Int)=l[j]:=by
  simp [rd_T61,List.getD_eq_getElem?_getD,List.getElem?_eq_getElem h]
theorem rdp_set {l : List S61} {j : Nat} (h : j < l.length) (x : S61) : rd_T61 (l.set j x) (j : Int)=x:=by
  rw [rdp_nat (by simpa using h)]
  simp
theorem markP_loop (n : Nat) (hn : n≤2097152) (q : Int) (h0 : 0≤q) (h1 : q≤1125899906842624) (d : Nat) : ∀ (j : Nat) (xs : List S61),j + d=n→xs.length=n→xs.take j=(prTo n q).take j →
    ∀ k,d + 21≤k→laws_markPairS.l0 k xs (q + 2 * (j : Int)) (j : Int)=some (q + 2 * (n : Int),prTo n q):=by
  induction d with
  | zero =>
    intro j xs hj hl ht k hk
    obtain ⟨k,rfl⟩ : ∃ i,k=i + 1:=⟨k - 1,by omega⟩
    simp only [laws_markPairS.l0]
    rw [if_neg (by omega)]
    rw [List.take_of_length_le (by omega),List.take_of_length_le (by rw [prTo_length];omega)] at ht
    rw [ht,show j=n by omega]
  | succ d ih =>
    intro j xs hj hl ht k hk
    obtain ⟨k,rfl⟩ : ∃ i,k=i + 1:=⟨k - 1,by omega⟩
    have e:=ih (j + 1) (xs.set j (mkPr (q + 2 * (j : Int)))) (by omega) (by simpa using hl) (by
      rw [List.take_succ_eq_append_getElem (by simp;omega),List.take_succ_eq_append_getElem (by rw [prTo_length];omega),← ht]
      simp [List.take_set_of_le,prTo]) k (by omega)
    simp only [laws_markPairS.l0]
    rw [if_pos (by omega),mtx_ok _ (by omega) k (by omega)]
    simp only [Option.bind_some,Int.toNat_natCast]
    rw [if_pos (by omega),w64 (x:=q + 2 * (j : Int) + 1) (by omega) (by omega),w64 (x:=q + 2 * (j : Int) + 1 + 1) (by omega) (by omega),w64 (x:=(j : Int) + 1) (by omega) (by omega)]
    rw [rdp_set (by omega)]
    simp only [List.set_set]
    rw [show q + 2 * (j : Int) + 1 + 1=q + 2 * ((j + 1 : Nat) : Int) by omega]
    exact e
theorem markP (xs : List S61) (hn : xs.length≤2097152) (q : Int) (h0 : 0≤q) (h1 : q≤1125899906842624) : laws_markPairS.f (xs.length + 21) xs q=some (q + 2 * (xs.length : Int),prTo xs.length q):=by
  have e:=markP_loop xs.length hn q h0 h1 xs.length 0 xs (by omega) rfl (by simp) (xs.length + 21) (by omega)
  unfold laws_markPairS.f
  simpa using e
theorem heldP_loop (n : Nat) (hn : n≤2097152) (q : Int) (h0 : 0≤q) (h1 : q≤1125899906842624) (d : Nat) : ∀ (j : Nat),j + d=n →
    ∀ k,d + 21≤k→laws_heldPairS.l0 k (prTo n q) (q + 2 * (j : Int)) (j : Int)=some (q + 2 * (n : Int)):=by
  induction d with
  | zero =>
    intro j hj k hk
    obtain ⟨k,rfl⟩ : ∃ i,k=i + 1:=⟨k - 1,by omega⟩
    simp only [laws_heldPairS.l0]
    rw [if_neg (by rw [prTo_length];omega),show j=n by omega]
  | succ d ih =>
    intro j hj k hk
    obtain ⟨k,rfl⟩ : ∃ i,k=i + 1:=⟨k - 1,by omega⟩
    have e:=ih (j + 1) (by omega) k (by omega)
    have hx : rd_T61 (prTo n q) (j : Int)=mkPr (q + 2 * (j : Int)):=by
      rw [rdp_nat (by rw [prTo_length];omega)]
      simp [prTo]
    simp only [laws_heldPairS.l0]
    rw [if_pos (by rw [prTo_length];omega),if_pos (by omega),mtx_ok _ (by omega) k (by omega)]
    simp only [Option.bind_some]
    rw [hx,w64 (x:=q + 2 * (j : Int) + 1) (by omega) (by omega),w64 (x:=q + 2 * (j : Int) + 1 + 1) (by omega) (by omega),w64 (x:=(j : Int) + 1) (by omega) (by omega)]
    rw [if_pos (show (mkPr (q + 2 * (j : Int))).f0.toList=(mtx (q + 2 * (j : Int))).toList from rfl),if_pos (show (mkPr (q + 2 * (j : Int))).f1=q + 2 * (j : Int) + 1 from rfl)]
    rw [show q + 2 * (j : Int) + 1 + 1=q + 2 * ((j + 1 : Nat) : Int) by omega]
    exact e
theorem heldP (n : Nat) (hn : n≤2097152) (q : Int) (h0 : 0≤q) (h1 : q≤1125899906842624) : laws_heldPairS.f (n + 21) (prTo n q) q=some (q + 2 * (n : Int)):=by
  have e:=heldP_loop n hn q h0 h1 n 0 (by omega) (n + 21) (by omega)
  unfold laws_heldPairS.f
  simpa using e
theorem cm {P : Program} {F : FuncId} {args : Array Value} {w W : World} {Q : Ending→World→Prop} {α : Type} {d : Kd α} {t : Nat} {ys : List α} {ok S : Nat→Prop} {v u : Value} (c : Calls P F args W fun e w'=>e=.returned u∧d.R t w' w.heap.size ok v ys∧Below w.heap.size w w'∧Kept W w' S)
    (h : ∀ W',Kept W W' S→Aside0 (Below w.heap.size w W')→Aside0 (Ow d t W' w.heap.size v ys)→Q (.returned u) W') : Calls P F args W Q :=
  c.mono (by rintro e W' ⟨rfl,hr,hb,hk⟩;exact h W' hk ⟨hb⟩ ⟨Kd.R_mono hr (fun _ _=>trivial)⟩)
theorem rkp {W W' : World} {β : Type} {d' : Kd β} {e' b' : Nat} {v v' : Value} {ys : List β} (R' : Aside0 (Ow d' e' W b' v' ys)) (hE : d'.E=[]) (hk : Kept W W' fun k=>some k=v.ownBlock) (ne : ∀ k,v'.ownBlock=some k→v.ownBlock=some k→False) : Aside0 (Ow d' e' W' b' v' ys) :=
  ⟨Kd.R_mono (Kd.R_kept (Kd.R_tight hE R'.out) hk (fun k h1 h2=>ne k h1.symm h2.symm)) (fun _ _=>trivial)⟩
theorem laws_markPairS.M (v : Value) (l : List S61) (q : Int) (w W : World) (B : Aside0 (Below w.heap.size w W)) (R : Aside0 (Ow k61 61 W w.heap.size v l)) (hn : l.length≤2097152) (h0 : 0≤q) (h1 : q≤1125899906842624) :
    Calls Try.prog 25 #[v,.int .i64 q] W fun e w'=>e=.returned (.int .i64 (q + 2 * (l.length : Int)))∧Kd.R k61 61 w' w.heap.size (fun k_=>(some k_=v.ownBlock ∨ W.heap.size≤k_)) v (prTo l.length q)∧Below w.heap.size w w'∧Kept W w' (fun k_=>some k_=v.ownBlock) :=
  laws_markPairS.calls (l.length + 21) (fun k=>some k=v.ownBlock) v l q _ _ w W B.out (Kd.R_tight rfl R.out) (markP l hn q h0 h1)
theorem laws_heldPairS.M (A : Option Addr) (c n : Nat) (l : List S61) (q : Int) (hl : l=prTo n q) (W : World) (hr : Kd.C k61 W A l.length l) (hc : l.length≤c) (hn : n≤2097152) (h0 : 0≤q) (h1 : q≤1125899906842624) :
    Calls Try.prog 26 #[.slice A l.length c,.int .i64 q] W fun e w'=>e=.returned (.int .i64 (q + 2 * (n : Int)))∧Below W.heap.size W w' :=
  laws_heldPairS.calls (n + 21) A c l q _ W hr hc (by rw [hl];exact heldP n hn q h0 h1)
theorem laws_heldPairS.M2 (A : Option Addr) (c : Nat) (l : List S61) (q : Int) (W : World) (hr : Kd.C k61 W A (prTo l.length q).length (prTo l.length q)) (hc : (prTo l.length q).length≤c) (hn : l.length≤2097152) (h0 : 0≤q) (h1 : q≤1125899906842624) :
    Calls Try.prog 26 #[.slice A l.length c,.int .i64 q] W fun e w'=>e=.returned (.int .i64 (q + 2 * (l.length : Int)))∧Below W.heap.size W w':=by
  have h:=laws_heldPairS.M A c l.length (prTo l.length q) q rfl W hr hc hn h0 h1
  rwa [prTo_length] at h
theorem rl2 {α : Type} {d : Kd α} {e b n : Nat} {W : World} {A : Option Addr} {c : Nat} {xs : List α} (R : Aside0 (Ow d e W b (.slice A n c) xs)) : xs.length≤c:=by have h:=Kd.R_reads' R.out;have:=h.1;have:=h.2.1;omega

/-! Strings compared. -/
theorem less_total : ∀ x y : List UInt8,(Op.bytesLess x y || x == y)=!(Op.bytesLess y x)
  | [],[]=>rfl
  | [],_ :: _=>rfl
  | _ :: _,[]=>rfl
  | a :: x,b :: y=>by
    have ih:=less_total x y
    simp only [Op.bytesLess]
    by_cases h : a=b
    · subst h
      simpa using ih
    · have h2 : (a == b)=false:=beq_eq_false_iff_ne.mpr h
      have h3 : (b == a)=false:=beq_eq_false_iff_ne.mpr (Ne.symm h)
      have h4 : (a :: x == b :: y)=false:=beq_eq_false_iff_ne.mpr fun q=>h (List.cons.inj q).1
      rw [h2,h3,h4]
      simp only [Bool.false_and,Bool.or_false]
      by_cases hl : a < b
      · have : ¬ b < a:=by rw [UInt8.lt_iff_toNat_lt] at *;omega
        simp [hl,this]
      · have : b < a:=by
          rw [UInt8.lt_iff_toNat_lt] at *
          have : a.toNat ≠ b.toNat:=fun q=>h (UInt8.toNat_inj.mp q)
          omega
        simp [hl,this]
theorem leq_str (t : TypeId) (a b : ByteArray) : binOp .leq t (.string a) (.string b)=pure (.bool !(Op.bytesLess b.toList a.toList)):=by
  rw [← less_total]
  simp [binOp,Op.stringOp]
theorem geq_str (t : TypeId) (a b : ByteArray) : binOp .geq t (.string a) (.string b)=pure (.bool !(Op.bytesLess a.toList b.toList)):=by
  simp [binOp,Op.stringOp]
theorem gtr_str (t : TypeId) (a b : ByteArray) : binOp .gtr t (.string a) (.string b)=pure (.bool (Op.bytesLess b.toList a.toList)):=by
  have h : (!(Op.bytesLess a.toList b.toList || a.toList == b.toList))=Op.bytesLess b.toList a.toList:=by rw [less_total,Bool.not_not]
  rw [← h,Bool.not_or]
  simp [binOp,Op.stringOp]
attribute [local go_sem] leq_str geq_str gtr_str

/-! Keys. -/
theorem ba_toList (s : ByteArray) : s.toList=s.data.toList:=Lib.toList_data s
theorem ba_inj {s t : ByteArray} (h : s.toList=t.toList) : s=t:=by
  rw [ba_toList,ba_toList] at h
  cases s;cases t;simp only [ByteArray.mk.injEq];exact Array.toList_inj.mp h
theorem nil_iff (s : ByteArray) : s.toList=([] : List UInt8) ↔ s.size=0:=by
  rw [ba_toList]
  refine ⟨fun h=>?_,fun h=>?_⟩
  · have:=data_length s
    rw [h] at this
    exact this.symm
  · exact List.eq_nil_of_length_eq_zero (by rw [data_length];exact h)
def lowB (x : Int) : Bool:=decide (97≤x) && decide (x≤122)
def keyB (s : ByteArray) : Bool:=decide (1≤s.size) && decide (s.size≤4) && (bytesOf s).all lowB
theorem bt_drop' {s : ByteArray} {j : Nat} (h : j < s.size) : (bytesOf s).drop j=bt s (j : Int) :: (bytesOf s).drop (j + 1):=by
  rw [rd_drop (by rw [bytesOf_length];exact h),rd_bytesOf]
theorem bytesOf_tail (s : ByteArray) : bytesOf (s.extract 1 s.size)=(bytesOf s).drop 1:=by
  unfold bytesOf
  rw [← List.map_drop]
  refine congrArg _ ?_
  rw [ByteArray.data_extract,Array.toList_extract]
  rw [List.extract_eq_take_drop,List.take_of_length_le (by rw [List.length_drop,data_length];omega)]
def l1B (n lo hi : Int) : Bool:=decide (lo≤n) && decide (n≤hi)
theorem spec_l1In.M (n lo hi : Int) (w : World) : Calls Try.prog 90 #[.int .i64 n,.int .i64 lo,.int .i64 hi] w fun e w'=>e=.returned (.bool (l1B n lo hi))∧Below w.heap.size w w':=by
  go_enter Try.func90,Try.ntmps90
  go_wp2
  all_goals go_ret
  all_goals (refine ⟨?_,Below.refl _ _⟩;unfold l1B;simp_all;try omega)
theorem spec_KeyValid.M (a : ByteArray) (w : World) : Calls Try.prog 89 #[.string a] w fun e w'=>e=.returned (.bool (keyB a))∧Below w.heap.size w w':=by
  have B:=Aside0.mk (Below.refl w.heap.size w)
  obtain ⟨r,hr⟩ : ∃ r,keyB a=r:=⟨_,rfl⟩
  rw [hr]
  unfold keyB at hr
  by_cases hs : 1≤a.size∧a.size≤4
  · have hl : l1B (a.size : Int) 1 4=true:=by unfold l1B;simp;omega
    have H:=Aside0.mk (show ((bytesOf a).drop 0).all lowB=r by simpa [hs.1,hs.2] using hr)
    clear hr
    go_enter Try.func89,Try.ntmps89
    go_wp2_with (first
      | (go_at_call 90;with_reducible refine cl (clv (spec_l1In.M _ 1 4 _) (congrArg Value.bool hl)) B fun w1 hb B=>?_;clear hb))
    go_loopg [3] (a.size + 1) (fun kx v3 wr=>∃ j : Nat,v3=.int .i64 (j : Int)∧j≤a.size∧a.size < j + kx∧Aside0 (Below w.heap.size w wr)∧Aside0 (((bytesOf a).drop j).all lowB=r))
    case atStart=>exact ⟨0,rfl,by omega,by omega,B,H⟩
    case round =>
      clear H B
      obtain ⟨j,rfl,hj,hk,B,H⟩:=hrel
      have H:=H.out
      by_cases hlt : j < a.size
      · have p:=eq_true (show (0 : Int)≤(j : Int) by omega)
        have q:=eq_true (show (j : Int) < (a.size : Int) by omega)
        have q':=decide_eq_true (show (j : Int) < (a.size : Int) by omega)
        have hx : ((a[j]'hlt).toNat : Int)=bt a (j : Int):=bt_at a (j : Int) (by rw [Int.toNat_natCast];exact hlt)
        rw [bt_drop' hlt] at H
        simp only [List.all_cons] at H
        generalize bt a (j : Int)=x at *
        obtain ⟨d,rfl⟩ : ∃ d,gk=d + 1:=⟨gk - 1,by omega⟩
        by_cases hx : lowB x=true
        · have H':=Aside0.mk (show ((bytesOf a).drop (j + 1)).all lowB=r by simpa [hx] using H)
          clear H
          unfold lowB at hx
          simp only [Bool.and_eq_true,decide_eq_true_eq] at hx
          have d1 : decide (x < 97)=false:=decide_eq_false (by omega)
          have d2 : decide (122 < x)=false:=decide_eq_false (by omega)
          go_wp2
          go_roundg d
          case measure=>omega
          case rel=>exact ⟨j + 1,congrArg (Value.int .i64) (Int.natCast_succ _).symm,by omega,by omega,B,H'⟩
        · have hr : r=false:=by simpa [hx] using H.symm
          subst hr
          clear H
          unfold lowB at hx
          simp only [Bool.and_eq_true,decide_eq_true_eq] at hx
          by_cases h97 : x < 97
          · have d1 : decide (x < 97)=true:=decide_eq_true h97
            go_wp2
            go_ret
            exact ⟨by simp,B.out⟩
          · have d1 : decide (x < 97)=false:=decide_eq_false h97
            have d2 : decide (122 < x)=true:=decide_eq_true (by omega)
            go_wp2
            go_ret
            exact ⟨by simp,B.out⟩
      · have q':=decide_eq_false (show ¬ (j : Int) < (a.size : Int) by omega)
        have hr : r=true:=by
          rw [List.drop_of_length_le (by rw [bytesOf_length];omega)] at H
          simpa using H.symm
        subst hr
        go_wp2
        go_ret
        exact ⟨by simp,B.out⟩
  · have hl : l1B (a.size : Int) 1 4=false:=by unfold l1B;simp;omega
    have hr : r=false:=by
      rw [← hr,Bool.and_eq_false_iff,Bool.and_eq_false_iff,decide_eq_false_iff_not,decide_eq_false_iff_not]
      omega
    subst hr
    go_enter Try.func89,Try.ntmps89
    go_wp2_with (first
      | (go_at_call 90;with_reducible refine cl (clv (spec_l1In.M _ 1 4 _) (congrArg Value.bool hl)) B fun w1 hb B=>?_;clear hb))
    go_ret
    exact ⟨by simp,B.out⟩
theorem impl_lettersOnly.M : ∀ (n : Nat) (a : ByteArray) (w : World),a.size=n→Calls Try.prog 108 #[.string a] w fun e w'=>e=.returned (.bool ((bytesOf a).all lowB))∧Below w.heap.size w w'
  | 0,a,w,h=>by
    have hn : a.toList=[]:=(nil_iff a).mpr h
    go_enter Try.func108,Try.ntmps108
    go_wp2
    all_goals (first | go_ret | skip)
    all_goals (first | exact absurd hn (by assumption) | skip)
    refine ⟨?_,Below.refl _ _⟩
    have : bytesOf a=[]:=List.eq_nil_of_length_eq_zero (by rw [bytesOf_length];exact h)
    rw [this]
    rfl
  | n + 1,a,w,h=>by
    have B:=Aside0.mk (Below.refl w.heap.size w)
    have hn : ¬ a.toList=[]:=fun q=>by have:=(nil_iff a).mp q;omega
    have IH:=Aside0.mk (fun W=>impl_lettersOnly.M n (a.extract 1 a.size) W (by simp [h]))
    have hb0:=bt_drop' (s:=a) (j:=0) (by omega)
    have h0 : 0 < a.size:=by omega
    have hx : ((a[0]'h0).toNat : Int)=bt a ((0 : Nat) : Int):=bt_at a 0 (by simp;omega)
    have p:=eq_true (show (0 : Int) < (a.size : Int) by omega)
    have p1:=eq_true (show 0 < a.size by omega)
    have p2:=eq_true (show 1≤a.size by omega)
    rw [List.drop_zero] at hb0
    rw [bytesOf_tail] at IH
    rw [hb0]
    simp only [List.all_cons]
    clear hb0
    rw [Nat.zero_add]
    generalize (List.drop 1 (bytesOf a)).all lowB=r at IH ⊢
    generalize bt a ((0 : Nat) : Int)=x at hx ⊢
    clear h
    go_enter Try.func108,Try.ntmps108
    go_wp2_with (first
      | (go_at_call 108;with_reducible refine cl (IH.out _) B fun w1 hb B=>?_;clear hb))
    all_goals go_ret
    all_goals (refine ⟨?_,B.out⟩;unfold lowB;simp_all;try omega)
theorem impl_KeyValid.M (a : ByteArray) (w : World) : Calls Try.prog 80 #[.string a] w fun e w'=>e=.returned (.bool (keyB a))∧Below w.heap.size w w':=by
  have B:=Aside0.mk (Below.refl w.heap.size w)
  go_enter Try.func80,Try.ntmps80
  go_wp2_with (first
    | (go_at_call 108;with_reducible refine cl (impl_lettersOnly.M _ a _ rfl) B fun w1 hb B=>?_;clear hb))
  all_goals go_ret
  all_goals (refine ⟨?_,B.out⟩;unfold keyB;simp_all;try omega)

/-! The model of sessions. -/
def okS (s : S100) : Bool:=l1B s.f0 0 3 && (l1B s.f1 1 999 && l1B s.f2 (-2) 999)
def above (p : Option Int) (c : Int) : Bool:=match p with
  | none=>true
  | some q=>decide (q < c)
def sesG : Option Int→List S100→Bool
  | _,[]=>true
  | p,s :: r=>okS s && (above p s.f0 && sesG (some s.f0) r)
def sesB (l : List S100) : Bool:=sesG none l
def sesP (l : List S100) (j : Nat) : Option Int:=if j=0 then none else some (l.getD (j - 1) z100).f0
theorem ses_nat {l : List S100} {j : Nat} (h : j < l.length) : rd_T100 l (j : Int)=l[j]:=by
  simp [rd_T100,List.getD_eq_getElem?_getD,List.getElem?_eq_getElem h]
theorem ses_drop {l : List S100} {j : Nat} (h : j < l.length) : l.drop j=rd_T100 l (j : Int) :: l.drop (j + 1):=by
  rw [ses_nat h,List.drop_eq_getElem_cons h]
theorem ses_prev (l : List S100) (j : Nat) : sesP l (j + 1)=some (rd_T100 l (j : Int)).f0:=by
  unfold sesP rd_T100
  rw [if_neg (by omega),Int.toNat_natCast,Nat.add_sub_cancel]
def sesJ (l : List S100) (j : Nat) : Bool:=sesG (sesP l j) (l.drop j)
theorem sesJ_end {l : List S100} {j : Nat} (h : ¬ j < l.length) : sesJ l j=true:=by
  unfold sesJ
  rw [List.drop_of_length_le (by omega)]
  rfl
theorem sesJ_step {l : List S100} {j : Nat} (h : j < l.length) :
    sesJ l j=((l1B (rd_T100 l (j : Int)).f0 0 3 && (l1B (rd_T100 l (j : Int)).f1 1 999 && (l1B (rd_T100 l (j : Int)).f2 (-2) 999 && (if j=0 then true else decide ((rd_T100 l ((j - 1 : Nat) : Int)).f0 < (rd_T100 l (j : Int)).f0))))) && sesJ l (j + 1)):=by
  unfold sesJ
  rw [ses_drop h,ses_prev]
  simp only [sesG]
  unfold okS
  by_cases hj : j=0
  · subst hj
    simp [sesP,above,Bool.and_assoc]
  · obtain ⟨i,rfl⟩ : ∃ i,j=i + 1:=⟨j - 1,by omega⟩
    rw [ses_prev,if_neg hj,Nat.add_sub_cancel]
    simp [above,Bool.and_assoc]

/-! Marks: what is written into a list of sessions is found there. -/
def mkSes (k : Int) : S100:=⟨k,k + 1,k + 2⟩
def sesTo (n : Nat) (q : Int) : List S100:=(List.range n).map fun (i : Nat)=>mkSes (q + 3 * (i : Int))
theorem sesTo_length (n : Nat) (q : Int) : (sesTo n q).length=n:=by simp [sesTo]
theorem rds_set {l : List S100} {j : Nat} (h : j < l.length) (x : S100) : rd_T100 (l.set j x) (j : Int)=x:=by
  rw [ses_nat (by simpa using h)]
  simp
theorem markSes_loop (n : Nat) (hn : n≤2097152) (q : Int) (h0 : 0≤q) (h1 : q≤1125899906842624) (d : Nat) : ∀ (j : Nat) (xs : List S100),j + d=n→xs.length=n→xs.take j=(sesTo n q).take j →
    ∀ k,d + 1≤k→laws_markSessionS.l0 k xs (q + 3 * (j : Int)) (j : Int)=some (q + 3 * (n : Int),sesTo n q):=by
  induction d with
  | zero =>
    intro j xs hj hl ht k hk
    obtain ⟨k,rfl⟩ : ∃ i,k=i + 1:=⟨k - 1,by omega⟩
    simp only [laws_markSessionS.l0]
    rw [if_neg (by omega)]
    rw [List.take_of_length_le (by omega),List.take_of_length_le (by rw [sesTo_length];omega)] at ht
    rw [ht,show j=n by omega]
  | succ d ih =>
    intro j xs hj hl ht k hk
    obtain ⟨k,rfl⟩ : ∃ i,k=i + 1:=⟨k - 1,by omega⟩
    have e:=ih (j + 1) (xs.set j (mkSes (q + 3 * (j : Int)))) (by omega) (by simpa using hl) (by
      rw [List.take_succ_eq_append_getElem (by simp;omega),List.take_succ_eq_append_getElem (by rw [sesTo_length];omega),← ht]
      simp [List.take_set_of_le,sesTo]) k (by omega)
    · simp only [laws_markSessionS.l0,Option.bind_some,Int.toNat_natCast]
      rw [if_pos (by omega),if_pos (by omega),w64 (x:=q + 3 * (j : Int) + 1) (by omega) (by omega),w64 (x:=q + 3 * (j : Int) + 1 + 1) (by omega) (by omega),w64 (x:=q + 3 * (j : Int) + 1 + 1 + 1) (by omega) (by omega),w64 (x:=(j : Int) + 1) (by omega) (by omega)]
      rw [rds_set (by omega),rds_set (by rw [List.length_set];omega)]
      simp only [List.set_set]
      rw [show q + 3 * (j : Int) + 1 + 1 + 1=q + 3 * ((j + 1 : Nat) : Int) by omega]
      refine Eq.trans ?_ e
      rw [show mkSes (q + 3 * (j : Int))=(⟨q + 3 * (j : Int),q + 3 * (j : Int) + 1,q + 3 * (j : Int) + 1 + 1⟩ : S100) from by unfold mkSes;congr 1;omega]
      rfl
theorem markSes (xs : List S100) (hn : xs.length≤2097152) (q : Int) (h0 : 0≤q) (h1 : q≤1125899906842624) :
    laws_markSessionS.f (xs.length + 21) xs q=some (q + 3 * (xs.length : Int),sesTo xs.length q):=by
  have e:=markSes_loop xs.length hn q h0 h1 xs.length 0 xs (by omega) rfl (by simp) (xs.length + 21) (by omega)
  unfold laws_markSessionS.f
  simpa using e
theorem laws_markSessionS.M (v : Value) (l : List S100) (q : Int) (w W : World) (B : Aside0 (Below w.heap.size w W)) (R : Aside0 (Ow k100 100 W w.heap.size v l)) (hn : l.length≤2097152) (h0 : 0≤q) (h1 : q≤1125899906842624) :
    Calls Try.prog 69 #[v,.int .i64 q] W fun e w'=>e=.returned (.int .i64 (q + 3 * (l.length : Int)))∧Kd.R k100 100 w' w.heap.size (fun k_=>(some k_=v.ownBlock ∨ W.heap.size≤k_)) v (sesTo l.length q)∧Below w.heap.size w w'∧Kept W w' (fun k_=>some k_=v.ownBlock) :=
  laws_markSessionS.calls (l.length + 21) (fun k=>some k=v.ownBlock) v l q _ _ w W B.out (Kd.R_tight rfl R.out) (markSes l hn q h0 h1)

/-! Marks of states: what is written lies in blocks of the row's own. -/
section
variable {ok : Nat→Prop} {w W0 W W1 : World} {g n cap : Nat} {xs : List S34}
theorem MAt.callP (h : MAt ok w W0 W (.slice (some ⟨g,0,none⟩) n cap) xs) (hl : Lim xs) {j : Nat} (hj : j < n) {v2 : Value} (hv : W.cell? ⟨g,j * 6 + 2,none⟩=some v2) (q : Int) (h0 : 0≤q) (h1 : q≤1125899906842624) :
    Calls Try.prog 25 #[v2,.int .i64 q] W fun e w'=>∃ r,e=.returned (.int .i64 r)∧(q≤r∧r≤q + 2097152)∧∃ ys,MAt ok w W0 w' (.slice (some ⟨g,0,none⟩) n cap) ys∧Lim ys:=by
  obtain ⟨u2,u3,g2,g3,_,_,k2,_⟩:=h.cells hj
  obtain rfl : u2=v2:=Option.some.inj (k2.symm.trans hv)
  have ha:=hl.at (h.len ▸ hj)
  refine (laws_markPairS.M u2 _ q w W ⟨h.bel⟩ ⟨g2⟩ (by omega) h0 h1).mono ?_
  rintro e w' ⟨rfl,hR,hb,hk⟩
  exact ⟨_,rfl,by omega,_,h.pairs hj hv _ hR hb hk,by refine Lim.set hl ?_ j;exact ⟨by rw [prTo_length];exact ha.1,ha.2⟩⟩
theorem MAt.callS (h : MAt ok w W0 W (.slice (some ⟨g,0,none⟩) n cap) xs) (hl : Lim xs) {j : Nat} (hj : j < n) {v3 : Value} (hv : W.cell? ⟨g,j * 6 + 3,none⟩=some v3) (q : Int) (h0 : 0≤q) (h1 : q≤1125899906842624) :
    Calls Try.prog 69 #[v3,.int .i64 q] W fun e w'=>∃ r,e=.returned (.int .i64 r)∧(q≤r∧r≤q + 3145728)∧∃ ys,MAt ok w W0 w' (.slice (some ⟨g,0,none⟩) n cap) ys∧Lim ys:=by
  obtain ⟨u2,u3,g2,g3,_,_,_,k3,_⟩:=h.cells hj
  obtain rfl : u3=v3:=Option.some.inj (k3.symm.trans hv)
  have ha:=hl.at (h.len ▸ hj)
  refine (laws_markSessionS.M u3 _ q w W ⟨h.bel⟩ ⟨g3⟩ (by omega) h0 h1).mono ?_
  rintro e w' ⟨rfl,hR,hb,hk⟩
  exact ⟨_,rfl,by omega,_,h.sess hj hv _ hR hb hk,by refine Lim.set hl ?_ j;exact ⟨ha.1,by rw [sesTo_length];exact ha.2⟩⟩
theorem laws_markText.Q (q : Int) (h : q≤100000000000000000) (w : World) : Calls Try.prog 68 #[.int .i64 q] w fun e w'=>e=.returned (.string (mtx q))∧Below w.heap.size w w':=laws_markText.calls 20 q _ w (mtx_ok q h 20 (by omega))
end
set_option maxHeartbeats 4000000 in
theorem laws_markStateS.M (ok : Nat→Prop) (v : Value) (l : List S34) (q : Int) (w W : World) (B : Aside0 (Below w.heap.size w W)) (R : Aside0 (Kd.S k34 34 W w.heap.size ok v l)) (hn : l.length≤1048576) (hl : Lim l) (h0 : 0≤q) (h1 : q≤1000000) :
    Calls Try.prog 24 #[v,.int .i64 q] W fun e w'=>∃ q',e=.returned (.int .i64 q')∧0≤q'∧Below w.heap.size w w'∧Kept W w' ok:=by
  have M:=Aside0.mk (And.intro (MAt.mk (W0:=W) (Kd.S_mono R.out (fun _ h=>Or.inl h)) B.out (Kept.refl W ok)) hl)
  clear hl B
  obtain ⟨A,c,hv⟩:=Kd.S_slice R.out
  subst hv
  clear R
  obtain ⟨n,hn0⟩ : ∃ n,l.length=n:=⟨_,rfl⟩
  rw [hn0] at hn M ⊢
  have hu:=Try.underlying34
  have hu2:=Try.underlying30
  go_enter Try.func24,Try.ntmps24
  go_wp2
  go_loopg [1,5] (n + 1) (fun kx v1 v5 wr=>∃ (j : Nat) (k0 : Int) (xs : List S34),v1=.int .i64 k0∧v5=.int .i64 (j : Int)∧j≤n∧n < j + kx∧0≤k0∧k0≤q + 8388608 * (j : Int)∧Aside0 (MAt ok w W wr (.slice A n c) xs∧Lim xs))
  case atStart=>exact ⟨0,q,l,rfl,rfl,by omega,by omega,h0,by omega,M⟩
  case round =>
    clear M hn0
    obtain ⟨j,k0,xs,rfl,rfl,hj,hk,hk0,hk0',M⟩:=hrel
    by_cases hlt : j < n
    · obtain ⟨d,rfl⟩ : ∃ d,gk=d + 1:=⟨gk - 1,by omega⟩
      have cj : decide ((j : Int) < (n : Int))=true:=decide_eq_true (by omega)
      obtain ⟨g,hA⟩ : ∃ g,A=some ⟨g,0,none⟩:=by
        have e:=(Kd.S_reads' M.out.1.own).1
        obtain ⟨g,cap,hv,_⟩:=Kd.S_form M.out.1.own (by omega)
        injection hv with hA _ _
        exact ⟨g,hA⟩
      subst hA
      have j1:=eq_true (show (j : Int) < (n : Int) by omega)
      have j2:=eq_true hlt
      obtain ⟨k1,hk1⟩ : ∃ x,k0 + 1=x:=⟨_,rfl⟩
      have hw1 : wrap64 (k0 + 1)=k1:=by rw [← hk1];exact w64 (by omega) (by omega)
      obtain ⟨k2,hk2⟩ : ∃ x,k1 + 1=x:=⟨_,rfl⟩
      have hw2 : wrap64 (k1 + 1)=k2:=by rw [← hk2];exact w64 (by omega) (by omega)
      obtain ⟨v2,v3,-,-,q0,q1,q2,q3,q4,q5,f0,f1,f4,f5,-⟩:=M.out.1.cells hlt
      go_wp2_with (first
        | (go_at_call 68;with_reducible refine cl (laws_markText.Q k0 (by omega) _) ⟨M.out.1.bel⟩ fun w1 hb B=>?_;replace M:=Aside0.mk (And.intro (M.out.1.below hb) M.out.2);clear hb B q0 q1 q2 q3 q4 q5 f0 f1 f4 f5;obtain ⟨v2,v3,-,-,q0,q1,q2,q3,q4,q5,f0,f1,f4,f5,-⟩:=M.out.1.cells hlt;skip)
        | ((with_reducible refine gate_store (t:=9) (p:=18) rfl ?_);refine store_event (t:=9) (p:=18) (v:=?vo0) (w1:=World.setCell w1 ⟨g,j * 6,none⟩ (.string (mtx k0))) ?hg ?ho ?hn ?hr ?_;(case ho | hg | hn=>rfl);(case hr=>first | (go_simp;done) | (go_simp;rfl));intro w2 hw;clear q0 q1 q2 q3 q4 q5 f0 f1 f4 f5;obtain ⟨ys0,hM⟩:=M.out.1.put0 M.out.2 hlt (mtx k0) hw;clear hw M;have M:=Aside0.mk hM;clear hM;obtain ⟨v2,v3,-,-,q0,q1,q2,q3,q4,q5,f0,f1,f4,f5,-⟩:=M.out.1.cells hlt;skip)
        | (go_at_call 68;with_reducible refine cl (laws_markText.Q k1 (by omega) _) ⟨M.out.1.bel⟩ fun w3 hb B=>?_;replace M:=Aside0.mk (And.intro (M.out.1.below hb) M.out.2);clear hb B q0 q1 q2 q3 q4 q5 f0 f1 f4 f5;obtain ⟨v2,v3,-,-,q0,q1,q2,q3,q4,q5,f0,f1,f4,f5,-⟩:=M.out.1.cells hlt;skip)
        | ((with_reducible refine gate_store (t:=9) (p:=27) rfl ?_);refine store_event (t:=9) (p:=27) (v:=?vo1) (w1:=World.setCell w3 ⟨g,j * 6 + 1,none⟩ (.string (mtx k1))) ?hg ?ho ?hn ?hr ?_;(case ho | hg | hn=>rfl);(case hr=>first | (go_simp;done) | (go_simp;rfl));intro w4 hw;clear q0 q1 q2 q3 q4 q5 f0 f1 f4 f5;obtain ⟨ys1,hM⟩:=M.out.1.put1 M.out.2 hlt (mtx k1) hw;clear hw M;have M:=Aside0.mk hM;clear hM;obtain ⟨v2,v3,-,-,q0,q1,q2,q3,q4,q5,f0,f1,f4,f5,-⟩:=M.out.1.cells hlt;skip)
        | (go_at_call 25;with_reducible refine (M.out.1.callP M.out.2 hlt q2 k2 (by omega) (by omega)).mono ?_;rintro e w5 ⟨k3,rfl,hk3,ys8,hM⟩;clear q0 q1 q2 q3 q4 q5 f0 f1 f4 f5 M;have M:=Aside0.mk hM;clear hM;obtain ⟨v2,v3,-,-,q0,q1,q2,q3,q4,q5,f0,f1,f4,f5,-⟩:=M.out.1.cells hlt;skip)
        | (go_at_call 69;with_reducible refine (M.out.1.callS M.out.2 hlt q3 k3 (by omega) (by omega)).mono ?_;rintro e w6 ⟨k4,rfl,hk4,ys9,hM⟩;clear q0 q1 q2 q3 q4 q5 f0 f1 f4 f5 M;have M:=Aside0.mk hM;clear hM;obtain ⟨k5,hk5⟩ : ∃ x,k4 + 1=x:=⟨_,rfl⟩;have hw5 : wrap64 (k4 + 1)=k5:=(by rw [← hk5];exact w64 (by omega) (by omega));obtain ⟨k6,hk6⟩ : ∃ x,k5 + 1=x:=⟨_,rfl⟩;have hw6 : wrap64 (k5 + 1)=k6:=(by rw [← hk6];exact w64 (by omega) (by omega));obtain ⟨v2,v3,-,-,q0,q1,q2,q3,q4,q5,f0,f1,f4,f5,-⟩:=M.out.1.cells hlt;skip)
        | ((with_reducible refine gate_store (t:=4) (p:=50) rfl ?_);refine store_event (t:=4) (p:=50) (v:=?vo4) (w1:=World.setCell w6 ⟨g,j * 6 + 4,none⟩ (.bool (k4 % 3 == 0))) ?hg ?ho ?hn ?hr ?_;(case ho | hg | hn=>rfl);(case hr=>first | (go_simp;done) | (go_simp;rfl));intro w7 hw;clear q0 q1 q2 q3 q4 q5 f0 f1 f4 f5;obtain ⟨ys4,hM⟩:=M.out.1.put4 M.out.2 hlt (k4 % 3 == 0) hw;clear hw M;have M:=Aside0.mk hM;clear hM;obtain ⟨v2,v3,-,-,q0,q1,q2,q3,q4,q5,f0,f1,f4,f5,-⟩:=M.out.1.cells hlt;skip)
        | (go_at_call 68;with_reducible refine cl (laws_markText.Q k5 (by omega) _) ⟨M.out.1.bel⟩ fun w8 hb B=>?_;replace M:=Aside0.mk (And.intro (M.out.1.below hb) M.out.2);clear hb B q0 q1 q2 q3 q4 q5 f0 f1 f4 f5;obtain ⟨v2,v3,-,-,q0,q1,q2,q3,q4,q5,f0,f1,f4,f5,-⟩:=M.out.1.cells hlt;skip)
        | ((with_reducible refine gate_store (t:=9) (p:=58) rfl ?_);refine store_event (t:=9) (p:=58) (v:=?vo5) (w1:=World.setCell w8 ⟨g,j * 6 + 5,none⟩ (.string (mtx k5))) ?hg ?ho ?hn ?hr ?_;(case ho | hg | hn=>rfl);(case hr=>first | (go_simp;done) | (go_simp;rfl));intro w9 hw;clear q0 q1 q2 q3 q4 q5 f0 f1 f4 f5;obtain ⟨ys5,hM⟩:=M.out.1.put5 M.out.2 hlt (mtx k5) hw;clear hw M;have M:=Aside0.mk hM;clear hM;obtain ⟨v2,v3,-,-,q0,q1,q2,q3,q4,q5,f0,f1,f4,f5,-⟩:=M.out.1.cells hlt;skip))
      go_roundg d
      case measure=>omega
      case rel=>exact ⟨j + 1,_,_,rfl,congrArg (Value.int .i64) (Int.natCast_succ _).symm,by omega,by omega,by omega,by omega,M⟩
    · have cj : decide ((j : Int) < (n : Int))=false:=decide_eq_false (by omega)
      go_wp2
      go_ret
      exact ⟨_,rfl,hk0,M.out.1.bel,M.out.1.kep⟩

/-! The model of intervals. -/
def ivB (lo hi : ByteArray) : Bool :=
  if lo.toList=([] : List UInt8) then (if hi.toList=([] : List UInt8) then true else keyB hi && Op.bytesLess [97] hi.toList)
  else keyB lo && (if hi.toList=([] : List UInt8) then true else keyB hi && Op.bytesLess lo.toList hi.toList)
def insB (lo hi key : ByteArray) : Bool:=!(Op.bytesLess key.toList lo.toList) && (if hi.toList=([] : List UInt8) then true else Op.bytesLess key.toList hi.toList)
def lowK (a : ByteArray) : ByteArray:=if a.toList=([] : List UInt8) then ⟨#[97]⟩ else a
def cutB (lo hi key : ByteArray) : Bool:=ivB lo hi && (keyB key && (ivB lo key && ivB key hi))
def cutV (lo hi key : ByteArray) : ByteArray × ByteArray × ByteArray × ByteArray × Bool:=if cutB lo hi key=true then (lo,key,key,hi,true) else (⟨#[]⟩,⟨#[]⟩,⟨#[]⟩,⟨#[]⟩,false)
/-- a key begins with a letter,so it is a or greater -/
theorem key_a {s : ByteArray} (h : keyB s=true) : Op.bytesLess [97] s.toList=(Op.bytesLess [] s.toList && (s.toList != ([97] : List UInt8))):=by
  unfold keyB at h
  rw [Bool.and_eq_true,Bool.and_eq_true,decide_eq_true_eq] at h
  have h2:=h.2
  unfold bytesOf at h2
  rw [ba_toList]
  have hs : s.data.toList.length=s.size:=data_length s
  generalize s.data.toList=x at *
  cases x with
  | nil=>simp only [List.length_nil] at hs;omega
  | cons b r =>
    simp only [List.map_cons,List.all_cons,Bool.and_eq_true] at h2
    have hb:=h2.1
    unfold lowB at hb
    rw [Bool.and_eq_true,decide_eq_true_eq] at hb
    have h97 : (97 : UInt8).toNat≤b.toNat:=by have:=hb.1;show 97≤b.toNat;omega
    rw [show Op.bytesLess [] (b :: r)=true from rfl,Bool.true_and]
    simp only [Op.bytesLess]
    by_cases e : b=97
    · subst e
      cases r with
      | nil=>decide
      | cons c r=>simp [Op.bytesLess]
    · have h3 : (97 : UInt8) < b:=by
        rw [UInt8.lt_iff_toNat_lt]
        have : b.toNat ≠ (97 : UInt8).toNat:=fun h=>e (UInt8.toNat_inj.mp h)
        omega
      simp [h3,e]
theorem toL97 : (⟨#[97]⟩ : ByteArray).toList=[97]:=by rw [ba_toList]
theorem toL0 : (⟨#[]⟩ : ByteArray).toList=[]:=by rw [ba_toList]
theorem less_nil {x : List UInt8} (h : ¬ x=[]) : Op.bytesLess [] x=true:=by cases x with | nil=>exact absurd rfl h | cons=>rfl
theorem cutV_ok (lo hi key : ByteArray) : (cutV lo hi key).2.2.2.2=cutB lo hi key:=by
  unfold cutV
  cases cutB lo hi key <;> rfl

theorem spec_IntervalValid.M (a b : ByteArray) (w : World) : Calls Try.prog 47 #[.agg #[.string a,.string b]] w fun e w'=>e=.returned (.bool (ivB a b))∧Below w.heap.size w w':=by
 have B:=Aside0.mk (Below.refl w.heap.size w)
 have hu:=Try.underlying30
 go_enter Try.func47,Try.ntmps47
 go_wp2_with (first
  | ((with_reducible refine gate_dst (N:=1) rfl ?_);refine bxq 1 #[.string a,.string b] 30 B fun g1 w1 hb B F1 L1 E1=>?_;obtain ⟨c1_0,c1_1⟩:=cs2 F1;clear hb E1)
  | (go_at_call 89;with_reducible refine cl (spec_KeyValid.M a _) B fun w2 hb B=>?_;replace F1:=bn F1 hb;clear c1_0 c1_1;obtain ⟨c1_0,c1_1⟩:=cs2 F1;clear hb)
  | (go_at_call 89;with_reducible refine cl (spec_KeyValid.M b _) B fun w3 hb B=>?_;replace F1:=bn F1 hb;clear c1_0 c1_1;obtain ⟨c1_0,c1_1⟩:=cs2 F1;clear hb))
 all_goals go_ret
 all_goals
  refine ⟨?_,B.out⟩
  unfold ivB
  by_cases ha : a.toList=[] <;> by_cases hb : b.toList=[] <;> cases ka : keyB a <;> cases kb : keyB b <;> simp_all [toL97,toL0,key_a,less_nil] <;> (try omega) <;> (rw [show b.toList.isEmpty=false by simp [hb]];rfl)
theorem impl_lowestKey.M (a b : ByteArray) (w : World) : Calls Try.prog 93 #[.agg #[.string a,.string b]] w fun e w'=>e=.returned (.string (lowK a))∧Below w.heap.size w w':=by
 have B:=Aside0.mk (Below.refl w.heap.size w)
 have hu:=Try.underlying30
 go_enter Try.func93,Try.ntmps93
 go_wp2_with (first
  | ((with_reducible refine gate_dst (N:=1) rfl ?_);refine bxq 1 #[.string a,.string b] 30 B fun g1 w1 hb B F1 L1 E1=>?_;obtain ⟨c1_0,c1_1⟩:=cs2 F1;clear hb E1))
 all_goals go_ret
 all_goals (refine ⟨?_,B.out⟩;unfold lowK;simp_all)
def impl_IntervalValid.T3 : Bool × List (List Nat × List Nat):=(true,[([],[]),([0],[0]),([1],[1]),([2],[2]),([3],[3]),([4,3,3],[3,4]),([3],[3]),([6,3],[3,6]),([5,7,3],[3,5,7]),([3,8],[3,8]),([9,5,0,1,2,3,4,5,6,7,8,9],[9])])
def impl_IntervalValid.B3 : List Nat:=[0,1,3,7,15,31,15,79,255,511,1023]
theorem impl_IntervalValid.tab3 : rtab .any (opsOf Try.f55 3)=impl_IntervalValid.T3:=by kernel_rfl
theorem impl_IntervalValid.bits3 : waitsOk impl_IntervalValid.T3.2 impl_IntervalValid.B3=true:=by kernel_rfl
theorem impl_IntervalValid.M (a b : ByteArray) (w : World) : Calls Try.prog 55 #[.agg #[.string a,.string b]] w fun e w'=>e=.returned (.bool (ivB a b))∧Below w.heap.size w w':=by
 have B:=Aside0.mk (Below.refl w.heap.size w)
 have hu:=Try.underlying30
 go_enter Try.func55,Try.ntmps55
 go_wp2_with (first
  | ((with_reducible refine gate_dst (N:=1) rfl ?_);refine bxq 1 #[.string a,.string b] 30 B fun g1 w1 hb B F1 L1 E1=>?_;obtain ⟨c1_0,c1_1⟩:=cs2 F1;clear hb E1)
  | (go_at_call 80;with_reducible refine cl (impl_KeyValid.M a _) B fun w2 hb B=>?_;replace F1:=bn F1 hb;clear c1_0 c1_1;obtain ⟨c1_0,c1_1⟩:=cs2 F1;clear hb)
  | (go_at_call 80;with_reducible refine cl (impl_KeyValid.M b _) B fun w3 hb B=>?_;replace F1:=bn F1 hb;clear c1_0 c1_1;obtain ⟨c1_0,c1_1⟩:=cs2 F1;clear hb))
 all_goals try (go_ret;refine ⟨?_,B.out⟩;unfold ivB;(try unfold lowK);by_cases ha : a.toList=[] <;> by_cases hb : b.toList=[] <;> cases ka : keyB a <;> cases kb : keyB b <;> simp_all [toL97,toL0];done)
 all_goals (
  by_cases hq0 : b.toList=([] : List UInt8)
  ·first
   | exact absurd hq0 (by assumption)
   | (
    have hd0 : (b.toList == ([] : List UInt8))=true:=by simp [hq0]
    refine rg (n:=11) (S:=fun W=>W.heap[g1]?=some (.cells #[.string a,.string b] 30 (0,0))) (ds:=[]) #[false,false,false,false,false,false,false,false,false,false,false] (by kernel_rfl) rfl rfl F1.out id B (fun w4 hb B hHeld=>?_)
    refine with_tabW impl_IntervalValid.tab3 impl_IntervalValid.bits3 (fun HT_ HW_=>?_)
    replace F1:=bn F1 hb
    clear hb
    refine pvq 0 (some 23) (bits 11 1) HT_ ?_
    refine tvq 1 (some 24) (bits 11 3) HT_ HW_ rfl hHeld (by intro w' hS;have s0:=hS;obtain ⟨q0,q1⟩:=cs2 (Aside0.mk s0);go_simp;with_reducible rfl) ?_
    refine pvq 2 (some 25) (bits 11 7) HT_ ?_
    refine pvq 3 (some 26) (bits 11 15) HT_ ?_
    refine svq 4 (some 27) (bits 11 31) HT_ ?_
    refine svq 5 (some 28) (bits 11 63) HT_ ?_
    refine svq 6 (some 29) (bits 11 127) HT_ ?_
    refine svq 7 (some 30) (bits 11 255) HT_ ?_
    refine svq 8 (some 31) (bits 11 511) HT_ ?_
    refine pvq 9 (some 32) (bits 11 1023) HT_ ?_
    refine pvq 10 (some 2) (bits 11 2047) HT_ ?_
    refine nmq ?_
    refine done_ (done_of HT_.out (by kernel_rfl)) ?_
    try go_wp2
    go_ret
    refine ⟨?_,B.out⟩
    unfold ivB;(try unfold lowK);by_cases ha : a.toList=[] <;> by_cases hb : b.toList=[] <;> cases ka : keyB a <;> cases kb : keyB b <;> simp_all [toL97,toL0]
    )
  ·first
   | exact absurd (by assumption) hq0
   | (
    have hd0 : (b.toList == ([] : List UInt8))=false:=by simp [hq0]
    refine rg (n:=11) (S:=fun W=>W.heap[g1]?=some (.cells #[.string a,.string b] 30 (0,0))) (ds:=[]) #[false,false,false,false,false,false,false,false,false,false,false] (by kernel_rfl) rfl rfl F1.out id B (fun w4 hb B hHeld=>?_)
    refine with_tabW impl_IntervalValid.tab3 impl_IntervalValid.bits3 (fun HT_ HW_=>?_)
    replace F1:=bn F1 hb
    clear hb
    refine pvq 0 (some 23) (bits 11 1) HT_ ?_
    refine tvq 1 (some 24) (bits 11 3) HT_ HW_ rfl hHeld (by intro w' hS;have s0:=hS;obtain ⟨q0,q1⟩:=cs2 (Aside0.mk s0);go_simp;with_reducible rfl) ?_
    refine pvq 2 (some 25) (bits 11 7) HT_ ?_
    refine pvq 3 (some 26) (bits 11 15) HT_ ?_
    refine tvq 4 (some 27) (bits 11 31) HT_ HW_ rfl hHeld (by intro w' hS;have s0:=hS;obtain ⟨q0,q1⟩:=cs2 (Aside0.mk s0);go_simp;with_reducible rfl) ?_
    refine pvq 6 (some 29) (bits 11 95) HT_ ?_
    refine tvq 7 (some 30) (bits 11 223) HT_ HW_ rfl hHeld (by intro w' hS;have s0:=hS;obtain ⟨q0,q1⟩:=cs2 (Aside0.mk s0);go_simp;with_reducible rfl) ?_
    refine nmq ?_
    refine one_ (i:=5) (N:=some 28) (bits 11 255) rfl rfl (one_of HT_.out (by kernel_rfl)) (by decide) (fun K hK=>?_)
    refine gsq Try.func93 #[.agg #[.string a,.string b]] ?_
    with_reducible refine cl (impl_lowestKey.M a b _) B fun w5 hb B=>?_
    replace F1:=bn F1 hb
    clear hb
    refine ⟨_,rfl,?_⟩
    refine hK.out _ _ F1.out (fun hHeld=>?_)
    clear hK K
    refine npq (some 28) ?_
    refine pvq 8 (some 31) (bits 11 511) HT_ ?_
    refine pvq 9 (some 32) (bits 11 1023) HT_ ?_
    refine pvq 10 (some 2) (bits 11 2047) HT_ ?_
    refine nmq ?_
    refine done_ (done_of HT_.out (by kernel_rfl)) ?_
    try go_wp2
    go_ret
    refine ⟨?_,B.out⟩
    unfold ivB;(try unfold lowK);by_cases ha : a.toList=[] <;> by_cases hb : b.toList=[] <;> cases ka : keyB a <;> cases kb : keyB b <;> simp_all [toL97,toL0]
    ))
 all_goals try go_wp2
 all_goals try (go_ret;refine ⟨?_,B.out⟩;unfold ivB;(try unfold lowK);by_cases ha : a.toList=[] <;> by_cases hb : b.toList=[] <;> cases ka : keyB a <;> cases kb : keyB b <;> simp_all [toL97,toL0];done)

def hasB (a b c : ByteArray) : Bool:=ivB a b && (keyB c && insB a b c)
theorem spec_IntervalHas.M (a b c : ByteArray) (w : World) : Calls Try.prog 50 #[.agg #[.string a,.string b],.string c] w fun e w'=>e=.returned (.bool (hasB a b c))∧Below w.heap.size w w':=by
 have B:=Aside0.mk (Below.refl w.heap.size w)
 have hu:=Try.underlying30
 go_enter Try.func50,Try.ntmps50
 go_wp2_with (first
  | ((with_reducible refine gate_dst (N:=2) rfl ?_);refine bxq 2 #[.string a,.string b] 30 B fun g2 w1 hb B F2 L2 E2=>?_;obtain ⟨c2_0,c2_1⟩:=cs2 F2;clear hb E2)
  | (go_at_call 47;with_reducible refine cl (spec_IntervalValid.M a b _) B fun w2 hb B=>?_;replace F2:=bn F2 hb;clear c2_0 c2_1;obtain ⟨c2_0,c2_1⟩:=cs2 F2;clear hb)
  | (go_at_call 89;with_reducible refine cl (spec_KeyValid.M c _) B fun w3 hb B=>?_;replace F2:=bn F2 hb;clear c2_0 c2_1;obtain ⟨c2_0,c2_1⟩:=cs2 F2;clear hb))
 all_goals go_ret
 all_goals (refine ⟨?_,B.out⟩;unfold hasB insB;simp_all)

theorem impl_inside.M (a b c : ByteArray) (w : World) : Calls Try.prog 58 #[.agg #[.string a,.string b],.string c] w fun e w'=>e=.returned (.bool (insB a b c))∧Below w.heap.size w w':=by
 have B:=Aside0.mk (Below.refl w.heap.size w)
 have hu:=Try.underlying30
 go_enter Try.func58,Try.ntmps58
 go_wp2_with (first
  | ((with_reducible refine gate_dst (N:=2) rfl ?_);refine bxq 2 #[.string a,.string b] 30 B fun g2 w1 hb B F2 L2 E2=>?_;obtain ⟨c2_0,c2_1⟩:=cs2 F2;clear hb E2))
 all_goals go_ret
 all_goals (refine ⟨?_,B.out⟩;unfold insB;simp_all)

/-! The model of pairs. -/
def ltB (a b : ByteArray) : Bool:=Op.bytesLess a.toList b.toList
def okP (p : S61) : Bool:=keyB p.f0 && l1B p.f1 0 999
def aboveP (p : Option ByteArray) (c : ByteArray) : Bool:=match p with
  | none=>true
  | some q=>ltB q c
def prG : Option ByteArray→List S61→Bool
  | _,[]=>true
  | p,s :: r=>okP s && (aboveP p s.f0 && prG (some s.f0) r)
def prB (l : List S61) : Bool:=decide (l.length≤48) && prG none l
def prP (l : List S61) (j : Nat) : Option ByteArray:=if j=0 then none else some (l.getD (j - 1) z61).f0
theorem pr_nat {l : List S61} {j : Nat} (h : j < l.length) : rd_T61 l (j : Int)=l[j]:=by
  simp [rd_T61,List.getD_eq_getElem?_getD,List.getElem?_eq_getElem h]
theorem pr_drop {l : List S61} {j : Nat} (h : j < l.length) : l.drop j=rd_T61 l (j : Int) :: l.drop (j + 1):=by
  rw [pr_nat h,List.drop_eq_getElem_cons h]
theorem pr_prev (l : List S61) (j : Nat) : prP l (j + 1)=some (rd_T61 l (j : Int)).f0:=by
  unfold prP rd_T61
  rw [if_neg (by omega),Int.toNat_natCast,Nat.add_sub_cancel]
theorem prB_len {l : List S61} (h : prB l=true) : l.length≤48:=by
  unfold prB at h
  rw [Bool.and_eq_true,decide_eq_true_eq] at h
  exact h.1
def prJ (l : List S61) (j : Nat) : Bool:=prG (prP l j) (l.drop j)
theorem prJ_end {l : List S61} {j : Nat} (h : ¬ j < l.length) : prJ l j=true:=by
  unfold prJ
  rw [List.drop_of_length_le (by omega)]
  rfl
theorem prJ_step {l : List S61} {j : Nat} (h : j < l.length) :
    prJ l j=((keyB (rd_T61 l (j : Int)).f0 && (l1B (rd_T61 l (j : Int)).f1 0 999 && (if j=0 then true else ltB (rd_T61 l ((j - 1 : Nat) : Int)).f0 (rd_T61 l (j : Int)).f0))) && prJ l (j + 1)):=by
  unfold prJ
  rw [pr_drop h,pr_prev]
  simp only [prG]
  unfold okP
  by_cases hj : j=0
  · subst hj
    simp [prP,aboveP,Bool.and_assoc]
  · obtain ⟨i,rfl⟩ : ∃ i,j=i + 1:=⟨j - 1,by omega⟩
    rw [pr_prev,if_neg hj,Nat.add_sub_cancel]
    simp [aboveP,Bool.and_assoc]

/-! The model of states. -/
def tailB (lo hi : ByteArray) (t : Bool) (c : ByteArray) : Bool:=if c.toList=([] : List UInt8) then true else t && cutB lo hi c
def stB (lo hi : ByteArray) (ps : List S61) (ss : List S100) (t : Bool) (c : ByteArray) : Bool :=
  ivB lo hi && (prB ps && (sesB ss && ((ps.all fun p=>insB lo hi p.f0) && tailB lo hi t c)))
theorem pr_key {l : List S61} : ∀ p,prG p l=true→∀ x ∈ l,keyB x.f0=true:=by
  induction l with
  | nil=>intro p _ x hx;cases hx
  | cons s r ih =>
    intro p h x hx
    simp only [prG,Bool.and_eq_true] at h
    rcases List.mem_cons.mp hx with rfl | hx
    · have:=h.1
      unfold okP at this
      rw [Bool.and_eq_true] at this
      exact this.1
    · exact ih _ h.2.2 x hx
theorem prB_key {l : List S61} (h : prB l=true) : ∀ x ∈ l,keyB x.f0=true:=by
  unfold prB at h
  rw [Bool.and_eq_true] at h
  exact pr_key none h.2
theorem all_has {lo hi : ByteArray} {ps : List S61} (hv : ivB lo hi=true) (hp : prB ps=true) : (ps.all fun p=>hasB lo hi p.f0)=ps.all fun p=>insB lo hi p.f0:=by
  have hk:=prB_key hp
  clear hp
  induction ps with
  | nil=>rfl
  | cons x r ih =>
    simp only [List.all_cons]
    rw [ih fun y hy=>hk y (List.mem_cons_of_mem _ hy)]
    unfold hasB
    rw [hv,hk x (List.mem_cons_self ..)]
    rfl

/-! States. -/
structure SM where
  a : ByteArray
  b : ByteArray
  ps : List S61
  ss : List S100
  t : Bool
  c : ByteArray
def SM.zero : SM:=⟨⟨#[]⟩,⟨#[]⟩,[],[],false,⟨#[]⟩⟩
/-! The place of a key among pairs in order. -/
theorem less_trans : ∀ x y z : List UInt8,Op.bytesLess x y=true→Op.bytesLess y z=true→Op.bytesLess x z=true
  | [],[],_,h,_=>by cases h
  | [],_ :: _,[],_,h=>by cases h
  | [],_ :: _,_ :: _,_,_=>rfl
  | _ :: _,[],_,h,_=>by cases h
  | _ :: _,_ :: _,[],_,h=>by cases h
  | a :: x,b :: y,c :: z,h,k=>by
    simp only [Op.bytesLess,Bool.or_eq_true,Bool.and_eq_true,decide_eq_true_eq,beq_iff_eq] at h k ⊢
    rcases h with h | ⟨h1,h2⟩
    · rcases k with k | ⟨k1,k2⟩
      · exact .inl (UInt8.lt_trans h k)
      · subst k1;exact .inl h
    · subst h1
      rcases k with k | ⟨k1,k2⟩
      · exact .inl k
      · exact .inr ⟨k1,less_trans x y z h2 k2⟩
theorem ltB_trans {a b c : ByteArray} (h : ltB a b=true) (k : ltB b c=true) : ltB a c=true:=less_trans _ _ _ h k
theorem ltB_tri {a b : ByteArray} (h : ltB a b=false) (k : ltB b a=false) : a=b:=by
  have ht:=less_total a.toList b.toList
  unfold ltB at h k
  rw [h,k] at ht
  exact ba_inj (by simpa using ht)
theorem ltB_le {a b c : ByteArray} (h : ltB a b=false) (k : ltB a c=true) : ltB b c=true:=by
  cases hb : ltB b a with
  | true=>exact ltB_trans hb k
  | false=>rw [← ltB_tri h hb];exact k
theorem prG_all (l : List S61) : ∀ q : ByteArray,prG (some q) l=true→∀ x ∈ l,ltB q x.f0=true:=by
  induction l with
  | nil=>intro q _ x hx;cases hx
  | cons s r ih =>
    intro q h x hx
    simp only [prG,Bool.and_eq_true] at h
    have h1 : ltB q s.f0=true:=h.2.1
    rcases List.mem_cons.mp hx with rfl | hx
    · exact h1
    · exact ltB_trans h1 (ih s.f0 h.2.2 x hx)
theorem prG_order (l : List S61) : ∀ p : Option ByteArray,prG p l=true→l.Pairwise (fun a b=>ltB a.f0 b.f0=true):=by
  induction l with
  | nil=>intro p _;exact List.Pairwise.nil
  | cons s r ih =>
    intro p h
    simp only [prG,Bool.and_eq_true] at h
    exact List.Pairwise.cons (prG_all r s.f0 h.2.2) (ih _ h.2.2)
theorem prB_order {l : List S61} (h : prB l=true) : l.Pairwise (fun a b=>ltB a.f0 b.f0=true):=by
  unfold prB at h
  rw [Bool.and_eq_true] at h
  exact prG_order l none h.2
/-! Pairs in order,cut at a key. -/
/-! The model of the pairs of an interval. -/
/-! Pairs that are put and dropped stay valid. -/
theorem prG_of : ∀ (l : List S61) (p : Option ByteArray),(∀ x ∈ l,okP x=true)→l.Pairwise (fun a b=>ltB a.f0 b.f0=true)→(∀ q,p=some q→∀ x ∈ l,ltB q x.f0=true)→prG p l=true
  | [],_,_,_,_=>by simp [prG]
  | s :: r,p,h1,h2,h3=>by
    rw [List.pairwise_cons] at h2
    simp only [prG,Bool.and_eq_true]
    refine ⟨h1 s (List.mem_cons_self ..),?_,prG_of r (some s.f0) (fun x hx=>h1 x (List.mem_cons_of_mem _ hx)) h2.2 (fun q hq x hx=>by cases hq;exact h2.1 x hx)⟩
    cases p with
    | none=>rfl
    | some q=>exact h3 q rfl s (List.mem_cons_self ..)
theorem prG_ok : ∀ (l : List S61) (p : Option ByteArray),prG p l=true→∀ x ∈ l,okP x=true
  | [],_,_=>fun x hx=>by cases hx
  | s :: r,p,h=>fun x hx=>by
    simp only [prG,Bool.and_eq_true] at h
    rcases List.mem_cons.mp hx with rfl | hx
    · exact h.1
    · exact prG_ok r _ h.2.2 x hx
theorem prB_parts {l : List S61} (h : prB l=true) : l.length≤48∧(∀ x ∈ l,okP x=true)∧l.Pairwise (fun a b=>ltB a.f0 b.f0=true):=by
  have h':=h
  unfold prB at h'
  rw [Bool.and_eq_true] at h'
  exact ⟨prB_len h,prG_ok l none h'.2,prB_order h⟩
theorem prB_of {l : List S61} (h0 : l.length≤48) (h1 : ∀ x ∈ l,okP x=true) (h2 : l.Pairwise (fun a b=>ltB a.f0 b.f0=true)) : prB l=true:=by
  unfold prB
  rw [decide_eq_true h0,Bool.true_and]
  exact prG_of l none h1 h2 (fun q hq=>by cases hq)
/-! What is found among pairs. -/
/-! The models of finding,putting and joining sessions. -/
/-! What joined sessions hold. -/
/-! The models of cutting and joining states,and what the laws ask of them. -/
def ijB (a b c d : ByteArray) : Bool:=ivB a b && (ivB c d && (!decide (b.toList=([] : List UInt8)) && decide (b=c)))
theorem ins_lt {a c k : ByteArray} (hc : c.toList ≠ ([] : List UInt8)) (h : insB a c k=true) : Op.bytesLess k.toList c.toList=true:=by
  unfold insB at h
  rw [if_neg hc,Bool.and_eq_true] at h
  exact h.2
theorem ins_ge {c b k : ByteArray} (h : insB c b k=true) : Op.bytesLess k.toList c.toList=false:=by
  unfold insB at h
  rw [Bool.and_eq_true,Bool.not_eq_true'] at h
  exact h.1
theorem iv_less {a c : ByteArray} (h : ivB a c=true) (hc : c.toList ≠ ([] : List UInt8)) (k : List UInt8) (hk : Op.bytesLess k a.toList=true) : Op.bytesLess k c.toList=true:=by
  unfold ivB at h
  by_cases ha : a.toList=([] : List UInt8)
  · rw [ha] at hk
    cases k <;> cases hk
  · rw [if_neg ha,if_neg hc] at h
    simp only [Bool.and_eq_true] at h
    exact less_trans _ _ _ hk h.2.2
def ijM (a b c d : ByteArray) : ByteArray × ByteArray × Bool:=if ijB a b c d then (a,d,true) else (⟨#[]⟩,⟨#[]⟩,false)
theorem spec_IntervalJoin.M (a b c d : ByteArray) (w : World) : Calls Try.prog 84 #[.agg #[.string a,.string b],.agg #[.string c,.string d]] w fun e w'=>e=.returned (.tuple #[.agg #[.string (ijM a b c d).1,.string (ijM a b c d).2.1],.bool (ijM a b c d).2.2])∧Below w.heap.size w w':=by
 have B:=Aside0.mk (Below.refl w.heap.size w)
 have hu:=Try.underlying30
 obtain ⟨r,hr⟩ : ∃ r,ijM a b c d=r:=⟨_,rfl⟩
 rw [hr]
 have hbc : (b.toList=c.toList)=(b=c):=propext ⟨ba_inj,fun h=>by rw [h]⟩
 go_enter Try.func84,Try.ntmps84
 go_wp2_with (first
  | ((with_reducible refine gate_dst (N:=2) rfl ?_);refine bxq 2 #[.string a,.string b] 30 B fun g2 w1 hb B F2 L2 E2=>?_;obtain ⟨c2_0,c2_1⟩:=cs2 F2;clear hb E2)
  | ((with_reducible refine gate_dst (N:=3) rfl ?_);refine bxq 3 #[.string c,.string d] 30 B fun g3 w2 hb B F3 L3 E3=>?_;replace F2:=bn F2 hb;clear c2_0 c2_1;obtain ⟨c2_0,c2_1⟩:=cs2 F2;obtain ⟨c3_0,c3_1⟩:=cs2 F3;clear hb E3)
  | ((with_reducible refine gate_dst (N:=4) rfl ?_);refine bxq 4 #[.string (⟨#[]⟩ : ByteArray),.string (⟨#[]⟩ : ByteArray)] 30 B fun g4 w3 hb B F4 L4 E4=>?_;replace F2:=bn F2 hb;replace F3:=bn F3 hb;clear c2_0 c2_1;obtain ⟨c2_0,c2_1⟩:=cs2 F2;clear c3_0 c3_1;obtain ⟨c3_0,c3_1⟩:=cs2 F3;clear hb E4)
  | (go_at_call 47;with_reducible refine cl (spec_IntervalValid.M a b _) B fun w4 hb B=>?_;replace F2:=bn F2 hb;replace F3:=bn F3 hb;replace F4:=bn F4 hb;clear c2_0 c2_1;obtain ⟨c2_0,c2_1⟩:=cs2 F2;clear c3_0 c3_1;obtain ⟨c3_0,c3_1⟩:=cs2 F3;clear hb)
  | (go_at_call 47;with_reducible refine cl (spec_IntervalValid.M c d _) B fun w5 hb B=>?_;replace F2:=bn F2 hb;replace F3:=bn F3 hb;replace F4:=bn F4 hb;clear c2_0 c2_1;obtain ⟨c2_0,c2_1⟩:=cs2 F2;clear c3_0 c3_1;obtain ⟨c3_0,c3_1⟩:=cs2 F3;clear hb)
  | ((with_reducible refine gate_store (t:=30) (p:=4) rfl ?_);obtain ⟨y0,y1,z0,z1⟩:=cz2 F4;refine sxq 30 30 4 0 [.string (⟨#[]⟩ : ByteArray),.string (⟨#[]⟩ : ByteArray)] [.string (⟨#[]⟩ : ByteArray),.string (⟨#[]⟩ : ByteArray)] B F4 L4 fun w6 hk B G=>?_;replace F4:=G;clear hk y0 z0 y1 z1)
  | ((with_reducible refine gate_store (t:=30) (p:=4) rfl ?_);obtain ⟨y0,y1,z0,z1⟩:=cz2 F4;refine sxq 30 30 4 0 [.string a,.string d] [.string a,.string d] B F4 L4 fun w101 hk B G=>?_;replace F4:=G;clear hk y0 z0 y1 z1))
 all_goals first
  | (refine useEq (a:=r) (b:=(a,d,true)) ?_ (fun hM=>?_);(rw [← hr];unfold ijM ijB;simp_all);subst hM;refine bodyPost_ret (results_list (rs:=[.cell 4 30,.tmp 5]) rfl (by simp) (.cell g4 30 _ (0,0) _ rfl F4.out hu rfl (by kernel_rfl) (.tmp .nil))) rfl ?_;exact ⟨rfl,B.out⟩)
  | (refine useEq (a:=r) (b:=((⟨#[]⟩ : ByteArray),(⟨#[]⟩ : ByteArray),false)) ?_ (fun hM=>?_);(rw [← hr];unfold ijM ijB;simp_all);subst hM;refine bodyPost_ret (results_list (rs:=[.cell 4 30,.tmp 5]) rfl (by simp) (.cell g4 30 _ (0,0) _ rfl F4.out hu rfl (by kernel_rfl) (.tmp .nil))) rfl ?_;exact ⟨rfl,B.out⟩)
theorem impl_IntervalJoin.M (a b c d : ByteArray) (w : World) : Calls Try.prog 81 #[.agg #[.string a,.string b],.agg #[.string c,.string d]] w fun e w'=>e=.returned (.tuple #[.agg #[.string (ijM a b c d).1,.string (ijM a b c d).2.1],.bool (ijM a b c d).2.2])∧Below w.heap.size w w':=by
 have B:=Aside0.mk (Below.refl w.heap.size w)
 have hu:=Try.underlying30
 obtain ⟨r,hr⟩ : ∃ r,ijM a b c d=r:=⟨_,rfl⟩
 rw [hr]
 have hbc : (b.toList=c.toList)=(b=c):=propext ⟨ba_inj,fun h=>by rw [h]⟩
 go_enter Try.func81,Try.ntmps81
 go_wp2_with (first
  | ((with_reducible refine gate_dst (N:=2) rfl ?_);refine bxq 2 #[.string a,.string b] 30 B fun g2 w1 hb B F2 L2 E2=>?_;obtain ⟨c2_0,c2_1⟩:=cs2 F2;clear hb E2)
  | ((with_reducible refine gate_dst (N:=3) rfl ?_);refine bxq 3 #[.string c,.string d] 30 B fun g3 w2 hb B F3 L3 E3=>?_;replace F2:=bn F2 hb;clear c2_0 c2_1;obtain ⟨c2_0,c2_1⟩:=cs2 F2;obtain ⟨c3_0,c3_1⟩:=cs2 F3;clear hb E3)
  | ((with_reducible refine gate_dst (N:=4) rfl ?_);refine bxq 4 #[.string (⟨#[]⟩ : ByteArray),.string (⟨#[]⟩ : ByteArray)] 30 B fun g4 w3 hb B F4 L4 E4=>?_;replace F2:=bn F2 hb;replace F3:=bn F3 hb;clear c2_0 c2_1;obtain ⟨c2_0,c2_1⟩:=cs2 F2;clear c3_0 c3_1;obtain ⟨c3_0,c3_1⟩:=cs2 F3;clear hb E4)
  | (go_at_call 55;with_reducible refine cl (impl_IntervalValid.M a b _) B fun w4 hb B=>?_;replace F2:=bn F2 hb;replace F3:=bn F3 hb;replace F4:=bn F4 hb;clear c2_0 c2_1;obtain ⟨c2_0,c2_1⟩:=cs2 F2;clear c3_0 c3_1;obtain ⟨c3_0,c3_1⟩:=cs2 F3;clear hb)
  | (go_at_call 55;with_reducible refine cl (impl_IntervalValid.M c d _) B fun w5 hb B=>?_;replace F2:=bn F2 hb;replace F3:=bn F3 hb;replace F4:=bn F4 hb;clear c2_0 c2_1;obtain ⟨c2_0,c2_1⟩:=cs2 F2;clear c3_0 c3_1;obtain ⟨c3_0,c3_1⟩:=cs2 F3;clear hb)
  | ((with_reducible refine gate_store (t:=30) (p:=4) rfl ?_);obtain ⟨y0,y1,z0,z1⟩:=cz2 F4;refine sxq 30 30 4 0 [.string (⟨#[]⟩ : ByteArray),.string (⟨#[]⟩ : ByteArray)] [.string (⟨#[]⟩ : ByteArray),.string (⟨#[]⟩ : ByteArray)] B F4 L4 fun w6 hk B G=>?_;replace F4:=G;clear hk y0 z0 y1 z1)
  | ((with_reducible refine gate_store (t:=30) (p:=4) rfl ?_);obtain ⟨y0,y1,z0,z1⟩:=cz2 F4;refine sxq 30 30 4 0 [.string a,.string d] [.string a,.string d] B F4 L4 fun w101 hk B G=>?_;replace F4:=G;clear hk y0 z0 y1 z1))
 all_goals first
  | (refine useEq (a:=r) (b:=(a,d,true)) ?_ (fun hM=>?_);(rw [← hr];unfold ijM ijB;simp_all);subst hM;refine bodyPost_ret (results_list (rs:=[.cell 4 30,.tmp 5]) rfl (by simp) (.cell g4 30 _ (0,0) _ rfl F4.out hu rfl (by kernel_rfl) (.tmp .nil))) rfl ?_;exact ⟨rfl,B.out⟩)
  | (refine useEq (a:=r) (b:=((⟨#[]⟩ : ByteArray),(⟨#[]⟩ : ByteArray),false)) ?_ (fun hM=>?_);(rw [← hr];unfold ijM ijB;simp_all);subst hM;refine bodyPost_ret (results_list (rs:=[.cell 4 30,.tmp 5]) rfl (by simp) (.cell g4 30 _ (0,0) _ rfl F4.out hu rfl (by kernel_rfl) (.tmp .nil))) rfl ?_;exact ⟨rfl,B.out⟩)

/-! The model of partitions. -/
def linkB : List S30→Bool
  | x :: y :: r=>ijB x.f0 x.f1 y.f0 y.f1 && linkB (y :: r)
  | _=>true
def partB (l : List S30) : Bool:=decide (1≤l.length∧l.length≤6) && (ivB (rd_T30 l 0).f0 (rd_T30 l 0).f1 && (decide ((rd_T30 l 0).f0.toList=([] : List UInt8)) && (decide ((rd_T30 l ((l.length : Int) - 1)).f1.toList=([] : List UInt8)) && linkB l)))
theorem ijM_ok (a b c d : ByteArray) : (ijM a b c d).2.2=ijB a b c d:=by
  unfold ijM
  cases ijB a b c d <;> rfl
theorem iv_nat {l : List S30} {j : Nat} (h : j < l.length) : rd_T30 l (j : Int)=l[j]:=by
  simp [rd_T30,List.getD_eq_getElem?_getD,List.getElem?_eq_getElem h]
theorem link_step {l : List S30} {i : Nat} (h : i + 1 < l.length) {x y : S30} (hx : rd_T30 l (i : Int)=x) (hy : rd_T30 l ((i + 1 : Nat) : Int)=y) : linkB (l.drop i)=(ijB x.f0 x.f1 y.f0 y.f1 && linkB (l.drop (i + 1))):=by
  rw [iv_nat (by omega)] at hx
  rw [iv_nat h] at hy
  rw [List.drop_eq_getElem_cons (show i < l.length by omega),List.drop_eq_getElem_cons h,hx,hy]
  rfl
theorem link_end {l : List S30} {i : Nat} (h : l.length≤i + 1) : linkB (l.drop i)=true:=by
  have hl : (l.drop i).length≤1:=by rw [List.length_drop];omega
  rcases hd : l.drop i with _ | ⟨x,_ | ⟨y,r⟩⟩
  · rfl
  · rfl
  · rw [hd] at hl
    simp only [List.length_cons] at hl
    omega
def IvE (w : World) (p : Addr) (y : S30) : Prop:=w.cell? p=some (.string y.f0)∧w.cell? ⟨p.block,p.off + 1,none⟩=some (.string y.f1)
theorem IvE.q {w W : World} {p : Addr} {y : S30} (h : Aside0 (IvE w p y)) (B : Aside0 (Below w.heap.size w W)) : W.cell? p=some (.string y.f0)∧W.cell? ⟨p.block,p.off + 1,none⟩=some (.string y.f1):=by
  obtain ⟨h0,h1⟩:=h.out
  exact ⟨(B.out.cell (World.block_lt_of_cell? w _ h0)).trans h0,(B.out.cell (World.block_lt_of_cell? w _ h1)).trans h1⟩
theorem IvE_of {w : World} {A : Option Addr} {l : List S30} (h : Kd.C k30 w A l.length l) {j : Nat} (hj : j < l.length) : ∃ ad,A=some ad∧IvE w (ad.add (j * 2)) (rd_T30 l (j : Int)):=by
  obtain ⟨ad,hA,x0,x1⟩:=at_T30 h (j : Int) (by omega) (by omega)
  rw [Int.toNat_natCast] at x0 x1
  exact ⟨ad,hA,x0,x1⟩
theorem addr0 (ad : Addr) : ad.add 0=ad:=by rw [Addr.add,if_pos rfl]
theorem IvE_0 {w : World} {ad : Addr} {y : S30} (h : IvE w (ad.add (0 * 2)) y) : IvE w ad y:=by
  rw [show 0 * 2=0 from rfl,addr0] at h
  exact h

/-! The model of uniting states. -/
def stS (x : S34) : Bool:=stB x.f0.f0 x.f0.f1 x.f1 x.f2 x.f3 x.f4
def spansOf (l : List S34) : List S30:=l.map fun x=>x.f0
def pairsOf (l : List S34) : List S61:=l.flatMap fun x=>x.f1
def uniB (l : List S34) : Bool:=decide (l.length≤6) && (l.all stS && (partB (spansOf l) && prB (pairsOf l)))
def unM (l : List S34) : List S61 × Bool:=if uniB l then (pairsOf l,true) else ([],false)
theorem stS_len {x : S34} (h : stB x.f0.f0 x.f0.f1 x.f1 x.f2 x.f3 x.f4=true) : x.f1.length≤48:=by
  unfold stB at h
  simp only [Bool.and_eq_true] at h
  exact prB_len h.2.1
theorem st_drop {l : List S34} {j : Nat} (h : j < l.length) : l.drop j=rd_T34 l (j : Int) :: l.drop (j + 1):=by
  rw [rdst_nat h,List.drop_eq_getElem_cons h]
theorem pairs_cons (x : S34) (l : List S34) : pairsOf (x :: l)=x.f1 ++ pairsOf l:=rfl
def spec_PairsValid.T6 : Bool × List (List Nat × List Nat):=(true,[([],[]),([],[]),([0,1],[0,1]),([2],[2]),([3],[3]),([4],[4]),([5],[5]),([6,5],[6]),([7],[7]),([7],[7]),([8,9,7],[7,8,9]),([10,7],[7,10]),([11,7],[7,11]),([12,7,7],[7,12]),([13,7],[7,13]),([7,14],[7,14]),([15,13],[15]),([16],[16]),([17,16],[16,17]),([18,16,16],[16,18]),([19],[19]),([19],[19]),([20,21,19],[19,20,21]),([22,19],[19,22]),([23,19],[19,23]),([19],[19]),([19],[19]),([26,19],[19,26]),([25,27,19],[19,25,27]),([28,19],[19,28]),([29,19],[19,29]),([24,30,19],[19,24,30]),([19,31,16],[16,19,31]),([16,32],[16,32])])
def spec_PairsValid.B6 : List Nat:=[0,0,3,7,15,31,63,127,255,255,1023,2047,4095,8191,16383,32767,65535,131071,262143,524287,1048575,1048575,4194303,8388607,16777215,1048575,1048575,68157439,235929599,504365055,1041235967,2147483647,4294967295,8589934591]
theorem spec_PairsValid.tab6 : rtab .any (opsOf Try.f48 6)=spec_PairsValid.T6:=by kernel_rfl
theorem spec_PairsValid.bits6 : waitsOk spec_PairsValid.T6.2 spec_PairsValid.B6=true:=by kernel_rfl
theorem spec_PairsValid.M (A0 : Option Addr) (c0 : Nat) (l : List S61) (w : World) (hr0 : Kd.C k61 w A0 l.length l) : Calls Try.prog 48 #[.slice A0 l.length c0] w fun e w'=>e=.returned (.bool (prB l))∧Below w.heap.size w w':=by
 have hu:=Try.underlying61
 have B:=Aside0.mk (Below.refl w.heap.size w)
 have HR0:=Aside0.mk hr0
 clear hr0
 obtain ⟨r,hr⟩ : ∃ r,prB l=r:=⟨_,rfl⟩
 rw [hr]
 unfold prB at hr
 by_cases hl : l.length≤48
 ·have H:=Aside0.mk (show prJ l 0=r by unfold prJ prP;simpa [hl] using hr)
  have cl0 : decide (48 < (l.length : Int))=false:=decide_eq_false (by omega)
  have L48:=Aside0.mk (show l.length≤4611686018427387904 by omega)
  clear hl hr
  go_enter Try.func48,Try.ntmps48
  go_wp2
  go_loopg [3] (l.length + 1) (fun kx v3 wr=>∃ j : Nat,v3=.int .i64 (j : Int)∧j≤l.length∧l.length < j + kx∧Aside0 (Below w.heap.size w wr)∧Aside0 (prJ l j=r))
  case atStart=>exact ⟨0,rfl,by omega,by omega,B,H⟩
  case round =>
   clear H B
   obtain ⟨j,rfl,hj,hk,B,H⟩:=hrel
   by_cases hlt : j < l.length
   ·have HS:=Aside0.mk ((prJ_step hlt).symm.trans H.out)
    clear H
    obtain ⟨d,rfl⟩ : ∃ d,gk=d + 1:=⟨gk - 1,by omega⟩
    have h48:=L48.out
    have cj : decide ((j : Int) < (l.length : Int))=true:=decide_eq_true (by omega)
    obtain ⟨ad,hA,y0,y1⟩:=at_T61 (cb HR0 B) (j : Int) (by omega) (by omega)
    cases hA
    rw [Int.toNat_natCast] at y0 y1
    have j1:=eq_true (show (j : Int) < (l.length : Int) by omega)
    have j2:=eq_true hlt
    generalize hy : rd_T61 l (j : Int)=y at *
    try go_wp2
    all_goals try (go_ret;exact ⟨andF HS.out (by grind [l1B,ltB]),B.out⟩)
    all_goals (
     refine rg (n:=34) (S:=fun W=>Kd.C k61 W (some ad) l.length l) (ds:=[]) #[false,false,false,false,false,false,false,false,false,false,false,false,false,false,false,false,false,false,false,false,false,false,false,false,false,false,false,false,false,false,false,false,false,false] (by kernel_rfl) rfl rfl (cb HR0 B) id B (fun w1 hb B hHeld=>?_)
     refine with_tabW spec_PairsValid.tab6 spec_PairsValid.bits6 (fun HT_ HW_=>?_)
     clear hb
     refine pvq 0 (some 13) (bits 34 1) HT_ ?_
     refine pvq 1 (some 14) (bits 34 3) HT_ ?_
     refine pvq 2 (some 15) (bits 34 7) HT_ ?_
     refine pvq 3 (some 16) (bits 34 15) HT_ ?_
     refine tvq 4 (some 17) (bits 34 31) HT_ HW_ rfl hHeld (by intro w' hS;have s0:=hS;obtain ⟨_,hA,q0,q1⟩:=at_T61 s0 (j : Int) (by omega) (by omega);cases hA;rw [Int.toNat_natCast] at q0 q1;rw [hy] at q0 q1;go_simp;with_reducible rfl) ?_
     refine nmq ?_
     refine one_ (i:=5) (N:=some 18) (bits 34 63) rfl rfl (one_of HT_.out (by kernel_rfl)) (by decide) (fun K hK=>?_)
     rcases hq1 : (keyB y.f0) with _ | _
     ·refine gsq Try.func89 #[.string y.f0] ?_
      with_reducible refine cl (clv (spec_KeyValid.M y.f0 _) (congrArg Value.bool hq1)) B fun w2 hb B=>?_
      clear hb
      refine ⟨_,rfl,?_⟩
      refine hK.out _ _ (cb HR0 B) (fun hHeld=>?_)
      clear hK K
      refine npq (some 18) ?_
      refine pvq 6 (some 19) (bits 34 127) HT_ ?_
      refine pvq 7 (some 20) (bits 34 255) HT_ ?_
      refine svq 8 (some 21) (bits 34 511) HT_ ?_
      refine svq 9 (some 22) (bits 34 1023) HT_ ?_
      refine svq 10 (some 23) (bits 34 2047) HT_ ?_
      refine svq 11 (some 24) (bits 34 4095) HT_ ?_
      refine svq 12 (some 25) (bits 34 8191) HT_ ?_
      refine svq 13 (some 26) (bits 34 16383) HT_ ?_
      refine svq 14 (some 27) (bits 34 32767) HT_ ?_
      refine pvq 15 (some 28) (bits 34 65535) HT_ ?_
      refine pvq 16 (some 29) (bits 34 131071) HT_ ?_
      refine svq 17 (some 30) (bits 34 262143) HT_ ?_
      refine svq 18 (some 31) (bits 34 524287) HT_ ?_
      refine svq 19 (some 32) (bits 34 1048575) HT_ ?_
      refine svq 20 (some 33) (bits 34 2097151) HT_ ?_
      refine svq 21 (some 34) (bits 34 4194303) HT_ ?_
      refine svq 22 (some 35) (bits 34 8388607) HT_ ?_
      refine svq 23 (some 36) (bits 34 16777215) HT_ ?_
      refine svq 24 (some 37) (bits 34 33554431) HT_ ?_
      refine svq 25 (some 38) (bits 34 67108863) HT_ ?_
      refine svq 26 (some 39) (bits 34 134217727) HT_ ?_
      refine svq 27 (some 40) (bits 34 268435455) HT_ ?_
      refine svq 28 (some 41) (bits 34 536870911) HT_ ?_
      refine svq 29 (some 42) (bits 34 1073741823) HT_ ?_
      refine svq 30 (some 43) (bits 34 2147483647) HT_ ?_
      refine svq 31 (some 44) (bits 34 4294967295) HT_ ?_
      refine svq 32 (some 45) (bits 34 8589934591) HT_ ?_
      refine pvq 33 (some 46) (bits 34 17179869183) HT_ ?_
      refine nmq ?_
      refine done_ (done_of HT_.out (by kernel_rfl)) ?_
      try go_wp2
      all_goals first
       | (go_roundg d;(case measure=>omega);(case rel=>exact ⟨j + 1,congrArg (Value.int .i64) (Int.natCast_succ _).symm,by omega,by omega,B,⟨andT HS.out (by grind [l1B,ltB])⟩⟩))
       | (go_ret;exact ⟨andF HS.out (by grind [l1B,ltB]),B.out⟩)
     ·refine gsq Try.func89 #[.string y.f0] ?_
      with_reducible refine cl (clv (spec_KeyValid.M y.f0 _) (congrArg Value.bool hq1)) B fun w2 hb B=>?_
      clear hb
      refine ⟨_,rfl,?_⟩
      refine hK.out _ _ (cb HR0 B) (fun hHeld=>?_)
      clear hK K
      refine npq (some 18) ?_
      refine pvq 6 (some 19) (bits 34 127) HT_ ?_
      refine pvq 7 (some 20) (bits 34 255) HT_ ?_
      refine pvq 8 (some 21) (bits 34 511) HT_ ?_
      refine pvq 9 (some 22) (bits 34 1023) HT_ ?_
      refine pvq 10 (some 23) (bits 34 2047) HT_ ?_
      refine pvq 11 (some 24) (bits 34 4095) HT_ ?_
      refine tvq 12 (some 25) (bits 34 8191) HT_ HW_ rfl hHeld (by intro w' hS;have s0:=hS;obtain ⟨_,hA,q0,q1⟩:=at_T61 s0 (j : Int) (by omega) (by omega);cases hA;rw [Int.toNat_natCast] at q0 q1;rw [hy] at q0 q1;go_simp;with_reducible rfl) ?_
      refine nmq ?_
      refine one_ (i:=13) (N:=some 26) (bits 34 16383) rfl rfl (one_of HT_.out (by kernel_rfl)) (by decide) (fun K hK=>?_)
      rcases hq2 : (l1B y.f1 0 999) with _ | _
      ·refine gsq Try.func90 #[.int .i64 (y.f1),.int .i64 (0),.int .i64 (999)] ?_
       with_reducible refine cl (clv (spec_l1In.M y.f1 0 999 _) (congrArg Value.bool hq2)) B fun w3 hb B=>?_
       clear hb
       refine ⟨_,rfl,?_⟩
       refine hK.out _ _ (cb HR0 B) (fun hHeld=>?_)
       clear hK K
       refine npq (some 26) ?_
       refine pvq 14 (some 27) (bits 34 32767) HT_ ?_
       refine pvq 15 (some 28) (bits 34 65535) HT_ ?_
       refine pvq 16 (some 29) (bits 34 131071) HT_ ?_
       refine svq 17 (some 30) (bits 34 262143) HT_ ?_
       refine svq 18 (some 31) (bits 34 524287) HT_ ?_
       refine svq 19 (some 32) (bits 34 1048575) HT_ ?_
       refine svq 20 (some 33) (bits 34 2097151) HT_ ?_
       refine svq 21 (some 34) (bits 34 4194303) HT_ ?_
       refine svq 22 (some 35) (bits 34 8388607) HT_ ?_
       refine svq 23 (some 36) (bits 34 16777215) HT_ ?_
       refine svq 24 (some 37) (bits 34 33554431) HT_ ?_
       refine svq 25 (some 38) (bits 34 67108863) HT_ ?_
       refine svq 26 (some 39) (bits 34 134217727) HT_ ?_
       refine svq 27 (some 40) (bits 34 268435455) HT_ ?_
       refine svq 28 (some 41) (bits 34 536870911) HT_ ?_
       refine svq 29 (some 42) (bits 34 1073741823) HT_ ?_
       refine svq 30 (some 43) (bits 34 2147483647) HT_ ?_
       refine svq 31 (some 44) (bits 34 4294967295) HT_ ?_
       refine svq 32 (some 45) (bits 34 8589934591) HT_ ?_
       refine pvq 33 (some 46) (bits 34 17179869183) HT_ ?_
       refine nmq ?_
       refine done_ (done_of HT_.out (by kernel_rfl)) ?_
       try go_wp2
       all_goals first
        | (go_roundg d;(case measure=>omega);(case rel=>exact ⟨j + 1,congrArg (Value.int .i64) (Int.natCast_succ _).symm,by omega,by omega,B,⟨andT HS.out (by grind [l1B,ltB])⟩⟩))
        | (go_ret;exact ⟨andF HS.out (by grind [l1B,ltB]),B.out⟩)
      ·refine gsq Try.func90 #[.int .i64 (y.f1),.int .i64 (0),.int .i64 (999)] ?_
       with_reducible refine cl (clv (spec_l1In.M y.f1 0 999 _) (congrArg Value.bool hq2)) B fun w3 hb B=>?_
       clear hb
       refine ⟨_,rfl,?_⟩
       refine hK.out _ _ (cb HR0 B) (fun hHeld=>?_)
       clear hK K
       refine npq (some 26) ?_
       refine pvq 14 (some 27) (bits 34 32767) HT_ ?_
       refine pvq 15 (some 28) (bits 34 65535) HT_ ?_
       refine pvq 16 (some 29) (bits 34 131071) HT_ ?_
       refine pvq 17 (some 30) (bits 34 262143) HT_ ?_
       by_cases hz : j=0
       ·rw [if_pos hz] at HS
        have dz : decide (0 < (j : Int))=false:=decide_eq_false (by omega)
        have dz2 : decide (0 < j)=false:=decide_eq_false (by omega)
        clear hz
        refine pvq 18 (some 31) (bits 34 524287) HT_ ?_
        refine pvq 19 (some 32) (bits 34 1048575) HT_ ?_
        refine svq 20 (some 33) (bits 34 2097151) HT_ ?_
        refine svq 21 (some 34) (bits 34 4194303) HT_ ?_
        refine svq 22 (some 35) (bits 34 8388607) HT_ ?_
        refine svq 23 (some 36) (bits 34 16777215) HT_ ?_
        refine svq 24 (some 37) (bits 34 33554431) HT_ ?_
        refine svq 25 (some 38) (bits 34 67108863) HT_ ?_
        refine svq 26 (some 39) (bits 34 134217727) HT_ ?_
        refine svq 27 (some 40) (bits 34 268435455) HT_ ?_
        refine svq 28 (some 41) (bits 34 536870911) HT_ ?_
        refine svq 29 (some 42) (bits 34 1073741823) HT_ ?_
        refine svq 30 (some 43) (bits 34 2147483647) HT_ ?_
        refine svq 31 (some 44) (bits 34 4294967295) HT_ ?_
        refine pvq 32 (some 45) (bits 34 8589934591) HT_ ?_
        refine pvq 33 (some 46) (bits 34 17179869183) HT_ ?_
        refine nmq ?_
        refine done_ (done_of HT_.out (by kernel_rfl)) ?_
        try go_wp2
        all_goals first
         | (go_roundg d;(case measure=>omega);(case rel=>exact ⟨j + 1,congrArg (Value.int .i64) (Int.natCast_succ _).symm,by omega,by omega,B,⟨andT HS.out (by grind [l1B,ltB])⟩⟩))
         | (go_ret;exact ⟨andF HS.out (by grind [l1B,ltB]),B.out⟩)
       ·rw [if_neg hz] at HS
        have dz : decide (0 < (j : Int))=true:=decide_eq_true (by omega)
        have dz2 : decide (0 < j)=true:=decide_eq_true (by omega)
        obtain ⟨i,hi⟩ : ∃ i,j - 1=i:=⟨_,rfl⟩
        rw [hi] at HS
        have WI:=Aside0.mk (show (j : Int) - 1=(i : Int) by omega)
        have hij : i < l.length:=by omega
        have IW:=Aside0.mk (show wrap64 (i : Int)=(i : Int) by unfold wrap64;omega)
        have i1:=eq_true (show (i : Int) < (l.length : Int) by omega)
        have i2:=eq_true hij
        generalize hx : rd_T61 l (i : Int)=x at HS
        clear hz hi
        refine pvq 18 (some 31) (bits 34 524287) HT_ ?_
        refine pvq 19 (some 32) (bits 34 1048575) HT_ ?_
        refine pvq 20 (some 33) (bits 34 2097151) HT_ ?_
        refine pvq 21 (some 34) (bits 34 4194303) HT_ ?_
        refine pvq 22 (some 35) (bits 34 8388607) HT_ ?_
        refine pvq 23 (some 36) (bits 34 16777215) HT_ ?_
        refine tvq 24 (some 37) (bits 34 33554431) HT_ HW_ rfl hHeld (by intro w' hS;have s0:=hS;obtain ⟨_,hA,q0,q1⟩:=at_T61 s0 (j : Int) (by omega) (by omega);cases hA;rw [Int.toNat_natCast] at q0 q1;rw [hy] at q0 q1;go_simp;with_reducible rfl) ?_
        refine pvq 25 (some 38) (bits 34 67108863) HT_ ?_
        refine pvq 26 (some 39) (bits 34 134217727) HT_ ?_
        refine pu (i:=27) (N:=some 40) (v:=.int .i64 ((i : Int))) (bits 34 268435455) rfl rfl (any_of HT_.out (by kernel_rfl)) (fun _ _ _ h=>h) (by kernel_rfl) ?_ ?_;(intro w';go_simp;rw [WI.out];exact (i64_w _).trans IW.out)
        refine pvq 28 (some 41) (bits 34 536870911) HT_ ?_
        refine pvq 29 (some 42) (bits 34 1073741823) HT_ ?_
        refine tvq 30 (some 43) (bits 34 2147483647) HT_ HW_ rfl hHeld (by intro w' hS;have s0:=hS;obtain ⟨_,hA,q0,q1⟩:=at_T61 s0 (i : Int) (by omega) (by omega);cases hA;rw [Int.toNat_natCast] at q0 q1;rw [hx] at q0 q1;go_simp;with_reducible rfl) ?_
        refine pvq 31 (some 44) (bits 34 4294967295) HT_ ?_
        refine pvq 32 (some 45) (bits 34 8589934591) HT_ ?_
        refine pvq 33 (some 46) (bits 34 17179869183) HT_ ?_
        refine nmq ?_
        refine done_ (done_of HT_.out (by kernel_rfl)) ?_
        try go_wp2
        all_goals first
         | (go_roundg d;(case measure=>omega);(case rel=>exact ⟨j + 1,congrArg (Value.int .i64) (Int.natCast_succ _).symm,by omega,by omega,B,⟨andT HS.out (by grind [l1B,ltB])⟩⟩))
         | (go_ret;exact ⟨andF HS.out (by grind [l1B,ltB]),B.out⟩))
    all_goals try go_wp2
    all_goals try (go_ret;exact ⟨andF HS.out (by grind [l1B,ltB]),B.out⟩)
   ·have cj : decide ((j : Int) < (l.length : Int))=false:=decide_eq_false (by omega)
    have hr : r=true:=by rw [← H.out];exact prJ_end hlt
    subst hr
    go_wp2
    go_ret
    exact ⟨rfl,B.out⟩
 ·have cl0 : decide (48 < (l.length : Int))=true:=decide_eq_true (by omega)
  have hr : r=false:=by rw [← hr,decide_eq_false hl];rfl
  subst hr
  go_enter Try.func48,Try.ntmps48
  go_wp2
  go_ret
  exact ⟨rfl,B.out⟩

def spec_SessionsValid.T5 : Bool × List (List Nat × List Nat):=(true,[([],[]),([0],[0]),([1],[1]),([2],[2]),([3,2],[3]),([4],[4]),([5,4],[4,5]),([6,4,4],[4,6]),([7,4],[4,7]),([4,8],[4,8]),([9,7],[9]),([10],[10]),([11,10],[10,11]),([12,10,10],[10,12]),([13,10],[10,13]),([10,14],[10,14]),([15,13],[15]),([16],[16]),([17,16],[16,17]),([18,16,16],[16,18]),([19],[19]),([20,19],[19,20]),([19],[19]),([19],[19]),([23,19],[19,23]),([22,24,19],[19,22,24]),([25,19],[19,25]),([26,19],[19,26]),([21,27,19],[19,21,27]),([19,28,16],[16,19,28]),([16,29],[16,29])])
def spec_SessionsValid.B5 : List Nat:=[0,1,3,7,15,31,63,127,255,511,1023,2047,4095,8191,16383,32767,65535,131071,262143,524287,1048575,2097151,1048575,1048575,9437183,30408703,63963135,131071999,268435455,536870911,1073741823]
theorem spec_SessionsValid.tab5 : rtab .any (opsOf Try.f49 5)=spec_SessionsValid.T5:=by kernel_rfl
theorem spec_SessionsValid.bits5 : waitsOk spec_SessionsValid.T5.2 spec_SessionsValid.B5=true:=by kernel_rfl
theorem spec_SessionsValid.M (A0 : Option Addr) (c0 : Nat) (l : List S100) (w : World) (hr0 : Kd.C k100 w A0 l.length l) : Calls Try.prog 49 #[.slice A0 l.length c0] w fun e w'=>e=.returned (.bool (sesB l))∧Below w.heap.size w w':=by
 have hu:=Try.underlying100
 have B:=Aside0.mk (Below.refl w.heap.size w)
 have HR0:=Aside0.mk hr0
 clear hr0
 obtain ⟨r,hr⟩ : ∃ r,sesB l=r:=⟨_,rfl⟩
 rw [hr]
 unfold sesB at hr
 have H:=Aside0.mk (show sesJ l 0=r from hr)
 have L48:=Aside0.mk (show l.length≤9223372036854775807 from HR0.out.2.1)
 clear hr
 go_enter Try.func49,Try.ntmps49
 go_wp2
 go_loopg [3] (l.length + 1) (fun kx v3 wr=>∃ j : Nat,v3=.int .i64 (j : Int)∧j≤l.length∧l.length < j + kx∧Aside0 (Below w.heap.size w wr)∧Aside0 (sesJ l j=r))
 case atStart=>exact ⟨0,rfl,by omega,by omega,B,H⟩
 case round =>
  clear H B
  obtain ⟨j,rfl,hj,hk,B,H⟩:=hrel
  by_cases hlt : j < l.length
  ·have HS:=Aside0.mk ((sesJ_step hlt).symm.trans H.out)
   clear H
   obtain ⟨d,rfl⟩ : ∃ d,gk=d + 1:=⟨gk - 1,by omega⟩
   have h48:=L48.out
   have cj : decide ((j : Int) < (l.length : Int))=true:=decide_eq_true (by omega)
   obtain ⟨ad,hA,y0,y1,y2⟩:=at_T100 (cb HR0 B) (j : Int) (by omega) (by omega)
   cases hA
   rw [Int.toNat_natCast] at y0 y1 y2
   have j1:=eq_true (show (j : Int) < (l.length : Int) by omega)
   have j2:=eq_true hlt
   generalize hy : rd_T100 l (j : Int)=y at *
   go_wp2_with (first
    | ((with_reducible refine gate_dst (N:=4) rfl ?_);refine bxq 4 #[.int .i64 (0),.int .i64 (0),.int .i64 (0)] 100 B fun g4 w1 hb B F4 L4 E4=>?_;obtain ⟨c4_0,c4_1,c4_2⟩:=cs3 F4;clear hb E4)
    | ((with_reducible refine gate_store (t:=100) (p:=4) rfl ?_);obtain ⟨y0,y1,y2,z0,z1,z2⟩:=cz3 F4;refine sxq 100 100 4 0 [.int .i64 (y.f0),.int .i64 (y.f1),.int .i64 (y.f2)] [.int .i64 (y.f0),.int .i64 (y.f1),.int .i64 (y.f2)] B F4 L4 fun w2 hk B G=>?_;replace F4:=G;clear c4_0 c4_1 c4_2;obtain ⟨c4_0,c4_1,c4_2⟩:=cs3 F4;clear hk y0 z0 y1 z1 y2 z2))
   all_goals try (go_ret;exact ⟨andF HS.out (by grind [l1B]),B.out⟩)
   all_goals (
    refine rg (n:=31) (S:=fun W=>W.heap[g4]?=some (.cells #[.int .i64 (y.f0),.int .i64 (y.f1),.int .i64 (y.f2)] 100 (0,0))∧Kd.C k100 W (some ad) l.length l) (ds:=[]) #[false,false,false,false,false,false,false,false,false,false,false,false,false,false,false,false,false,false,false,false,false,false,false,false,false,false,false,false,false,false,false] (by kernel_rfl) rfl rfl ⟨F4.out,(cb HR0 B)⟩ id B (fun w3 hb B hHeld=>?_)
    refine with_tabW spec_SessionsValid.tab5 spec_SessionsValid.bits5 (fun HT_ HW_=>?_)
    replace F4:=bn F4 hb
    clear hb
    refine pvq 0 (some 15) (bits 31 1) HT_ ?_
    refine tvq 1 (some 16) (bits 31 3) HT_ HW_ rfl hHeld (by intro w' hS;obtain ⟨s0,s1⟩:=hS;obtain ⟨q0,q1,q2⟩:=cs3 (Aside0.mk s0);go_simp;with_reducible rfl) ?_
    refine nmq ?_
    refine one_ (i:=2) (N:=some 17) (bits 31 7) rfl rfl (one_of HT_.out (by kernel_rfl)) (by decide) (fun K hK=>?_)
    rcases hq1 : (l1B y.f0 0 3) with _ | _
    ·refine gsq Try.func90 #[.int .i64 (y.f0),.int .i64 (0),.int .i64 (3)] ?_
     with_reducible refine cl (clv (spec_l1In.M y.f0 0 3 _) (congrArg Value.bool hq1)) B fun w4 hb B=>?_
     replace F4:=bn F4 hb
     clear hb
     refine ⟨_,rfl,?_⟩
     refine hK.out _ _ ⟨F4.out,(cb HR0 B)⟩ (fun hHeld=>?_)
     clear hK K
     refine npq (some 17) ?_
     refine pvq 3 (some 18) (bits 31 15) HT_ ?_
     refine pvq 4 (some 19) (bits 31 31) HT_ ?_
     refine svq 5 (some 20) (bits 31 63) HT_ ?_
     refine svq 6 (some 21) (bits 31 127) HT_ ?_
     refine svq 7 (some 22) (bits 31 255) HT_ ?_
     refine svq 8 (some 23) (bits 31 511) HT_ ?_
     refine pvq 9 (some 24) (bits 31 1023) HT_ ?_
     refine pvq 10 (some 25) (bits 31 2047) HT_ ?_
     refine svq 11 (some 26) (bits 31 4095) HT_ ?_
     refine svq 12 (some 27) (bits 31 8191) HT_ ?_
     refine svq 13 (some 28) (bits 31 16383) HT_ ?_
     refine svq 14 (some 29) (bits 31 32767) HT_ ?_
     refine pvq 15 (some 30) (bits 31 65535) HT_ ?_
     refine pvq 16 (some 31) (bits 31 131071) HT_ ?_
     refine svq 17 (some 32) (bits 31 262143) HT_ ?_
     refine svq 18 (some 33) (bits 31 524287) HT_ ?_
     refine svq 19 (some 34) (bits 31 1048575) HT_ ?_
     refine svq 20 (some 35) (bits 31 2097151) HT_ ?_
     refine svq 21 (some 36) (bits 31 4194303) HT_ ?_
     refine svq 22 (some 37) (bits 31 8388607) HT_ ?_
     refine svq 23 (some 38) (bits 31 16777215) HT_ ?_
     refine svq 24 (some 39) (bits 31 33554431) HT_ ?_
     refine svq 25 (some 40) (bits 31 67108863) HT_ ?_
     refine svq 26 (some 41) (bits 31 134217727) HT_ ?_
     refine svq 27 (some 42) (bits 31 268435455) HT_ ?_
     refine svq 28 (some 43) (bits 31 536870911) HT_ ?_
     refine svq 29 (some 44) (bits 31 1073741823) HT_ ?_
     refine pvq 30 (some 45) (bits 31 2147483647) HT_ ?_
     refine nmq ?_
     refine done_ (done_of HT_.out (by kernel_rfl)) ?_
     try go_wp2
     all_goals first
      | (go_roundg d;(case measure=>omega);(case rel=>exact ⟨j + 1,congrArg (Value.int .i64) (Int.natCast_succ _).symm,by omega,by omega,B,⟨andT HS.out (by grind [l1B])⟩⟩))
      | (go_ret;exact ⟨andF HS.out (by grind [l1B]),B.out⟩)
    ·refine gsq Try.func90 #[.int .i64 (y.f0),.int .i64 (0),.int .i64 (3)] ?_
     with_reducible refine cl (clv (spec_l1In.M y.f0 0 3 _) (congrArg Value.bool hq1)) B fun w4 hb B=>?_
     replace F4:=bn F4 hb
     clear hb
     refine ⟨_,rfl,?_⟩
     refine hK.out _ _ ⟨F4.out,(cb HR0 B)⟩ (fun hHeld=>?_)
     clear hK K
     refine npq (some 17) ?_
     refine pvq 3 (some 18) (bits 31 15) HT_ ?_
     refine pvq 4 (some 19) (bits 31 31) HT_ ?_
     refine pvq 5 (some 20) (bits 31 63) HT_ ?_
     refine tvq 6 (some 21) (bits 31 127) HT_ HW_ rfl hHeld (by intro w' hS;obtain ⟨s0,s1⟩:=hS;obtain ⟨q0,q1,q2⟩:=cs3 (Aside0.mk s0);go_simp;with_reducible rfl) ?_
     refine nmq ?_
     refine one_ (i:=7) (N:=some 22) (bits 31 255) rfl rfl (one_of HT_.out (by kernel_rfl)) (by decide) (fun K hK=>?_)
     rcases hq2 : (l1B y.f1 1 999) with _ | _
     ·refine gsq Try.func90 #[.int .i64 (y.f1),.int .i64 (1),.int .i64 (999)] ?_
      with_reducible refine cl (clv (spec_l1In.M y.f1 1 999 _) (congrArg Value.bool hq2)) B fun w5 hb B=>?_
      replace F4:=bn F4 hb
      clear hb
      refine ⟨_,rfl,?_⟩
      refine hK.out _ _ ⟨F4.out,(cb HR0 B)⟩ (fun hHeld=>?_)
      clear hK K
      refine npq (some 22) ?_
      refine pvq 8 (some 23) (bits 31 511) HT_ ?_
      refine pvq 9 (some 24) (bits 31 1023) HT_ ?_
      refine pvq 10 (some 25) (bits 31 2047) HT_ ?_
      refine svq 11 (some 26) (bits 31 4095) HT_ ?_
      refine svq 12 (some 27) (bits 31 8191) HT_ ?_
      refine svq 13 (some 28) (bits 31 16383) HT_ ?_
      refine svq 14 (some 29) (bits 31 32767) HT_ ?_
      refine pvq 15 (some 30) (bits 31 65535) HT_ ?_
      refine pvq 16 (some 31) (bits 31 131071) HT_ ?_
      refine svq 17 (some 32) (bits 31 262143) HT_ ?_
      refine svq 18 (some 33) (bits 31 524287) HT_ ?_
      refine svq 19 (some 34) (bits 31 1048575) HT_ ?_
      refine svq 20 (some 35) (bits 31 2097151) HT_ ?_
      refine svq 21 (some 36) (bits 31 4194303) HT_ ?_
      refine svq 22 (some 37) (bits 31 8388607) HT_ ?_
      refine svq 23 (some 38) (bits 31 16777215) HT_ ?_
      refine svq 24 (some 39) (bits 31 33554431) HT_ ?_
      refine svq 25 (some 40) (bits 31 67108863) HT_ ?_
      refine svq 26 (some 41) (bits 31 134217727) HT_ ?_
      refine svq 27 (some 42) (bits 31 268435455) HT_ ?_
      refine svq 28 (some 43) (bits 31 536870911) HT_ ?_
      refine svq 29 (some 44) (bits 31 1073741823) HT_ ?_
      refine pvq 30 (some 45) (bits 31 2147483647) HT_ ?_
      refine nmq ?_
      refine done_ (done_of HT_.out (by kernel_rfl)) ?_
      try go_wp2
      all_goals first
       | (go_roundg d;(case measure=>omega);(case rel=>exact ⟨j + 1,congrArg (Value.int .i64) (Int.natCast_succ _).symm,by omega,by omega,B,⟨andT HS.out (by grind [l1B])⟩⟩))
       | (go_ret;exact ⟨andF HS.out (by grind [l1B]),B.out⟩)
     ·refine gsq Try.func90 #[.int .i64 (y.f1),.int .i64 (1),.int .i64 (999)] ?_
      with_reducible refine cl (clv (spec_l1In.M y.f1 1 999 _) (congrArg Value.bool hq2)) B fun w5 hb B=>?_
      replace F4:=bn F4 hb
      clear hb
      refine ⟨_,rfl,?_⟩
      refine hK.out _ _ ⟨F4.out,(cb HR0 B)⟩ (fun hHeld=>?_)
      clear hK K
      refine npq (some 22) ?_
      refine pvq 8 (some 23) (bits 31 511) HT_ ?_
      refine pvq 9 (some 24) (bits 31 1023) HT_ ?_
      refine pvq 10 (some 25) (bits 31 2047) HT_ ?_
      refine pvq 11 (some 26) (bits 31 4095) HT_ ?_
      refine tvq 12 (some 27) (bits 31 8191) HT_ HW_ rfl hHeld (by intro w' hS;obtain ⟨s0,s1⟩:=hS;obtain ⟨q0,q1,q2⟩:=cs3 (Aside0.mk s0);go_simp;with_reducible rfl) ?_
      refine nmq ?_
      refine one_ (i:=13) (N:=some 28) (bits 31 16383) rfl rfl (one_of HT_.out (by kernel_rfl)) (by decide) (fun K hK=>?_)
      rcases hq3 : (l1B y.f2 (-2) 999) with _ | _
      ·refine gsq Try.func90 #[.int .i64 (y.f2),.int .i64 (-2),.int .i64 (999)] ?_
       with_reducible refine cl (clv (spec_l1In.M y.f2 (-2) 999 _) (congrArg Value.bool hq3)) B fun w6 hb B=>?_
       replace F4:=bn F4 hb
       clear hb
       refine ⟨_,rfl,?_⟩
       refine hK.out _ _ ⟨F4.out,(cb HR0 B)⟩ (fun hHeld=>?_)
       clear hK K
       refine npq (some 28) ?_
       refine pvq 14 (some 29) (bits 31 32767) HT_ ?_
       refine pvq 15 (some 30) (bits 31 65535) HT_ ?_
       refine pvq 16 (some 31) (bits 31 131071) HT_ ?_
       refine svq 17 (some 32) (bits 31 262143) HT_ ?_
       refine svq 18 (some 33) (bits 31 524287) HT_ ?_
       refine svq 19 (some 34) (bits 31 1048575) HT_ ?_
       refine svq 20 (some 35) (bits 31 2097151) HT_ ?_
       refine svq 21 (some 36) (bits 31 4194303) HT_ ?_
       refine svq 22 (some 37) (bits 31 8388607) HT_ ?_
       refine svq 23 (some 38) (bits 31 16777215) HT_ ?_
       refine svq 24 (some 39) (bits 31 33554431) HT_ ?_
       refine svq 25 (some 40) (bits 31 67108863) HT_ ?_
       refine svq 26 (some 41) (bits 31 134217727) HT_ ?_
       refine svq 27 (some 42) (bits 31 268435455) HT_ ?_
       refine svq 28 (some 43) (bits 31 536870911) HT_ ?_
       refine svq 29 (some 44) (bits 31 1073741823) HT_ ?_
       refine pvq 30 (some 45) (bits 31 2147483647) HT_ ?_
       refine nmq ?_
       refine done_ (done_of HT_.out (by kernel_rfl)) ?_
       try go_wp2
       all_goals first
        | (go_roundg d;(case measure=>omega);(case rel=>exact ⟨j + 1,congrArg (Value.int .i64) (Int.natCast_succ _).symm,by omega,by omega,B,⟨andT HS.out (by grind [l1B])⟩⟩))
        | (go_ret;exact ⟨andF HS.out (by grind [l1B]),B.out⟩)
      ·refine gsq Try.func90 #[.int .i64 (y.f2),.int .i64 (-2),.int .i64 (999)] ?_
       with_reducible refine cl (clv (spec_l1In.M y.f2 (-2) 999 _) (congrArg Value.bool hq3)) B fun w6 hb B=>?_
       replace F4:=bn F4 hb
       clear hb
       refine ⟨_,rfl,?_⟩
       refine hK.out _ _ ⟨F4.out,(cb HR0 B)⟩ (fun hHeld=>?_)
       clear hK K
       refine npq (some 28) ?_
       refine pvq 14 (some 29) (bits 31 32767) HT_ ?_
       refine pvq 15 (some 30) (bits 31 65535) HT_ ?_
       refine pvq 16 (some 31) (bits 31 131071) HT_ ?_
       refine pvq 17 (some 32) (bits 31 262143) HT_ ?_
       by_cases hz : j=0
       ·rw [if_pos hz] at HS
        have dz : decide (0 < (j : Int))=false:=decide_eq_false (by omega)
        have dz2 : decide (0 < j)=false:=decide_eq_false (by omega)
        clear hz
        refine pvq 18 (some 33) (bits 31 524287) HT_ ?_
        refine pvq 19 (some 34) (bits 31 1048575) HT_ ?_
        refine svq 20 (some 35) (bits 31 2097151) HT_ ?_
        refine svq 21 (some 36) (bits 31 4194303) HT_ ?_
        refine svq 22 (some 37) (bits 31 8388607) HT_ ?_
        refine svq 23 (some 38) (bits 31 16777215) HT_ ?_
        refine svq 24 (some 39) (bits 31 33554431) HT_ ?_
        refine svq 25 (some 40) (bits 31 67108863) HT_ ?_
        refine svq 26 (some 41) (bits 31 134217727) HT_ ?_
        refine svq 27 (some 42) (bits 31 268435455) HT_ ?_
        refine svq 28 (some 43) (bits 31 536870911) HT_ ?_
        refine pvq 29 (some 44) (bits 31 1073741823) HT_ ?_
        refine pvq 30 (some 45) (bits 31 2147483647) HT_ ?_
        refine nmq ?_
        refine done_ (done_of HT_.out (by kernel_rfl)) ?_
        try go_wp2
        all_goals first
         | (go_roundg d;(case measure=>omega);(case rel=>exact ⟨j + 1,congrArg (Value.int .i64) (Int.natCast_succ _).symm,by omega,by omega,B,⟨andT HS.out (by grind [l1B])⟩⟩))
         | (go_ret;exact ⟨andF HS.out (by grind [l1B]),B.out⟩)
       ·rw [if_neg hz] at HS
        have dz : decide (0 < (j : Int))=true:=decide_eq_true (by omega)
        have dz2 : decide (0 < j)=true:=decide_eq_true (by omega)
        obtain ⟨i,hi⟩ : ∃ i,j - 1=i:=⟨_,rfl⟩
        rw [hi] at HS
        have WI:=Aside0.mk (show (j : Int) - 1=(i : Int) by omega)
        have hij : i < l.length:=by omega
        have IW:=Aside0.mk (show wrap64 (i : Int)=(i : Int) by unfold wrap64;omega)
        have i1:=eq_true (show (i : Int) < (l.length : Int) by omega)
        have i2:=eq_true hij
        generalize hx : rd_T100 l (i : Int)=x at HS
        clear hz hi
        refine pvq 18 (some 33) (bits 31 524287) HT_ ?_
        refine pvq 19 (some 34) (bits 31 1048575) HT_ ?_
        refine pvq 20 (some 35) (bits 31 2097151) HT_ ?_
        refine tvq 21 (some 36) (bits 31 4194303) HT_ HW_ rfl hHeld (by intro w' hS;obtain ⟨s0,s1⟩:=hS;obtain ⟨q0,q1,q2⟩:=cs3 (Aside0.mk s0);go_simp;with_reducible rfl) ?_
        refine pvq 22 (some 37) (bits 31 8388607) HT_ ?_
        refine pvq 23 (some 38) (bits 31 16777215) HT_ ?_
        refine pu (i:=24) (N:=some 39) (v:=.int .i64 ((i : Int))) (bits 31 33554431) rfl rfl (any_of HT_.out (by kernel_rfl)) (fun _ _ _ h=>h) (by kernel_rfl) ?_ ?_;(intro w';go_simp;rw [WI.out];exact (i64_w _).trans IW.out)
        refine pvq 25 (some 40) (bits 31 67108863) HT_ ?_
        refine pvq 26 (some 41) (bits 31 134217727) HT_ ?_
        refine tvq 27 (some 42) (bits 31 268435455) HT_ HW_ rfl hHeld (by intro w' hS;obtain ⟨s0,s1⟩:=hS;obtain ⟨_,hA,q0,q1,q2⟩:=at_T100 s1 (i : Int) (by omega) (by omega);cases hA;rw [Int.toNat_natCast] at q0 q1 q2;rw [hx] at q0 q1 q2;go_simp;with_reducible rfl) ?_
        refine pvq 28 (some 43) (bits 31 536870911) HT_ ?_
        refine pvq 29 (some 44) (bits 31 1073741823) HT_ ?_
        refine pvq 30 (some 45) (bits 31 2147483647) HT_ ?_
        refine nmq ?_
        refine done_ (done_of HT_.out (by kernel_rfl)) ?_
        try go_wp2
        all_goals first
         | (go_roundg d;(case measure=>omega);(case rel=>exact ⟨j + 1,congrArg (Value.int .i64) (Int.natCast_succ _).symm,by omega,by omega,B,⟨andT HS.out (by grind [l1B])⟩⟩))
         | (go_ret;exact ⟨andF HS.out (by grind [l1B]),B.out⟩))
   all_goals try go_wp2
   all_goals try (go_ret;exact ⟨andF HS.out (by grind [l1B]),B.out⟩)
  ·have cj : decide ((j : Int) < (l.length : Int))=false:=decide_eq_false (by omega)
   have hr : r=true:=by rw [← H.out];exact sesJ_end hlt
   subst hr
   go_wp2
   go_ret
   exact ⟨rfl,B.out⟩

def spec_IntervalCut.T5 : Bool × List (List Nat × List Nat):=(true,[([],[]),([],[]),([0,0],[0]),([1,2,0,1,2],[1]),([3,0,1,2,3],[])])
def spec_IntervalCut.B5 : List Nat:=[0,0,1,7,15]
theorem spec_IntervalCut.tab5 : rtab .any (opsOf Try.f51 5)=spec_IntervalCut.T5:=by kernel_rfl
theorem spec_IntervalCut.bits5 : waitsOk spec_IntervalCut.T5.2 spec_IntervalCut.B5=true:=by kernel_rfl
theorem spec_IntervalCut.M (a b c : ByteArray) (w : World) : Calls Try.prog 51 #[.agg #[.string a,.string b],.string c] w fun e w'=>e=.returned (.tuple #[.agg #[.string (cutV a b c).1,.string (cutV a b c).2.1],.agg #[.string (cutV a b c).2.2.1,.string (cutV a b c).2.2.2.1],.bool (cutV a b c).2.2.2.2])∧Below w.heap.size w w':=by
 have B:=Aside0.mk (Below.refl w.heap.size w)
 have hu:=Try.underlying30
 go_enter Try.func51,Try.ntmps51
 go_wp2_with (first
  | ((with_reducible refine gate_dst (N:=2) rfl ?_);refine bxq 2 #[.string a,.string b] 30 B fun g2 w1 hb B F2 L2 E2=>?_;obtain ⟨c2_0,c2_1⟩:=cs2 F2;clear hb E2)
  | ((with_reducible refine gate_dst (N:=4) rfl ?_);refine bxq 4 #[.string (⟨#[]⟩ : ByteArray),.string (⟨#[]⟩ : ByteArray)] 30 B fun g4 w2 hb B F4 L4 E4=>?_;have N2_4:=ne1 E4 F2;replace F2:=bn F2 hb;clear c2_0 c2_1;obtain ⟨c2_0,c2_1⟩:=cs2 F2;clear hb E4)
  | ((with_reducible refine gate_dst (N:=5) rfl ?_);refine bxq 5 #[.string (⟨#[]⟩ : ByteArray),.string (⟨#[]⟩ : ByteArray)] 30 B fun g5 w3 hb B F5 L5 E5=>?_;have N2_5:=ne1 E5 F2;have N4_5:=ne1 E5 F4;replace F2:=bn F2 hb;replace F4:=bn F4 hb;clear c2_0 c2_1;obtain ⟨c2_0,c2_1⟩:=cs2 F2;clear hb E5)
  | ((with_reducible refine gate_dst (N:=7) rfl ?_);refine bxq 7 #[.string (⟨#[]⟩ : ByteArray),.string (⟨#[]⟩ : ByteArray)] 30 B fun g7 w4 hb B F7 L7 E7=>?_;have N2_7:=ne1 E7 F2;have N4_7:=ne1 E7 F4;have N5_7:=ne1 E7 F5;replace F2:=bn F2 hb;replace F4:=bn F4 hb;replace F5:=bn F5 hb;clear c2_0 c2_1;obtain ⟨c2_0,c2_1⟩:=cs2 F2;obtain ⟨c7_0,c7_1⟩:=cs2 F7;clear hb E7)
  | ((with_reducible refine gate_store (t:=30) (p:=7) rfl ?_);obtain ⟨y0,y1,z0,z1⟩:=cz2 F7;refine sxq 30 30 7 0 [.string a,.string c] [.string a,.string c] B F7 L7 fun w5 hk B G=>?_;replace F2:=bk F2 hk N2_7.out;replace F4:=bk F4 hk N4_7.out;replace F5:=bk F5 hk N5_7.out;replace F7:=G;clear c2_0 c2_1;obtain ⟨c2_0,c2_1⟩:=cs2 F2;clear c7_0 c7_1;obtain ⟨c7_0,c7_1⟩:=cs2 F7;clear hk y0 z0 y1 z1)
  | ((with_reducible refine gate_dst (N:=8) rfl ?_);refine bxq 8 #[.string (⟨#[]⟩ : ByteArray),.string (⟨#[]⟩ : ByteArray)] 30 B fun g8 w6 hb B F8 L8 E8=>?_;have N2_8:=ne1 E8 F2;have N4_8:=ne1 E8 F4;have N5_8:=ne1 E8 F5;have N7_8:=ne1 E8 F7;replace F2:=bn F2 hb;replace F4:=bn F4 hb;replace F5:=bn F5 hb;replace F7:=bn F7 hb;clear c2_0 c2_1;obtain ⟨c2_0,c2_1⟩:=cs2 F2;clear c7_0 c7_1;obtain ⟨c7_0,c7_1⟩:=cs2 F7;obtain ⟨c8_0,c8_1⟩:=cs2 F8;clear hb E8)
  | ((with_reducible refine gate_store (t:=30) (p:=8) rfl ?_);obtain ⟨y0,y1,z0,z1⟩:=cz2 F8;refine sxq 30 30 8 0 [.string c,.string b] [.string c,.string b] B F8 L8 fun w7 hk B G=>?_;replace F2:=bk F2 hk N2_8.out;replace F4:=bk F4 hk N4_8.out;replace F5:=bk F5 hk N5_8.out;replace F7:=bk F7 hk N7_8.out;replace F8:=G;clear c2_0 c2_1;obtain ⟨c2_0,c2_1⟩:=cs2 F2;clear c7_0 c7_1;obtain ⟨c7_0,c7_1⟩:=cs2 F7;clear c8_0 c8_1;obtain ⟨c8_0,c8_1⟩:=cs2 F8;clear hk y0 z0 y1 z1)
  | (go_at_call 47;with_reducible refine cl (spec_IntervalValid.M a b _) B fun w8 hb B=>?_;replace F4:=bn F4 hb;replace F5:=bn F5 hb;replace F7:=bn F7 hb;replace F8:=bn F8 hb;clear c7_0 c7_1;obtain ⟨c7_0,c7_1⟩:=cs2 F7;clear c8_0 c8_1;obtain ⟨c8_0,c8_1⟩:=cs2 F8;clear hb)
  | (go_at_call 89;with_reducible refine cl (spec_KeyValid.M c _) B fun w9 hb B=>?_;replace F4:=bn F4 hb;replace F5:=bn F5 hb;replace F7:=bn F7 hb;replace F8:=bn F8 hb;clear c7_0 c7_1;obtain ⟨c7_0,c7_1⟩:=cs2 F7;clear c8_0 c8_1;obtain ⟨c8_0,c8_1⟩:=cs2 F8;clear hb)
  | (go_at_call 47;with_reducible refine cl (spec_IntervalValid.M a c _) B fun w10 hb B=>?_;replace F4:=bn F4 hb;replace F5:=bn F5 hb;replace F7:=bn F7 hb;replace F8:=bn F8 hb;clear c7_0 c7_1;obtain ⟨c7_0,c7_1⟩:=cs2 F7;clear c8_0 c8_1;obtain ⟨c8_0,c8_1⟩:=cs2 F8;clear hb)
  | (go_at_call 47;with_reducible refine cl (spec_IntervalValid.M c b _) B fun w11 hb B=>?_;replace F4:=bn F4 hb;replace F5:=bn F5 hb;replace F7:=bn F7 hb;replace F8:=bn F8 hb;clear c7_0 c7_1;obtain ⟨c7_0,c7_1⟩:=cs2 F7;clear c8_0 c8_1;obtain ⟨c8_0,c8_1⟩:=cs2 F8;clear hb)
  | ((with_reducible refine gate_store (t:=30) (p:=4) rfl ?_);obtain ⟨y0,y1,z0,z1⟩:=cz2 F4;refine sxq 30 30 4 0 [.string (⟨#[]⟩ : ByteArray),.string (⟨#[]⟩ : ByteArray)] [.string (⟨#[]⟩ : ByteArray),.string (⟨#[]⟩ : ByteArray)] B F4 L4 fun w12 hk B G=>?_;replace F5:=bk F5 hk N4_5.out.symm;replace F7:=bk F7 hk N4_7.out.symm;replace F8:=bk F8 hk N4_8.out.symm;replace F4:=G;clear c7_0 c7_1;obtain ⟨c7_0,c7_1⟩:=cs2 F7;clear c8_0 c8_1;obtain ⟨c8_0,c8_1⟩:=cs2 F8;clear hk y0 z0 y1 z1)
  | ((with_reducible refine gate_store (t:=30) (p:=5) rfl ?_);obtain ⟨y0,y1,z0,z1⟩:=cz2 F5;refine sxq 30 30 5 0 [.string (⟨#[]⟩ : ByteArray),.string (⟨#[]⟩ : ByteArray)] [.string (⟨#[]⟩ : ByteArray),.string (⟨#[]⟩ : ByteArray)] B F5 L5 fun w13 hk B G=>?_;replace F4:=bk F4 hk N4_5.out;replace F7:=bk F7 hk N5_7.out.symm;replace F8:=bk F8 hk N5_8.out.symm;replace F5:=G;clear c7_0 c7_1;obtain ⟨c7_0,c7_1⟩:=cs2 F7;clear c8_0 c8_1;obtain ⟨c8_0,c8_1⟩:=cs2 F8;clear hk y0 z0 y1 z1))
 all_goals try (refine bodyPost_ret (results_list (rs:=[.cell 4 30,.cell 5 30,.tmp 6]) rfl (by simp) (.cell g4 30 _ (0,0) _ rfl F4.out hu rfl (by kernel_rfl) (.cell g5 30 _ (0,0) _ rfl F5.out hu rfl (by kernel_rfl) (.tmp .nil)))) rfl ?_;refine ⟨?_,B.out⟩;unfold cutV cutB;simp_all;done)
 all_goals (
  refine rg (n:=5) (S:=fun W=>W.heap[g7]?=some (.cells #[.string a,.string c] 30 (0,0))∧W.heap[g8]?=some (.cells #[.string c,.string b] 30 (0,0))) (ds:=[]) #[false,false,false,false,false] (by kernel_rfl) rfl rfl ⟨F7.out,F8.out⟩ id B (fun w14 hb B hHeld=>?_)
  refine with_tabW spec_IntervalCut.tab5 spec_IntervalCut.bits5 (fun HT_ HW_=>?_)
  replace F4:=bn F4 hb
  replace F5:=bn F5 hb
  replace F7:=bn F7 hb
  replace F8:=bn F8 hb
  clear hb
  refine tvq 0 (some 37) (bits 5 1) HT_ HW_ rfl hHeld (by intro w' hS;obtain ⟨s0,s1⟩:=hS;obtain ⟨q0,q1⟩:=cs2 (Aside0.mk s0);go_simp;with_reducible rfl) ?_
  refine tvq 1 (some 38) (bits 5 3) HT_ HW_ rfl hHeld (by intro w' hS;obtain ⟨s0,s1⟩:=hS;obtain ⟨q0,q1⟩:=cs2 (Aside0.mk s1);go_simp;with_reducible rfl) ?_
  refine nmq ?_
  refine one_ (i:=2) (N:=none) (bits 5 7) rfl rfl (one_of HT_.out (by kernel_rfl)) (by decide) (fun K hK=>?_)
  obtain ⟨y0,y1,z0,z1⟩:=cz2 F4
  refine sxs (g:=g4) 0 [.string a,.string c] [.string a,.string c] (by rfl) rfl ?hr B F4 L4 rfl (Nat.le_of_ble_eq_true rfl) (fun w15 hk B G=>?_)
  (case hr=>go_simp;first | done | rfl)
  replace F5:=bk F5 hk N4_5.out.symm
  replace F7:=bk F7 hk N4_7.out.symm
  replace F8:=bk F8 hk N4_8.out.symm
  replace F4:=G
  clear hk y0 z0 y1 z1
  refine hK.out _ _ ⟨F7.out,F8.out⟩ (fun hHeld=>?_)
  clear hK K
  refine one_ (i:=3) (N:=none) (bits 5 15) rfl rfl (one_of HT_.out (by kernel_rfl)) (by decide) (fun K hK=>?_)
  obtain ⟨y0,y1,z0,z1⟩:=cz2 F5
  refine sxs (g:=g5) 0 [.string c,.string b] [.string c,.string b] (by rfl) rfl ?hr B F5 L5 rfl (Nat.le_of_ble_eq_true rfl) (fun w16 hk B G=>?_)
  (case hr=>go_simp;first | done | rfl)
  replace F4:=bk F4 hk N4_5.out
  replace F7:=bk F7 hk N5_7.out.symm
  replace F8:=bk F8 hk N5_8.out.symm
  replace F5:=G
  clear hk y0 z0 y1 z1
  refine hK.out _ _ ⟨F7.out,F8.out⟩ (fun hHeld=>?_)
  clear hK K
  refine pvq 4 (some 6) (bits 5 31) HT_ ?_
  refine nmq ?_
  refine done_ (done_of HT_.out (by kernel_rfl)) ?_)
 all_goals try go_wp2
 all_goals try (refine bodyPost_ret (results_list (rs:=[.cell 4 30,.cell 5 30,.tmp 6]) rfl (by simp) (.cell g4 30 _ (0,0) _ rfl F4.out hu rfl (by kernel_rfl) (.cell g5 30 _ (0,0) _ rfl F5.out hu rfl (by kernel_rfl) (.tmp .nil)))) rfl ?_;refine ⟨?_,B.out⟩;unfold cutV cutB;simp_all;done)

def spec_StateValid.T6 : Bool × List (List Nat × List Nat):=(true,[([],[]),([0],[0]),([],[]),([2],[2]),([],[]),([3,4],[3,4]),([5],[5]),([6],[6]),([1,7],[1,7]),([8],[8])])
def spec_StateValid.B6 : List Nat:=[0,1,0,4,0,28,60,124,255,511]
theorem spec_StateValid.tab6 : rtab .any (opsOf Try.f12 6)=spec_StateValid.T6:=by kernel_rfl
theorem spec_StateValid.bits6 : waitsOk spec_StateValid.T6.2 spec_StateValid.B6=true:=by kernel_rfl
theorem spec_StateValid.M (a b : ByteArray) (AP : Option Addr) (cP : Nat) (ps : List S61) (AS : Option Addr) (cS : Nat) (ss : List S100) (t : Bool) (c : ByteArray) (w : World) (hrp : Kd.C k61 w AP ps.length ps) (hrs : Kd.C k100 w AS ss.length ss) : Calls Try.prog 12 #[.agg #[.string a,.string b,.slice AP ps.length cP,.slice AS ss.length cS,.bool t,.string c]] w fun e w'=>e=.returned (.bool (stB a b ps ss t c))∧Below w.heap.size w w':=by
 have B:=Aside0.mk (Below.refl w.heap.size w)
 have hu:=Try.underlying34
 have hu2:=Try.underlying30
 have HRP:=Aside0.mk hrp
 have HRS:=Aside0.mk hrs
 clear hrp hrs
 go_enter Try.func12,Try.ntmps12
 go_wp2_with (first
  | ((with_reducible refine gate_dst (N:=1) rfl ?_);refine bxq 1 #[.string a,.string b,.slice AP ps.length cP,.slice AS ss.length cS,.bool t,.string c] 34 B fun g1 w1 hb B F1 L1 E1=>?_;obtain ⟨c1_0,c1_1,c1_2,c1_3,c1_4,c1_5⟩:=cs6 F1;clear hb E1)
  | (go_at_call 47;with_reducible refine cl (spec_IntervalValid.M a b _) B fun w2 hb B=>?_;replace F1:=bn F1 hb;clear c1_0 c1_1 c1_2 c1_3 c1_4 c1_5;obtain ⟨c1_0,c1_1,c1_2,c1_3,c1_4,c1_5⟩:=cs6 F1;clear hb)
  | (go_at_call 48;with_reducible refine cl (spec_PairsValid.M _ _ ps _ (cb HRP B)) B fun w3 hb B=>?_;replace F1:=bn F1 hb;clear c1_0 c1_1 c1_2 c1_3 c1_4 c1_5;obtain ⟨c1_0,c1_1,c1_2,c1_3,c1_4,c1_5⟩:=cs6 F1;clear hb)
  | (go_at_call 49;with_reducible refine cl (spec_SessionsValid.M _ _ ss _ (cb HRS B)) B fun w4 hb B=>?_;replace F1:=bn F1 hb;clear hb))
 all_goals try (go_ret;exact ⟨congrArg (fun b=>Ending.returned (Value.bool b)) (by grind [stB]),B.out⟩)
 have hv : ivB a b=true∧prB ps=true∧sesB ss=true:=by grind
 have hst : stB a b ps ss t c=((ps.all fun p=>hasB a b p.f0) && tailB a b t c):=by
  unfold stB
  rw [all_has hv.1 hv.2.1,hv.1,hv.2.1,hv.2.2]
  rfl
 obtain ⟨q,hq⟩ : ∃ q,(ps.all fun p=>hasB a b p.f0)=q:=⟨_,rfl⟩
 rw [hq] at hst
 have H:=Aside0.mk (show ((ps.drop 0).all fun p=>hasB a b p.f0)=q from hq)
 have L48:=Aside0.mk (prB_len hv.2.1)
 clear hq hv c1_0 c1_1 c1_2 c1_3 c1_4 c1_5
 have HST:=Aside0.mk hst
 clear hst
 go_loopg [3] (ps.length + 1) (fun kx v3 wr=>∃ j : Nat,v3=.int .i64 (j : Int)∧j≤ps.length∧ps.length < j + kx∧Aside0 (Below w.heap.size w wr)∧Aside0 (wr.heap[g1]?=some (.cells #[.string a,.string b,.slice AP ps.length cP,.slice AS ss.length cS,.bool t,.string c] 34 (0,0)))∧Aside0 (((ps.drop j).all fun p=>hasB a b p.f0)=q))
 case atStart=>exact ⟨0,rfl,by omega,by omega,B,F1,H⟩
 case round =>
  clear H B F1
  obtain ⟨j,rfl,hj,hk,B,F1,H⟩:=hrel
  have hst:=HST.out
  obtain ⟨c1_0,c1_1,c1_2,c1_3,c1_4,c1_5⟩:=cs6 F1
  by_cases hlt : j < ps.length
  ·have HS:=H.out
   rw [pr_drop hlt,List.all_cons] at HS
   clear H
   obtain ⟨d,rfl⟩ : ∃ d,gk=d + 1:=⟨gk - 1,by omega⟩
   have h48:=L48.out
   have cj : decide ((j : Int) < (ps.length : Int))=true:=decide_eq_true (by omega)
   obtain ⟨ad,hA,y0,y1⟩:=at_T61 (cb HRP B) (j : Int) (by omega) (by omega)
   cases hA
   rw [Int.toNat_natCast] at y0 y1
   have j1:=eq_true (show (j : Int) < (ps.length : Int) by omega)
   have j2:=eq_true hlt
   generalize hy : rd_T61 ps (j : Int)=y at *
   try go_wp2
   all_goals (
    refine rg (n:=10) (S:=fun W=>W.heap[g1]?=some (.cells #[.string a,.string b,.slice (some ad) ps.length cP,.slice AS ss.length cS,.bool t,.string c] 34 (0,0))∧Kd.C k61 W (some ad) ps.length ps) (ds:=[]) #[false,false,false,false,false,false,false,false,false,false] (by kernel_rfl) rfl rfl ⟨F1.out,(cb HRP B)⟩ id B (fun w5 hb B hHeld=>?_)
    refine with_tabW spec_StateValid.tab6 spec_StateValid.bits6 (fun HT_ HW_=>?_)
    replace F1:=bn F1 hb
    clear hb
    refine pvq 0 (some 30) (bits 10 1) HT_ ?_
    refine tvq 1 (some 31) (bits 10 3) HT_ HW_ rfl hHeld (by intro w' hS;obtain ⟨s0,s1⟩:=hS;obtain ⟨q0,q1,q2,q3,q4,q5⟩:=cs6 (Aside0.mk s0);go_simp;with_reducible rfl) ?_
    refine pvq 2 (some 32) (bits 10 7) HT_ ?_
    refine tvq 3 (some 33) (bits 10 15) HT_ HW_ rfl hHeld (by intro w' hS;obtain ⟨s0,s1⟩:=hS;obtain ⟨q0,q1,q2,q3,q4,q5⟩:=cs6 (Aside0.mk s0);go_simp;with_reducible rfl) ?_
    refine pvq 4 (some 34) (bits 10 31) HT_ ?_
    refine pvq 5 (some 35) (bits 10 63) HT_ ?_
    refine pvq 6 (some 36) (bits 10 127) HT_ ?_
    refine tvq 7 (some 37) (bits 10 255) HT_ HW_ rfl hHeld (by intro w' hS;obtain ⟨s0,s1⟩:=hS;obtain ⟨_,hA,q0,q1⟩:=at_T61 s1 (j : Int) (by omega) (by omega);cases hA;rw [Int.toNat_natCast] at q0 q1;rw [hy] at q0 q1;go_simp;with_reducible rfl) ?_
    refine nmq ?_
    refine one_ (i:=8) (N:=some 38) (bits 10 511) rfl rfl (one_of HT_.out (by kernel_rfl)) (by decide) (fun K hK=>?_)
    refine gsq Try.func50 #[.agg #[.string a,.string b],.string y.f0] ?_
    with_reducible refine cl (spec_IntervalHas.M a b y.f0 _) B fun w6 hb B=>?_
    replace F1:=bn F1 hb
    clear hb
    refine ⟨_,rfl,?_⟩
    refine hK.out _ _ ⟨F1.out,(cb HRP B)⟩ (fun hHeld=>?_)
    clear hK K
    refine npq (some 38) ?_
    refine pvq 9 (some 39) (bits 10 1023) HT_ ?_
    refine nmq ?_
    refine done_ (done_of HT_.out (by kernel_rfl)) ?_
    try go_wp2
    all_goals first
     | (go_roundg d;(case measure=>omega);(case rel=>exact ⟨j + 1,congrArg (Value.int .i64) (Int.natCast_succ _).symm,by omega,by omega,B,F1,⟨andT HS (by grind)⟩⟩))
     | (go_ret;exact ⟨congrArg (fun b=>Ending.returned (Value.bool b)) (by have HS:=HS;grind [stB]),B.out⟩))
   all_goals try go_wp2
  ·have cj : decide ((j : Int) < (ps.length : Int))=false:=decide_eq_false (by omega)
   have hr : q=true:=by rw [← H.out,List.drop_of_length_le (by omega)];rfl
   clear H
   go_wp2_with (first
    | (go_at_call 51;with_reducible refine cl (spec_IntervalCut.M a b c _) B fun w1 hb B=>?_;replace F1:=bn F1 hb;clear c1_0 c1_1 c1_2 c1_3 c1_4 c1_5;obtain ⟨c1_0,c1_1,c1_2,c1_3,c1_4,c1_5⟩:=cs6 F1;clear hb)
    | ((with_reducible refine gate_dst (N:=4) rfl ?_);refine bxq 4 #[.string (⟨#[]⟩ : ByteArray),.string (⟨#[]⟩ : ByteArray)] 30 B fun g4 w2 hb B F4 L4 E4=>?_;have N1_4:=ne1 E4 F1;replace F1:=bn F1 hb;clear c1_0 c1_1 c1_2 c1_3 c1_4 c1_5;obtain ⟨c1_0,c1_1,c1_2,c1_3,c1_4,c1_5⟩:=cs6 F1;clear hb E4)
    | ((with_reducible refine gate_dst (N:=5) rfl ?_);refine bxq 5 #[.string (⟨#[]⟩ : ByteArray),.string (⟨#[]⟩ : ByteArray)] 30 B fun g5 w3 hb B F5 L5 E5=>?_;have N1_5:=ne1 E5 F1;have N4_5:=ne1 E5 F4;replace F1:=bn F1 hb;replace F4:=bn F4 hb;clear c1_0 c1_1 c1_2 c1_3 c1_4 c1_5;obtain ⟨c1_0,c1_1,c1_2,c1_3,c1_4,c1_5⟩:=cs6 F1;clear hb E5)
    | ((with_reducible refine gate_store (t:=30) (p:=4) rfl ?_);obtain ⟨y0,y1,z0,z1⟩:=cz2 F4;refine sxq 30 30 4 0 [.string (cutV a b c).1,.string (cutV a b c).2.1] [.string (cutV a b c).1,.string (cutV a b c).2.1] B F4 L4 fun w4 hk B G=>?_;replace F1:=bk F1 hk N1_4.out;replace F5:=bk F5 hk N4_5.out.symm;replace F4:=G;clear c1_0 c1_1 c1_2 c1_3 c1_4 c1_5;obtain ⟨c1_0,c1_1,c1_2,c1_3,c1_4,c1_5⟩:=cs6 F1;clear hk y0 z0 y1 z1)
    | ((with_reducible refine gate_store (t:=30) (p:=5) rfl ?_);obtain ⟨y0,y1,z0,z1⟩:=cz2 F5;refine sxq 30 30 5 0 [.string (cutV a b c).2.2.1,.string (cutV a b c).2.2.2.1] [.string (cutV a b c).2.2.1,.string (cutV a b c).2.2.2.1] B F5 L5 fun w5 hk B G=>?_;replace F1:=bk F1 hk N1_5.out;replace F5:=G;clear c1_0 c1_1 c1_2 c1_3 c1_4 c1_5;obtain ⟨c1_0,c1_1,c1_2,c1_3,c1_4,c1_5⟩:=cs6 F1;clear hk y0 z0 y1 z1))
   all_goals go_ret
   all_goals
    refine ⟨congrArg (fun b=>Ending.returned (Value.bool b)) ?_,B.out⟩
    rw [hst,hr,Bool.true_and]
    unfold tailB
    grind [cutV_ok]

/-! A box of the type of a row's elements is no part of the row. -/
section
variable {W W' : World} {v v1 : Value} {g : Nat} {o : Obj}
end

/-! Operations of a region that draws its order,one by one: a box,a literal,a row put behind a row. -/
section
variable {P : Program} {w W : World} {ops' : Array Oper} {o : Oper} {a : Act} {QE : Exit→Act→World→Prop} {Kc : Act→World→Prop}
theorem below_al (W : World) (ob : Obj) : Below W.heap.size W (W.alloc ob):=below_alloc (Below.refl _ _) ob
theorem al_blk (W : World) (ob : Obj) : (W.alloc ob).heap[W.heap.size]?=some ob:=by unfold World.alloc;exact Array.getElem?_push_size
theorem bxs {N : Tmp} {cs : Array Value} {t : TypeId} (hw : Region.wanted o (yielded ops' a.tmps)=true) (hd : o.dst=some N) (hrun : (execOp a.eval o).run P W=.ok (.value (.pointer (some ⟨W.heap.size,0,none⟩))) (W.alloc (.cells cs t (0,0))))
    (B : Aside0 (Below w.heap.size w W))
    (h : ∀ g w1,Below W.heap.size W w1→Aside0 (Below w.heap.size w w1)→Aside0 (w1.heap[g]?=some (.cells cs t (0,0)))→Aside0 (w.heap.size≤g)→Aside0 (g=W.heap.size)→Kc (a.put (some N) (.pointer (some ⟨g,0,none⟩))) w1) :
    if Region.wanted o (yielded ops' a.tmps)=true then Oper.wp P o a W Kc QE else Kc (a.put (some N) undef) W :=
  value_ hw hd hrun (h _ _ (below_al W _) ⟨below_step B.out (below_al W _)⟩ ⟨al_blk W _⟩ ⟨below_size B.out⟩ ⟨rfl⟩)
variable {α β : Type} {b : Nat} {xs : List α}
end

def spec_PartitionValid.T6 : Bool × List (List Nat × List Nat):=(true,[([],[]),([],[]),([1],[1]),([0,2],[0,2]),([3],[3]),([],[]),([],[]),([5,6],[5,6]),([7],[7]),([4,8],[4,8]),([9],[9]),([10],[10]),([10],[10]),([],[]),([13,11,9,0,1,2,3,4,5,6,7,8,9,10,11,13],[11,13]),([12,14,0,1,2,3,4,5,6,7,8,9,10,11,12,13,14],[12])])
def spec_PartitionValid.B6 : List Nat:=[0,0,2,7,15,0,0,96,224,511,1023,2047,2047,0,12287,32767]
theorem spec_PartitionValid.tab6 : rtab .any (opsOf Try.f65 6)=spec_PartitionValid.T6:=by kernel_rfl
theorem spec_PartitionValid.bits6 : waitsOk spec_PartitionValid.T6.2 spec_PartitionValid.B6=true:=by kernel_rfl
theorem spec_PartitionValid.M (A0 : Option Addr) (c0 : Nat) (l : List S30) (w : World) (hr0 : Kd.C k30 w A0 l.length l) (hn : l.length≤1000000) : Calls Try.prog 65 #[.slice A0 l.length c0] w fun e w'=>e=.returned (.bool (partB l))∧Below w.heap.size w w':=by
 have B:=Aside0.mk (Below.refl w.heap.size w)
 have hu:=Try.underlying30
 have HR0:=Aside0.mk hr0
 clear hr0
 obtain ⟨r,hr⟩ : ∃ r,partB l=r:=⟨_,rfl⟩
 rw [hr]
 unfold partB at hr
 by_cases h16 : 1≤l.length∧l.length≤6
 ·have c16 : l1B (l.length : Int) 1 6=true:=by unfold l1B;simp;omega
  obtain ⟨ad,hA,HA⟩:=IvE_of HR0.out (show 0 < l.length by omega)
  cases hA
  obtain ⟨ad2,hA,HZ⟩:=IvE_of HR0.out (show l.length - 1 < l.length by omega)
  cases hA
  rw [decide_eq_true h16,Bool.true_and,show (l.length : Int) - 1=((l.length - 1 : Nat) : Int) by omega] at hr
  replace HA:=IvE_0 HA
  rw [show ((0 : Nat) : Int)=0 from rfl] at HA
  obtain ⟨a,ha⟩ : ∃ a,rd_T30 l 0=a:=⟨_,rfl⟩
  obtain ⟨z,hz⟩ : ∃ z,rd_T30 l ((l.length - 1 : Nat) : Int)=z:=⟨_,rfl⟩
  rw [ha] at HA hr
  rw [hz] at HZ hr
  have HA:=Aside0.mk HA
  have HZ:=Aside0.mk HZ
  clear ha hz
  have m3:=eq_true (show (0 : Int) < (l.length : Int) by omega)
  have m4:=eq_true (show 0 < l.length by omega)
  obtain ⟨p0,p1⟩:=IvE.q HA B
  obtain ⟨r0,r1⟩:=IvE.q HZ B
  go_enter Try.func65,Try.ntmps65
  go_wp2_with (first
   | (go_at_call 90;with_reducible refine cl (spec_l1In.M (l.length : Int) 1 6 _) B fun w1 hb B=>?_;obtain ⟨p0,p1⟩:=IvE.q HA B;obtain ⟨r0,r1⟩:=IvE.q HZ B;clear hb)
   | (go_at_call 47;with_reducible refine cl (spec_IntervalValid.M a.f0 a.f1 _) B fun w2 hb B=>?_;obtain ⟨p0,p1⟩:=IvE.q HA B;obtain ⟨r0,r1⟩:=IvE.q HZ B;clear hb))
  all_goals try (go_ret;exact ⟨congrArg (fun b=>Ending.returned (Value.bool b)) (by grind),B.out⟩)
  have H:=Aside0.mk (show linkB (l.drop 0)=r by rw [List.drop_zero];grind)
  clear hr p0 p1 r0 r1 m3 m4
  go_loopg [3] (l.length + 1) (fun kx v3 wr=>∃ i : Nat,v3=.int .i64 ((i + 1 : Nat) : Int)∧i + 1≤l.length∧l.length < i + 1 + kx∧i < 100∧Aside0 (Below w.heap.size w wr)∧Aside0 (linkB (l.drop i)=r))
  case atStart=>exact ⟨0,rfl,by omega,by omega,by omega,B,H⟩
  case round =>
   clear H B
   obtain ⟨i,rfl,hj,hk,h100,B,H⟩:=hrel
   obtain ⟨j,hj1⟩ : ∃ j,i + 1=j:=⟨_,rfl⟩
   rw [hj1] at hj hk ⊢
   by_cases hlt : j < l.length
   ·obtain ⟨d,rfl⟩ : ∃ d,gk=d + 1:=⟨gk - 1,by omega⟩
    have cj : decide ((j : Int) < (l.length : Int))=true:=decide_eq_true (by omega)
    obtain ⟨x,hx⟩ : ∃ x,rd_T30 l (i : Int)=x:=⟨_,rfl⟩
    obtain ⟨y,hy⟩ : ∃ y,rd_T30 l (j : Int)=y:=⟨_,rfl⟩
    have HS:=Aside0.mk ((link_step (by omega) hx (show rd_T30 l ((i + 1 : Nat) : Int)=y by rw [hj1];exact hy)).symm.trans H.out)
    clear H
    have WI:=Aside0.mk (show (j : Int) - 1=(i : Int) by omega)
    have hij : i < l.length:=by omega
    have IW:=Aside0.mk (show wrap64 (i : Int)=(i : Int) by unfold wrap64;omega)
    have i1:=eq_true (show (i : Int) < (l.length : Int) by omega)
    have i2:=eq_true hij
    have j1:=eq_true (show (j : Int) < (l.length : Int) by omega)
    have j2:=eq_true hlt
    try go_wp2
    all_goals (
     refine rg (n:=16) (S:=fun W=>Kd.C k30 W (some ad) l.length l) (ds:=[]) #[false,false,false,false,false,false,false,false,false,false,false,false,false,false,false,false] (by kernel_rfl) rfl rfl (cb HR0 B) id B (fun w51 hb B hHeld=>?_)
     refine with_tabW spec_PartitionValid.tab6 spec_PartitionValid.bits6 (fun HT_ HW_=>?_)
     clear hb
     refine join_ 2 (bits 16 16383) (σ:=Nat) (fun g4=>[(41,.slice (some ad) l.length c0),(42,.int .i64 ((j : Int))),(43,.int .i64 ((i : Int))),(44,.pointer (some (ad.add (i * 2)))),(45,.agg #[.string x.f0,.string x.f1]),(46,.slice (some ad) l.length c0),(47,.int .i64 ((j : Int))),(48,.pointer (some (ad.add (j * 2)))),(49,.agg #[.string y.f0,.string y.f1]),(50,.tuple #[.agg #[.string (ijM x.f0 x.f1 y.f0 y.f1).1,.string (ijM x.f0 x.f1 y.f0 y.f1).2.1],.bool (ijM x.f0 x.f1 y.f0 y.f1).2.2]),(40,.tuple #[.agg #[.string (ijM x.f0 x.f1 y.f0 y.f1).1,.string (ijM x.f0 x.f1 y.f0 y.f1).2.1],.bool (ijM x.f0 x.f1 y.f0 y.f1).2.2]),(51,.agg #[.string (ijM x.f0 x.f1 y.f0 y.f1).1,.string (ijM x.f0 x.f1 y.f0 y.f1).2.1]),(52,.bool (ijM x.f0 x.f1 y.f0 y.f1).2.2),(4,.pointer (some ⟨g4,0,none⟩))]) (fun g4 W=>Aside0 (Below w.heap.size w W)∧Aside0 (W.heap[g4]?=some (.cells #[.string (⟨#[]⟩ : ByteArray),.string (⟨#[]⟩ : ByteArray)] 30 (0,0)))∧Aside0 (w.heap.size≤g4)) ?_ (fun J=>?_)
     rotate_left
     ·refine pvq 0 (some 41) (bits 16 1) HT_ ?_
      refine pvq 1 (some 42) (bits 16 3) HT_ ?_
      refine pu (i:=2) (N:=some 43) (v:=.int .i64 ((i : Int))) (bits 16 7) rfl rfl (any_of HT_.out (by kernel_rfl)) (fun _ _ _ h=>h) (by kernel_rfl) ?_ ?_;(intro w';go_simp;rw [WI.out];exact (i64_w _).trans IW.out)
      refine pvq 3 (some 44) (bits 16 15) HT_ ?_
      refine tvq 4 (some 45) (bits 16 31) HT_ HW_ rfl hHeld (by intro w' hS;have s0:=hS;obtain ⟨_,hA,q0,q1⟩:=at_T30 s0 (i : Int) (by omega) (by omega);cases hA;rw [Int.toNat_natCast] at q0 q1;rw [hx] at q0 q1;go_simp;with_reducible rfl) ?_
      refine pvq 5 (some 46) (bits 16 63) HT_ ?_
      refine pvq 6 (some 47) (bits 16 127) HT_ ?_
      refine pvq 7 (some 48) (bits 16 255) HT_ ?_
      refine tvq 8 (some 49) (bits 16 511) HT_ HW_ rfl hHeld (by intro w' hS;have s0:=hS;obtain ⟨_,hA,q0,q1⟩:=at_T30 s0 (j : Int) (by omega) (by omega);cases hA;rw [Int.toNat_natCast] at q0 q1;rw [hy] at q0 q1;go_simp;with_reducible rfl) ?_
      refine nmq ?_
      refine two_ (i:=9) (j:=13) (Ni:=some 50) (Nj:=some 4) (bits 16 1023) (bits 16 8703) rfl rfl rfl rfl (two_of HT_.out (by kernel_rfl)) (by decide) (by decide) (fun K hK=>?_) (fun K hK=>?_)
      ·refine gsq Try.func84 #[.agg #[.string x.f0,.string x.f1],.agg #[.string y.f0,.string y.f1]] ?_
       with_reducible refine cl (spec_IntervalJoin.M x.f0 x.f1 y.f0 y.f1 _) B fun w52 hb B=>?_
       clear hb
       refine ⟨_,rfl,?_⟩
       refine hK.out _ _ (cb HR0 B) (fun hHeld=>?_)
       clear hK K
       refine npq (some 50) ?_
       refine pvq 10 (some 40) (bits 16 2047) HT_ ?_
       refine pvq 11 (some 51) (bits 16 4095) HT_ ?_
       refine pvq 12 (some 52) (bits 16 8191) HT_ ?_
       refine nmq ?_
       refine one_ (i:=13) (N:=some 4) (bits 16 16383) rfl rfl (one_of HT_.out (by kernel_rfl)) (by decide) (fun K hK=>?_)
       refine bxs (cs:=#[.string (⟨#[]⟩ : ByteArray),.string (⟨#[]⟩ : ByteArray)]) (t:=30) (by rfl) rfl ?hr B (fun g4 w53 hb B F4 L4 E4=>?_)
       (case hr=>go_simp;first | done | rfl)
       clear hb E4
       refine hK.out _ _ (cb HR0 B) (fun hHeld=>?_)
       clear hK K
       refine npq (some 4) ?_
       refine norm_ (a':=_) ?_ (J g4 _ ⟨B,F4,L4⟩)
       simp only [putAll,Act.put,za,zb,zc]
       try rfl
      ·refine bxs (cs:=#[.string (⟨#[]⟩ : ByteArray),.string (⟨#[]⟩ : ByteArray)]) (t:=30) (by rfl) rfl ?hr B (fun g4 w52 hb B F4 L4 E4=>?_)
       (case hr=>go_simp;first | done | rfl)
       clear hb E4
       refine hK.out _ _ (cb HR0 B) (fun hHeld=>?_)
       clear hK K
       refine npq (some 4) ?_
       refine one_ (i:=9) (N:=some 50) (bits 16 9215) rfl rfl (one_of HT_.out (by kernel_rfl)) (by decide) (fun K hK=>?_)
       refine gsq Try.func84 #[.agg #[.string x.f0,.string x.f1],.agg #[.string y.f0,.string y.f1]] ?_
       with_reducible refine cl (spec_IntervalJoin.M x.f0 x.f1 y.f0 y.f1 _) B fun w53 hb B=>?_
       replace F4:=bn F4 hb
       clear hb
       refine ⟨_,rfl,?_⟩
       refine hK.out _ _ (cb HR0 B) (fun hHeld=>?_)
       clear hK K
       refine npq (some 50) ?_
       refine pvq 10 (some 40) (bits 16 10239) HT_ ?_
       refine pvq 11 (some 51) (bits 16 12287) HT_ ?_
       refine pvq 12 (some 52) (bits 16 16383) HT_ ?_
       refine nmq ?_
       refine norm_ (a':=_) ?_ (J g4 _ ⟨B,F4,L4⟩)
       simp only [putAll,Act.put,za,zb,zc]
       try rfl
     rintro g4 w54 ⟨B,F4,L4⟩
     refine norm_ (a':=?_) ?_ ?_
     rotate_left
     ·simp only [putAll,Act.put,za,zb,zc]
      rfl
     refine one_ (i:=14) (N:=none) (bits 16 32767) rfl rfl (one_of HT_.out (by kernel_rfl)) (by decide) (fun K hK=>?_)
     obtain ⟨y0,y1,z0,z1⟩:=cz2 F4
     refine sxs (g:=g4) 0 [.string (ijM x.f0 x.f1 y.f0 y.f1).1,.string (ijM x.f0 x.f1 y.f0 y.f1).2.1] [.string (ijM x.f0 x.f1 y.f0 y.f1).1,.string (ijM x.f0 x.f1 y.f0 y.f1).2.1] (by rfl) rfl ?hr B F4 L4 rfl (Nat.le_of_ble_eq_true rfl) (fun w55 hk B G=>?_)
     (case hr=>go_simp;first | done | rfl)
     replace F4:=G
     clear hk y0 z0 y1 z1
     refine hK.out _ _ (cb HR0 B) (fun hHeld=>?_)
     clear hK K
     refine pvq 15 (some 5) (bits 16 65535) HT_ ?_
     refine nmq ?_
     refine done_ (done_of HT_.out (by kernel_rfl)) ?_
     try go_wp2
     all_goals first
      | (go_roundg d;(case measure=>omega);(case rel=>exact ⟨i + 1,congrArg (Value.int .i64) (by omega),by omega,by omega,by omega,B,⟨andT HS.out (by simp_all [ijM_ok])⟩⟩))
      | (go_ret;exact ⟨andF HS.out (by simp_all [ijM_ok]),B.out⟩))
    all_goals try go_wp2
   ·have cj : decide ((j : Int) < (l.length : Int))=false:=decide_eq_false (by omega)
    have hr : r=true:=by rw [← H.out];exact link_end (by omega)
    subst hr
    go_wp2
    go_ret
    exact ⟨rfl,B.out⟩
 ·have c16 : l1B (l.length : Int) 1 6=false:=by unfold l1B;simp;omega
  have hr : r=false:=by rw [← hr,decide_eq_false h16];rfl
  subst hr
  go_enter Try.func65,Try.ntmps65
  go_wp2_with (first
   | (go_at_call 90;with_reducible refine cl (spec_l1In.M (l.length : Int) 1 6 _) B fun w1 hb B=>?_;clear hb))
  all_goals go_ret
  all_goals exact ⟨rfl,B.out⟩


theorem spec_UniteStates.M (A0 : Option Addr) (c0 : Nat) (l : List S34) (w : World) (hr0 : Kd.C k34 w A0 l.length l) (hn : l.length≤1048576) : Calls Try.prog 19 #[.slice A0 l.length c0] w fun e w'=>∃ v0,e=.returned (.tuple #[v0,.bool (unM l).2])∧Kd.R k61 61 w' w.heap.size (fun _=>True) v0 (unM l).1∧Below w.heap.size w w':=by
 have B:=Aside0.mk (Below.refl w.heap.size w)
 have hu:=Try.underlying34
 have hu2:=Try.underlying30
 have hu3:=Try.underlying61
 have HR0:=Aside0.mk hr0
 clear hr0
 obtain ⟨r,hr⟩ : ∃ r,unM l=r:=⟨_,rfl⟩
 rw [hr]
 go_enter Try.func19,Try.ntmps19
 go_wp2_with (first
  | ((with_reducible refine gate_dst (N:=7) rfl ?_);refine lt k30 30 ?hg (N:=7) ?hd ([] : List S30) [] ?hr (Reps.none _ _) (by simp) B ?_;(case hd | hg=>rfl);(case hr=>go_simp;first | done | rfl);intro z7 hz7 AL7 kL7 w1 hb B RL7 QL7;clear hb QL7)
  | ((with_reducible refine gate_dst (N:=8) rfl ?_);refine lt k61 61 ?hg (N:=8) ?hd ([] : List S61) [] ?hr (Reps.none _ _) (by simp) B ?_;(case hd | hg=>rfl);(case hr=>go_simp;first | done | rfl);intro z8 hz8 AL8 kL8 w2 hb B RL8 QL8;replace RL7:=rn RL7 hb;clear hb QL8))
 obtain ⟨q,hq⟩ : ∃ q,l.all stS=q:=⟨_,rfl⟩
 obtain ⟨X,hX⟩ : ∃ X,spansOf l=X:=⟨_,rfl⟩
 obtain ⟨Y,hY⟩ : ∃ Y,pairsOf l=Y:=⟨_,rfl⟩
 have H:=Aside0.mk (show (l.drop 0).all stS=q from hq)
 have HX:=Aside0.mk (show ([] : List S30) ++ spansOf (l.drop 0)=X from hX)
 have HY:=Aside0.mk (show ([] : List S61) ++ pairsOf (l.drop 0)=Y from hY)
 have HM:=Aside0.mk (show r=if decide (l.length≤6) && (q && (partB X && prB Y)) then (Y,true) else ([],false) by rw [← hr];unfold unM uniB;rw [hq,hX,hY])
 clear hq hX hY hr
 subst hz7
 subst hz8
 go_loopg [4,5,6] (l.length + 1) (fun kx v4 v5 v6 wr=>∃ (j : Nat) (xs : List S30) (ys : List S61),v6=.int .i64 (j : Int)∧j≤l.length∧l.length < j + kx∧j≤6∧xs.length≤j∧ys.length≤48 * j∧Aside0 (Below w.heap.size w wr)∧Aside0 (Ow k30 30 wr w.heap.size v4 xs)∧Aside0 (Ow k61 61 wr w.heap.size v5 ys)∧Aside0 ((l.drop j).all stS=q)∧Aside0 (xs ++ spansOf (l.drop j)=X)∧Aside0 (ys ++ pairsOf (l.drop j)=Y))
 case atStart=>exact ⟨0,[],[],rfl,by omega,by omega,by omega,by simp,by simp,B,RL7,RL8,H,HX,HY⟩
 case round =>
  clear H HX HY B RL7 RL8
  obtain ⟨j,xs,ys,rfl,hj,hk,hj6,hxl,hyl,B,Rpa,Rpb,H,HX,HY⟩:=hrel
  obtain ⟨A4,k4,rfl⟩:=Kd.R_slice Rpa.out
  obtain ⟨A5,k5,rfl⟩:=Kd.R_slice Rpb.out
  by_cases hlt : j < l.length
  ·obtain ⟨y,hy⟩ : ∃ y,rd_T34 l (j : Int)=y:=⟨_,rfl⟩
   replace H:=Aside0.mk (show (stB y.f0.f0 y.f0.f1 y.f1 y.f2 y.f3 y.f4 && (l.drop (j + 1)).all stS)=q by rw [← H.out,st_drop hlt,hy];rfl)
   replace HX:=Aside0.mk (show xs ++ (y.f0 :: spansOf (l.drop (j + 1)))=X by rw [← HX.out,st_drop hlt,hy];rfl)
   replace HY:=Aside0.mk (show ys ++ (y.f1 ++ pairsOf (l.drop (j + 1)))=Y by rw [← HY.out,st_drop hlt,hy];rfl)
   have HL48:=Aside0.mk (stS_len (x:=y))
   obtain ⟨d,rfl⟩ : ∃ d,gk=d + 1:=⟨gk - 1,by omega⟩
   have cj : decide ((j : Int) < (l.length : Int))=true:=decide_eq_true (by omega)
   have j1:=eq_true (show (j : Int) < (l.length : Int) by omega)
   have j2:=eq_true hlt
   obtain ⟨ad,AP0,cP0,AS0,cS0,hA,E0,HP0,HS0⟩:=StE_of HR0.out hlt
   cases hA
   rw [hy] at E0 HP0 HS0
   have E0:=Aside0.mk E0
   have HP0:=Aside0.mk HP0
   have HS0:=Aside0.mk HS0
   clear hy
   obtain ⟨q0,q1,q2,q3,q4,q5⟩:=StE.q E0 B
   go_wp2_with (first
    | (go_at_call 12;with_reducible refine cl (spec_StateValid.M y.f0.f0 y.f0.f1 _ _ y.f1 _ _ y.f2 y.f3 y.f4 _ (cb HP0 B) (cb HS0 B)) B fun w101 hb B=>?_;replace Rpa:=rn Rpa hb;replace Rpb:=rn Rpb hb;obtain ⟨q0,q1,q2,q3,q4,q5⟩:=StE.q E0 B;clear hb)
    | ((with_reducible refine gate_dst (N:=32) rfl ?_);refine lt k30 30 ?hg (N:=32) ?hd ([⟨y.f0.f0,y.f0.f1⟩] : List S30) [.string y.f0.f0,.string y.f0.f1] ?hr (Reps.c2 (k30_mkM _ _ _ ⟨y.f0.f0,y.f0.f1⟩) (Reps.none _ _)) (by simp) B ?_;(case hd | hg=>rfl);(case hr=>go_simp;first | done | rfl);intro z32 hz32 AL32 kL32 w102 hb B RL32 QL32;replace Rpa:=rn Rpa hb;replace Rpb:=rn Rpb hb;obtain ⟨q0,q1,q2,q3,q4,q5⟩:=StE.q E0 B;clear hb QL32)
    | ((with_reducible refine gate_builtin (b:=.append) (xs:=#[.tmp 26,.tmp 32]) rfl ?_);at_builtin;refine apx k30 30 rfl (.tmp 26) (.tmp 32) 85 (.agg #[.string (⟨#[]⟩ : ByteArray),.string (⟨#[]⟩ : ByteArray)]) 32 rfl Try.underlying85 info30 rfl (by decide) (by omega) rfl rfl Rpa (rc RL32) (fun x cs h=>by rw [k30_open h];exact k30_mkM _ _ _ x) (by rw [← hz32];simp only [List.length_cons,List.length_nil];omega) B ?_;intro z33 hz33 AL33 kL33 w103 hg B RL33 hat;replace Rpb:=rga Rpb rfl hg (dty Rpa Rpb (by decide));obtain ⟨q0,q1,q2,q3,q4,q5⟩:=StE.q E0 B;clear hg hat)
    | ((with_reducible refine gate_builtin (b:=.append) (xs:=#[.tmp 34,.tmp 39]) rfl ?_);at_builtin;refine apx k61 61 rfl (.tmp 34) (.tmp 39) 31 (.agg #[.string (⟨#[]⟩ : ByteArray),.int .i64 (0)]) 24 rfl Try.underlying31 info61 rfl (by decide) (by omega) rfl rfl Rpb (cb HP0 B) (fun x cs h=>by rw [k61_open h];exact k61_mkM _ _ _ x) (by have:=HL48.out (by assumption);omega) B ?_;intro z40 hz40 AL40 kL40 w104 hg B RL40 hat;replace RL33:=rga RL33 rfl hg (dty Rpb RL33 (by decide));obtain ⟨q0,q1,q2,q3,q4,q5⟩:=StE.q E0 B;clear hg hat)
    | ((with_reducible refine gate_dst (N:=25) rfl ?_);refine lt k61 61 ?hg (N:=25) ?hd ([] : List S61) [] ?hr (Reps.none _ _) (by simp) B ?_;(case hd | hg=>rfl);(case hr=>go_simp;first | done | rfl);intro z25 hz25 AL25 kL25 w102 hb B RL25 QL25;replace Rpa:=rn Rpa hb;replace Rpb:=rn Rpb hb;obtain ⟨q0,q1,q2,q3,q4,q5⟩:=StE.q E0 B;clear hb QL25))
   all_goals first
    | (have hs : stB y.f0.f0 y.f0.f1 y.f1 y.f2 y.f3 y.f4=true:=(by assumption);go_roundg d;(case measure=>omega);(case rel=>exact ⟨j + 1,z33,z40,congrArg (Value.int .i64) (Int.natCast_succ _).symm,by omega,by omega,by omega,(by rw [← hz33,← hz32];simp only [List.length_append,List.length_cons,List.length_nil];omega),(by have:=HL48.out hs;rw [← hz40];simp only [List.length_append];omega),B,RL33,RL40,⟨by rw [← H.out,hs,Bool.true_and]⟩,⟨by rw [← hz33,← hz32,List.append_assoc];exact HX.out⟩,⟨by rw [← hz40,List.append_assoc];exact HY.out⟩⟩))
    | (have hr : r=([],false):=(by rw [HM.out,if_neg (by have h1:=H.out;grind)]);subst hr;subst hz25;go_ret2;exact ⟨_,rfl,RL25.out,B.out⟩)
  ·have cj : decide ((j : Int) < (l.length : Int))=false:=decide_eq_false (by omega)
   have hq : q=true:=by rw [← H.out,List.drop_of_length_le (by omega)];rfl
   have hx:=HX.out
   have hy:=HY.out
   rw [List.drop_of_length_le (by omega),show spansOf []=[] from rfl,List.append_nil] at hx
   rw [List.drop_of_length_le (by omega),show pairsOf []=[] from rfl,List.append_nil] at hy
   subst hx
   subst hy
   have hm:=HM.out
   rw [hq,Bool.true_and,decide_eq_true (show l.length≤6 by omega),Bool.true_and] at hm
   clear H HX HY HM hq
   have HM:=Aside0.mk hm
   clear hm
   go_wp2_with (first
    | (go_at_call 65;with_reducible refine cl (spec_PartitionValid.M _ _ xs _ (rc Rpa) (by omega)) B fun w301 hb B=>?_;replace Rpa:=rn Rpa hb;replace Rpb:=rn Rpb hb;clear hb)
    | (go_at_call 48;with_reducible refine cl (spec_PairsValid.M _ _ ys _ (rc Rpb)) B fun w302 hb B=>?_;replace Rpa:=rn Rpa hb;replace Rpb:=rn Rpb hb;clear hb)
    | ((with_reducible refine gate_dst (N:=49) rfl ?_);refine lt k61 61 ?hg (N:=49) ?hd ([] : List S61) [] ?hr (Reps.none _ _) (by simp) B ?_;(case hd | hg=>rfl);(case hr=>go_simp;first | done | rfl);intro z49 hz49 AL49 kL49 w303 hb B RL49 QL49;replace Rpa:=rn Rpa hb;replace Rpb:=rn Rpb hb;clear hb QL49))
   all_goals first
    | (have hr : r=(ys,true):=(by rw [HM.out,if_pos (by grind)]);subst hr;go_ret2;exact ⟨_,rfl,Rpb.out,B.out⟩)
    | (have hr : r=([],false):=(by rw [HM.out,if_neg (by grind)]);subst hr;subst hz49;go_ret2;exact ⟨_,rfl,RL49.out,B.out⟩)

/-! United pairs are in order. -/
theorem stS_parts {x : S34} (h : stS x=true) : ivB x.f0.f0 x.f0.f1=true∧prB x.f1=true∧∀ p ∈ x.f1,insB x.f0.f0 x.f0.f1 p.f0=true:=by
  unfold stS stB at h
  simp only [Bool.and_eq_true] at h
  exact ⟨h.1,h.2.1,fun p hp=>List.all_eq_true.mp h.2.2.2.1 p hp⟩
theorem ij_parts {a b c d : ByteArray} (h : ijB a b c d=true) : b.toList ≠ ([] : List UInt8)∧b=c:=by
  unfold ijB at h
  simp only [Bool.and_eq_true,Bool.not_eq_true',decide_eq_false_iff_not,decide_eq_true_eq] at h
  exact ⟨h.2.2.1,h.2.2.2⟩
/-- all that comes behind lies at or above the low end -/
theorem link_low : ∀ (l : List S34) (x : S34),(∀ y ∈ x :: l,stS y=true)→linkB (spansOf (x :: l))=true→∀ p ∈ pairsOf (x :: l),ltB p.f0 x.f0.f0=false:=by
  intro l
  induction l with
  | nil =>
    intro x hs hl p hp
    rw [pairs_cons,List.mem_append] at hp
    rcases hp with hp | hp
    · exact ins_ge ((stS_parts (hs x (List.mem_cons_self ..))).2.2 p hp)
    · cases hp
  | cons y r ih =>
    intro x hs hl p hp
    rw [pairs_cons,List.mem_append] at hp
    rcases hp with hp | hp
    · exact ins_ge ((stS_parts (hs x (List.mem_cons_self ..))).2.2 p hp)
    · have hl2 : (ijB x.f0.f0 x.f0.f1 y.f0.f0 y.f0.f1 && linkB (spansOf (y :: r)))=true:=hl
      rw [Bool.and_eq_true] at hl2
      have h1:=ih y (fun z hz=>hs z (List.mem_cons_of_mem _ hz)) hl2.2 p hp
      have h2:=ij_parts hl2.1
      have h3 : ivB x.f0.f0 x.f0.f1=true:=(stS_parts (hs x (List.mem_cons_self ..))).1
      cases hc : ltB p.f0 x.f0.f0 with
      | false=>rfl
      | true =>
        have h4 : ltB p.f0 x.f0.f1=true:=iv_less h3 h2.1 _ hc
        rw [h2.2,h1] at h4
        cases h4
theorem uni_ord : ∀ l : List S34,(∀ y ∈ l,stS y=true)→linkB (spansOf l)=true→(∀ p ∈ pairsOf l,okP p=true)∧(pairsOf l).Pairwise (fun a b=>ltB a.f0 b.f0=true):=by
  intro l
  induction l with
  | nil=>intro _ _;exact ⟨fun p hp=>(nomatch hp),List.Pairwise.nil⟩
  | cons x r ih =>
    intro hs hl
    have hx:=stS_parts (hs x (List.mem_cons_self ..))
    have hp:=prB_parts hx.2.1
    have hr : linkB (spansOf r)=true:=by
      cases r with
      | nil=>rfl
      | cons y r =>
        have hl2 : (ijB x.f0.f0 x.f0.f1 y.f0.f0 y.f0.f1 && linkB (spansOf (y :: r)))=true:=hl
        rw [Bool.and_eq_true] at hl2
        exact hl2.2
    have hi:=ih (fun z hz=>hs z (List.mem_cons_of_mem _ hz)) hr
    rw [pairs_cons]
    refine ⟨fun p hm=>(List.mem_append.mp hm).elim (hp.2.1 p) (hi.1 p),List.pairwise_append.mpr ⟨hp.2.2,hi.2,fun a ha b hb=>?_⟩⟩
    cases r with
    | nil=>cases hb
    | cons y r =>
      have hl2 : (ijB x.f0.f0 x.f0.f1 y.f0.f0 y.f0.f1 && linkB (spansOf (y :: r)))=true:=hl
      rw [Bool.and_eq_true] at hl2
      have h2:=ij_parts hl2.1
      have h1:=link_low r y (fun z hz=>hs z (List.mem_cons_of_mem _ hz)) hl2.2 b hb
      have h3 : ltB a.f0 x.f0.f1=true:=ins_lt h2.1 (hx.2.2 a ha)
      cases hc : ltB a.f0 b.f0 with
      | true=>rfl
      | false =>
        have h4:=ltB_le hc h3
        rw [h2.2,h1] at h4
        cases h4
theorem part_link {l : List S30} (h : partB l=true) : linkB l=true:=by
  unfold partB at h
  simp only [Bool.and_eq_true] at h
  exact h.2.2.2.2
theorem uni_len {l : List S34} (hs : l.all stS=true) (hp : partB (spansOf l)=true) : prB (pairsOf l)=decide ((pairsOf l).length≤48):=by
  have h:=uni_ord l (fun y hy=>List.all_eq_true.mp hs y hy) (part_link hp)
  by_cases hl : (pairsOf l).length≤48
  · rw [prB_of hl h.1 h.2,decide_eq_true hl]
  · rw [decide_eq_false hl]
    cases hb : prB (pairsOf l) with
    | false=>rfl
    | true=>exact absurd (prB_len hb) hl
theorem unM_len (l : List S34) : unM l=if decide (l.length≤6) && (l.all stS && (partB (spansOf l) && decide ((pairsOf l).length≤48))) then (pairsOf l,true) else ([],false):=by
  unfold unM uniB
  cases hs : l.all stS with
  | false=>rfl
  | true =>
    cases hp : partB (spansOf l) with
    | false=>rfl
    | true=>rw [uni_len hs hp]
theorem nnB {b : Bool} (h : (!b)=false) : b=true:=by simpa using h
theorem nnT {b : Bool} (h : (!b)=true) : b=false:=by simpa using h

theorem impl_valueValid.M (n : Int) (w : World) : Calls Try.prog 94 #[.int .i64 n] w fun e w'=>e=.returned (.bool (l1B n 0 999))∧Below w.heap.size w w':=by
  go_enter Try.func94,Try.ntmps94
  go_wp2
  all_goals go_ret
  all_goals (refine ⟨?_,Below.refl _ _⟩;unfold l1B;simp_all;try omega)

def impl_PairsValid.T8 : Bool × List (List Nat × List Nat):=(true,[([],[]),([0],[0]),([1],[1]),([2],[2]),([2],[2]),([4,2],[2,4]),([3,5,2],[2,3,5]),([6,2],[2,6]),([7,2],[2,7]),([2],[2]),([9,2],[2,9]),([8,10,2],[2,8,10]),([2,11],[2,11])])
def impl_PairsValid.B8 : List Nat:=[0,1,3,7,7,23,63,127,255,7,519,2047,4095]
theorem impl_PairsValid.tab8 : rtab .any (opsOf Try.f56 8)=impl_PairsValid.T8:=by kernel_rfl
theorem impl_PairsValid.bits8 : waitsOk impl_PairsValid.T8.2 impl_PairsValid.B8=true:=by kernel_rfl
theorem impl_PairsValid.M (A0 : Option Addr) (c0 : Nat) (l : List S61) (w : World) (hr0 : Kd.C k61 w A0 l.length l) : Calls Try.prog 56 #[.slice A0 l.length c0] w fun e w'=>e=.returned (.bool (prB l))∧Below w.heap.size w w':=by
 have hu:=Try.underlying61
 have B:=Aside0.mk (Below.refl w.heap.size w)
 have HR0:=Aside0.mk hr0
 clear hr0
 obtain ⟨r,hr⟩ : ∃ r,prB l=r:=⟨_,rfl⟩
 rw [hr]
 unfold prB at hr
 by_cases hl : l.length≤48
 ·have H:=Aside0.mk (show prJ l 0=r by unfold prJ prP;simpa [hl] using hr)
  have cl0 : decide (48 < (l.length : Int))=false:=decide_eq_false (by omega)
  have L48:=Aside0.mk (show l.length≤4611686018427387904 by omega)
  clear hl hr
  go_enter Try.func56,Try.ntmps56
  go_wp2
  go_loopg [10] (l.length + 1) (fun kx v10 wr=>∃ j : Nat,v10=.int .i64 (j : Int)∧j≤l.length∧l.length < j + kx∧Aside0 (Below w.heap.size w wr)∧Aside0 (prJ l j=r))
  case atStart=>exact ⟨0,rfl,by omega,by omega,B,H⟩
  case round =>
   clear H B
   obtain ⟨j,rfl,hj,hk,B,H⟩:=hrel
   by_cases hlt : j < l.length
   ·have HS:=Aside0.mk ((prJ_step hlt).symm.trans H.out)
    clear H
    obtain ⟨d,rfl⟩ : ∃ d,gk=d + 1:=⟨gk - 1,by omega⟩
    have h48:=L48.out
    have cj : decide ((j : Int) < (l.length : Int))=true:=decide_eq_true (by omega)
    obtain ⟨ad,hA,y0,y1⟩:=at_T61 (cb HR0 B) (j : Int) (by omega) (by omega)
    cases hA
    rw [Int.toNat_natCast] at y0 y1
    have j1:=eq_true (show (j : Int) < (l.length : Int) by omega)
    have j2:=eq_true hlt
    generalize hy : rd_T61 l (j : Int)=y at *
    go_wp2_with (first
     | ((with_reducible refine gate_dst (N:=4) rfl ?_);refine bxq 4 #[.string (⟨#[]⟩ : ByteArray),.int .i64 (0)] 61 B fun g4 w1 hb B F4 L4 E4=>?_;obtain ⟨c4_0,c4_1⟩:=cs2 F4;clear hb E4)
     | ((with_reducible refine gate_store (t:=61) (p:=4) rfl ?_);obtain ⟨y0,y1,z0,z1⟩:=cz2 F4;refine sxq 61 61 4 0 [.string y.f0,.int .i64 (y.f1)] [.string y.f0,.int .i64 (y.f1)] B F4 L4 fun w2 hk B G=>?_;replace F4:=G;clear c4_0 c4_1;obtain ⟨c4_0,c4_1⟩:=cs2 F4;clear hk y0 z0 y1 z1)
     | (go_at_call 80;with_reducible refine cl (impl_KeyValid.M y.f0 _) B fun w3 hb B=>?_;replace F4:=bn F4 hb;clear c4_0 c4_1;obtain ⟨c4_0,c4_1⟩:=cs2 F4;clear hb)
     | (go_at_call 94;with_reducible refine cl (impl_valueValid.M y.f1 _) B fun w4 hb B=>?_;replace F4:=bn F4 hb;clear c4_0 c4_1;obtain ⟨c4_0,c4_1⟩:=cs2 F4;clear hb))
    all_goals try (go_ret;exact ⟨andF HS.out (by grind [l1B,ltB]),B.out⟩)
    all_goals (
     refine rg (n:=13) (S:=fun W=>Kd.C k61 W (some ad) l.length l∧W.heap[g4]?=some (.cells #[.string y.f0,.int .i64 (y.f1)] 61 (0,0))) (ds:=[]) #[false,false,false,false,false,false,false,false,false,false,false,false,false] (by kernel_rfl) rfl rfl ⟨(cb HR0 B),F4.out⟩ id B (fun w5 hb B hHeld=>?_)
     refine with_tabW impl_PairsValid.tab8 impl_PairsValid.bits8 (fun HT_ HW_=>?_)
     replace F4:=bn F4 hb
     clear hb
     refine pvq 0 (some 25) (bits 13 1) HT_ ?_
     by_cases hz : j=0
     ·rw [if_pos hz] at HS
      have dz : decide (0 < (j : Int))=false:=decide_eq_false (by omega)
      have dz2 : decide (0 < j)=false:=decide_eq_false (by omega)
      clear hz
      refine pvq 1 (some 26) (bits 13 3) HT_ ?_
      refine pvq 2 (some 27) (bits 13 7) HT_ ?_
      refine svq 3 (some 28) (bits 13 15) HT_ ?_
      refine svq 4 (some 29) (bits 13 31) HT_ ?_
      refine svq 5 (some 30) (bits 13 63) HT_ ?_
      refine svq 6 (some 31) (bits 13 127) HT_ ?_
      refine svq 7 (some 32) (bits 13 255) HT_ ?_
      refine svq 8 (some 33) (bits 13 511) HT_ ?_
      refine svq 9 (some 34) (bits 13 1023) HT_ ?_
      refine svq 10 (some 35) (bits 13 2047) HT_ ?_
      refine svq 11 (some 36) (bits 13 4095) HT_ ?_
      refine pvq 12 (some 37) (bits 13 8191) HT_ ?_
      refine nmq ?_
      refine done_ (done_of HT_.out (by kernel_rfl)) ?_
      try go_wp2
      all_goals first
       | (go_roundg d;(case measure=>omega);(case rel=>exact ⟨j + 1,congrArg (Value.int .i64) (Int.natCast_succ _).symm,by omega,by omega,B,⟨andT HS.out (by grind [l1B,ltB])⟩⟩))
       | (go_ret;exact ⟨andF HS.out (by grind [l1B,ltB]),B.out⟩)
     ·rw [if_neg hz] at HS
      have dz : decide (0 < (j : Int))=true:=decide_eq_true (by omega)
      have dz2 : decide (0 < j)=true:=decide_eq_true (by omega)
      obtain ⟨i,hi⟩ : ∃ i,j - 1=i:=⟨_,rfl⟩
      rw [hi] at HS
      have WI:=Aside0.mk (show (j : Int) - 1=(i : Int) by omega)
      have hij : i < l.length:=by omega
      have IW:=Aside0.mk (show wrap64 (i : Int)=(i : Int) by unfold wrap64;omega)
      have i1:=eq_true (show (i : Int) < (l.length : Int) by omega)
      have i2:=eq_true hij
      generalize hx : rd_T61 l (i : Int)=x at HS
      clear hz hi
      refine pvq 1 (some 26) (bits 13 3) HT_ ?_
      refine pvq 2 (some 27) (bits 13 7) HT_ ?_
      refine pvq 3 (some 28) (bits 13 15) HT_ ?_
      refine pvq 4 (some 29) (bits 13 31) HT_ ?_
      refine pu (i:=5) (N:=some 30) (v:=.int .i64 ((i : Int))) (bits 13 63) rfl rfl (any_of HT_.out (by kernel_rfl)) (fun _ _ _ h=>h) (by kernel_rfl) ?_ ?_;(intro w';go_simp;rw [WI.out];exact (i64_w _).trans IW.out)
      refine pvq 6 (some 31) (bits 13 127) HT_ ?_
      refine pvq 7 (some 32) (bits 13 255) HT_ ?_
      refine tvq 8 (some 33) (bits 13 511) HT_ HW_ rfl hHeld (by intro w' hS;obtain ⟨s0,s1⟩:=hS;obtain ⟨_,hA,q0,q1⟩:=at_T61 s0 (i : Int) (by omega) (by omega);cases hA;rw [Int.toNat_natCast] at q0 q1;rw [hx] at q0 q1;go_simp;with_reducible rfl) ?_
      refine pvq 9 (some 34) (bits 13 1023) HT_ ?_
      refine tvq 10 (some 35) (bits 13 2047) HT_ HW_ rfl hHeld (by intro w' hS;obtain ⟨s0,s1⟩:=hS;obtain ⟨q0,q1⟩:=cs2 (Aside0.mk s1);go_simp;with_reducible rfl) ?_
      refine pvq 11 (some 36) (bits 13 4095) HT_ ?_
      refine pvq 12 (some 37) (bits 13 8191) HT_ ?_
      refine nmq ?_
      refine done_ (done_of HT_.out (by kernel_rfl)) ?_
      try go_wp2
      all_goals first
       | (go_roundg d;(case measure=>omega);(case rel=>exact ⟨j + 1,congrArg (Value.int .i64) (Int.natCast_succ _).symm,by omega,by omega,B,⟨andT HS.out (by grind [l1B,ltB])⟩⟩))
       | (go_ret;exact ⟨andF HS.out (by grind [l1B,ltB]),B.out⟩))
    all_goals try go_wp2
    all_goals try (go_ret;exact ⟨andF HS.out (by grind [l1B,ltB]),B.out⟩)
   ·have cj : decide ((j : Int) < (l.length : Int))=false:=decide_eq_false (by omega)
    have hr : r=true:=by rw [← H.out];exact prJ_end hlt
    subst hr
    go_wp2
    go_ret
    exact ⟨rfl,B.out⟩
 ·have cl0 : decide (48 < (l.length : Int))=true:=decide_eq_true (by omega)
  have hr : r=false:=by rw [← hr,decide_eq_false hl];rfl
  subst hr
  go_enter Try.func56,Try.ntmps56
  go_wp2
  go_ret
  exact ⟨rfl,B.out⟩

theorem impl_seqValid.M (n : Int) (w : World) : Calls Try.prog 95 #[.int .i64 n] w fun e w'=>e=.returned (.bool (l1B n 1 999))∧Below w.heap.size w w':=by
  go_enter Try.func95,Try.ntmps95
  go_wp2
  all_goals go_ret
  all_goals (refine ⟨?_,Below.refl _ _⟩;unfold l1B;simp_all;try omega)

def impl_SessionsValid.T6 : Bool × List (List Nat × List Nat):=(true,[([],[]),([0],[0]),([1],[1]),([2],[2]),([2],[2]),([4,2],[2,4]),([3,5,2],[2,3,5]),([6,2],[2,6]),([7,2],[2,7]),([2],[2]),([9,2],[2,9]),([8,10,2],[2,8,10]),([2,11],[2,11])])
def impl_SessionsValid.B6 : List Nat:=[0,1,3,7,7,23,63,127,255,7,519,2047,4095]
theorem impl_SessionsValid.tab6 : rtab .any (opsOf Try.f57 6)=impl_SessionsValid.T6:=by kernel_rfl
theorem impl_SessionsValid.bits6 : waitsOk impl_SessionsValid.T6.2 impl_SessionsValid.B6=true:=by kernel_rfl
theorem impl_SessionsValid.M (A0 : Option Addr) (c0 : Nat) (l : List S100) (w : World) (hr0 : Kd.C k100 w A0 l.length l) : Calls Try.prog 57 #[.slice A0 l.length c0] w fun e w'=>e=.returned (.bool (sesB l))∧Below w.heap.size w w':=by
 have hu:=Try.underlying100
 have B:=Aside0.mk (Below.refl w.heap.size w)
 have HR0:=Aside0.mk hr0
 clear hr0
 obtain ⟨r,hr⟩ : ∃ r,sesB l=r:=⟨_,rfl⟩
 rw [hr]
 unfold sesB at hr
 have H:=Aside0.mk (show sesJ l 0=r from hr)
 have L48:=Aside0.mk (show l.length≤9223372036854775807 from HR0.out.2.1)
 clear hr
 go_enter Try.func57,Try.ntmps57
 go_wp2
 go_loopg [7] (l.length + 1) (fun kx v7 wr=>∃ j : Nat,v7=.int .i64 (j : Int)∧j≤l.length∧l.length < j + kx∧Aside0 (Below w.heap.size w wr)∧Aside0 (sesJ l j=r))
 case atStart=>exact ⟨0,rfl,by omega,by omega,B,H⟩
 case round =>
  clear H B
  obtain ⟨j,rfl,hj,hk,B,H⟩:=hrel
  by_cases hlt : j < l.length
  ·have HS:=Aside0.mk ((sesJ_step hlt).symm.trans H.out)
   clear H
   obtain ⟨d,rfl⟩ : ∃ d,gk=d + 1:=⟨gk - 1,by omega⟩
   have h48:=L48.out
   have cj : decide ((j : Int) < (l.length : Int))=true:=decide_eq_true (by omega)
   obtain ⟨ad,hA,y0,y1,y2⟩:=at_T100 (cb HR0 B) (j : Int) (by omega) (by omega)
   cases hA
   rw [Int.toNat_natCast] at y0 y1 y2
   have j1:=eq_true (show (j : Int) < (l.length : Int) by omega)
   have j2:=eq_true hlt
   generalize hy : rd_T100 l (j : Int)=y at *
   go_wp2_with (first
    | ((with_reducible refine gate_dst (N:=4) rfl ?_);refine bxq 4 #[.int .i64 (0),.int .i64 (0),.int .i64 (0)] 100 B fun g4 w1 hb B F4 L4 E4=>?_;obtain ⟨c4_0,c4_1,c4_2⟩:=cs3 F4;clear hb E4)
    | ((with_reducible refine gate_store (t:=100) (p:=4) rfl ?_);obtain ⟨y0,y1,y2,z0,z1,z2⟩:=cz3 F4;refine sxq 100 100 4 0 [.int .i64 (y.f0),.int .i64 (y.f1),.int .i64 (y.f2)] [.int .i64 (y.f0),.int .i64 (y.f1),.int .i64 (y.f2)] B F4 L4 fun w2 hk B G=>?_;replace F4:=G;clear c4_0 c4_1 c4_2;obtain ⟨c4_0,c4_1,c4_2⟩:=cs3 F4;clear hk y0 z0 y1 z1 y2 z2)
    | (go_at_call 95;with_reducible refine cl (impl_seqValid.M y.f1 _) B fun w3 hb B=>?_;replace F4:=bn F4 hb;clear c4_0 c4_1 c4_2;obtain ⟨c4_0,c4_1,c4_2⟩:=cs3 F4;clear hb))
   all_goals try (go_ret;exact ⟨andF HS.out (by grind [l1B]),B.out⟩)
   all_goals (
    refine rg (n:=13) (S:=fun W=>Kd.C k100 W (some ad) l.length l∧W.heap[g4]?=some (.cells #[.int .i64 (y.f0),.int .i64 (y.f1),.int .i64 (y.f2)] 100 (0,0))) (ds:=[]) #[false,false,false,false,false,false,false,false,false,false,false,false,false] (by kernel_rfl) rfl rfl ⟨(cb HR0 B),F4.out⟩ id B (fun w4 hb B hHeld=>?_)
    refine with_tabW impl_SessionsValid.tab6 impl_SessionsValid.bits6 (fun HT_ HW_=>?_)
    replace F4:=bn F4 hb
    clear hb
    refine pvq 0 (some 36) (bits 13 1) HT_ ?_
    by_cases hz : j=0
    ·rw [if_pos hz] at HS
     have dz : decide (0 < (j : Int))=false:=decide_eq_false (by omega)
     have dz2 : decide (0 < j)=false:=decide_eq_false (by omega)
     clear hz
     refine pvq 1 (some 37) (bits 13 3) HT_ ?_
     refine pvq 2 (some 38) (bits 13 7) HT_ ?_
     refine svq 3 (some 39) (bits 13 15) HT_ ?_
     refine svq 4 (some 40) (bits 13 31) HT_ ?_
     refine svq 5 (some 41) (bits 13 63) HT_ ?_
     refine svq 6 (some 42) (bits 13 127) HT_ ?_
     refine svq 7 (some 43) (bits 13 255) HT_ ?_
     refine svq 8 (some 44) (bits 13 511) HT_ ?_
     refine svq 9 (some 45) (bits 13 1023) HT_ ?_
     refine svq 10 (some 46) (bits 13 2047) HT_ ?_
     refine svq 11 (some 47) (bits 13 4095) HT_ ?_
     refine pvq 12 (some 48) (bits 13 8191) HT_ ?_
     refine nmq ?_
     refine done_ (done_of HT_.out (by kernel_rfl)) ?_
     try go_wp2
     all_goals first
      | (go_roundg d;(case measure=>omega);(case rel=>exact ⟨j + 1,congrArg (Value.int .i64) (Int.natCast_succ _).symm,by omega,by omega,B,⟨andT HS.out (by grind [l1B])⟩⟩))
      | (go_ret;exact ⟨andF HS.out (by grind [l1B]),B.out⟩)
    ·rw [if_neg hz] at HS
     have dz : decide (0 < (j : Int))=true:=decide_eq_true (by omega)
     have dz2 : decide (0 < j)=true:=decide_eq_true (by omega)
     obtain ⟨i,hi⟩ : ∃ i,j - 1=i:=⟨_,rfl⟩
     rw [hi] at HS
     have WI:=Aside0.mk (show (j : Int) - 1=(i : Int) by omega)
     have hij : i < l.length:=by omega
     have IW:=Aside0.mk (show wrap64 (i : Int)=(i : Int) by unfold wrap64;omega)
     have i1:=eq_true (show (i : Int) < (l.length : Int) by omega)
     have i2:=eq_true hij
     generalize hx : rd_T100 l (i : Int)=x at HS
     clear hz hi
     refine pvq 1 (some 37) (bits 13 3) HT_ ?_
     refine pvq 2 (some 38) (bits 13 7) HT_ ?_
     refine pvq 3 (some 39) (bits 13 15) HT_ ?_
     refine pvq 4 (some 40) (bits 13 31) HT_ ?_
     refine pu (i:=5) (N:=some 41) (v:=.int .i64 ((i : Int))) (bits 13 63) rfl rfl (any_of HT_.out (by kernel_rfl)) (fun _ _ _ h=>h) (by kernel_rfl) ?_ ?_;(intro w';go_simp;rw [WI.out];exact (i64_w _).trans IW.out)
     refine pvq 6 (some 42) (bits 13 127) HT_ ?_
     refine pvq 7 (some 43) (bits 13 255) HT_ ?_
     refine tvq 8 (some 44) (bits 13 511) HT_ HW_ rfl hHeld (by intro w' hS;obtain ⟨s0,s1⟩:=hS;obtain ⟨_,hA,q0,q1,q2⟩:=at_T100 s0 (i : Int) (by omega) (by omega);cases hA;rw [Int.toNat_natCast] at q0 q1 q2;rw [hx] at q0 q1 q2;go_simp;with_reducible rfl) ?_
     refine pvq 9 (some 45) (bits 13 1023) HT_ ?_
     refine tvq 10 (some 46) (bits 13 2047) HT_ HW_ rfl hHeld (by intro w' hS;obtain ⟨s0,s1⟩:=hS;obtain ⟨q0,q1,q2⟩:=cs3 (Aside0.mk s1);go_simp;with_reducible rfl) ?_
     refine pvq 11 (some 47) (bits 13 4095) HT_ ?_
     refine pvq 12 (some 48) (bits 13 8191) HT_ ?_
     refine nmq ?_
     refine done_ (done_of HT_.out (by kernel_rfl)) ?_
     try go_wp2
     all_goals first
      | (go_roundg d;(case measure=>omega);(case rel=>exact ⟨j + 1,congrArg (Value.int .i64) (Int.natCast_succ _).symm,by omega,by omega,B,⟨andT HS.out (by grind [l1B])⟩⟩))
      | (go_ret;exact ⟨andF HS.out (by grind [l1B]),B.out⟩))
   all_goals try go_wp2
   all_goals try (go_ret;exact ⟨andF HS.out (by grind [l1B]),B.out⟩)
  ·have cj : decide ((j : Int) < (l.length : Int))=false:=decide_eq_false (by omega)
   have hr : r=true:=by rw [← H.out];exact sesJ_end hlt
   subst hr
   go_wp2
   go_ret
   exact ⟨rfl,B.out⟩

def impl_IntervalCut.T7 : Bool × List (List Nat × List Nat):=(true,[([],[]),([],[]),([0,0],[0]),([1,2,0,1,2],[1]),([3,0,1,2,3],[])])
def impl_IntervalCut.B7 : List Nat:=[0,0,1,7,15]
theorem impl_IntervalCut.tab7 : rtab .any (opsOf Try.f59 7)=impl_IntervalCut.T7:=by kernel_rfl
theorem impl_IntervalCut.bits7 : waitsOk impl_IntervalCut.T7.2 impl_IntervalCut.B7=true:=by kernel_rfl
theorem impl_IntervalCut.M (a b c : ByteArray) (w : World) : Calls Try.prog 59 #[.agg #[.string a,.string b],.string c] w fun e w'=>e=.returned (.tuple #[.agg #[.string (cutV a b c).1,.string (cutV a b c).2.1],.agg #[.string (cutV a b c).2.2.1,.string (cutV a b c).2.2.2.1],.bool (cutV a b c).2.2.2.2])∧Below w.heap.size w w':=by
 have B:=Aside0.mk (Below.refl w.heap.size w)
 have hu:=Try.underlying30
 go_enter Try.func59,Try.ntmps59
 go_wp2_with (first
  | ((with_reducible refine gate_dst (N:=2) rfl ?_);refine bxq 2 #[.string a,.string b] 30 B fun g2 w1 hb B F2 L2 E2=>?_;obtain ⟨c2_0,c2_1⟩:=cs2 F2;clear hb E2)
  | ((with_reducible refine gate_dst (N:=4) rfl ?_);refine bxq 4 #[.string (⟨#[]⟩ : ByteArray),.string (⟨#[]⟩ : ByteArray)] 30 B fun g4 w2 hb B F4 L4 E4=>?_;have N2_4:=ne1 E4 F2;replace F2:=bn F2 hb;clear c2_0 c2_1;obtain ⟨c2_0,c2_1⟩:=cs2 F2;clear hb E4)
  | ((with_reducible refine gate_dst (N:=5) rfl ?_);refine bxq 5 #[.string (⟨#[]⟩ : ByteArray),.string (⟨#[]⟩ : ByteArray)] 30 B fun g5 w3 hb B F5 L5 E5=>?_;have N2_5:=ne1 E5 F2;have N4_5:=ne1 E5 F4;replace F2:=bn F2 hb;replace F4:=bn F4 hb;clear c2_0 c2_1;obtain ⟨c2_0,c2_1⟩:=cs2 F2;clear hb E5)
  | (go_at_call 55;with_reducible refine cl (impl_IntervalValid.M a b _) B fun w4 hb B=>?_;replace F2:=bn F2 hb;replace F4:=bn F4 hb;replace F5:=bn F5 hb;clear c2_0 c2_1;obtain ⟨c2_0,c2_1⟩:=cs2 F2;clear hb)
  | (go_at_call 80;with_reducible refine cl (impl_KeyValid.M c _) B fun w5 hb B=>?_;replace F2:=bn F2 hb;replace F4:=bn F4 hb;replace F5:=bn F5 hb;clear c2_0 c2_1;obtain ⟨c2_0,c2_1⟩:=cs2 F2;clear hb)
  | ((with_reducible refine gate_store (t:=30) (p:=4) rfl ?_);obtain ⟨y0,y1,z0,z1⟩:=cz2 F4;refine sxq 30 30 4 0 [.string (⟨#[]⟩ : ByteArray),.string (⟨#[]⟩ : ByteArray)] [.string (⟨#[]⟩ : ByteArray),.string (⟨#[]⟩ : ByteArray)] B F4 L4 fun w6 hk B G=>?_;replace F2:=bk F2 hk N2_4.out;replace F5:=bk F5 hk N4_5.out.symm;replace F4:=G;clear c2_0 c2_1;obtain ⟨c2_0,c2_1⟩:=cs2 F2;clear hk y0 z0 y1 z1)
  | ((with_reducible refine gate_store (t:=30) (p:=5) rfl ?_);obtain ⟨y0,y1,z0,z1⟩:=cz2 F5;refine sxq 30 30 5 0 [.string (⟨#[]⟩ : ByteArray),.string (⟨#[]⟩ : ByteArray)] [.string (⟨#[]⟩ : ByteArray),.string (⟨#[]⟩ : ByteArray)] B F5 L5 fun w7 hk B G=>?_;replace F2:=bk F2 hk N2_5.out;replace F4:=bk F4 hk N4_5.out;replace F5:=G;clear c2_0 c2_1;obtain ⟨c2_0,c2_1⟩:=cs2 F2;clear hk y0 z0 y1 z1)
  | ((with_reducible refine gate_dst (N:=7) rfl ?_);refine bxq 7 #[.string (⟨#[]⟩ : ByteArray),.string (⟨#[]⟩ : ByteArray)] 30 B fun g7 w8 hb B F7 L7 E7=>?_;have N2_7:=ne1 E7 F2;have N4_7:=ne1 E7 F4;have N5_7:=ne1 E7 F5;replace F2:=bn F2 hb;replace F4:=bn F4 hb;replace F5:=bn F5 hb;clear c2_0 c2_1;obtain ⟨c2_0,c2_1⟩:=cs2 F2;obtain ⟨c7_0,c7_1⟩:=cs2 F7;clear hb E7)
  | ((with_reducible refine gate_store (t:=30) (p:=7) rfl ?_);obtain ⟨y0,y1,z0,z1⟩:=cz2 F7;refine sxq 30 30 7 0 [.string a,.string c] [.string a,.string c] B F7 L7 fun w9 hk B G=>?_;replace F2:=bk F2 hk N2_7.out;replace F4:=bk F4 hk N4_7.out;replace F5:=bk F5 hk N5_7.out;replace F7:=G;clear c2_0 c2_1;obtain ⟨c2_0,c2_1⟩:=cs2 F2;clear c7_0 c7_1;obtain ⟨c7_0,c7_1⟩:=cs2 F7;clear hk y0 z0 y1 z1)
  | ((with_reducible refine gate_dst (N:=8) rfl ?_);refine bxq 8 #[.string (⟨#[]⟩ : ByteArray),.string (⟨#[]⟩ : ByteArray)] 30 B fun g8 w10 hb B F8 L8 E8=>?_;have N4_8:=ne1 E8 F4;have N5_8:=ne1 E8 F5;have N7_8:=ne1 E8 F7;replace F4:=bn F4 hb;replace F5:=bn F5 hb;replace F7:=bn F7 hb;clear c7_0 c7_1;obtain ⟨c7_0,c7_1⟩:=cs2 F7;obtain ⟨c8_0,c8_1⟩:=cs2 F8;clear hb E8)
  | ((with_reducible refine gate_store (t:=30) (p:=8) rfl ?_);obtain ⟨y0,y1,z0,z1⟩:=cz2 F8;refine sxq 30 30 8 0 [.string c,.string b] [.string c,.string b] B F8 L8 fun w11 hk B G=>?_;replace F4:=bk F4 hk N4_8.out;replace F5:=bk F5 hk N5_8.out;replace F7:=bk F7 hk N7_8.out;replace F8:=G;clear c7_0 c7_1;obtain ⟨c7_0,c7_1⟩:=cs2 F7;clear c8_0 c8_1;obtain ⟨c8_0,c8_1⟩:=cs2 F8;clear hk y0 z0 y1 z1)
  | (go_at_call 55;with_reducible refine cl (impl_IntervalValid.M a c _) B fun w12 hb B=>?_;replace F4:=bn F4 hb;replace F5:=bn F5 hb;replace F7:=bn F7 hb;replace F8:=bn F8 hb;clear c7_0 c7_1;obtain ⟨c7_0,c7_1⟩:=cs2 F7;clear c8_0 c8_1;obtain ⟨c8_0,c8_1⟩:=cs2 F8;clear hb)
  | (go_at_call 55;with_reducible refine cl (impl_IntervalValid.M c b _) B fun w13 hb B=>?_;replace F4:=bn F4 hb;replace F5:=bn F5 hb;replace F7:=bn F7 hb;replace F8:=bn F8 hb;clear c7_0 c7_1;obtain ⟨c7_0,c7_1⟩:=cs2 F7;clear c8_0 c8_1;obtain ⟨c8_0,c8_1⟩:=cs2 F8;clear hb)
  | ((with_reducible refine gate_store (t:=30) (p:=4) rfl ?_);obtain ⟨y0,y1,z0,z1⟩:=cz2 F4;refine sxq 30 30 4 0 [.string (⟨#[]⟩ : ByteArray),.string (⟨#[]⟩ : ByteArray)] [.string (⟨#[]⟩ : ByteArray),.string (⟨#[]⟩ : ByteArray)] B F4 L4 fun w14 hk B G=>?_;replace F5:=bk F5 hk N4_5.out.symm;replace F7:=bk F7 hk N4_7.out.symm;replace F8:=bk F8 hk N4_8.out.symm;replace F4:=G;clear c7_0 c7_1;obtain ⟨c7_0,c7_1⟩:=cs2 F7;clear c8_0 c8_1;obtain ⟨c8_0,c8_1⟩:=cs2 F8;clear hk y0 z0 y1 z1)
  | ((with_reducible refine gate_store (t:=30) (p:=5) rfl ?_);obtain ⟨y0,y1,z0,z1⟩:=cz2 F5;refine sxq 30 30 5 0 [.string (⟨#[]⟩ : ByteArray),.string (⟨#[]⟩ : ByteArray)] [.string (⟨#[]⟩ : ByteArray),.string (⟨#[]⟩ : ByteArray)] B F5 L5 fun w15 hk B G=>?_;replace F4:=bk F4 hk N4_5.out;replace F7:=bk F7 hk N5_7.out.symm;replace F8:=bk F8 hk N5_8.out.symm;replace F5:=G;clear c7_0 c7_1;obtain ⟨c7_0,c7_1⟩:=cs2 F7;clear c8_0 c8_1;obtain ⟨c8_0,c8_1⟩:=cs2 F8;clear hk y0 z0 y1 z1))
 all_goals try (refine bodyPost_ret (results_list (rs:=[.cell 4 30,.cell 5 30,.tmp 6]) rfl (by simp) (.cell g4 30 _ (0,0) _ rfl F4.out hu rfl (by kernel_rfl) (.cell g5 30 _ (0,0) _ rfl F5.out hu rfl (by kernel_rfl) (.tmp .nil)))) rfl ?_;refine ⟨?_,B.out⟩;unfold cutV cutB;simp_all;done)
 all_goals (
  refine rg (n:=5) (S:=fun W=>W.heap[g7]?=some (.cells #[.string a,.string c] 30 (0,0))∧W.heap[g8]?=some (.cells #[.string c,.string b] 30 (0,0))) (ds:=[]) #[false,false,false,false,false] (by kernel_rfl) rfl rfl ⟨F7.out,F8.out⟩ id B (fun w16 hb B hHeld=>?_)
  refine with_tabW impl_IntervalCut.tab7 impl_IntervalCut.bits7 (fun HT_ HW_=>?_)
  replace F4:=bn F4 hb
  replace F5:=bn F5 hb
  replace F7:=bn F7 hb
  replace F8:=bn F8 hb
  clear hb
  refine tvq 0 (some 37) (bits 5 1) HT_ HW_ rfl hHeld (by intro w' hS;obtain ⟨s0,s1⟩:=hS;obtain ⟨q0,q1⟩:=cs2 (Aside0.mk s0);go_simp;with_reducible rfl) ?_
  refine tvq 1 (some 38) (bits 5 3) HT_ HW_ rfl hHeld (by intro w' hS;obtain ⟨s0,s1⟩:=hS;obtain ⟨q0,q1⟩:=cs2 (Aside0.mk s1);go_simp;with_reducible rfl) ?_
  refine nmq ?_
  refine one_ (i:=2) (N:=none) (bits 5 7) rfl rfl (one_of HT_.out (by kernel_rfl)) (by decide) (fun K hK=>?_)
  obtain ⟨y0,y1,z0,z1⟩:=cz2 F4
  refine sxs (g:=g4) 0 [.string a,.string c] [.string a,.string c] (by rfl) rfl ?hr B F4 L4 rfl (Nat.le_of_ble_eq_true rfl) (fun w17 hk B G=>?_)
  (case hr=>go_simp;first | done | rfl)
  replace F5:=bk F5 hk N4_5.out.symm
  replace F7:=bk F7 hk N4_7.out.symm
  replace F8:=bk F8 hk N4_8.out.symm
  replace F4:=G
  clear hk y0 z0 y1 z1
  refine hK.out _ _ ⟨F7.out,F8.out⟩ (fun hHeld=>?_)
  clear hK K
  refine one_ (i:=3) (N:=none) (bits 5 15) rfl rfl (one_of HT_.out (by kernel_rfl)) (by decide) (fun K hK=>?_)
  obtain ⟨y0,y1,z0,z1⟩:=cz2 F5
  refine sxs (g:=g5) 0 [.string c,.string b] [.string c,.string b] (by rfl) rfl ?hr B F5 L5 rfl (Nat.le_of_ble_eq_true rfl) (fun w18 hk B G=>?_)
  (case hr=>go_simp;first | done | rfl)
  replace F4:=bk F4 hk N4_5.out
  replace F7:=bk F7 hk N5_7.out.symm
  replace F8:=bk F8 hk N5_8.out.symm
  replace F5:=G
  clear hk y0 z0 y1 z1
  refine hK.out _ _ ⟨F7.out,F8.out⟩ (fun hHeld=>?_)
  clear hK K
  refine pvq 4 (some 6) (bits 5 31) HT_ ?_
  refine nmq ?_
  refine done_ (done_of HT_.out (by kernel_rfl)) ?_)
 all_goals try go_wp2
 all_goals try (refine bodyPost_ret (results_list (rs:=[.cell 4 30,.cell 5 30,.tmp 6]) rfl (by simp) (.cell g4 30 _ (0,0) _ rfl F4.out hu rfl (by kernel_rfl) (.cell g5 30 _ (0,0) _ rfl F5.out hu rfl (by kernel_rfl) (.tmp .nil)))) rfl ?_;refine ⟨?_,B.out⟩;unfold cutV cutB;simp_all;done)

theorem impl_StateValid.M (a b : ByteArray) (AP : Option Addr) (cP : Nat) (ps : List S61) (AS : Option Addr) (cS : Nat) (ss : List S100) (t : Bool) (c : ByteArray) (w : World) (hrp : Kd.C k61 w AP ps.length ps) (hrs : Kd.C k100 w AS ss.length ss) : Calls Try.prog 14 #[.agg #[.string a,.string b,.slice AP ps.length cP,.slice AS ss.length cS,.bool t,.string c]] w fun e w'=>e=.returned (.bool (stB a b ps ss t c))∧Below w.heap.size w w':=by
 have B:=Aside0.mk (Below.refl w.heap.size w)
 have hu:=Try.underlying34
 have hu2:=Try.underlying30
 have HRP:=Aside0.mk hrp
 have HRS:=Aside0.mk hrs
 clear hrp hrs
 go_enter Try.func14,Try.ntmps14
 go_wp2_with (first
  | ((with_reducible refine gate_dst (N:=1) rfl ?_);refine bxq 1 #[.string a,.string b,.slice AP ps.length cP,.slice AS ss.length cS,.bool t,.string c] 34 B fun g1 w1 hb B F1 L1 E1=>?_;obtain ⟨c1_0,c1_1,c1_2,c1_3,c1_4,c1_5⟩:=cs6 F1;clear hb E1)
  | (go_at_call 55;with_reducible refine cl (impl_IntervalValid.M a b _) B fun w2 hb B=>?_;replace F1:=bn F1 hb;clear c1_0 c1_1 c1_2 c1_3 c1_4 c1_5;obtain ⟨c1_0,c1_1,c1_2,c1_3,c1_4,c1_5⟩:=cs6 F1;clear hb)
  | (go_at_call 56;with_reducible refine cl (impl_PairsValid.M _ _ ps _ (cb HRP B)) B fun w3 hb B=>?_;replace F1:=bn F1 hb;clear c1_0 c1_1 c1_2 c1_3 c1_4 c1_5;obtain ⟨c1_0,c1_1,c1_2,c1_3,c1_4,c1_5⟩:=cs6 F1;clear hb)
  | (go_at_call 57;with_reducible refine cl (impl_SessionsValid.M _ _ ss _ (cb HRS B)) B fun w4 hb B=>?_;replace F1:=bn F1 hb;clear c1_0 c1_1 c1_2 c1_3 c1_4 c1_5;obtain ⟨c1_0,c1_1,c1_2,c1_3,c1_4,c1_5⟩:=cs6 F1;clear hb))
 all_goals try (go_ret;exact ⟨congrArg (fun b=>Ending.returned (Value.bool b)) (by grind [stB]),B.out⟩)
 have hv : ivB a b=true∧prB ps=true∧sesB ss=true:=by grind
 have hst : stB a b ps ss t c=((ps.all fun p=>insB a b p.f0) && tailB a b t c):=by
  unfold stB
  rw [hv.1,hv.2.1,hv.2.2]
  rfl
 (try simp only [hv.1,hv.2.1,hv.2.2,Bool.not_true])
 obtain ⟨q,hq⟩ : ∃ q,(ps.all fun p=>insB a b p.f0)=q:=⟨_,rfl⟩
 rw [hq] at hst
 have H:=Aside0.mk (show ((ps.drop 0).all fun p=>insB a b p.f0)=q from hq)
 have L48:=Aside0.mk (prB_len hv.2.1)
 clear hq hv c1_0 c1_1 c1_2 c1_3 c1_4 c1_5
 have HST:=Aside0.mk hst
 clear hst
 go_loopg [27] (ps.length + 1) (fun kx v27 wr=>∃ j : Nat,v27=.int .i64 (j : Int)∧j≤ps.length∧ps.length < j + kx∧Aside0 (Below w.heap.size w wr)∧Aside0 (wr.heap[g1]?=some (.cells #[.string a,.string b,.slice AP ps.length cP,.slice AS ss.length cS,.bool t,.string c] 34 (0,0)))∧Aside0 (((ps.drop j).all fun p=>insB a b p.f0)=q))
 case atStart=>exact ⟨0,rfl,by omega,by omega,B,F1,H⟩
 case round =>
  clear H B F1
  obtain ⟨j,rfl,hj,hk,B,F1,H⟩:=hrel
  have hst:=HST.out
  obtain ⟨c1_0,c1_1,c1_2,c1_3,c1_4,c1_5⟩:=cs6 F1
  by_cases hlt : j < ps.length
  ·have HS:=H.out
   rw [pr_drop hlt,List.all_cons] at HS
   clear H
   obtain ⟨d,rfl⟩ : ∃ d,gk=d + 1:=⟨gk - 1,by omega⟩
   have h48:=L48.out
   have cj : decide ((j : Int) < (ps.length : Int))=true:=decide_eq_true (by omega)
   obtain ⟨ad,hA,y0,y1⟩:=at_T61 (cb HRP B) (j : Int) (by omega) (by omega)
   cases hA
   rw [Int.toNat_natCast] at y0 y1
   have j1:=eq_true (show (j : Int) < (ps.length : Int) by omega)
   have j2:=eq_true hlt
   generalize hy : rd_T61 ps (j : Int)=y at *
   go_wp2_with (first
    | ((with_reducible refine gate_dst (N:=4) rfl ?_);refine bxq 4 #[.string (⟨#[]⟩ : ByteArray),.int .i64 (0)] 61 B fun g4 w5 hb B F4 L4 E4=>?_;have N1_4:=ne1 E4 F1;replace F1:=bn F1 hb;clear c1_0 c1_1 c1_2 c1_3 c1_4 c1_5;obtain ⟨c1_0,c1_1,c1_2,c1_3,c1_4,c1_5⟩:=cs6 F1;obtain ⟨c4_0,c4_1⟩:=cs2 F4;clear hb E4)
    | ((with_reducible refine gate_store (t:=61) (p:=4) rfl ?_);obtain ⟨y0,y1,z0,z1⟩:=cz2 F4;refine sxq 61 61 4 0 [.string y.f0,.int .i64 (y.f1)] [.string y.f0,.int .i64 (y.f1)] B F4 L4 fun w6 hk B G=>?_;replace F1:=bk F1 hk N1_4.out;replace F4:=G;clear c1_0 c1_1 c1_2 c1_3 c1_4 c1_5;obtain ⟨c1_0,c1_1,c1_2,c1_3,c1_4,c1_5⟩:=cs6 F1;clear c4_0 c4_1;obtain ⟨c4_0,c4_1⟩:=cs2 F4;clear hk y0 z0 y1 z1)
    | (go_at_call 58;with_reducible refine cl (impl_inside.M a b y.f0 _) B fun w7 hb B=>?_;replace F1:=bn F1 hb;clear hb))
   all_goals first
    | (go_roundg d;(case measure=>omega);(case rel=>exact ⟨j + 1,congrArg (Value.int .i64) (Int.natCast_succ _).symm,by omega,by omega,B,F1,⟨andT HS (by grind)⟩⟩))
    | (go_ret;exact ⟨congrArg (fun b=>Ending.returned (Value.bool b)) (by grind),B.out⟩)
  ·have cj : decide ((j : Int) < (ps.length : Int))=false:=decide_eq_false (by omega)
   have hr : q=true:=by rw [← H.out,List.drop_of_length_le (by omega)];rfl
   clear H
   go_wp2_with (first
    | (go_at_call 59;with_reducible refine cl (impl_IntervalCut.M a b c _) B fun w1 hb B=>?_;replace F1:=bn F1 hb;clear c1_0 c1_1 c1_2 c1_3 c1_4 c1_5;obtain ⟨c1_0,c1_1,c1_2,c1_3,c1_4,c1_5⟩:=cs6 F1;clear hb)
    | ((with_reducible refine gate_dst (N:=5) rfl ?_);refine bxq 5 #[.string (⟨#[]⟩ : ByteArray),.string (⟨#[]⟩ : ByteArray)] 30 B fun g5 w2 hb B F5 L5 E5=>?_;have N1_5:=ne1 E5 F1;replace F1:=bn F1 hb;clear c1_0 c1_1 c1_2 c1_3 c1_4 c1_5;obtain ⟨c1_0,c1_1,c1_2,c1_3,c1_4,c1_5⟩:=cs6 F1;clear hb E5)
    | ((with_reducible refine gate_dst (N:=6) rfl ?_);refine bxq 6 #[.string (⟨#[]⟩ : ByteArray),.string (⟨#[]⟩ : ByteArray)] 30 B fun g6 w3 hb B F6 L6 E6=>?_;have N1_6:=ne1 E6 F1;have N5_6:=ne1 E6 F5;replace F1:=bn F1 hb;replace F5:=bn F5 hb;clear c1_0 c1_1 c1_2 c1_3 c1_4 c1_5;obtain ⟨c1_0,c1_1,c1_2,c1_3,c1_4,c1_5⟩:=cs6 F1;clear hb E6)
    | ((with_reducible refine gate_store (t:=30) (p:=5) rfl ?_);obtain ⟨y0,y1,z0,z1⟩:=cz2 F5;refine sxq 30 30 5 0 [.string (cutV a b c).1,.string (cutV a b c).2.1] [.string (cutV a b c).1,.string (cutV a b c).2.1] B F5 L5 fun w4 hk B G=>?_;replace F1:=bk F1 hk N1_5.out;replace F6:=bk F6 hk N5_6.out.symm;replace F5:=G;clear c1_0 c1_1 c1_2 c1_3 c1_4 c1_5;obtain ⟨c1_0,c1_1,c1_2,c1_3,c1_4,c1_5⟩:=cs6 F1;clear hk y0 z0 y1 z1)
    | ((with_reducible refine gate_store (t:=30) (p:=6) rfl ?_);obtain ⟨y0,y1,z0,z1⟩:=cz2 F6;refine sxq 30 30 6 0 [.string (cutV a b c).2.2.1,.string (cutV a b c).2.2.2.1] [.string (cutV a b c).2.2.1,.string (cutV a b c).2.2.2.1] B F6 L6 fun w5 hk B G=>?_;replace F1:=bk F1 hk N1_6.out;replace F6:=G;clear c1_0 c1_1 c1_2 c1_3 c1_4 c1_5;obtain ⟨c1_0,c1_1,c1_2,c1_3,c1_4,c1_5⟩:=cs6 F1;clear hk y0 z0 y1 z1))
   all_goals go_ret
   all_goals
    refine ⟨congrArg (fun b=>Ending.returned (Value.bool b)) ?_,B.out⟩
    rw [hst,hr,Bool.true_and]
    unfold tailB
    grind [cutV_ok]

def impl_PartitionValid.T10 : Bool × List (List Nat × List Nat):=(true,[([],[]),([],[]),([1],[1]),([0,2],[0,2]),([3],[3]),([],[]),([4,5],[4,5]),([6],[6]),([7],[7]),([7],[7]),([],[]),([10,8,6,0,1,2,3,4,5,6,7,8,10],[8,10]),([9,11,0,1,2,3,4,5,6,7,8,9,10,11],[9])])
def impl_PartitionValid.B10 : List Nat:=[0,0,2,7,15,0,63,127,255,255,0,1535,4095]
theorem impl_PartitionValid.tab10 : rtab .any (opsOf Try.f66 10)=impl_PartitionValid.T10:=by kernel_rfl
theorem impl_PartitionValid.bits10 : waitsOk impl_PartitionValid.T10.2 impl_PartitionValid.B10=true:=by kernel_rfl
theorem impl_PartitionValid.M (A0 : Option Addr) (c0 : Nat) (l : List S30) (w : World) (hr0 : Kd.C k30 w A0 l.length l) (hn : l.length≤1000000) : Calls Try.prog 66 #[.slice A0 l.length c0] w fun e w'=>e=.returned (.bool (partB l))∧Below w.heap.size w w':=by
 have B:=Aside0.mk (Below.refl w.heap.size w)
 have hu:=Try.underlying30
 have HR0:=Aside0.mk hr0
 clear hr0
 obtain ⟨r,hr⟩ : ∃ r,partB l=r:=⟨_,rfl⟩
 rw [hr]
 unfold partB at hr
 by_cases h16 : 1≤l.length∧l.length≤6
 ·have c1 : decide ((l.length : Int) < 1)=false:=decide_eq_false (by omega)
  have c6 : decide (6 < (l.length : Int))=false:=decide_eq_false (by omega)
  obtain ⟨ad,hA,HA⟩:=IvE_of HR0.out (show 0 < l.length by omega)
  cases hA
  obtain ⟨ad2,hA,HZ⟩:=IvE_of HR0.out (show l.length - 1 < l.length by omega)
  cases hA
  rw [decide_eq_true h16,Bool.true_and,show (l.length : Int) - 1=((l.length - 1 : Nat) : Int) by omega] at hr
  replace HA:=IvE_0 HA
  rw [show ((0 : Nat) : Int)=0 from rfl] at HA
  obtain ⟨a,ha⟩ : ∃ a,rd_T30 l 0=a:=⟨_,rfl⟩
  obtain ⟨z,hz⟩ : ∃ z,rd_T30 l ((l.length - 1 : Nat) : Int)=z:=⟨_,rfl⟩
  rw [ha] at HA hr
  rw [hz] at HZ hr
  have HA:=Aside0.mk HA
  have HZ:=Aside0.mk HZ
  have ha2:=ha
  clear ha hz
  have m3:=eq_true (show (0 : Int) < (l.length : Int) by omega)
  have m4:=eq_true (show 0 < l.length by omega)
  obtain ⟨p0,p1⟩:=IvE.q HA B
  obtain ⟨r0,r1⟩:=IvE.q HZ B
  go_enter Try.func66,Try.ntmps66
  go_wp2
  all_goals try (go_ret;exact ⟨congrArg (fun b=>Ending.returned (Value.bool b)) (by grind),B.out⟩)
  have H:=Aside0.mk (show (if 0=0 then ivB (rd_T30 l 0).f0 (rd_T30 l 0).f1 && linkB l else linkB (l.drop (0 - 1)))=r by rw [if_pos rfl,ha2];grind)
  have hz5 : z.f1.toList.isEmpty=true:=by grind
  (try simp only [hz5,Bool.not_true])
  clear hr p0 p1 r0 r1 m3 m4 ha2 hz5
  go_loopg [34] (l.length + 1) (fun kx v34 wr=>∃ j : Nat,v34=.int .i64 (j : Int)∧j≤l.length∧l.length < j + kx∧Aside0 (Below w.heap.size w wr)∧Aside0 ((if j=0 then ivB (rd_T30 l 0).f0 (rd_T30 l 0).f1 && linkB l else linkB (l.drop (j - 1)))=r))
  case atStart=>exact ⟨0,rfl,by omega,by omega,B,H⟩
  case round =>
   clear H B
   obtain ⟨j,rfl,hj,hk,B,H⟩:=hrel
   by_cases hlt : j < l.length
   ·obtain ⟨d,rfl⟩ : ∃ d,gk=d + 1:=⟨gk - 1,by omega⟩
    have cj : decide ((j : Int) < (l.length : Int))=true:=decide_eq_true (by omega)
    have j1:=eq_true (show (j : Int) < (l.length : Int) by omega)
    have j2:=eq_true hlt
    obtain ⟨y,hy⟩ : ∃ y,rd_T30 l (j : Int)=y:=⟨_,rfl⟩
    obtain ⟨ad3,hA,HY⟩:=IvE_of HR0.out hlt
    cases hA
    rw [hy] at HY
    have HY:=Aside0.mk HY
    obtain ⟨p0,p1⟩:=IvE.q HY B
    by_cases h0 : j=0
    ·have HS:=Aside0.mk H.out
     rw [if_pos h0] at HS
     rw [show rd_T30 l 0=y by rw [← hy,h0];rfl] at HS
     have dz : decide (0 < (j : Int))=false:=decide_eq_false (by omega)
     have dz2 : decide (0 < j)=false:=decide_eq_false (by omega)
     have H0:=Aside0.mk h0
     clear H h0
     go_wp2_with (first
      | ((with_reducible refine gate_dst (N:=5) rfl ?_);refine bxq 5 #[.string (⟨#[]⟩ : ByteArray),.string (⟨#[]⟩ : ByteArray)] 30 B fun g5 w51 hb B F5 L5 E5=>?_;obtain ⟨c5_0,c5_1⟩:=cs2 F5;obtain ⟨p0,p1⟩:=IvE.q HY B;clear hb E5)
      | ((with_reducible refine gate_store (t:=30) (p:=5) rfl ?_);obtain ⟨y0,y1,z0,z1⟩:=cz2 F5;refine sxq 30 30 5 0 [.string y.f0,.string y.f1] [.string y.f0,.string y.f1] B F5 L5 fun w52 hk B G=>?_;replace F5:=G;clear c5_0 c5_1;obtain ⟨c5_0,c5_1⟩:=cs2 F5;obtain ⟨p0,p1⟩:=IvE.q HY B;clear hk y0 z0 y1 z1)
      | (go_at_call 55;with_reducible refine cl (impl_IntervalValid.M y.f0 y.f1 _) B fun w53 hb B=>?_;obtain ⟨p0,p1⟩:=IvE.q HY B;clear hb))
     all_goals first
      | (go_roundg d;(case measure=>omega);(case rel=>exact ⟨j + 1,congrArg (Value.int .i64) (by omega),by omega,by omega,B,⟨by rw [if_neg (by omega),Nat.add_sub_cancel];exact (by rw [H0.out,List.drop_zero];have HS:=HS.out;grind [ijM_ok,ijB])⟩⟩))
      | (go_ret;exact ⟨congrArg (fun b=>Ending.returned (Value.bool b)) (by have HS:=HS.out;grind [ijM_ok,ijB]),B.out⟩)
    ·have HS:=Aside0.mk H.out
     rw [if_neg h0] at HS
     clear H
     obtain ⟨i,hi⟩ : ∃ i,j - 1=i:=⟨_,rfl⟩
     rw [hi] at HS
     have dz : decide (0 < (j : Int))=true:=decide_eq_true (by omega)
     have dz2 : decide (0 < j)=true:=decide_eq_true (by omega)
     have WI:=Aside0.mk (show (j : Int) - 1=(i : Int) by omega)
     have hij : i < l.length:=by omega
     have IW:=Aside0.mk (show wrap64 (i : Int)=(i : Int) by unfold wrap64;omega)
     have i1:=eq_true (show (i : Int) < (l.length : Int) by omega)
     have i2:=eq_true hij
     obtain ⟨x,hx⟩ : ∃ x,rd_T30 l (i : Int)=x:=⟨_,rfl⟩
     rw [link_step (show i + 1 < l.length by omega) hx (show rd_T30 l ((i + 1 : Nat) : Int)=y by rw [show i + 1=j by omega];exact hy),show i + 1=j by omega] at HS
     clear hi
     go_wp2_with (first
      | ((with_reducible refine gate_dst (N:=5) rfl ?_);refine bxq 5 #[.string (⟨#[]⟩ : ByteArray),.string (⟨#[]⟩ : ByteArray)] 30 B fun g5 w71 hb B F5 L5 E5=>?_;obtain ⟨c5_0,c5_1⟩:=cs2 F5;obtain ⟨p0,p1⟩:=IvE.q HY B;clear hb E5)
      | ((with_reducible refine gate_store (t:=30) (p:=5) rfl ?_);obtain ⟨y0,y1,z0,z1⟩:=cz2 F5;refine sxq 30 30 5 0 [.string y.f0,.string y.f1] [.string y.f0,.string y.f1] B F5 L5 fun w72 hk B G=>?_;replace F5:=G;clear c5_0 c5_1;obtain ⟨c5_0,c5_1⟩:=cs2 F5;obtain ⟨p0,p1⟩:=IvE.q HY B;clear hk y0 z0 y1 z1)
      | (go_at_call 55;with_reducible refine cl (impl_IntervalValid.M y.f0 y.f1 _) B fun w73 hb B=>?_;replace F5:=bn F5 hb;clear c5_0 c5_1;obtain ⟨c5_0,c5_1⟩:=cs2 F5;obtain ⟨p0,p1⟩:=IvE.q HY B;clear hb))
     all_goals try (go_ret;exact ⟨congrArg (fun b=>Ending.returned (Value.bool b)) (by have HS:=HS.out;grind [ijM_ok,ijB]),B.out⟩)
     all_goals (
      refine rg (n:=13) (S:=fun W=>Kd.C k30 W (some ad) l.length l∧W.heap[g5]?=some (.cells #[.string y.f0,.string y.f1] 30 (0,0))) (ds:=[]) #[false,false,false,false,false,false,false,false,false,false,false,false,false] (by kernel_rfl) rfl rfl ⟨(cb HR0 B),F5.out⟩ id B (fun w74 hb B hHeld=>?_)
      refine with_tabW impl_PartitionValid.tab10 impl_PartitionValid.bits10 (fun HT_ HW_=>?_)
      replace F5:=bn F5 hb
      clear hb
      refine join_ 2 (bits 13 2047) (σ:=Nat) (fun g6=>[(45,.slice (some ad) l.length c0),(46,.int .i64 ((j : Int))),(47,.int .i64 ((i : Int))),(48,.pointer (some (ad.add (i * 2)))),(49,.agg #[.string x.f0,.string x.f1]),(50,.agg #[.string y.f0,.string y.f1]),(51,.tuple #[.agg #[.string (ijM x.f0 x.f1 y.f0 y.f1).1,.string (ijM x.f0 x.f1 y.f0 y.f1).2.1],.bool (ijM x.f0 x.f1 y.f0 y.f1).2.2]),(44,.tuple #[.agg #[.string (ijM x.f0 x.f1 y.f0 y.f1).1,.string (ijM x.f0 x.f1 y.f0 y.f1).2.1],.bool (ijM x.f0 x.f1 y.f0 y.f1).2.2]),(52,.agg #[.string (ijM x.f0 x.f1 y.f0 y.f1).1,.string (ijM x.f0 x.f1 y.f0 y.f1).2.1]),(53,.bool (ijM x.f0 x.f1 y.f0 y.f1).2.2),(6,.pointer (some ⟨g6,0,none⟩))]) (fun g6 W=>Aside0 (Below w.heap.size w W)∧Aside0 (W.heap[g5]?=some (.cells #[.string y.f0,.string y.f1] 30 (0,0)))∧Aside0 (W.heap[g6]?=some (.cells #[.string (⟨#[]⟩ : ByteArray),.string (⟨#[]⟩ : ByteArray)] 30 (0,0)))∧Aside0 (w.heap.size≤g6)∧Aside0 (g5 ≠ g6)) ?_ (fun J=>?_)
      rotate_left
      ·refine pvq 0 (some 45) (bits 13 1) HT_ ?_
       refine pvq 1 (some 46) (bits 13 3) HT_ ?_
       refine pu (i:=2) (N:=some 47) (v:=.int .i64 ((i : Int))) (bits 13 7) rfl rfl (any_of HT_.out (by kernel_rfl)) (fun _ _ _ h=>h) (by kernel_rfl) ?_ ?_;(intro w';go_simp;rw [WI.out];exact (i64_w _).trans IW.out)
       refine pvq 3 (some 48) (bits 13 15) HT_ ?_
       refine tvq 4 (some 49) (bits 13 31) HT_ HW_ rfl hHeld (by intro w' hS;obtain ⟨s0,s1⟩:=hS;obtain ⟨_,hA,q0,q1⟩:=at_T30 s0 (i : Int) (by omega) (by omega);cases hA;rw [Int.toNat_natCast] at q0 q1;rw [hx] at q0 q1;go_simp;with_reducible rfl) ?_
       refine tvq 5 (some 50) (bits 13 63) HT_ HW_ rfl hHeld (by intro w' hS;obtain ⟨s0,s1⟩:=hS;obtain ⟨q0,q1⟩:=cs2 (Aside0.mk s1);go_simp;with_reducible rfl) ?_
       refine nmq ?_
       refine two_ (i:=6) (j:=10) (Ni:=some 51) (Nj:=some 6) (bits 13 127) (bits 13 1087) rfl rfl rfl rfl (two_of HT_.out (by kernel_rfl)) (by decide) (by decide) (fun K hK=>?_) (fun K hK=>?_)
       ·refine gsq Try.func81 #[.agg #[.string x.f0,.string x.f1],.agg #[.string y.f0,.string y.f1]] ?_
        with_reducible refine cl (impl_IntervalJoin.M x.f0 x.f1 y.f0 y.f1 _) B fun w75 hb B=>?_
        replace F5:=bn F5 hb
        clear hb
        refine ⟨_,rfl,?_⟩
        refine hK.out _ _ ⟨(cb HR0 B),F5.out⟩ (fun hHeld=>?_)
        clear hK K
        refine npq (some 51) ?_
        refine pvq 7 (some 44) (bits 13 255) HT_ ?_
        refine pvq 8 (some 52) (bits 13 511) HT_ ?_
        refine pvq 9 (some 53) (bits 13 1023) HT_ ?_
        refine nmq ?_
        refine one_ (i:=10) (N:=some 6) (bits 13 2047) rfl rfl (one_of HT_.out (by kernel_rfl)) (by decide) (fun K hK=>?_)
        refine bxs (cs:=#[.string (⟨#[]⟩ : ByteArray),.string (⟨#[]⟩ : ByteArray)]) (t:=30) (by rfl) rfl ?hr B (fun g6 w76 hb B F6 L6 E6=>?_)
        (case hr=>go_simp;first | done | rfl)
        have N5_6:=ne1 E6 F5
        replace F5:=bn F5 hb
        clear hb E6
        refine hK.out _ _ ⟨(cb HR0 B),F5.out⟩ (fun hHeld=>?_)
        clear hK K
        refine npq (some 6) ?_
        refine norm_ (a':=_) ?_ (J g6 _ ⟨B,F5,F6,L6,N5_6⟩)
        simp only [putAll,Act.put,za,zb,zc]
        try rfl
       ·refine bxs (cs:=#[.string (⟨#[]⟩ : ByteArray),.string (⟨#[]⟩ : ByteArray)]) (t:=30) (by rfl) rfl ?hr B (fun g6 w75 hb B F6 L6 E6=>?_)
        (case hr=>go_simp;first | done | rfl)
        have N5_6:=ne1 E6 F5
        replace F5:=bn F5 hb
        clear hb E6
        refine hK.out _ _ ⟨(cb HR0 B),F5.out⟩ (fun hHeld=>?_)
        clear hK K
        refine npq (some 6) ?_
        refine one_ (i:=6) (N:=some 51) (bits 13 1151) rfl rfl (one_of HT_.out (by kernel_rfl)) (by decide) (fun K hK=>?_)
        refine gsq Try.func81 #[.agg #[.string x.f0,.string x.f1],.agg #[.string y.f0,.string y.f1]] ?_
        with_reducible refine cl (impl_IntervalJoin.M x.f0 x.f1 y.f0 y.f1 _) B fun w76 hb B=>?_
        replace F5:=bn F5 hb
        replace F6:=bn F6 hb
        clear hb
        refine ⟨_,rfl,?_⟩
        refine hK.out _ _ ⟨(cb HR0 B),F5.out⟩ (fun hHeld=>?_)
        clear hK K
        refine npq (some 51) ?_
        refine pvq 7 (some 44) (bits 13 1279) HT_ ?_
        refine pvq 8 (some 52) (bits 13 1535) HT_ ?_
        refine pvq 9 (some 53) (bits 13 2047) HT_ ?_
        refine nmq ?_
        refine norm_ (a':=_) ?_ (J g6 _ ⟨B,F5,F6,L6,N5_6⟩)
        simp only [putAll,Act.put,za,zb,zc]
        try rfl
      rintro g6 w77 ⟨B,F5,F6,L6,N5_6⟩
      refine norm_ (a':=?_) ?_ ?_
      rotate_left
      ·simp only [putAll,Act.put,za,zb,zc]
       rfl
      refine one_ (i:=11) (N:=none) (bits 13 4095) rfl rfl (one_of HT_.out (by kernel_rfl)) (by decide) (fun K hK=>?_)
      obtain ⟨y0,y1,z0,z1⟩:=cz2 F6
      refine sxs (g:=g6) 0 [.string (ijM x.f0 x.f1 y.f0 y.f1).1,.string (ijM x.f0 x.f1 y.f0 y.f1).2.1] [.string (ijM x.f0 x.f1 y.f0 y.f1).1,.string (ijM x.f0 x.f1 y.f0 y.f1).2.1] (by rfl) rfl ?hr B F6 L6 rfl (Nat.le_of_ble_eq_true rfl) (fun w78 hk B G=>?_)
      (case hr=>go_simp;first | done | rfl)
      replace F5:=bk F5 hk N5_6.out
      replace F6:=G
      clear hk y0 z0 y1 z1
      refine hK.out _ _ ⟨(cb HR0 B),F5.out⟩ (fun hHeld=>?_)
      clear hK K
      refine pvq 12 (some 7) (bits 13 8191) HT_ ?_
      refine nmq ?_
      refine done_ (done_of HT_.out (by kernel_rfl)) ?_
      try go_wp2
      all_goals first
       | (go_roundg d;(case measure=>omega);(case rel=>exact ⟨j + 1,congrArg (Value.int .i64) (by omega),by omega,by omega,B,⟨by rw [if_neg (by omega),Nat.add_sub_cancel];exact (by have HS:=HS.out;grind [ijM_ok,ijB])⟩⟩))
       | (go_ret;exact ⟨congrArg (fun b=>Ending.returned (Value.bool b)) (by have HS:=HS.out;grind [ijM_ok,ijB]),B.out⟩))
     all_goals try go_wp2
     all_goals try (go_ret;exact ⟨congrArg (fun b=>Ending.returned (Value.bool b)) (by have HS:=HS.out;grind [ijM_ok,ijB]),B.out⟩)
   ·have cj : decide ((j : Int) < (l.length : Int))=false:=decide_eq_false (by omega)
    have hr : r=true:=by rw [← H.out,if_neg (by omega)];exact link_end (by omega)
    subst hr
    go_wp2
    go_ret
    exact ⟨rfl,B.out⟩
 ·have hr : r=false:=by rw [← hr,decide_eq_false h16];rfl
  subst hr
  by_cases h1 : l.length < 1
  ·have c1 : decide ((l.length : Int) < 1)=true:=decide_eq_true (by omega)
   go_enter Try.func66,Try.ntmps66
   go_wp2
   go_ret
   exact ⟨rfl,B.out⟩
  ·have c1 : decide ((l.length : Int) < 1)=false:=decide_eq_false (by omega)
   have c6 : decide (6 < (l.length : Int))=true:=decide_eq_true (by omega)
   go_enter Try.func66,Try.ntmps66
   go_wp2
   go_ret
   exact ⟨rfl,B.out⟩


theorem impl_UniteStates.M (A0 : Option Addr) (c0 : Nat) (l : List S34) (w : World) (hr0 : Kd.C k34 w A0 l.length l) (hn : l.length≤1048576) : Calls Try.prog 21 #[.slice A0 l.length c0] w fun e w'=>∃ v0,e=.returned (.tuple #[v0,.bool (unM l).2])∧Kd.R k61 61 w' w.heap.size (fun _=>True) v0 (unM l).1∧Below w.heap.size w w':=by
 have B:=Aside0.mk (Below.refl w.heap.size w)
 have hu:=Try.underlying34
 have hu2:=Try.underlying30
 have hu3:=Try.underlying61
 have HR0:=Aside0.mk hr0
 clear hr0
 obtain ⟨r,hr⟩ : ∃ r,unM l=r:=⟨_,rfl⟩
 rw [hr]
 rw [unM_len] at hr
 by_cases h6 : l.length≤6
 ·have c6 : decide (6 < (l.length : Int))=false:=decide_eq_false (by omega)
  rw [decide_eq_true h6,Bool.true_and] at hr
  have H6:=Aside0.mk h6
  obtain ⟨q,hq⟩ : ∃ q,l.all stS=q:=⟨_,rfl⟩
  obtain ⟨X,hX⟩ : ∃ X,spansOf l=X:=⟨_,rfl⟩
  obtain ⟨Y,hY⟩ : ∃ Y,pairsOf l=Y:=⟨_,rfl⟩
  have H:=Aside0.mk (show (l.drop 0).all stS=q from hq)
  have HX:=Aside0.mk (show ([] : List S30) ++ spansOf (l.drop 0)=X from hX)
  have HY:=Aside0.mk (show ([] : List S61) ++ pairsOf (l.drop 0)=Y from hY)
  have HM:=Aside0.mk (show r=if q && (partB X && decide (Y.length≤48)) then (Y,true) else ([],false) by rw [← hr,hq,hX,hY])
  clear hq hX hY hr
  go_enter Try.func21,Try.ntmps21
  go_wp2
  go_loopg [4,5,13] (l.length + 1) (fun kx v4 v5 v13 wr=>∃ (j : Nat) (xs : List S30) (ys : List S61),v13=.int .i64 (j : Int)∧j≤l.length∧l.length < j + kx∧j≤6∧xs.length≤j∧ys.length≤48 * j∧Aside0 (Below w.heap.size w wr)∧Aside0 (Ow k30 30 wr w.heap.size v4 xs)∧Aside0 (Ow k61 61 wr w.heap.size v5 ys)∧Aside0 ((l.drop j).all stS=q)∧Aside0 (xs ++ spansOf (l.drop j)=X)∧Aside0 (ys ++ pairsOf (l.drop j)=Y))
  case atStart=>exact ⟨0,[],[],rfl,by omega,by omega,by omega,by simp,by simp,B,⟨Kd.R_nil _ _ _ _ _⟩,⟨Kd.R_nil _ _ _ _ _⟩,H,HX,HY⟩
  case round =>
   clear H HX HY B
   obtain ⟨j,xs,ys,rfl,hj,hk,hj6,hxl,hyl,B,Rpa,Rpb,H,HX,HY⟩:=hrel
   obtain ⟨A4,k4,rfl⟩:=Kd.R_slice Rpa.out
   obtain ⟨A5,k5,rfl⟩:=Kd.R_slice Rpb.out
   by_cases hlt : j < l.length
   ·have hj5 : j < 6:=by have:=H6.out;omega
    obtain ⟨y,hy⟩ : ∃ y,rd_T34 l (j : Int)=y:=⟨_,rfl⟩
    replace H:=Aside0.mk (show (stB y.f0.f0 y.f0.f1 y.f1 y.f2 y.f3 y.f4 && (l.drop (j + 1)).all stS)=q by rw [← H.out,st_drop hlt,hy];rfl)
    replace HX:=Aside0.mk (show xs ++ (y.f0 :: spansOf (l.drop (j + 1)))=X by rw [← HX.out,st_drop hlt,hy];rfl)
    replace HY:=Aside0.mk (show ys ++ (y.f1 ++ pairsOf (l.drop (j + 1)))=Y by rw [← HY.out,st_drop hlt,hy];rfl)
    have HL48:=Aside0.mk (stS_len (x:=y))
    obtain ⟨d,rfl⟩ : ∃ d,gk=d + 1:=⟨gk - 1,by omega⟩
    have cj : decide ((j : Int) < (l.length : Int))=true:=decide_eq_true (by omega)
    have j1:=eq_true (show (j : Int) < (l.length : Int) by omega)
    have j2:=eq_true hlt
    obtain ⟨ad,AP0,cP0,AS0,cS0,hA,E0,HP0,HS0⟩:=StE_of HR0.out hlt
    cases hA
    rw [hy] at E0 HP0 HS0
    have E0:=Aside0.mk E0
    have HP0:=Aside0.mk HP0
    have HS0:=Aside0.mk HS0
    clear hy
    obtain ⟨q0,q1,q2,q3,q4,q5⟩:=StE.q E0 B
    go_wp2_with (first
     | ((with_reducible refine gate_dst (N:=7) rfl ?_);refine bxq 7 #[.string (⟨#[]⟩ : ByteArray),.string (⟨#[]⟩ : ByteArray),.slice none 0 0,.slice none 0 0,.bool false,.string (⟨#[]⟩ : ByteArray)] 34 B fun g7 w101 hb B F7 L7 E7=>?_;replace Rpa:=rn Rpa hb;replace Rpb:=rn Rpb hb;obtain ⟨c7_0,c7_1,c7_2,c7_3,c7_4,c7_5⟩:=cs6 F7;obtain ⟨q0,q1,q2,q3,q4,q5⟩:=StE.q E0 B;clear hb E7)
     | ((with_reducible refine gate_store (t:=34) (p:=7) rfl ?_);obtain ⟨y0,y1,y2,y3,y4,y5,z0,z1,z2,z3,z4,z5⟩:=cz6 F7;refine sxq 34 34 7 0 [.string y.f0.f0,.string y.f0.f1,.slice AP0 y.f1.length cP0,.slice AS0 y.f2.length cS0,.bool y.f3,.string y.f4] [.string y.f0.f0,.string y.f0.f1,.slice AP0 y.f1.length cP0,.slice AS0 y.f2.length cS0,.bool y.f3,.string y.f4] B F7 L7 fun w102 hk B G=>?_;replace Rpa:=rk Rpa F7 (by decide) hk;replace Rpb:=rk Rpb F7 (by decide) hk;replace F7:=G;clear c7_0 c7_1 c7_2 c7_3 c7_4 c7_5;obtain ⟨c7_0,c7_1,c7_2,c7_3,c7_4,c7_5⟩:=cs6 F7;obtain ⟨q0,q1,q2,q3,q4,q5⟩:=StE.q E0 B;clear hk y0 z0 y1 z1 y2 z2 y3 z3 y4 z4 y5 z5)
     | (go_at_call 14;with_reducible refine cl (impl_StateValid.M y.f0.f0 y.f0.f1 _ _ y.f1 _ _ y.f2 y.f3 y.f4 _ (cb HP0 B) (cb HS0 B)) B fun w103 hb B=>?_;replace F7:=bn F7 hb;replace Rpa:=rn Rpa hb;replace Rpb:=rn Rpb hb;clear c7_0 c7_1 c7_2 c7_3 c7_4 c7_5;obtain ⟨c7_0,c7_1,c7_2,c7_3,c7_4,c7_5⟩:=cs6 F7;obtain ⟨q0,q1,q2,q3,q4,q5⟩:=StE.q E0 B;clear hb)
     | ((with_reducible refine gate_dst (N:=23) rfl ?_);refine lt k30 30 ?hg (N:=23) ?hd ([⟨y.f0.f0,y.f0.f1⟩] : List S30) [.string y.f0.f0,.string y.f0.f1] ?hr (Reps.c2 (k30_mkM _ _ _ ⟨y.f0.f0,y.f0.f1⟩) (Reps.none _ _)) (by simp) B ?_;(case hd | hg=>rfl);(case hr=>go_simp;first | done | rfl);intro z23 hz23 AL23 kL23 w104 hb B RL23 QL23;replace F7:=bn F7 hb;replace Rpa:=rn Rpa hb;replace Rpb:=rn Rpb hb;clear c7_0 c7_1 c7_2 c7_3 c7_4 c7_5;obtain ⟨c7_0,c7_1,c7_2,c7_3,c7_4,c7_5⟩:=cs6 F7;obtain ⟨q0,q1,q2,q3,q4,q5⟩:=StE.q E0 B;clear hb QL23)
     | ((with_reducible refine gate_builtin (b:=.append) (xs:=#[.tmp 20,.tmp 23]) rfl ?_);at_builtin;refine apx k30 30 rfl (.tmp 20) (.tmp 23) 85 (.agg #[.string (⟨#[]⟩ : ByteArray),.string (⟨#[]⟩ : ByteArray)]) 32 rfl Try.underlying85 info30 rfl (by decide) (by omega) rfl rfl Rpa (rc RL23) (fun x cs h=>by rw [k30_open h];exact k30_mkM _ _ _ x) (by rw [← hz23];simp only [List.length_cons,List.length_nil];omega) B ?_;intro z24 hz24 AL24 kL24 w105 hg B RL24 hat;replace F7:=bga F7 hg Rpa (by decide);replace Rpb:=rga Rpb rfl hg (dty Rpa Rpb (by decide));clear c7_0 c7_1 c7_2 c7_3 c7_4 c7_5;obtain ⟨c7_0,c7_1,c7_2,c7_3,c7_4,c7_5⟩:=cs6 F7;obtain ⟨q0,q1,q2,q3,q4,q5⟩:=StE.q E0 B;clear hg hat)
     | ((with_reducible refine gate_builtin (b:=.append) (xs:=#[.tmp 25,.tmp 27]) rfl ?_);at_builtin;refine apx k61 61 rfl (.tmp 25) (.tmp 27) 31 (.agg #[.string (⟨#[]⟩ : ByteArray),.int .i64 (0)]) 24 rfl Try.underlying31 info61 rfl (by decide) (by omega) rfl rfl Rpb (cb HP0 B) (fun x cs h=>by rw [k61_open h];exact k61_mkM _ _ _ x) (by have:=HL48.out (nnB (by assumption));omega) B ?_;intro z28 hz28 AL28 kL28 w106 hg B RL28 hat;replace RL24:=rga RL24 rfl hg (dty Rpb RL24 (by decide));obtain ⟨q0,q1,q2,q3,q4,q5⟩:=StE.q E0 B;clear hg hat))
    all_goals first
     | (have hs : stB y.f0.f0 y.f0.f1 y.f1 y.f2 y.f3 y.f4=true:=nnB (by assumption);go_roundg d;(case measure=>omega);(case rel=>exact ⟨j + 1,z24,z28,congrArg (Value.int .i64) (Int.natCast_succ _).symm,by omega,by omega,by omega,(by rw [← hz24,← hz23];simp only [List.length_append,List.length_cons,List.length_nil];omega),(by have:=HL48.out hs;rw [← hz28];simp only [List.length_append];omega),B,RL24,RL28,⟨by rw [← H.out,hs,Bool.true_and]⟩,⟨by rw [← hz24,← hz23,List.append_assoc];exact HX.out⟩,⟨by rw [← hz28,List.append_assoc];exact HY.out⟩⟩))
     | (have hs : stB y.f0.f0 y.f0.f1 y.f1 y.f2 y.f3 y.f4=false:=nnT (by assumption);have hq : q=false:=(by rw [← H.out,hs];rfl);have hr : r=([],false):=(by rw [HM.out,hq];rfl);subst hr;go_ret2;exact ⟨_,rfl,Kd.R_nil _ _ _ _ _,B.out⟩)
   ·have cj : decide ((j : Int) < (l.length : Int))=false:=decide_eq_false (by omega)
    have hq : q=true:=by rw [← H.out,List.drop_of_length_le (by omega)];rfl
    have hx:=HX.out
    have hy:=HY.out
    rw [List.drop_of_length_le (by omega),show spansOf []=[] from rfl,List.append_nil] at hx
    rw [List.drop_of_length_le (by omega),show pairsOf []=[] from rfl,List.append_nil] at hy
    subst hx
    subst hy
    have hm:=HM.out
    rw [hq,Bool.true_and] at hm
    clear H HX HY HM hq
    have HM:=Aside0.mk hm
    clear hm
    go_wp2_with (first
     | (go_at_call 66;with_reducible refine cl (impl_PartitionValid.M _ _ xs _ (rc Rpa) (by omega)) B fun w301 hb B=>?_;replace Rpa:=rn Rpa hb;replace Rpb:=rn Rpb hb;clear hb))
    all_goals first
     | (have hr : r=(ys,true):=(by rw [HM.out,if_pos (by grind)]);subst hr;go_ret2;exact ⟨_,rfl,Rpb.out,B.out⟩)
     | (have hr : r=([],false):=(by rw [HM.out,if_neg (by grind)]);subst hr;go_ret2;exact ⟨_,rfl,Kd.R_nil _ _ _ _ _,B.out⟩)
 ·have c6 : decide (6 < (l.length : Int))=true:=decide_eq_true (by omega)
  rw [decide_eq_false h6,Bool.false_and] at hr
  obtain rfl : r=([],false):=hr.symm
  go_enter Try.func21,Try.ntmps21
  go_wp2
  go_ret2
  exact ⟨_,rfl,Kd.R_nil _ _ _ _ _,B.out⟩

end Go.Proofs.Ytenfiihcdhnamaa.PFnExactUniteStates
