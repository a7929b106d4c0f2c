/- Walks over models, part 0: base infoint nums strs keys ivm iv has inside prsm sesm stm smm cmdm place putlen apm ord prok apok sputm sjoinm aem rpm scmd keyval icmd keyseq sent logs rows c2r drawn nbox drs mkcap copyS copyP inm getm stcutm cpst sses sfind splace spairs sget sdrop sput sapply isplace ises isseq ung ssput scut sstate. -/
import Derived.Test.YthofkheehldioaaPFnReplayx0
import Derived.Deep.RegionHeld3
import Derived.Test.YthofkheehldioaaPFnReplayx84
import Derived.Lib.Strings
import Derived.Laws.BytesArg
import Derived.Test.YthofkheehldioaaPFnReplayx4
import Derived.Test.YthofkheehldioaaPFnReplayx5
import Derived.Test.YthofkheehldioaaPFnReplayx22
import Derived.Test.YthofkheehldioaaPFnReplayx66
import Derived.Test.YthofkheehldioaaPFnReplayx67
import Derived.Test.YthofkheehldioaaPFnReplayx65
import Derived.Test.YthofkheehldioaaPFnReplayx74
import Derived.Test.YthofkheehldioaaPFnReplayx73
namespace Go.Proofs.Ythofkheehldioaa.PFnReplay
open Go.RowKit Go.Proofs.YthofkheehldioaaW.PrintWords Go.Proofs.YthofkheehldioaaW.PrintLast Go.Proofs.YthofkheehldioaaW.PrintMore
set_option linter.unusedVariables false
set_option linter.unusedSimpArgs false
set_option maxHeartbeats 4000000
set_option maxRecDepth 100000
def bits (n m : Nat) : Array Bool:=((List.range n).map fun i=>m.testBit i).toArray
/-! Words: a call by its contract,boxes and rows carried on. -/
section
variable {P : Program} {F : FuncId} {args : Array Value} {w W W' : World} {v : Value} {Q : Ending→World→Prop}
theorem cl (c : Calls P F args W fun e w'=>e=.returned v∧Below W.heap.size W w') (B : Aside0 (Below w.heap.size w W))
    (h : ∀ W',Below W.heap.size W W'→Aside0 (Below w.heap.size w W')→Q (.returned v) W') : Calls P F args W Q :=
  c.mono (by rintro e W' ⟨rfl,hb⟩;exact h W' hb ⟨below_step B.out hb⟩)
theorem cx {α : Type} {f : α→Value} {p : α→Prop} (c : Calls P F args W fun e w'=>∃ x,e=.returned (f x)∧p x∧Below W.heap.size W w') (B : Aside0 (Below w.heap.size w W))
    (h : ∀ x,p x→∀ W',Below W.heap.size W W'→Aside0 (Below w.heap.size w W')→Q (.returned (f x)) W') : Calls P F args W Q :=
  c.mono (by rintro e W' ⟨x,rfl,hx,hb⟩;exact h x hx W' hb ⟨below_step B.out hb⟩)
theorem clv {v v' : Value} (c : Calls P F args W fun e w'=>e=.returned v∧Below W.heap.size W w') (hv : v=v') : Calls P F args W fun e w'=>e=.returned v'∧Below W.heap.size W w':=hv ▸ c
variable {α β : Type} {d : Kd α} {d' : Kd β} {e e' b : Nat} {xs : List α} {ys : List β} {f : Value→Value}
/-- what a row of a call's own is known by -/
def Ow (d : Kd α) (e : Nat) (W : World) (b : Nat) (v : Value) (xs : List α) : Prop:=Kd.R d e W b (fun _=>True) v xs
/-- the row lies in a block that was not there before -/
def Fr (W : World) (v : Value) : Prop:=∀ k,v.ownBlock=some k→W.heap.size≤k
theorem cr (c : Calls P F args W fun r w'=>∃ v0,r=.returned (f v0)∧Kd.R d e w' W.heap.size (fun _=>True) v0 xs∧Below W.heap.size W w') (B : Aside0 (Below w.heap.size w W))
    (h : ∀ A kk W',Below W.heap.size W W'→Aside0 (Below w.heap.size w W')→Aside0 (Ow d e W' w.heap.size (.slice A xs.length kk) xs)→Aside0 (Fr W (.slice A xs.length kk))→Q (.returned (f (.slice A xs.length kk))) W') : Calls P F args W Q :=
  c.mono (by
    rintro r W' ⟨v0,rfl,ho,hb⟩
    obtain ⟨A,kk,rfl⟩:=Kd.R_slice ho
    exact h A kk W' hb ⟨below_step B.out hb⟩ ⟨Kd.R_lower ho (below_size B.out)⟩ ⟨fun k hk=>Kd.R_base ho k hk⟩)
theorem crz (c : Calls P F args W fun r w'=>∃ v0,r=.returned (f v0)∧Kd.R d e w' W.heap.size (fun _=>True) v0 xs∧Below W.heap.size W w') (B : Aside0 (Below w.heap.size w W))
    (h : ∀ zs,xs=zs→∀ A kk W',Below W.heap.size W W'→Aside0 (Below w.heap.size w W')→Aside0 (Ow d e W' w.heap.size (.slice A zs.length kk) zs)→Aside0 (Fr W (.slice A zs.length kk))→Q (.returned (f (.slice A zs.length kk))) W') : Calls P F args W Q:=cr c B (h xs rfl)
theorem bn {g : Nat} {o : Obj} (F : Aside0 (W.heap[g]?=some o)) (hb : Below W.heap.size W W') : Aside0 (W'.heap[g]?=some o):=⟨blk_below F.out hb⟩
theorem rn {v : Value} (R : Aside0 (Ow d e W b v xs)) (hb : Below W.heap.size W W') : Aside0 (Ow d e W' b v xs):=⟨Kd.R_below R.out hb⟩
theorem rc {A : Option Addr} {n c : Nat} (R : Aside0 (Ow d e W b (.slice A n c) xs)) : Kd.C d W A xs.length xs:=(Kd.R_reads' R.out).2.2
theorem rl {A : Option Addr} {c : Nat} (R : Aside0 (Ow d e W b (.slice A xs.length c) xs)) : xs.length≤c:=(Kd.R_reads' R.out).2.1
theorem cb {A : Option Addr} {n : Nat} (H : Aside0 (Kd.C d w A n xs)) (B : Aside0 (Below w.heap.size w W)) : Kd.C d W A n xs:=Kd.C_below H.out B.out
theorem cs2 {g t : Nat} {a b : Value} (F : Aside0 (W.heap[g]?=some (.cells #[a,b] t (0,0)))) : W.cell? ⟨g,0,none⟩=some a∧W.cell? ⟨g,1,none⟩=some b:=⟨(blk_cell F.out 0).trans rfl,(blk_cell F.out 1).trans rfl⟩
theorem cs3 {g t : Nat} {a b c : Value} (F : Aside0 (W.heap[g]?=some (.cells #[a,b,c] t (0,0)))) : W.cell? ⟨g,0,none⟩=some a∧W.cell? ⟨g,1,none⟩=some b∧W.cell? ⟨g,2,none⟩=some c:=⟨(blk_cell F.out 0).trans rfl,(blk_cell F.out 1).trans rfl,(blk_cell F.out 2).trans rfl⟩
theorem cs4 {g t : Nat} {a b c d : Value} (F : Aside0 (W.heap[g]?=some (.cells #[a,b,c,d] t (0,0)))) : W.cell? ⟨g,0,none⟩=some a∧W.cell? ⟨g,1,none⟩=some b∧W.cell? ⟨g,2,none⟩=some c∧W.cell? ⟨g,3,none⟩=some d:=⟨(blk_cell F.out 0).trans rfl,(blk_cell F.out 1).trans rfl,(blk_cell F.out 2).trans rfl,(blk_cell F.out 3).trans rfl⟩
theorem cs6 {g t : Nat} {a b c d x y : Value} (F : Aside0 (W.heap[g]?=some (.cells #[a,b,c,d,x,y] t (0,0)))) : W.cell? ⟨g,0,none⟩=some a∧W.cell? ⟨g,1,none⟩=some b∧W.cell? ⟨g,2,none⟩=some c∧W.cell? ⟨g,3,none⟩=some d∧W.cell? ⟨g,4,none⟩=some x∧W.cell? ⟨g,5,none⟩=some y :=
  ⟨(blk_cell F.out 0).trans rfl,(blk_cell F.out 1).trans rfl,(blk_cell F.out 2).trans rfl,(blk_cell F.out 3).trans rfl,(blk_cell F.out 4).trans rfl,(blk_cell F.out 5).trans rfl⟩
theorem fz {g t : Nat} {cs : Array Value} (F : Aside0 (W.heap[g]?=some (.cells cs t (0,0)))) (j : Nat) : W.frozen? ⟨g,j,none⟩=false:=blk_frozen F.out j
theorem cz2 {g t : Nat} {a b : Value} (F : Aside0 (W.heap[g]?=some (.cells #[a,b] t (0,0)))) : W.cell? ⟨g,0,none⟩=some a∧W.cell? ⟨g,1,none⟩=some b∧W.frozen? ⟨g,0,none⟩=false∧W.frozen? ⟨g,1,none⟩=false :=
  ⟨(blk_cell F.out 0).trans rfl,(blk_cell F.out 1).trans rfl,fz F 0,fz F 1⟩
theorem cz3 {g t : Nat} {a b c : Value} (F : Aside0 (W.heap[g]?=some (.cells #[a,b,c] t (0,0)))) : W.cell? ⟨g,0,none⟩=some a∧W.cell? ⟨g,1,none⟩=some b∧W.cell? ⟨g,2,none⟩=some c∧W.frozen? ⟨g,0,none⟩=false∧W.frozen? ⟨g,1,none⟩=false∧W.frozen? ⟨g,2,none⟩=false :=
  ⟨(blk_cell F.out 0).trans rfl,(blk_cell F.out 1).trans rfl,(blk_cell F.out 2).trans rfl,fz F 0,fz F 1,fz F 2⟩
theorem cz4 {g t : Nat} {a b c d : Value} (F : Aside0 (W.heap[g]?=some (.cells #[a,b,c,d] t (0,0)))) : W.cell? ⟨g,0,none⟩=some a∧W.cell? ⟨g,1,none⟩=some b∧W.cell? ⟨g,2,none⟩=some c∧W.cell? ⟨g,3,none⟩=some d∧W.frozen? ⟨g,0,none⟩=false∧W.frozen? ⟨g,1,none⟩=false∧W.frozen? ⟨g,2,none⟩=false∧W.frozen? ⟨g,3,none⟩=false :=
  ⟨(blk_cell F.out 0).trans rfl,(blk_cell F.out 1).trans rfl,(blk_cell F.out 2).trans rfl,(blk_cell F.out 3).trans rfl,fz F 0,fz F 1,fz F 2,fz F 3⟩
theorem cz6 {g t : Nat} {a b c d x y : Value} (F : Aside0 (W.heap[g]?=some (.cells #[a,b,c,d,x,y] t (0,0)))) : W.cell? ⟨g,0,none⟩=some a∧W.cell? ⟨g,1,none⟩=some b∧W.cell? ⟨g,2,none⟩=some c∧W.cell? ⟨g,3,none⟩=some d∧W.cell? ⟨g,4,none⟩=some x∧W.cell? ⟨g,5,none⟩=some y∧W.frozen? ⟨g,0,none⟩=false∧W.frozen? ⟨g,1,none⟩=false∧W.frozen? ⟨g,2,none⟩=false∧W.frozen? ⟨g,3,none⟩=false∧W.frozen? ⟨g,4,none⟩=false∧W.frozen? ⟨g,5,none⟩=false :=
  ⟨(blk_cell F.out 0).trans rfl,(blk_cell F.out 1).trans rfl,(blk_cell F.out 2).trans rfl,(blk_cell F.out 3).trans rfl,(blk_cell F.out 4).trans rfl,(blk_cell F.out 5).trans rfl,fz F 0,fz F 1,fz F 2,fz F 3,fz F 4,fz F 5⟩
theorem sets_keep (g : Nat) : ∀ (vs : List Value) (j : Nat) (W1 : World),KeepBut W W1 g none→KeepBut W (W1.setCells g j vs) g none
  | [],_,_,h=>h
  | v :: r,j,_,h=>sets_keep g r (j + 1) _ (h.set_ j v)
theorem sets_below (g : Nat) (hg : w.heap.size≤g) : ∀ (vs : List Value) (j : Nat) (W1 : World),Below w.heap.size w W1→Below w.heap.size w (W1.setCells g j vs)
  | [],_,_,h=>h
  | _ :: r,j,_,h=>sets_below g hg r (j + 1) _ (below_set h hg)
theorem sets_blk (g t : Nat) (s : List Value) : ∀ (vs l r : List Value) (W1 : World),r.length=vs.length→W1.heap[g]?=some (.cells (l ++ r ++ s).toArray t (0,0))→(W1.setCells g l.length vs).heap[g]?=some (.cells (l ++ vs ++ s).toArray t (0,0))
  | [],l,r,_,hr,h=>by
    obtain rfl : r=[]:=List.eq_nil_of_length_eq_zero hr
    exact h
  | v :: vs,l,[],_,hr,h=>by cases hr
  | v :: vs,l,x :: r,W1,hr,h=>by
    have:=sets_blk g t s vs (l ++ [v]) r (W1.setCell ⟨g,l.length,none⟩ v) (by simpa using hr) (by
      rw [blk_set h]
      simp)
    simpa [World.setCells] using this
theorem sets_blk' {g t : Nat} {cs : Array Value} (off : Nat) (ns vs : List Value) (hl : cs.toList.take off ++ ns ++ cs.toList.drop (off + ns.length)=vs) (hs : off + ns.length≤cs.size) (F : W.heap[g]?=some (.cells cs t (0,0))) : (W.setCells g off ns).heap[g]?=some (.cells vs.toArray t (0,0)):=by
  subst hl
  have h1 : (cs.toList.take off).length=off:=by rw [List.length_take,Array.length_toList (xs:=cs)];omega
  have:=sets_blk g t (cs.toList.drop (off + ns.length)) ns (cs.toList.take off) ((cs.toList.drop off).take ns.length) W (by rw [List.length_take,List.length_drop,Array.length_toList (xs:=cs)];omega) (by
    rw [F]
    congr 1
    congr 1
    rw [List.append_assoc,← List.drop_drop,List.take_append_drop,List.take_append_drop])
  rwa [h1] at this
variable {ops ops' : Array Oper} {o : Oper} {rest : List Oper} {a : Act} {QE : Exit→Act→World→Prop}
theorem bx (hgd : o.guard=none) {N : Tmp} (hd : o.dst=some N) {cs : Array Value} {t : TypeId} (hrun : (execOp a.eval o).run P W=.ok (.value (.pointer (some ⟨W.heap.size,0,none⟩))) (W.alloc (.cells cs t (0,0))))
    (B : Aside0 (Below w.heap.size w W))
    (h : ∀ g w1,Below W.heap.size W w1→Aside0 (Below w.heap.size w w1)→Aside0 (w1.heap[g]?=some (.cells cs t (0,0)))→Aside0 (w.heap.size≤g)→Aside0 (g=W.heap.size)→wpList P ops QE rest (a.put o.dst (.pointer (some ⟨g,0,none⟩))) w1) : wpList P ops QE (o :: rest) a W :=
  box_event hgd hd hrun fun g hg w1 hc hb=>h g w1 hb ⟨below_step B.out hb⟩ ⟨hc⟩ ⟨hg ▸ below_size B.out⟩ ⟨hg⟩
theorem sx (hgd : o.guard=none) {t t' : TypeId} {p : Tmp} {v : Operand} (ho : o.op=.store t' (.tmp p) v) (hN : o.dst=none) {g : Nat} {cs : Array Value} (off : Nat) (ns vs : List Value) (hrun : (execOp a.eval o).run P W=.ok .skip (W.setCells g off ns))
    (B : Aside0 (Below w.heap.size w W)) (F : Aside0 (W.heap[g]?=some (.cells cs t (0,0)))) (L : Aside0 (w.heap.size≤g)) (hl : cs.toList.take off ++ ns ++ cs.toList.drop (off + ns.length)=vs) (hs : off + ns.length≤cs.size)
    (h : ∀ w',KeepBut W w' g none→Aside0 (Below w.heap.size w w')→Aside0 (w'.heap[g]?=some (.cells vs.toArray t (0,0)))→wpList P ops QE rest a w') : wpList P ops QE (o :: rest) a W :=
  store_event hgd ho hN hrun fun w' hw=>by
    subst hw
    exact h _ (sets_keep g ns off W (KeepBut.refl _ _ _)) ⟨sets_below g L.out ns off W B.out⟩ ⟨sets_blk' off ns vs hl hs F.out⟩
theorem sxs {Kc : Act→World→Prop} {g t : Nat} {cs : Array Value} (off : Nat) (ns vs : List Value) (hw : Region.wanted o (yielded ops' a.tmps)=true) (hN : o.dst=none) (hrun : (execOp a.eval o).run P W=.ok .skip (W.setCells g off ns))
    (B : Aside0 (Below w.heap.size w W)) (F : Aside0 (W.heap[g]?=some (.cells cs t (0,0)))) (L : Aside0 (w.heap.size≤g)) (hl : cs.toList.take off ++ ns ++ cs.toList.drop (off + ns.length)=vs) (hs : off + ns.length≤cs.size)
    (h : ∀ w',KeepBut W w' g none→Aside0 (Below w.heap.size w w')→Aside0 (w'.heap[g]?=some (.cells vs.toArray t (0,0)))→Kc (a.put none undef) w') : if Region.wanted o (yielded ops' a.tmps)=true then Oper.wp P o a W Kc QE else Kc (a.put none undef) W:=by
  rw [if_pos hw]
  unfold Oper.wp
  rw [hrun]
  show Kc (a.put o.dst undef) _
  rw [hN]
  exact h _ (sets_keep g ns off W (KeepBut.refl _ _ _)) ⟨sets_below g L.out ns off W B.out⟩ ⟨sets_blk' off ns vs hl hs F.out⟩
theorem rg {S : World→Prop} {ds : List Nat} {id n : Nat} (l : Array Bool) (hm : P.follows .mixedOrders=true) (hn : ops'.size=n) (hl : Array.replicate n false=l) (hS : S W) (hd : S W→S W.drew) (B : Aside0 (Below w.heap.size w W))
    (h : ∀ W',Below W.heap.size W W'→Aside0 (Below w.heap.size w W')→S W'→wpAnyLast P .any ops' QE S ds n l a W') : (Code.region id ops' true).wp P QE a W :=
  start_ l hm hn hl (hd hS) fun hH=>h _ (below_drew1 (Below.refl _ _)) ⟨below_drew B.out⟩ hH
theorem pu {S : World→Prop} {md : Region.Mode} {ds : List Nat} {i : Nat} {N : Option Tmp} {oi : Oper} {v : Value} {fuel : Nat} {l : Array Bool} (l' : Array Bool) (hi : ops'[i]?=some oi) (hN : oi.dst=N) (hc : anyB md ops' l l' i=true)
    (hQ : ∀ c a w,QE (.panic c) (a.put oi.dst v) w→QE (.panic c) a w) (hw : Region.wanted oi (yielded ops' a.tmps)=true) (hy : ∀ w,(execOp a.eval oi).run P w=.ok (.value v) w) (h : wpAnyLast P md ops' QE S ds fuel l' (a.put N v) W) : wpAnyLast P md ops' QE S ds (fuel + 1) l a W :=
  pure_ l' hi hN hc hQ (Or.inl ⟨hw,hy⟩) rfl h
theorem pv {S : World→Prop} {md : Region.Mode} {ds : List Nat} (i : Nat) (N : Option Tmp) {oi : Oper} {v : Value} {fuel : Nat} {l : Array Bool} {T : Bool × List (List Nat × List Nat)} (l' : Array Bool) (HT : Aside0 (rtab md ops'=T)) (hc : anyT T l.toList l'.toList i=true) (hi : ops'[i]?=some oi) (hN : oi.dst=N)
    (hQ : ∀ c a w,QE (.panic c) (a.put oi.dst v) w→QE (.panic c) a w) (hw : Region.wanted oi (yielded ops' a.tmps)=true) (hy : ∀ w,(execOp a.eval oi).run P w=.ok (.value v) w) (h : wpAnyLast P md ops' QE S ds fuel l' (a.put N v) W) : wpAnyLast P md ops' QE S ds (fuel + 1) l a W :=
  pure_ l' hi hN (any_of HT.out hc) hQ (Or.inl ⟨hw,hy⟩) rfl h
theorem sv {S : World→Prop} {md : Region.Mode} {ds : List Nat} (i : Nat) (N : Option Tmp) {oi : Oper} {fuel : Nat} {l : Array Bool} {T : Bool × List (List Nat × List Nat)} (l' : Array Bool) (HT : Aside0 (rtab md ops'=T)) (hc : anyT T l.toList l'.toList i=true) (hi : ops'[i]?=some oi) (hN : oi.dst=N)
    (hQ : ∀ c a w,QE (.panic c) (a.put oi.dst undef) w→QE (.panic c) a w) (hw : Region.wanted oi (yielded ops' a.tmps)=false) (h : wpAnyLast P md ops' QE S ds fuel l' (a.put N undef) W) : wpAnyLast P md ops' QE S ds (fuel + 1) l a W :=
  pure_ l' hi hN (any_of HT.out hc) hQ (Or.inr ⟨hw,rfl⟩) rfl h
theorem tv {S : World→Prop} {md : Region.Mode} {ds : List Nat} (i : Nat) (N : Option Tmp) {oi : Oper} {v : Value} {fuel : Nat} {l : Array Bool} {T : Bool × List (List Nat × List Nat)} {U : List Nat} (l' : Array Bool) (HT : Aside0 (rtab md ops'=T)) (HW : Aside0 (waitsOk T.2 U=true)) (hc : takeW T U ds l.toList l'.toList i=true) (hi : ops'[i]?=some oi) (hN : oi.dst=N)
    (hQ : ∀ c a w,QE (.panic c) (a.put oi.dst v) w→QE (.panic c) a w) (hw : Region.wanted oi (yielded ops' a.tmps)=true) (hS : S W) (hy : ∀ w,S w→(execOp a.eval oi).run P w=.ok (.value v) w) (h : wpAnyLast P md ops' QE S ds fuel l' (a.put N v) W) : wpAnyLast P md ops' QE S ds (fuel + 1) l a W :=
  take_ l' hi hN (take_ofW HT.out HW.out hc) hQ (Or.inl ⟨hw,hy⟩) hS rfl h
theorem za {α : Type} (xs : List α) (i : Nat) (x : α) : xs.toArray.setIfInBounds i x=(xs.set i x).toArray:=List.setIfInBounds_toArray ..
theorem zb {α : Type} (x y : α) (xs : List α) : (x :: xs).set 0 y=y :: xs:=rfl
theorem zc {α : Type} (x y : α) (xs : List α) (n : Nat) : (x :: xs).set (n + 1) y=x :: xs.set n y:=rfl
theorem ne1 {g g' : Nat} {o : Obj} (E : Aside0 (g=W.heap.size)) (F : Aside0 (W.heap[g']?=some o)) : Aside0 (g' ≠ g):=⟨Nat.ne_of_lt (E.out ▸ blk_lt F.out)⟩
theorem bk {g g' : Nat} {o : Obj} (F : Aside0 (W.heap[g']?=some o)) (hk : KeepBut W W' g none) (N : g' ≠ g) : Aside0 (W'.heap[g']?=some o):=⟨hk.blk F.out N (by simp)⟩
theorem rk {v : Value} {g t : Nat} {cs : Array Value} (R : Aside0 (Ow d e W b v xs)) (F : Aside0 (W.heap[g]?=some (.cells cs t (0,0)))) (ht : ∀ q,q ∈ e :: d.E→q ≠ t) (hk : KeepBut W W' g none) : Aside0 (Ow d e W' b v xs) :=
  ⟨Kd.R_mono (Kd.R_keep (Kd.R_types R.out F.out ht) hk (fun _ q=>q.2)) (fun _ q=>q.1)⟩
/-! The same with what goes by itself left out. -/
theorem bxq (N : Tmp) (cs : Array Value) (t : TypeId) (B : Aside0 (Below w.heap.size w W))
    (h : ∀ g w1,Below W.heap.size W w1→Aside0 (Below w.heap.size w w1)→Aside0 (w1.heap[g]?=some (.cells cs t (0,0)))→Aside0 (w.heap.size≤g)→Aside0 (g=W.heap.size)→wpList P ops QE rest (a.put o.dst (.pointer (some ⟨g,0,none⟩))) w1)
    (hgd : o.guard=none:=by exact rfl) (hd : o.dst=some N:=by exact rfl) (hrun : (execOp a.eval o).run P W=.ok (.value (.pointer (some ⟨W.heap.size,0,none⟩))) (W.alloc (.cells cs t (0,0))):=by go_simp;first | done | rfl) : wpList P ops QE (o :: rest) a W:=bx hgd hd hrun B h
theorem sxq (t t' : TypeId) (p : Tmp) {v : Operand} {g : Nat} {cs : Array Value} (off : Nat) (ns vs : List Value) (B : Aside0 (Below w.heap.size w W)) (F : Aside0 (W.heap[g]?=some (.cells cs t (0,0)))) (L : Aside0 (w.heap.size≤g))
    (h : ∀ w',KeepBut W w' g none→Aside0 (Below w.heap.size w w')→Aside0 (w'.heap[g]?=some (.cells vs.toArray t (0,0)))→wpList P ops QE rest a w')
    (hgd : o.guard=none:=by exact rfl) (ho : o.op=.store t' (.tmp p) v:=by exact rfl) (hN : o.dst=none:=by exact rfl) (hrun : (execOp a.eval o).run P W=.ok .skip (W.setCells g off ns):=by go_simp;first | done | rfl)
    (hl : cs.toList.take off ++ ns ++ cs.toList.drop (off + ns.length)=vs:=by exact rfl) (hs : off + ns.length≤cs.size:=by exact Nat.le_of_ble_eq_true rfl) : wpList P ops QE (o :: rest) a W:=sx hgd ho hN off ns vs hrun B F L hl hs h
theorem pvq {S : World→Prop} {md : Region.Mode} {ds : List Nat} (i : Nat) (N : Option Tmp) {oi : Oper} {v : Value} {fuel : Nat} {l : Array Bool} {T : Bool × List (List Nat × List Nat)} (l' : Array Bool) (HT : Aside0 (rtab md ops'=T)) (h : wpAnyLast P md ops' QE S ds fuel l' (a.put N v) W)
    (hi : ops'[i]?=some oi:=by exact rfl) (hN : oi.dst=N:=by exact rfl) (hc : anyT T l.toList l'.toList i=true:=by kernel_rfl) (hQ : ∀ c a w,QE (.panic c) (a.put oi.dst v) w→QE (.panic c) a w:=by exact fun _ _ _ h=>h) (hw : Region.wanted oi (yielded ops' a.tmps)=true:=by kernel_rfl)
    (hy : ∀ w,(execOp a.eval oi).run P w=.ok (.value v) w:=by intro w';go_simp;with_reducible rfl) : wpAnyLast P md ops' QE S ds (fuel + 1) l a W:=pv i N l' HT hc hi hN hQ hw hy h
theorem tvq {S : World→Prop} {md : Region.Mode} {ds : List Nat} (i : Nat) (N : Option Tmp) {oi : Oper} {v : Value} {fuel : Nat} {l : Array Bool} {T : Bool × List (List Nat × List Nat)} {U : List Nat} (l' : Array Bool) (HT : Aside0 (rtab md ops'=T)) (HW : Aside0 (waitsOk T.2 U=true)) (hi : ops'[i]?=some oi) (hS : S W)
    (hy : ∀ w,S w→(execOp a.eval oi).run P w=.ok (.value v) w) (h : wpAnyLast P md ops' QE S ds fuel l' (a.put N v) W)
    (hN : oi.dst=N:=by exact rfl) (hc : takeW T U ds l.toList l'.toList i=true:=by kernel_rfl) (hQ : ∀ c a w,QE (.panic c) (a.put oi.dst v) w→QE (.panic c) a w:=by exact fun _ _ _ h=>h) (hw : Region.wanted oi (yielded ops' a.tmps)=true:=by kernel_rfl) : wpAnyLast P md ops' QE S ds (fuel + 1) l a W:=tv i N l' HT HW hc hi hN hQ hw hS hy h
theorem svq {S : World→Prop} {md : Region.Mode} {ds : List Nat} (i : Nat) (N : Option Tmp) {oi : Oper} {fuel : Nat} {l : Array Bool} {T : Bool × List (List Nat × List Nat)} (l' : Array Bool) (HT : Aside0 (rtab md ops'=T)) (h : wpAnyLast P md ops' QE S ds fuel l' (a.put N undef) W)
    (hi : ops'[i]?=some oi:=by exact rfl) (hN : oi.dst=N:=by exact rfl) (hc : anyT T l.toList l'.toList i=true:=by kernel_rfl) (hQ : ∀ c a w,QE (.panic c) (a.put oi.dst undef) w→QE (.panic c) a w:=by exact fun _ _ _ h=>h) (hw : Region.wanted oi (yielded ops' a.tmps)=false:=by kernel_rfl) : wpAnyLast P md ops' QE S ds (fuel + 1) l a W:=sv i N l' HT hc hi hN hQ hw h
theorem gsq {oi : Oper} {N : Option Tmp} {K : Act→World→Prop} {f : FuncId} {fn : Func} {ao : Array Operand} {ts : Array TypeId} (hf : P.funcs[f]?=some fn) (args : Array Value) (h : Calls P f args W fun e w'=>∃ v,e=.returned v∧K (a.put N v) w')
    (hN : oi.dst=N:=by exact rfl) (hop : oi.op=.call { callee:=.value (.func f),args:=ao,argTypes:=ts }:=by exact rfl) (hname : (fn.name == "runtime.NumGoroutine")=false:=by kernel_rfl) (hb : fn.body.isSome=true:=by exact rfl) (hw : Region.wanted oi (yielded ops' a.tmps)=true:=by rfl)
    (hargs : ao.map a.eval=args:=by (try simp only [List.map_toArray,List.map_cons,List.map_nil]);rfl) : if Region.wanted oi (yielded ops' a.tmps)=true then Oper.wp P oi a W K QE else K (a.put N undef) W:=goes_ hf hname hb args hw hN hop hargs h
theorem nmq {S : World→Prop} {md : Region.Mode} {ds : List Nat} {fuel : Nat} {l : Array Bool} {a' : Act} (h : wpAnyLast P md ops' QE S ds fuel l a' W) (ha : a=a':=by simp only [Act.put,za,zb,zc,i64_w,i32_w];rfl) : wpAnyLast P md ops' QE S ds fuel l a W:=norm_ ha h
theorem npq {S : World→Prop} {md : Region.Mode} {ds : List Nat} {fuel : Nat} {l : Array Bool} (N : Option Tmp) {v : Value} {a' : Act} (h : wpAnyLast P md ops' QE S ds fuel l a' W) (ha : a.put N v=a':=by simp only [Act.put,za,zb,zc,i64_w,i32_w];rfl) : wpAnyLast P md ops' QE S ds fuel l (a.put N v) W:=norm_ ha h
end


theorem w64 {x : Int} (h0 : -9223372036854775808≤x) (h1 : x≤9223372036854775807) : wrap64 x=x:=by
  unfold wrap64
  omega
theorem rd_drop {xs : List Int} {j : Nat} (h : j < xs.length) : xs.drop j=rd xs (j : Int) :: xs.drop (j + 1):=by
  rw [List.drop_eq_getElem_cons h]
  simp [rd,List.getD_eq_getElem?_getD,List.getElem?_eq_getElem h]
theorem andF {c x r : Bool} (h : (c && x)=r) (hc : c=false) : Ending.returned (Value.bool false)=Ending.returned (.bool r):=by subst h;rw [hc];rfl
theorem andT {c x r : Bool} (h : (c && x)=r) (hc : c=true) : x=r:=by subst h;rw [hc];rfl
theorem useEq {α : Type} {a b : α} {p : Prop} (h : a=b) (k : a=b→p) : p:=k h

/-! Strings compared. -/
theorem less_total : ∀ x y : List UInt8,(Op.bytesLess x y || x == y)=!(Op.bytesLess y x)
  | [],[]=>rfl
  | [],_ :: _=>rfl
  | _ :: _,[]=>rfl
  | a :: x,b :: y=>by
    have ih:=less_total x y
    simp only [Op.bytesLess]
    by_cases h : a=b
    · subst h
      simpa using ih
    · have h2 : (a == b)=false:=beq_eq_false_iff_ne.mpr h
      have h3 : (b == a)=false:=beq_eq_false_iff_ne.mpr (Ne.symm h)
      have h4 : (a :: x == b :: y)=false:=beq_eq_false_iff_ne.mpr fun q=>h (List.cons.inj q).1
      rw [h2,h3,h4]
      simp only [Bool.false_and,Bool.or_false]
      by_cases hl : a < b
      · have : ¬ b < a:=by rw [UInt8.lt_iff_toNat_lt] at *;omega
        simp [hl,this]
      · have : b < a:=by
          rw [UInt8.lt_iff_toNat_lt] at *
          have : a.toNat ≠ b.toNat:=fun q=>h (UInt8.toNat_inj.mp q)
          omega
        simp [hl,this]
theorem leq_str (t : TypeId) (a b : ByteArray) : binOp .leq t (.string a) (.string b)=pure (.bool !(Op.bytesLess b.toList a.toList)):=by
  rw [← less_total]
  simp [binOp,Op.stringOp]
theorem geq_str (t : TypeId) (a b : ByteArray) : binOp .geq t (.string a) (.string b)=pure (.bool !(Op.bytesLess a.toList b.toList)):=by
  simp [binOp,Op.stringOp]
theorem gtr_str (t : TypeId) (a b : ByteArray) : binOp .gtr t (.string a) (.string b)=pure (.bool (Op.bytesLess b.toList a.toList)):=by
  have h : (!(Op.bytesLess a.toList b.toList || a.toList == b.toList))=Op.bytesLess b.toList a.toList:=by rw [less_total,Bool.not_not]
  rw [← h,Bool.not_or]
  simp [binOp,Op.stringOp]
attribute [local go_sem] leq_str geq_str gtr_str

/-! Keys. -/
theorem ba_toList (s : ByteArray) : s.toList=s.data.toList:=Lib.toList_data s
theorem ba_inj {s t : ByteArray} (h : s.toList=t.toList) : s=t:=by
  rw [ba_toList,ba_toList] at h
  cases s;cases t;simp only [ByteArray.mk.injEq];exact Array.toList_inj.mp h
theorem str_beq (a b : ByteArray) : (a.toList == b.toList)=decide (a=b):=by
  by_cases h : a=b
  · subst h;simp
  · rw [decide_eq_false h];exact beq_eq_false_iff_ne.mpr fun q=>h (ba_inj q)
theorem nil_iff (s : ByteArray) : s.toList=([] : List UInt8) ↔ s.size=0:=by
  rw [ba_toList]
  refine ⟨fun h=>?_,fun h=>?_⟩
  · have:=data_length s
    rw [h] at this
    exact this.symm
  · exact List.eq_nil_of_length_eq_zero (by rw [data_length];exact h)
def lowB (x : Int) : Bool:=decide (97≤x) && decide (x≤122)
def keyB (s : ByteArray) : Bool:=decide (1≤s.size) && decide (s.size≤4) && (bytesOf s).all lowB
theorem bt_drop' {s : ByteArray} {j : Nat} (h : j < s.size) : (bytesOf s).drop j=bt s (j : Int) :: (bytesOf s).drop (j + 1):=by
  rw [rd_drop (by rw [bytesOf_length];exact h),rd_bytesOf]
theorem bytesOf_tail (s : ByteArray) : bytesOf (s.extract 1 s.size)=(bytesOf s).drop 1:=by
  unfold bytesOf
  rw [← List.map_drop]
  refine congrArg _ ?_
  rw [ByteArray.data_extract,Array.toList_extract]
  rw [List.extract_eq_take_drop,List.take_of_length_le (by rw [List.length_drop,data_length];omega)]
def l1B (n lo hi : Int) : Bool:=decide (lo≤n) && decide (n≤hi)
theorem spec_l1In.M (n lo hi : Int) (w : World) : Calls Try.prog 83 #[.int .i64 n,.int .i64 lo,.int .i64 hi] w fun e w'=>e=.returned (.bool (l1B n lo hi))∧Below w.heap.size w w':=by
  go_enter Try.func83,Try.ntmps83
  go_wp2
  all_goals go_ret
  all_goals (refine ⟨?_,Below.refl _ _⟩;unfold l1B;simp_all;try omega)
theorem spec_KeyValid.M (a : ByteArray) (w : World) : Calls Try.prog 85 #[.string a] w fun e w'=>e=.returned (.bool (keyB a))∧Below w.heap.size w w':=by
  have B:=Aside0.mk (Below.refl w.heap.size w)
  obtain ⟨r,hr⟩ : ∃ r,keyB a=r:=⟨_,rfl⟩
  rw [hr]
  unfold keyB at hr
  by_cases hs : 1≤a.size∧a.size≤4
  · have hl : l1B (a.size : Int) 1 4=true:=by unfold l1B;simp;omega
    have H:=Aside0.mk (show ((bytesOf a).drop 0).all lowB=r by simpa [hs.1,hs.2] using hr)
    clear hr
    go_enter Try.func85,Try.ntmps85
    go_wp2_with (first
      | (go_at_call 83;with_reducible refine cl (clv (spec_l1In.M _ 1 4 _) (congrArg Value.bool hl)) B fun w1 hb B=>?_;clear hb))
    go_loopg [3] (a.size + 1) (fun kx v3 wr=>∃ j : Nat,v3=.int .i64 (j : Int)∧j≤a.size∧a.size < j + kx∧Aside0 (Below w.heap.size w wr)∧Aside0 (((bytesOf a).drop j).all lowB=r))
    case atStart=>exact ⟨0,rfl,by omega,by omega,B,H⟩
    case round =>
      clear H B
      obtain ⟨j,rfl,hj,hk,B,H⟩:=hrel
      have H:=H.out
      by_cases hlt : j < a.size
      · have p:=eq_true (show (0 : Int)≤(j : Int) by omega)
        have q:=eq_true (show (j : Int) < (a.size : Int) by omega)
        have q':=decide_eq_true (show (j : Int) < (a.size : Int) by omega)
        have hx : ((a[j]'hlt).toNat : Int)=bt a (j : Int):=bt_at a (j : Int) (by rw [Int.toNat_natCast];exact hlt)
        rw [bt_drop' hlt] at H
        simp only [List.all_cons] at H
        generalize bt a (j : Int)=x at *
        obtain ⟨d,rfl⟩ : ∃ d,gk=d + 1:=⟨gk - 1,by omega⟩
        by_cases hx : lowB x=true
        · have H':=Aside0.mk (show ((bytesOf a).drop (j + 1)).all lowB=r by simpa [hx] using H)
          clear H
          unfold lowB at hx
          simp only [Bool.and_eq_true,decide_eq_true_eq] at hx
          have d1 : decide (x < 97)=false:=decide_eq_false (by omega)
          have d2 : decide (122 < x)=false:=decide_eq_false (by omega)
          go_wp2
          go_roundg d
          case measure=>omega
          case rel=>exact ⟨j + 1,congrArg (Value.int .i64) (Int.natCast_succ _).symm,by omega,by omega,B,H'⟩
        · have hr : r=false:=by simpa [hx] using H.symm
          subst hr
          clear H
          unfold lowB at hx
          simp only [Bool.and_eq_true,decide_eq_true_eq] at hx
          by_cases h97 : x < 97
          · have d1 : decide (x < 97)=true:=decide_eq_true h97
            go_wp2
            go_ret
            exact ⟨by simp,B.out⟩
          · have d1 : decide (x < 97)=false:=decide_eq_false h97
            have d2 : decide (122 < x)=true:=decide_eq_true (by omega)
            go_wp2
            go_ret
            exact ⟨by simp,B.out⟩
      · have q':=decide_eq_false (show ¬ (j : Int) < (a.size : Int) by omega)
        have hr : r=true:=by
          rw [List.drop_of_length_le (by rw [bytesOf_length];omega)] at H
          simpa using H.symm
        subst hr
        go_wp2
        go_ret
        exact ⟨by simp,B.out⟩
  · have hl : l1B (a.size : Int) 1 4=false:=by unfold l1B;simp;omega
    have hr : r=false:=by
      rw [← hr,Bool.and_eq_false_iff,Bool.and_eq_false_iff,decide_eq_false_iff_not,decide_eq_false_iff_not]
      omega
    subst hr
    go_enter Try.func85,Try.ntmps85
    go_wp2_with (first
      | (go_at_call 83;with_reducible refine cl (clv (spec_l1In.M _ 1 4 _) (congrArg Value.bool hl)) B fun w1 hb B=>?_;clear hb))
    go_ret
    exact ⟨by simp,B.out⟩
theorem impl_lettersOnly.M : ∀ (n : Nat) (a : ByteArray) (w : World),a.size=n→Calls Try.prog 125 #[.string a] w fun e w'=>e=.returned (.bool ((bytesOf a).all lowB))∧Below w.heap.size w w'
  | 0,a,w,h=>by
    have hn : a.toList=[]:=(nil_iff a).mpr h
    go_enter Try.func125,Try.ntmps125
    go_wp2
    all_goals (first | go_ret | skip)
    all_goals (first | exact absurd hn (by assumption) | skip)
    refine ⟨?_,Below.refl _ _⟩
    have : bytesOf a=[]:=List.eq_nil_of_length_eq_zero (by rw [bytesOf_length];exact h)
    rw [this]
    rfl
  | n + 1,a,w,h=>by
    have B:=Aside0.mk (Below.refl w.heap.size w)
    have hn : ¬ a.toList=[]:=fun q=>by have:=(nil_iff a).mp q;omega
    have IH:=Aside0.mk (fun W=>impl_lettersOnly.M n (a.extract 1 a.size) W (by simp [h]))
    have hb0:=bt_drop' (s:=a) (j:=0) (by omega)
    have h0 : 0 < a.size:=by omega
    have hx : ((a[0]'h0).toNat : Int)=bt a ((0 : Nat) : Int):=bt_at a 0 (by simp;omega)
    have p:=eq_true (show (0 : Int) < (a.size : Int) by omega)
    have p1:=eq_true (show 0 < a.size by omega)
    have p2:=eq_true (show 1≤a.size by omega)
    rw [List.drop_zero] at hb0
    rw [bytesOf_tail] at IH
    rw [hb0]
    simp only [List.all_cons]
    clear hb0
    rw [Nat.zero_add]
    generalize (List.drop 1 (bytesOf a)).all lowB=r at IH ⊢
    generalize bt a ((0 : Nat) : Int)=x at hx ⊢
    clear h
    go_enter Try.func125,Try.ntmps125
    go_wp2_with (first
      | (go_at_call 125;with_reducible refine cl (IH.out _) B fun w1 hb B=>?_;clear hb))
    all_goals go_ret
    all_goals (refine ⟨?_,B.out⟩;unfold lowB;simp_all;try omega)
theorem impl_KeyValid.M (a : ByteArray) (w : World) : Calls Try.prog 110 #[.string a] w fun e w'=>e=.returned (.bool (keyB a))∧Below w.heap.size w w':=by
  have B:=Aside0.mk (Below.refl w.heap.size w)
  go_enter Try.func110,Try.ntmps110
  go_wp2_with (first
    | (go_at_call 125;with_reducible refine cl (impl_lettersOnly.M _ a _ rfl) B fun w1 hb B=>?_;clear hb))
  all_goals go_ret
  all_goals (refine ⟨?_,B.out⟩;unfold keyB;simp_all;try omega)

/-! The model of intervals. -/
def ivB (lo hi : ByteArray) : Bool :=
  if lo.toList=([] : List UInt8) then (if hi.toList=([] : List UInt8) then true else keyB hi && Op.bytesLess [97] hi.toList)
  else keyB lo && (if hi.toList=([] : List UInt8) then true else keyB hi && Op.bytesLess lo.toList hi.toList)
def insB (lo hi key : ByteArray) : Bool:=!(Op.bytesLess key.toList lo.toList) && (if hi.toList=([] : List UInt8) then true else Op.bytesLess key.toList hi.toList)
def lowK (a : ByteArray) : ByteArray:=if a.toList=([] : List UInt8) then ⟨#[97]⟩ else a
def cutB (lo hi key : ByteArray) : Bool:=ivB lo hi && (keyB key && (ivB lo key && ivB key hi))
def cutV (lo hi key : ByteArray) : ByteArray × ByteArray × ByteArray × ByteArray × Bool:=if cutB lo hi key=true then (lo,key,key,hi,true) else (⟨#[]⟩,⟨#[]⟩,⟨#[]⟩,⟨#[]⟩,false)
/-- a key begins with a letter,so it is a or greater -/
theorem key_a {s : ByteArray} (h : keyB s=true) : Op.bytesLess [97] s.toList=(Op.bytesLess [] s.toList && (s.toList != ([97] : List UInt8))):=by
  unfold keyB at h
  rw [Bool.and_eq_true,Bool.and_eq_true,decide_eq_true_eq] at h
  have h2:=h.2
  unfold bytesOf at h2
  rw [ba_toList]
  have hs : s.data.toList.length=s.size:=data_length s
  generalize s.data.toList=x at *
  cases x with
  | nil=>simp only [List.length_nil] at hs;omega
  | cons b r =>
    simp only [List.map_cons,List.all_cons,Bool.and_eq_true] at h2
    have hb:=h2.1
    unfold lowB at hb
    rw [Bool.and_eq_true,decide_eq_true_eq] at hb
    have h97 : (97 : UInt8).toNat≤b.toNat:=by have:=hb.1;show 97≤b.toNat;omega
    rw [show Op.bytesLess [] (b :: r)=true from rfl,Bool.true_and]
    simp only [Op.bytesLess]
    by_cases e : b=97
    · subst e
      cases r with
      | nil=>decide
      | cons c r=>simp [Op.bytesLess]
    · have h3 : (97 : UInt8) < b:=by
        rw [UInt8.lt_iff_toNat_lt]
        have : b.toNat ≠ (97 : UInt8).toNat:=fun h=>e (UInt8.toNat_inj.mp h)
        omega
      simp [h3,e]
theorem toL97 : (⟨#[97]⟩ : ByteArray).toList=[97]:=by rw [ba_toList]
theorem toL0 : (⟨#[]⟩ : ByteArray).toList=[]:=by rw [ba_toList]
theorem less_nil {x : List UInt8} (h : ¬ x=[]) : Op.bytesLess [] x=true:=by cases x with | nil=>exact absurd rfl h | cons=>rfl
theorem cutV_ok (lo hi key : ByteArray) : (cutV lo hi key).2.2.2.2=cutB lo hi key:=by
  unfold cutV
  cases cutB lo hi key <;> rfl

theorem spec_IntervalValid.M (a b : ByteArray) (w : World) : Calls Try.prog 80 #[.agg #[.string a,.string b]] w fun e w'=>e=.returned (.bool (ivB a b))∧Below w.heap.size w w':=by
 have B:=Aside0.mk (Below.refl w.heap.size w)
 have hu:=Try.underlying34
 go_enter Try.func80,Try.ntmps80
 go_wp2_with (first
  | ((with_reducible refine gate_dst (N:=1) rfl ?_);refine bxq 1 #[.string a,.string b] 34 B fun g1 w1 hb B F1 L1 E1=>?_;obtain ⟨c1_0,c1_1⟩:=cs2 F1;clear hb E1)
  | (go_at_call 85;with_reducible refine cl (spec_KeyValid.M a _) B fun w2 hb B=>?_;replace F1:=bn F1 hb;clear c1_0 c1_1;obtain ⟨c1_0,c1_1⟩:=cs2 F1;clear hb)
  | (go_at_call 85;with_reducible refine cl (spec_KeyValid.M b _) B fun w3 hb B=>?_;replace F1:=bn F1 hb;clear c1_0 c1_1;obtain ⟨c1_0,c1_1⟩:=cs2 F1;clear hb))
 all_goals go_ret
 all_goals
  refine ⟨?_,B.out⟩
  unfold ivB
  by_cases ha : a.toList=[] <;> by_cases hb : b.toList=[] <;> cases ka : keyB a <;> cases kb : keyB b <;> simp_all [toL97,toL0,key_a,less_nil] <;> (try omega) <;> (rw [show b.toList.isEmpty=false by simp [hb]];rfl)
theorem impl_lowestKey.M (a b : ByteArray) (w : World) : Calls Try.prog 111 #[.agg #[.string a,.string b]] w fun e w'=>e=.returned (.string (lowK a))∧Below w.heap.size w w':=by
 have B:=Aside0.mk (Below.refl w.heap.size w)
 have hu:=Try.underlying34
 go_enter Try.func111,Try.ntmps111
 go_wp2_with (first
  | ((with_reducible refine gate_dst (N:=1) rfl ?_);refine bxq 1 #[.string a,.string b] 34 B fun g1 w1 hb B F1 L1 E1=>?_;obtain ⟨c1_0,c1_1⟩:=cs2 F1;clear hb E1))
 all_goals go_ret
 all_goals (refine ⟨?_,B.out⟩;unfold lowK;simp_all)
def impl_IntervalValid.T3 : Bool × List (List Nat × List Nat):=(true,[([],[]),([0],[0]),([1],[1]),([2],[2]),([3],[3]),([4,3,3],[3,4]),([3],[3]),([6,3],[3,6]),([5,7,3],[3,5,7]),([3,8],[3,8]),([9,5,0,1,2,3,4,5,6,7,8,9],[9])])
def impl_IntervalValid.B3 : List Nat:=[0,1,3,7,15,31,15,79,255,511,1023]
theorem impl_IntervalValid.tab3 : rtab .any (opsOf Try.f66 3)=impl_IntervalValid.T3:=by kernel_rfl
theorem impl_IntervalValid.bits3 : waitsOk impl_IntervalValid.T3.2 impl_IntervalValid.B3=true:=by kernel_rfl
theorem impl_IntervalValid.M (a b : ByteArray) (w : World) : Calls Try.prog 66 #[.agg #[.string a,.string b]] w fun e w'=>e=.returned (.bool (ivB a b))∧Below w.heap.size w w':=by
 have B:=Aside0.mk (Below.refl w.heap.size w)
 have hu:=Try.underlying34
 go_enter Try.func66,Try.ntmps66
 go_wp2_with (first
  | ((with_reducible refine gate_dst (N:=1) rfl ?_);refine bxq 1 #[.string a,.string b] 34 B fun g1 w1 hb B F1 L1 E1=>?_;obtain ⟨c1_0,c1_1⟩:=cs2 F1;clear hb E1)
  | (go_at_call 110;with_reducible refine cl (impl_KeyValid.M a _) B fun w2 hb B=>?_;replace F1:=bn F1 hb;clear c1_0 c1_1;obtain ⟨c1_0,c1_1⟩:=cs2 F1;clear hb)
  | (go_at_call 110;with_reducible refine cl (impl_KeyValid.M b _) B fun w3 hb B=>?_;replace F1:=bn F1 hb;clear c1_0 c1_1;obtain ⟨c1_0,c1_1⟩:=cs2 F1;clear hb))
 all_goals try (go_ret;refine ⟨?_,B.out⟩;unfold ivB;(try unfold lowK);by_cases ha : a.toList=[] <;> by_cases hb : b.toList=[] <;> cases ka : keyB a <;> cases kb : keyB b <;> simp_all [toL97,toL0];done)
 all_goals (
  by_cases hq0 : b.toList=([] : List UInt8)
  ·first
   | exact absurd hq0 (by assumption)
   | (
    have hd0 : (b.toList == ([] : List UInt8))=true:=by simp [hq0]
    refine rg (n:=11) (S:=fun W=>W.heap[g1]?=some (.cells #[.string a,.string b] 34 (0,0))) (ds:=[]) #[false,false,false,false,false,false,false,false,false,false,false] (by kernel_rfl) rfl rfl F1.out id B (fun w4 hb B hHeld=>?_)
    refine with_tabW impl_IntervalValid.tab3 impl_IntervalValid.bits3 (fun HT_ HW_=>?_)
    replace F1:=bn F1 hb
    clear hb
    refine pvq 0 (some 23) (bits 11 1) HT_ ?_
    refine tvq 1 (some 24) (bits 11 3) HT_ HW_ rfl hHeld (by intro w' hS;have s0:=hS;obtain ⟨q0,q1⟩:=cs2 (Aside0.mk s0);go_simp;with_reducible rfl) ?_
    refine pvq 2 (some 25) (bits 11 7) HT_ ?_
    refine pvq 3 (some 26) (bits 11 15) HT_ ?_
    refine svq 4 (some 27) (bits 11 31) HT_ ?_
    refine svq 5 (some 28) (bits 11 63) HT_ ?_
    refine svq 6 (some 29) (bits 11 127) HT_ ?_
    refine svq 7 (some 30) (bits 11 255) HT_ ?_
    refine svq 8 (some 31) (bits 11 511) HT_ ?_
    refine pvq 9 (some 32) (bits 11 1023) HT_ ?_
    refine pvq 10 (some 2) (bits 11 2047) HT_ ?_
    refine nmq ?_
    refine done_ (done_of HT_.out (by kernel_rfl)) ?_
    try go_wp2
    go_ret
    refine ⟨?_,B.out⟩
    unfold ivB;(try unfold lowK);by_cases ha : a.toList=[] <;> by_cases hb : b.toList=[] <;> cases ka : keyB a <;> cases kb : keyB b <;> simp_all [toL97,toL0]
    )
  ·first
   | exact absurd (by assumption) hq0
   | (
    have hd0 : (b.toList == ([] : List UInt8))=false:=by simp [hq0]
    refine rg (n:=11) (S:=fun W=>W.heap[g1]?=some (.cells #[.string a,.string b] 34 (0,0))) (ds:=[]) #[false,false,false,false,false,false,false,false,false,false,false] (by kernel_rfl) rfl rfl F1.out id B (fun w4 hb B hHeld=>?_)
    refine with_tabW impl_IntervalValid.tab3 impl_IntervalValid.bits3 (fun HT_ HW_=>?_)
    replace F1:=bn F1 hb
    clear hb
    refine pvq 0 (some 23) (bits 11 1) HT_ ?_
    refine tvq 1 (some 24) (bits 11 3) HT_ HW_ rfl hHeld (by intro w' hS;have s0:=hS;obtain ⟨q0,q1⟩:=cs2 (Aside0.mk s0);go_simp;with_reducible rfl) ?_
    refine pvq 2 (some 25) (bits 11 7) HT_ ?_
    refine pvq 3 (some 26) (bits 11 15) HT_ ?_
    refine tvq 4 (some 27) (bits 11 31) HT_ HW_ rfl hHeld (by intro w' hS;have s0:=hS;obtain ⟨q0,q1⟩:=cs2 (Aside0.mk s0);go_simp;with_reducible rfl) ?_
    refine pvq 6 (some 29) (bits 11 95) HT_ ?_
    refine tvq 7 (some 30) (bits 11 223) HT_ HW_ rfl hHeld (by intro w' hS;have s0:=hS;obtain ⟨q0,q1⟩:=cs2 (Aside0.mk s0);go_simp;with_reducible rfl) ?_
    refine nmq ?_
    refine one_ (i:=5) (N:=some 28) (bits 11 255) rfl rfl (one_of HT_.out (by kernel_rfl)) (by decide) (fun K hK=>?_)
    refine gsq Try.func111 #[.agg #[.string a,.string b]] ?_
    with_reducible refine cl (impl_lowestKey.M a b _) B fun w5 hb B=>?_
    replace F1:=bn F1 hb
    clear hb
    refine ⟨_,rfl,?_⟩
    refine hK.out _ _ F1.out (fun hHeld=>?_)
    clear hK K
    refine npq (some 28) ?_
    refine pvq 8 (some 31) (bits 11 511) HT_ ?_
    refine pvq 9 (some 32) (bits 11 1023) HT_ ?_
    refine pvq 10 (some 2) (bits 11 2047) HT_ ?_
    refine nmq ?_
    refine done_ (done_of HT_.out (by kernel_rfl)) ?_
    try go_wp2
    go_ret
    refine ⟨?_,B.out⟩
    unfold ivB;(try unfold lowK);by_cases ha : a.toList=[] <;> by_cases hb : b.toList=[] <;> cases ka : keyB a <;> cases kb : keyB b <;> simp_all [toL97,toL0]
    ))
 all_goals try go_wp2
 all_goals try (go_ret;refine ⟨?_,B.out⟩;unfold ivB;(try unfold lowK);by_cases ha : a.toList=[] <;> by_cases hb : b.toList=[] <;> cases ka : keyB a <;> cases kb : keyB b <;> simp_all [toL97,toL0];done)

def hasB (a b c : ByteArray) : Bool:=ivB a b && (keyB c && insB a b c)
theorem spec_IntervalHas.M (a b c : ByteArray) (w : World) : Calls Try.prog 42 #[.agg #[.string a,.string b],.string c] w fun e w'=>e=.returned (.bool (hasB a b c))∧Below w.heap.size w w':=by
 have B:=Aside0.mk (Below.refl w.heap.size w)
 have hu:=Try.underlying34
 go_enter Try.func42,Try.ntmps42
 go_wp2_with (first
  | ((with_reducible refine gate_dst (N:=2) rfl ?_);refine bxq 2 #[.string a,.string b] 34 B fun g2 w1 hb B F2 L2 E2=>?_;obtain ⟨c2_0,c2_1⟩:=cs2 F2;clear hb E2)
  | (go_at_call 80;with_reducible refine cl (spec_IntervalValid.M a b _) B fun w2 hb B=>?_;replace F2:=bn F2 hb;clear c2_0 c2_1;obtain ⟨c2_0,c2_1⟩:=cs2 F2;clear hb)
  | (go_at_call 85;with_reducible refine cl (spec_KeyValid.M c _) B fun w3 hb B=>?_;replace F2:=bn F2 hb;clear c2_0 c2_1;obtain ⟨c2_0,c2_1⟩:=cs2 F2;clear hb))
 all_goals go_ret
 all_goals (refine ⟨?_,B.out⟩;unfold hasB insB;simp_all)

theorem impl_inside.M (a b c : ByteArray) (w : World) : Calls Try.prog 69 #[.agg #[.string a,.string b],.string c] w fun e w'=>e=.returned (.bool (insB a b c))∧Below w.heap.size w w':=by
 have B:=Aside0.mk (Below.refl w.heap.size w)
 have hu:=Try.underlying34
 go_enter Try.func69,Try.ntmps69
 go_wp2_with (first
  | ((with_reducible refine gate_dst (N:=2) rfl ?_);refine bxq 2 #[.string a,.string b] 34 B fun g2 w1 hb B F2 L2 E2=>?_;obtain ⟨c2_0,c2_1⟩:=cs2 F2;clear hb E2))
 all_goals go_ret
 all_goals (refine ⟨?_,B.out⟩;unfold insB;simp_all)

/-! The model of pairs. -/
def ltB (a b : ByteArray) : Bool:=Op.bytesLess a.toList b.toList
def okP (p : S105) : Bool:=keyB p.f0 && l1B p.f1 0 999
def aboveP (p : Option ByteArray) (c : ByteArray) : Bool:=match p with
  | none=>true
  | some q=>ltB q c
def prG : Option ByteArray→List S105→Bool
  | _,[]=>true
  | p,s :: r=>okP s && (aboveP p s.f0 && prG (some s.f0) r)
def prB (l : List S105) : Bool:=decide (l.length≤48) && prG none l
def prP (l : List S105) (j : Nat) : Option ByteArray:=if j=0 then none else some (l.getD (j - 1) z105).f0
theorem pr_nat {l : List S105} {j : Nat} (h : j < l.length) : rd_T105 l (j : Int)=l[j]:=by
  simp [rd_T105,List.getD_eq_getElem?_getD,List.getElem?_eq_getElem h]
theorem pr_drop {l : List S105} {j : Nat} (h : j < l.length) : l.drop j=rd_T105 l (j : Int) :: l.drop (j + 1):=by
  rw [pr_nat h,List.drop_eq_getElem_cons h]
theorem pr_prev (l : List S105) (j : Nat) : prP l (j + 1)=some (rd_T105 l (j : Int)).f0:=by
  unfold prP rd_T105
  rw [if_neg (by omega),Int.toNat_natCast,Nat.add_sub_cancel]
theorem prB_len {l : List S105} (h : prB l=true) : l.length≤48:=by
  unfold prB at h
  rw [Bool.and_eq_true,decide_eq_true_eq] at h
  exact h.1
def prJ (l : List S105) (j : Nat) : Bool:=prG (prP l j) (l.drop j)
theorem prJ_end {l : List S105} {j : Nat} (h : ¬ j < l.length) : prJ l j=true:=by
  unfold prJ
  rw [List.drop_of_length_le (by omega)]
  rfl
theorem prJ_step {l : List S105} {j : Nat} (h : j < l.length) :
    prJ l j=((keyB (rd_T105 l (j : Int)).f0 && (l1B (rd_T105 l (j : Int)).f1 0 999 && (if j=0 then true else ltB (rd_T105 l ((j - 1 : Nat) : Int)).f0 (rd_T105 l (j : Int)).f0))) && prJ l (j + 1)):=by
  unfold prJ
  rw [pr_drop h,pr_prev]
  simp only [prG]
  unfold okP
  by_cases hj : j=0
  · subst hj
    simp [prP,aboveP,Bool.and_assoc]
  · obtain ⟨i,rfl⟩ : ∃ i,j=i + 1:=⟨j - 1,by omega⟩
    rw [pr_prev,if_neg hj,Nat.add_sub_cancel]
    simp [aboveP,Bool.and_assoc]

/-! The model of sessions. -/
def okS (s : S76) : Bool:=l1B s.f0 0 3 && (l1B s.f1 1 999 && l1B s.f2 (-2) 999)
def above (p : Option Int) (c : Int) : Bool:=match p with
  | none=>true
  | some q=>decide (q < c)
def sesG : Option Int→List S76→Bool
  | _,[]=>true
  | p,s :: r=>okS s && (above p s.f0 && sesG (some s.f0) r)
def sesB (l : List S76) : Bool:=sesG none l
def sesP (l : List S76) (j : Nat) : Option Int:=if j=0 then none else some (l.getD (j - 1) z76).f0
theorem ses_nat {l : List S76} {j : Nat} (h : j < l.length) : rd_T76 l (j : Int)=l[j]:=by
  simp [rd_T76,List.getD_eq_getElem?_getD,List.getElem?_eq_getElem h]
theorem ses_drop {l : List S76} {j : Nat} (h : j < l.length) : l.drop j=rd_T76 l (j : Int) :: l.drop (j + 1):=by
  rw [ses_nat h,List.drop_eq_getElem_cons h]
theorem ses_prev (l : List S76) (j : Nat) : sesP l (j + 1)=some (rd_T76 l (j : Int)).f0:=by
  unfold sesP rd_T76
  rw [if_neg (by omega),Int.toNat_natCast,Nat.add_sub_cancel]
def sesJ (l : List S76) (j : Nat) : Bool:=sesG (sesP l j) (l.drop j)
theorem sesJ_end {l : List S76} {j : Nat} (h : ¬ j < l.length) : sesJ l j=true:=by
  unfold sesJ
  rw [List.drop_of_length_le (by omega)]
  rfl
theorem sesJ_step {l : List S76} {j : Nat} (h : j < l.length) :
    sesJ l j=((l1B (rd_T76 l (j : Int)).f0 0 3 && (l1B (rd_T76 l (j : Int)).f1 1 999 && (l1B (rd_T76 l (j : Int)).f2 (-2) 999 && (if j=0 then true else decide ((rd_T76 l ((j - 1 : Nat) : Int)).f0 < (rd_T76 l (j : Int)).f0))))) && sesJ l (j + 1)):=by
  unfold sesJ
  rw [ses_drop h,ses_prev]
  simp only [sesG]
  unfold okS
  by_cases hj : j=0
  · subst hj
    simp [sesP,above,Bool.and_assoc]
  · obtain ⟨i,rfl⟩ : ∃ i,j=i + 1:=⟨j - 1,by omega⟩
    rw [ses_prev,if_neg hj,Nat.add_sub_cancel]
    simp [above,Bool.and_assoc]

/-! The model of states. -/
def tailB (lo hi : ByteArray) (t : Bool) (c : ByteArray) : Bool:=if c.toList=([] : List UInt8) then true else t && cutB lo hi c
def stB (lo hi : ByteArray) (ps : List S105) (ss : List S76) (t : Bool) (c : ByteArray) : Bool :=
  ivB lo hi && (prB ps && (sesB ss && ((ps.all fun p=>insB lo hi p.f0) && tailB lo hi t c)))
theorem pr_key {l : List S105} : ∀ p,prG p l=true→∀ x ∈ l,keyB x.f0=true:=by
  induction l with
  | nil=>intro p _ x hx;cases hx
  | cons s r ih =>
    intro p h x hx
    simp only [prG,Bool.and_eq_true] at h
    rcases List.mem_cons.mp hx with rfl | hx
    · have:=h.1
      unfold okP at this
      rw [Bool.and_eq_true] at this
      exact this.1
    · exact ih _ h.2.2 x hx
theorem prB_key {l : List S105} (h : prB l=true) : ∀ x ∈ l,keyB x.f0=true:=by
  unfold prB at h
  rw [Bool.and_eq_true] at h
  exact pr_key none h.2
theorem all_has {lo hi : ByteArray} {ps : List S105} (hv : ivB lo hi=true) (hp : prB ps=true) : (ps.all fun p=>hasB lo hi p.f0)=ps.all fun p=>insB lo hi p.f0:=by
  have hk:=prB_key hp
  clear hp
  induction ps with
  | nil=>rfl
  | cons x r ih =>
    simp only [List.all_cons]
    rw [ih fun y hy=>hk y (List.mem_cons_of_mem _ hy)]
    unfold hasB
    rw [hv,hk x (List.mem_cons_self ..)]
    rfl

/-! States. -/
structure SM where
  a : ByteArray
  b : ByteArray
  ps : List S105
  ss : List S76
  t : Bool
  c : ByteArray
def SM.ok (s : SM) : Bool:=stB s.a s.b s.ps s.ss s.t s.c
def SM.zero : SM:=⟨⟨#[]⟩,⟨#[]⟩,[],[],false,⟨#[]⟩⟩
theorem stB_parts {lo hi : ByteArray} {ps : List S105} {ss : List S76} {t : Bool} {c : ByteArray} : stB lo hi ps ss t c=true ↔ ivB lo hi=true∧prB ps=true∧sesB ss=true∧(∀ p ∈ ps,insB lo hi p.f0=true)∧tailB lo hi t c=true:=by
  unfold stB
  simp only [Bool.and_eq_true,List.all_eq_true]

/-! The model of commands. -/
def cmdB (k : Int) (key : ByteArray) (v o : Int) : Bool :=
  (keyB key || (decide (k=5) && decide (key.toList=([] : List UInt8)))) &&
  (if k=2 then l1B v 0 999 && decide (o=0) else if k=4 then l1B v 0 999 && l1B o (-1) 999 else decide (1≤k∧k≤5) && (decide (v=0) && decide (o=0)))

/-! The place of a key among pairs in order. -/
theorem less_trans : ∀ x y z : List UInt8,Op.bytesLess x y=true→Op.bytesLess y z=true→Op.bytesLess x z=true
  | [],[],_,h,_=>by cases h
  | [],_ :: _,[],_,h=>by cases h
  | [],_ :: _,_ :: _,_,_=>rfl
  | _ :: _,[],_,h,_=>by cases h
  | _ :: _,_ :: _,[],_,h=>by cases h
  | a :: x,b :: y,c :: z,h,k=>by
    simp only [Op.bytesLess,Bool.or_eq_true,Bool.and_eq_true,decide_eq_true_eq,beq_iff_eq] at h k ⊢
    rcases h with h | ⟨h1,h2⟩
    · rcases k with k | ⟨k1,k2⟩
      · exact .inl (UInt8.lt_trans h k)
      · subst k1;exact .inl h
    · subst h1
      rcases k with k | ⟨k1,k2⟩
      · exact .inl k
      · exact .inr ⟨k1,less_trans x y z h2 k2⟩
theorem ltB_trans {a b c : ByteArray} (h : ltB a b=true) (k : ltB b c=true) : ltB a c=true:=less_trans _ _ _ h k
theorem ltB_tri {a b : ByteArray} (h : ltB a b=false) (k : ltB b a=false) : a=b:=by
  have ht:=less_total a.toList b.toList
  unfold ltB at h k
  rw [h,k] at ht
  exact ba_inj (by simpa using ht)
theorem prG_all (l : List S105) : ∀ q : ByteArray,prG (some q) l=true→∀ x ∈ l,ltB q x.f0=true:=by
  induction l with
  | nil=>intro q _ x hx;cases hx
  | cons s r ih =>
    intro q h x hx
    simp only [prG,Bool.and_eq_true] at h
    have h1 : ltB q s.f0=true:=h.2.1
    rcases List.mem_cons.mp hx with rfl | hx
    · exact h1
    · exact ltB_trans h1 (ih s.f0 h.2.2 x hx)
theorem prG_order (l : List S105) : ∀ p : Option ByteArray,prG p l=true→l.Pairwise (fun a b=>ltB a.f0 b.f0=true):=by
  induction l with
  | nil=>intro p _;exact List.Pairwise.nil
  | cons s r ih =>
    intro p h
    simp only [prG,Bool.and_eq_true] at h
    exact List.Pairwise.cons (prG_all r s.f0 h.2.2) (ih _ h.2.2)
theorem prB_order {l : List S105} (h : prB l=true) : l.Pairwise (fun a b=>ltB a.f0 b.f0=true):=by
  unfold prB at h
  rw [Bool.and_eq_true] at h
  exact prG_order l none h.2
def placeP (l : List S105) (c : ByteArray) : Nat→Nat→Nat→Nat
  | 0,lo,_=>lo
  | d + 1,lo,hi=>if lo < hi then (if ltB (rd_T105 l (((lo + hi) / 2 : Nat) : Int)).f0 c=true then placeP l c d ((lo + hi) / 2 + 1) hi else placeP l c d lo ((lo + hi) / 2)) else lo
def atP (l : List S105) (c : ByteArray) : Nat:=(l.takeWhile fun p=>ltB p.f0 c).length
theorem take_len {α : Type} {p : α→Bool} : ∀ (l : List α) (R : Nat),R≤l.length→(∀ i (h : i < l.length),i < R→p l[i]=true)→(∀ h : R < l.length,p l[R]=false)→(l.takeWhile p).length=R
  | [],R,h,_,_=>by simp at h;simp [h]
  | x :: r,0,_,_,h=>by
    have:=h (by simp)
    simp only [List.getElem_cons_zero] at this
    simp [List.takeWhile_cons,this]
  | x :: r,R + 1,h,h1,h2=>by
    have h0:=h1 0 (by simp) (by omega)
    simp only [List.getElem_cons_zero] at h0
    rw [List.takeWhile_cons,if_pos h0,List.length_cons,take_len r R (by simpa using h) (fun i hi hR=>by have:=h1 (i + 1) (by simpa using hi) (by omega);simpa using this) (fun hR=>by have:=h2 (by simpa using hR);simpa using this)]
theorem atP_le (l : List S105) (c : ByteArray) : atP l c≤l.length:=by
  unfold atP
  induction l with
  | nil=>simp
  | cons x r ih =>
    rw [List.takeWhile_cons]
    split
    · rw [List.length_cons,List.length_cons];omega
    · simp
theorem placeP_spec {l : List S105} (ho : l.Pairwise (fun a b=>ltB a.f0 b.f0=true)) (c : ByteArray) : ∀ (d lo hi : Nat),lo≤hi→hi≤l.length→hi - lo≤d →
    (∀ i (h : i < l.length),i < lo→ltB l[i].f0 c=true)→(∀ i (h : i < l.length),hi≤i→ltB l[i].f0 c=false) →
    placeP l c d lo hi≤l.length∧(∀ i (h : i < l.length),i < placeP l c d lo hi→ltB l[i].f0 c=true)∧(∀ i (h : i < l.length),placeP l c d lo hi≤i→ltB l[i].f0 c=false)
  | 0,lo,hi,h1,h2,h3,h4,h5=>by
    obtain rfl : lo=hi:=by omega
    exact ⟨h2,h4,h5⟩
  | d + 1,lo,hi,h1,h2,h3,h4,h5=>by
    rw [placeP]
    by_cases hlt : lo < hi
    · rw [if_pos hlt]
      have hm : (lo + hi) / 2 < l.length:=by omega
      rw [pr_nat hm]
      have hord : ∀ i j (hi : i < l.length) (hj : j < l.length),i < j→ltB l[i].f0 l[j].f0=true:=fun i j hi hj hij=>List.pairwise_iff_getElem.mp ho i j hi hj hij
      by_cases hc : ltB (l[(lo + hi) / 2]'hm).f0 c=true
      · rw [if_pos hc]
        refine placeP_spec ho c d _ _ (by omega) h2 (by omega) (fun i hil hlo=>?_) h5
        rcases Nat.lt_or_eq_of_le (show i≤(lo + hi) / 2 by omega) with h | h
        · exact ltB_trans (hord i _ hil hm h) hc
        · subst h;exact hc
      · rw [if_neg hc]
        refine placeP_spec ho c d _ _ (by omega) (by omega) (by omega) h4 (fun i hil hlo=>?_)
        rcases Nat.lt_or_eq_of_le (show (lo + hi) / 2≤i by omega) with h | h
        · cases hh : ltB l[i].f0 c with
          | false=>rfl
          | true=>exact absurd (ltB_trans (hord _ i hm hil h) hh) hc
        · subst h;exact Bool.eq_false_iff.mpr hc
    · rw [if_neg hlt]
      obtain rfl : lo=hi:=by omega
      exact ⟨h2,h4,h5⟩
theorem placeP_at {l : List S105} (h : prB l=true) (c : ByteArray) : placeP l c l.length 0 l.length=atP l c:=by
  obtain ⟨h1,h2,h3⟩:=placeP_spec (prB_order h) c l.length 0 l.length (Nat.zero_le _) (Nat.le_refl _) (by omega) (fun i _ hi=>absurd hi (Nat.not_lt_zero _)) (fun i hil hi=>by omega)
  exact (take_len l _ h1 h2 (fun h=>h3 _ h (Nat.le_refl _))).symm
def hitM (l : List S105) (c : ByteArray) : Bool:=decide (atP l c < l.length) && decide ((rd_T105 l ((atP l c : Nat) : Int)).f0=c)
def getM (l : List S105) (c : ByteArray) : Int:=if prB l && hitM l c then (rd_T105 l ((atP l c : Nat) : Int)).f1 else -1
def putM (l : List S105) (c : ByteArray) (v : Int) : List S105 × Bool :=
  if prB l && (keyB c && l1B v 0 999) then (if hitM l c then ((l.take (atP l c) ++ [⟨c,v⟩]) ++ l.drop (atP l c + 1),true) else if 48≤l.length then (l,false) else ((l.take (atP l c) ++ [⟨c,v⟩]) ++ l.drop (atP l c),true)) else ([],false)
def dropM (l : List S105) (c : ByteArray) : List S105 × Bool :=
  if prB l then (if hitM l c then (l.take (atP l c) ++ l.drop (atP l c + 1),true) else (l,false)) else ([],false)
theorem hit_true {l : List S105} {c : ByteArray} (h : hitM l c=true) : atP l c < l.length∧(rd_T105 l ((atP l c : Nat) : Int)).f0=c∧((rd_T105 l ((atP l c : Nat) : Int)).f0.toList == c.toList)=true:=by
  unfold hitM at h
  rw [Bool.and_eq_true,decide_eq_true_eq,decide_eq_true_eq] at h
  exact ⟨h.1,h.2,by rw [str_beq,decide_eq_true h.2]⟩
theorem hit_false {l : List S105} {c : ByteArray} (h : hitM l c=false) (hlt : atP l c < l.length) : ((rd_T105 l ((atP l c : Nat) : Int)).f0.toList == c.toList)=false:=by
  unfold hitM at h
  rw [decide_eq_true hlt,Bool.true_and,decide_eq_false_iff_not] at h
  rw [str_beq,decide_eq_false h]

/-! A pair put makes one more at most. -/
theorem putM_len (l : List S105) (c : ByteArray) (v : Int) : (putM l c v).1.length≤l.length + 1:=by
  unfold putM
  have hat:=atP_le l c
  split
  · split
    · simp only [List.length_append,List.length_take,List.length_drop,List.length_cons,List.length_nil];omega
    · split
      · simp only;omega
      · simp only [List.length_append,List.length_take,List.length_drop,List.length_cons,List.length_nil];omega
  · simp

/-! The model of a command carried out. -/
def apM (l : List S105) (k : Int) (x : ByteArray) (v o : Int) : List S105 × Int :=
  if prB l=true∧cmdB k x v o=true∧k ≠ 5 then
    (if k=3 then ((dropM l x).1,getM l x)
     else if k=1 ∨ (k=4∧o ≠ getM l x) then (l,getM l x)
     else if getM l x=-1∧8≤l.length then (l,-2)
     else ((putM l x v).1,getM l x))
  else ([],-3)
theorem prG_val (l : List S105) : ∀ p : Option ByteArray,prG p l=true→∀ x ∈ l,0≤x.f1∧x.f1≤999:=by
  induction l with
  | nil=>intro p _ x hx;cases hx
  | cons s r ih =>
    intro p h x hx
    simp only [prG,Bool.and_eq_true] at h
    rcases List.mem_cons.mp hx with rfl | hx
    · have h1:=h.1
      unfold okP at h1
      rw [Bool.and_eq_true] at h1
      have h2:=h1.2
      simp only [l1B,Bool.and_eq_true,decide_eq_true_eq] at h2
      omega
    · exact ih _ h.2.2 x hx
theorem getM_bound (l : List S105) (c : ByteArray) : -1≤getM l c∧getM l c≤999:=by
  unfold getM
  split
  · rename_i h
    rw [Bool.and_eq_true] at h
    obtain ⟨hv,hh⟩:=h
    obtain ⟨hlt,-,-⟩:=hit_true hh
    have hp:=hv
    unfold prB at hp
    rw [Bool.and_eq_true] at hp
    have:=prG_val l none hp.2 (rd_T105 l ((atP l c : Nat) : Int)) (by rw [pr_nat hlt];exact List.getElem_mem _)
    omega
  · omega
/-! Pairs in order,cut at a key. -/
theorem cut_sorted {α : Type} (q : α→Bool) : ∀ l : List α,l.Pairwise (fun x y=>q y=true→q x=true)→l.take (l.takeWhile q).length=l.filter q∧l.drop (l.takeWhile q).length=l.filter (fun x=>!q x)
  | [],_=>⟨rfl,rfl⟩
  | x :: r,h=>by
    rw [List.pairwise_cons] at h
    obtain ⟨h1,h2⟩:=cut_sorted q r h.2
    cases hx : q x with
    | true=>simp [List.takeWhile_cons,hx,h1,h2]
    | false =>
      have hn : ∀ y ∈ r,q y=false:=fun y hy=>by
        cases hq : q y with
        | false=>rfl
        | true=>rw [h.1 y hy hq] at hx;cases hx
      have f1 : r.filter q=[]:=List.filter_eq_nil_iff.mpr fun y hy=>by simp [hn y hy]
      have f2 : r.filter (fun x=>!q x)=r:=List.filter_eq_self.mpr fun y hy=>by simp [hn y hy]
      simp [List.takeWhile_cons,hx,f1,f2]
theorem ord_lt {l : List S105} (ho : l.Pairwise (fun a b=>ltB a.f0 b.f0=true)) (c : ByteArray) : l.Pairwise (fun x y=>ltB y.f0 c=true→ltB x.f0 c=true) :=
  ho.imp fun h k=>ltB_trans h k
theorem take_at {l : List S105} (ho : l.Pairwise (fun a b=>ltB a.f0 b.f0=true)) (c : ByteArray) : l.take (atP l c)=l.filter (fun p=>ltB p.f0 c):=(cut_sorted _ l (ord_lt ho c)).1
theorem drop_at {l : List S105} (ho : l.Pairwise (fun a b=>ltB a.f0 b.f0=true)) (c : ByteArray) : l.drop (atP l c)=l.filter (fun p=>!ltB p.f0 c):=(cut_sorted _ l (ord_lt ho c)).2

/-! Pairs that are put and dropped stay valid. -/
theorem prG_of : ∀ (l : List S105) (p : Option ByteArray),(∀ x ∈ l,okP x=true)→l.Pairwise (fun a b=>ltB a.f0 b.f0=true)→(∀ q,p=some q→∀ x ∈ l,ltB q x.f0=true)→prG p l=true
  | [],_,_,_,_=>by simp [prG]
  | s :: r,p,h1,h2,h3=>by
    rw [List.pairwise_cons] at h2
    simp only [prG,Bool.and_eq_true]
    refine ⟨h1 s (List.mem_cons_self ..),?_,prG_of r (some s.f0) (fun x hx=>h1 x (List.mem_cons_of_mem _ hx)) h2.2 (fun q hq x hx=>by cases hq;exact h2.1 x hx)⟩
    cases p with
    | none=>rfl
    | some q=>exact h3 q rfl s (List.mem_cons_self ..)
theorem prG_ok : ∀ (l : List S105) (p : Option ByteArray),prG p l=true→∀ x ∈ l,okP x=true
  | [],_,_=>fun x hx=>by cases hx
  | s :: r,p,h=>fun x hx=>by
    simp only [prG,Bool.and_eq_true] at h
    rcases List.mem_cons.mp hx with rfl | hx
    · exact h.1
    · exact prG_ok r _ h.2.2 x hx
theorem prB_parts {l : List S105} (h : prB l=true) : l.length≤48∧(∀ x ∈ l,okP x=true)∧l.Pairwise (fun a b=>ltB a.f0 b.f0=true):=by
  have h':=h
  unfold prB at h'
  rw [Bool.and_eq_true] at h'
  exact ⟨prB_len h,prG_ok l none h'.2,prB_order h⟩
theorem prB_of {l : List S105} (h0 : l.length≤48) (h1 : ∀ x ∈ l,okP x=true) (h2 : l.Pairwise (fun a b=>ltB a.f0 b.f0=true)) : prB l=true:=by
  unfold prB
  rw [decide_eq_true h0,Bool.true_and]
  exact prG_of l none h1 h2 (fun q hq=>by cases hq)
theorem prB_nil : prB ([] : List S105)=true:=prB_of (by simp) (fun x hx=>by cases hx) List.Pairwise.nil
theorem put_ok {l Z : List S105} {c : ByteArray} {v : Int} (hl : prB l=true) (hk : keyB c=true) (hv : l1B v 0 999=true) (hz : Z.Sublist l) (hg : ∀ x ∈ Z,ltB c x.f0=true) (h48 : (l.take (atP l c) ++ [(⟨c,v⟩ : S105)] ++ Z).length≤48) : prB (l.take (atP l c) ++ [(⟨c,v⟩ : S105)] ++ Z)=true:=by
  obtain ⟨_,ho,hp⟩:=prB_parts hl
  have hA : ∀ x ∈ l.take (atP l c),ltB x.f0 c=true:=fun x hx=>by rw [take_at hp] at hx;exact (List.mem_filter.mp hx).2
  refine prB_of h48 (fun x hx=>?_) ?_
  · rw [List.mem_append,List.mem_append,List.mem_singleton] at hx
    rcases hx with (hx | rfl) | hx
    · exact ho x (List.mem_of_mem_take hx)
    · unfold okP;rw [hk,hv];rfl
    · exact ho x (hz.subset hx)
  · rw [List.pairwise_append,List.pairwise_append]
    refine ⟨⟨hp.sublist (List.take_sublist _ _),List.pairwise_singleton _ _,fun a ha b hb=>?_⟩,hp.sublist hz,fun a ha b hb=>?_⟩
    · rw [List.mem_singleton] at hb;subst hb;exact hA a ha
    · rw [List.mem_append,List.mem_singleton] at ha
      rcases ha with ha | rfl
      · exact ltB_trans (hA a ha) (hg b hb)
      · exact hg b hb
theorem behind_hit {l : List S105} {c : ByteArray} (hl : prB l=true) (hh : hitM l c=true) : ∀ x ∈ l.drop (atP l c + 1),ltB c x.f0=true:=by
  obtain ⟨hlt,he,-⟩:=hit_true hh
  rw [pr_nat hlt] at he
  have hp:=(prB_order hl).sublist (List.drop_sublist (atP l c) l)
  rw [List.drop_eq_getElem_cons hlt,List.pairwise_cons] at hp
  intro x hx
  have:=hp.1 x hx
  rwa [he] at this
theorem behind_miss {l : List S105} {c : ByteArray} (hl : prB l=true) (hh : hitM l c=false) : ∀ x ∈ l.drop (atP l c),ltB c x.f0=true:=by
  have hp:=prB_order hl
  by_cases hlt : atP l c < l.length
  · have hne : l[atP l c].f0 ≠ c:=fun e=>by
      unfold hitM at hh
      rw [pr_nat hlt,decide_eq_true hlt,decide_eq_true e] at hh
      cases hh
    have hge : ltB l[atP l c].f0 c=false:=by
      have hm : l[atP l c] ∈ l.drop (atP l c):=by rw [List.drop_eq_getElem_cons hlt];exact List.mem_cons_self ..
      rw [drop_at hp] at hm
      simpa using (List.mem_filter.mp hm).2
    have h1 : ltB c l[atP l c].f0=true:=by
      cases h : ltB c l[atP l c].f0 with
      | true=>rfl
      | false=>exact absurd (ltB_tri hge h) hne
    have hp2:=hp.sublist (List.drop_sublist (atP l c) l)
    intro x hx
    rw [List.drop_eq_getElem_cons hlt] at hp2 hx
    rw [List.pairwise_cons] at hp2
    rcases List.mem_cons.mp hx with rfl | hx
    · exact h1
    · exact ltB_trans h1 (hp2.1 x hx)
  · intro x hx
    rw [List.drop_of_length_le (by omega)] at hx
    cases hx
theorem putM_ok (l : List S105) (c : ByteArray) (v : Int) : prB (putM l c v).1=true:=by
  unfold putM
  split
  · rename_i h
    simp only [Bool.and_eq_true] at h
    obtain ⟨hl,hk,hv⟩:=h
    have h48:=prB_len hl
    have hat:=atP_le l c
    split
    · rename_i hh
      have:=(hit_true hh).1
      exact put_ok hl hk hv (List.drop_sublist _ _) (behind_hit hl hh) (by simp only [List.length_append,List.length_take,List.length_drop,List.length_singleton];omega)
    · rename_i hh
      split
      · exact hl
      · exact put_ok hl hk hv (List.drop_sublist _ _) (behind_miss hl (Bool.eq_false_iff.mpr hh)) (by simp only [List.length_append,List.length_take,List.length_drop,List.length_singleton];omega)
  · exact prB_nil
theorem dropM_ok (l : List S105) (c : ByteArray) : prB (dropM l c).1=true:=by
  unfold dropM
  split
  · rename_i hl
    split
    · obtain ⟨h0,h1,h2⟩:=prB_parts hl
      have hs : (l.take (atP l c) ++ l.drop (atP l c + 1)).Sublist l:=by
        have:=List.Sublist.append (List.Sublist.refl (l.take (atP l c))) (List.drop_sublist_drop_left l (Nat.le_succ (atP l c)))
        rwa [List.take_append_drop] at this
      exact prB_of (Nat.le_trans hs.length_le h0) (fun x hx=>h1 x (hs.subset hx)) (h2.sublist hs)
    · exact hl
  · exact prB_nil

theorem apM_ok {l : List S105} (hl : prB l=true) (k : Int) (x : ByteArray) (v o : Int) : prB (apM l k x v o).1=true:=by
  unfold apM
  split
  · split
    · exact dropM_ok l x
    · split
      · exact hl
      · split
        · exact hl
        · exact putM_ok l x v
  · exact prB_nil

/-! The models of finding,putting and joining sessions. -/
def findS : List S76→Int→S76
  | [],_=>z76
  | s :: r,c=>if s.f0=c then s else findS r c
def seqB (l : List S76) (c : Int) : Int:=if sesB l=true∧0≤c∧c≤3 then (findS l c).f1 else -1
def putL : List S76→S76→Bool→List S76
  | [],s,placed=>if placed=true then [] else [s]
  | x :: r,s,placed =>
    if placed=false∧s.f0≤x.f0 then s :: ((if x.f0=s.f0 then [] else [x]) ++ putL r s true)
    else (if x.f0=s.f0 then [] else [x]) ++ putL r s placed
def putB (l : List S76) (s : S76) : List S76 × Bool :=
  if sesB l=true∧sesB [s]=true then (if s.f1≤seqB l s.f0 then (l,false) else (putL l s false,true)) else ([],false)
theorem putL_true (s : S76) (l : List S76) : (putL l s true).length≤l.length:=by
  induction l with
  | nil=>simp [putL]
  | cons y q ihq =>
    rw [putL,if_neg (by simp)]
    split <;> simp <;> omega
theorem putL_length (s : S76) (l : List S76) : ∀ b,(putL l s b).length≤l.length + 1:=by
  induction l with
  | nil=>intro b;cases b <;> simp [putL]
  | cons x r ih =>
    intro b
    have h1:=putL_true s r
    have h2:=ih b
    rw [putL]
    split
    · split <;> simp <;> omega
    · split <;> simp <;> omega
theorem putB_length (l : List S76) (s : S76) : (putB l s).1.length≤l.length + 1:=by
  unfold putB
  split
  · split
    · simp
    · exact putL_length s l false
  · simp
theorem sesG_all (l : List S76) : ∀ q : Int,sesG (some q) l=true→∀ x ∈ l,q < x.f0:=by
  induction l with
  | nil=>intro q _ x hx;cases hx
  | cons s r ih =>
    intro q h x hx
    simp only [sesG,Bool.and_eq_true] at h
    have h1 : q < s.f0:=by simpa [above] using h.2.1
    rcases List.mem_cons.mp hx with rfl | hx
    · exact h1
    · exact Int.lt_trans h1 (ih s.f0 h.2.2 x hx)
theorem sesG_order (l : List S76) : ∀ p : Option Int,sesG p l=true→l.Pairwise (fun a b=>a.f0 < b.f0):=by
  induction l with
  | nil=>intro p _;exact List.Pairwise.nil
  | cons s r ih =>
    intro p h
    simp only [sesG,Bool.and_eq_true] at h
    exact List.Pairwise.cons (sesG_all r s.f0 h.2.2) (ih _ h.2.2)
theorem find_none (c : Int) : ∀ l : List S76,(∀ x ∈ l,x.f0 ≠ c)→findS l c=z76
  | [],_=>rfl
  | s :: r,h=>by
    rw [findS,if_neg (h s (by simp))]
    exact find_none c r fun x hx=>h x (List.mem_cons_of_mem _ hx)
theorem find_at (c : Int) : ∀ (l : List S76) (R : Nat) (hR : R < l.length),(∀ i (hi : i < R),(l[i]'(by omega)).f0 ≠ c)→l[R].f0=c→findS l c=l[R]
  | s :: r,0,_,_,h=>by
    have h' : s.f0=c:=h
    rw [findS,if_pos h']
    rfl
  | s :: r,R + 1,hR,hb,h=>by
    have h0:=hb 0 (by omega)
    simp only [List.getElem_cons_zero] at h0
    rw [findS,if_neg h0]
    have:=find_at c r R (by simpa using hR) (fun i hi=>by have:=hb (i + 1) (by omega);simpa using this) (by simpa using h)
    simpa using this
theorem sesG_len (l : List S76) : ∀ q : Int,sesG (some q) l=true→(l.length : Int) + q≤3 ∨ l=[]:=by
  induction l with
  | nil=>intro q _;exact .inr rfl
  | cons s r ih =>
    intro q h
    simp only [sesG,Bool.and_eq_true] at h
    obtain ⟨h1,h2,h3⟩:=h
    unfold okS l1B at h1
    simp only [Bool.and_eq_true,decide_eq_true_eq] at h1
    have hq : q < s.f0:=by simpa [above] using h2
    left
    simp only [List.length_cons]
    rcases ih s.f0 h3 with hr | rfl
    · omega
    · simp only [List.length_nil]
      omega
theorem sesB_len {l : List S76} (h : sesB l=true) : l.length≤4:=by
  cases l with
  | nil=>simp
  | cons s r =>
    unfold sesB at h
    simp only [sesG,Bool.and_eq_true] at h
    obtain ⟨h1,_,h3⟩:=h
    unfold okS l1B at h1
    simp only [Bool.and_eq_true,decide_eq_true_eq] at h1
    simp only [List.length_cons]
    rcases sesG_len r s.f0 h3 with hr | rfl
    · omega
    · simp
/-- where the client is,or were,among lo .. hi -/
def placeOf (l : List S76) (c : Int) : Nat→Nat→Nat→Nat
  | 0,lo,_=>lo
  | d + 1,lo,hi=>if lo < hi then (if (rd_T76 l (((lo + hi) / 2 : Nat) : Int)).f0 < c then placeOf l c d ((lo + hi) / 2 + 1) hi else placeOf l c d lo ((lo + hi) / 2)) else lo
def plOf (l : List S76) (c : Int) : Nat:=placeOf l c l.length 0 l.length
def hitOf (l : List S76) (c : Int) : Bool:=decide (placeOf l c l.length 0 l.length < l.length) && decide ((rd_T76 l ((placeOf l c l.length 0 l.length : Nat) : Int)).f0=c)
theorem placeOf_spec {l : List S76} (ho : l.Pairwise (fun a b=>a.f0 < b.f0)) (c : Int) : ∀ (d lo hi : Nat),lo≤hi→hi≤l.length→hi - lo≤d →
    (∀ i (h : i < l.length),i < lo→l[i].f0 < c)→(∀ i (h : i < l.length),hi≤i→c≤l[i].f0) →
    placeOf l c d lo hi≤l.length∧(∀ i (h : i < l.length),i < placeOf l c d lo hi→l[i].f0 < c)∧(∀ i (h : i < l.length),placeOf l c d lo hi≤i→c≤l[i].f0)
  | 0,lo,hi,h1,h2,h3,h4,h5=>by
    obtain rfl : lo=hi:=by omega
    exact ⟨h2,h4,h5⟩
  | d + 1,lo,hi,h1,h2,h3,h4,h5=>by
    rw [placeOf]
    by_cases hlt : lo < hi
    · rw [if_pos hlt]
      have hm : (lo + hi) / 2 < l.length:=by omega
      rw [ses_nat hm]
      have hord : ∀ i j (hi : i < l.length) (hj : j < l.length),i < j→l[i].f0 < l[j].f0:=fun i j hi hj hij=>List.pairwise_iff_getElem.mp ho i j hi hj hij
      by_cases hc : (l[(lo + hi) / 2]'hm).f0 < c
      · rw [if_pos hc]
        refine placeOf_spec ho c d _ _ (by omega) h2 (by omega) (fun i hil hlo=>?_) h5
        rcases Nat.lt_or_eq_of_le (show i≤(lo + hi) / 2 by omega) with h | h
        · exact Int.lt_trans (hord i _ hil hm h) hc
        · subst h;exact hc
      · rw [if_neg hc]
        refine placeOf_spec ho c d _ _ (by omega) (by omega) (by omega) h4 (fun i hil hlo=>?_)
        rcases Nat.lt_or_eq_of_le (show (lo + hi) / 2≤i by omega) with h | h
        · have:=hord _ i hm hil h
          omega
        · subst h;omega
    · rw [if_neg hlt]
      obtain rfl : lo=hi:=by omega
      exact ⟨h2,h4,h5⟩
theorem placeOf_find {l : List S76} (h : sesB l=true) (c : Int) : (if hitOf l c=true then (rd_T76 l ((placeOf l c l.length 0 l.length : Nat) : Int)).f1 else 0)=(findS l c).f1:=by
  obtain ⟨h1,h2,h3⟩:=placeOf_spec (sesG_order l none h) c l.length 0 l.length (Nat.zero_le _) (Nat.le_refl _) (by omega) (fun i _ hi=>absurd hi (Nat.not_lt_zero _)) (fun i hil hi=>by omega)
  unfold hitOf
  generalize placeOf l c l.length 0 l.length=R at h1 h2 h3 ⊢
  by_cases hR : R < l.length
  · rw [decide_eq_true hR,ses_nat hR]
    by_cases hc : l[R].f0=c
    · rw [decide_eq_true hc,find_at c l R hR (fun i hi=>by have:=h2 i (by omega) hi;omega) hc]
      rfl
    · rw [decide_eq_false hc,find_none c l fun x hx=>?_]
      · rfl
      · obtain ⟨i,hi,rfl⟩:=List.getElem_of_mem hx
        by_cases hlt : i < R
        · have:=h2 i hi hlt;omega
        · have a:=h3 R hR (Nat.le_refl _)
          rcases Nat.lt_or_eq_of_le (show R≤i by omega) with h' | h'
          · have:=List.pairwise_iff_getElem.mp (sesG_order l none h) R i hR hi h'
            omega
          · subst h';exact hc
  · rw [decide_eq_false hR,find_none c l fun x hx=>?_]
    · rfl
    · obtain ⟨i,hi,rfl⟩:=List.getElem_of_mem hx
      have:=h2 i hi (by omega)
      omega
theorem putL_keep (s : S76) : ∀ l : List S76,(∀ x ∈ l,s.f0 < x.f0)→putL l s true=l
  | [],_=>rfl
  | x :: r,h=>by
    have h0:=h x (by simp)
    rw [putL,if_neg (by simp),if_neg (by omega),putL_keep s r fun y hy=>h y (List.mem_cons_of_mem _ hy)]
    rfl
theorem putL_place (s : S76) : ∀ (l : List S76) (R : Nat),l.Pairwise (fun a b=>a.f0 < b.f0)→R≤l.length→(∀ i (h : i < l.length),i < R→l[i].f0 < s.f0)→(∀ i (h : i < l.length),R≤i→s.f0≤l[i].f0) →
    putL l s false=(l.take R ++ [s]) ++ l.drop (R + (if ∃ h : R < l.length,l[R].f0=s.f0 then 1 else 0))
  | [],R,_,hR,_,_=>by
    obtain rfl : R=0:=by simpa using hR
    rw [if_neg (by rintro ⟨h,_⟩;exact absurd h (Nat.not_lt_zero _))]
    rfl
  | x :: r,0,ho,_,_,h2=>by
    have hx:=h2 0 (by simp) (Nat.zero_le _)
    simp only [List.getElem_cons_zero] at hx
    have hr:=(List.pairwise_cons.mp ho).1
    have hk : putL r s true=r:=putL_keep s r fun y hy=>by have:=hr y hy;omega
    have hp : putL (x :: r) s false=s :: ((if x.f0=s.f0 then [] else [x]) ++ putL r s true):=by
      rw [putL]
      exact if_pos ⟨rfl,hx⟩
    rw [hp,hk]
    by_cases hc : x.f0=s.f0
    · rw [if_pos hc,if_pos ⟨by simp,by simpa using hc⟩]
      rfl
    · rw [if_neg hc,if_neg (by rintro ⟨_,h⟩;exact hc (by simpa using h))]
      rfl
  | x :: r,R + 1,ho,hR,h1,h2=>by
    have hx:=h1 0 (by simp) (by omega)
    simp only [List.getElem_cons_zero] at hx
    have hp : putL (x :: r) s false=(if x.f0=s.f0 then [] else [x]) ++ putL r s false:=by
      rw [putL]
      exact if_neg (by omega)
    have ih:=putL_place s r R (List.pairwise_cons.mp ho).2 (by simpa using hR) (fun i hi hr=>by have:=h1 (i + 1) (by simpa using hi) (by omega);simpa using this) (fun i hi hr=>by have:=h2 (i + 1) (by simpa using hi) (by omega);simpa using this)
    rw [hp,ih,if_neg (by omega)]
    have he : (∃ h : R + 1 < (x :: r).length,(x :: r)[R + 1].f0=s.f0) ↔ ∃ h : R < r.length,r[R].f0=s.f0:=by simp
    by_cases hc : ∃ h : R < r.length,r[R].f0=s.f0
    · rw [if_pos hc,if_pos (he.mpr hc)]
      rfl
    · rw [if_neg hc,if_neg (fun h=>hc (he.mp h))]
      rfl
theorem putL_valid (s : S76) (hs : okS s=true) (l : List S76) : ∀ p,sesG p l=true→above p s.f0=true→sesG p (putL l s false)=true:=by
  induction l with
  | nil=>intro p _ hp;simp [putL,sesG,hs,hp]
  | cons x r ih =>
    intro p h hp
    have ho:=sesG_order _ _ h
    simp only [sesG,Bool.and_eq_true] at h
    obtain ⟨h1,h2,h3⟩:=h
    by_cases hc : s.f0≤x.f0
    · have hk : putL r s true=r:=putL_keep s r fun y hy=>by have:=(List.pairwise_cons.mp ho).1 y hy;omega
      have hp' : putL (x :: r) s false=s :: ((if x.f0=s.f0 then [] else [x]) ++ putL r s true):=by
        rw [putL]
        exact if_pos ⟨rfl,hc⟩
      rw [hp',hk]
      by_cases he : x.f0=s.f0
      · rw [if_pos he]
        rw [he] at h3
        simp [sesG,hs,hp,h3]
      · rw [if_neg he]
        have ha : above (some s.f0) x.f0=true:=by simp only [above,decide_eq_true_eq];omega
        simp [sesG,hs,hp,h1,ha,h3]
    · have hp' : putL (x :: r) s false=(if x.f0=s.f0 then [] else [x]) ++ putL r s false:=by
        rw [putL]
        exact if_neg (by omega)
      rw [hp',if_neg (by omega)]
      have ha : above (some x.f0) s.f0=true:=by simp only [above,decide_eq_true_eq];omega
      simp [sesG,h1,h2,ih (some x.f0) h3 ha]
theorem putL_find (s : S76) (c : Int) (l : List S76) (ho : l.Pairwise (fun a b=>a.f0 < b.f0)) : findS (putL l s false) c=if s.f0=c then s else findS l c:=by
  induction l with
  | nil=>simp [putL,findS]
  | cons x r ih =>
    have hr:=(List.pairwise_cons.mp ho).1
    by_cases hc : s.f0≤x.f0
    · have hk : putL r s true=r:=putL_keep s r fun y hy=>by have:=hr y hy;omega
      have hp' : putL (x :: r) s false=s :: ((if x.f0=s.f0 then [] else [x]) ++ putL r s true):=by
        rw [putL]
        exact if_pos ⟨rfl,hc⟩
      rw [hp',hk,findS]
      by_cases e : s.f0=c
      · rw [if_pos e,if_pos e]
      · rw [if_neg e,if_neg e]
        by_cases he : x.f0=s.f0
        · rw [if_pos he,findS,if_neg (by omega)]
          rfl
        · rw [if_neg he]
          rfl
    · have hp' : putL (x :: r) s false=(if x.f0=s.f0 then [] else [x]) ++ putL r s false:=by
        rw [putL]
        exact if_neg (by omega)
      rw [hp',if_neg (by omega)]
      simp only [List.cons_append,List.nil_append,findS,ih (List.pairwise_cons.mp ho).2]
      by_cases e : x.f0=c
      · rw [if_pos e,if_pos e,if_neg (by omega)]
      · rw [if_neg e,if_neg e]
theorem sesOne (s : S76) : sesB [s]=okS s:=by
  unfold sesB
  simp [sesG,above]
/-! What joined sessions hold. -/
theorem seq_find {l : List S76} (h : sesB l=true) {c : Int} (h0 : 0≤c) (h1 : c≤3) : seqB l c=(findS l c).f1:=by
  unfold seqB
  exact if_pos ⟨h,h0,h1⟩
theorem okS_client {s : S76} (h : okS s=true) : 0≤s.f0∧s.f0≤3:=by
  unfold okS l1B at h
  simp only [Bool.and_eq_true,decide_eq_true_eq] at h
  omega
theorem put_bad {l : List S76} {s : S76} (h : sesB l=false ∨ sesB [s]=false) : putB l s=([],false):=by
  unfold putB
  rw [if_neg]
  rintro ⟨h1,h2⟩
  rcases h with h | h
  · rw [h] at h1;cases h1
  · rw [h] at h2;cases h2

/-! The model of an entry that is applied to a state. -/
def entB (cl sq k : Int) (x : ByteArray) (v o : Int) : Bool:=l1B cl 0 3 && (l1B sq 1 999 && cmdB k x v o)
def takesB (a b : ByteArray) (k : Int) (x : ByteArray) : Bool:=if k=5 then decide (x.toList=([] : List UInt8)) || cutB a b x else insB a b x
def applM (s : SM) (cl sq k : Int) (x : ByteArray) (v o : Int) : SM × Int :=
  if k=5 then (⟨s.a,s.b,s.ps,(putB s.ss ⟨cl,sq,0⟩).1,true,x⟩,0)
  else (⟨s.a,s.b,(apM s.ps k x v o).1,(putB s.ss ⟨cl,sq,(apM s.ps k x v o).2⟩).1,s.t,s.c⟩,(apM s.ps k x v o).2)
def idleB (s : SM) (cl sq k : Int) (x : ByteArray) : Bool:=decide (sq≤(findS s.ss cl).f1) || (s.t || !takesB s.a s.b k x)
def idleN (s : SM) (cl sq : Int) : Int:=if (findS s.ss cl).f1=sq then (findS s.ss cl).f2 else if sq < (findS s.ss cl).f1 then -4 else -3
def aeM (s : SM) (cl sq k : Int) (x : ByteArray) (v o : Int) : SM × Int :=
  if s.ok && entB cl sq k x v o then (if idleB s cl sq k x then (s,idleN s cl sq) else applM s cl sq k x v o) else (SM.zero,-3)
theorem putM_sub {l : List S105} {c : ByteArray} {v : Int} {p : S105} (h : p ∈ (putM l c v).1) : p ∈ l ∨ p.f0=c:=by
  unfold putM at h
  split at h
  · split at h
    · simp only [List.mem_append,List.mem_singleton] at h
      rcases h with (h | h) | h
      · exact .inl (List.mem_of_mem_take h)
      · exact .inr (by rw [h])
      · exact .inl (List.mem_of_mem_drop h)
    · split at h
      · exact .inl h
      · simp only [List.mem_append,List.mem_singleton] at h
        rcases h with (h | h) | h
        · exact .inl (List.mem_of_mem_take h)
        · exact .inr (by rw [h])
        · exact .inl (List.mem_of_mem_drop h)
  · cases h
theorem dropM_sub {l : List S105} {c : ByteArray} {p : S105} (h : p ∈ (dropM l c).1) : p ∈ l:=by
  unfold dropM at h
  split at h
  · split at h
    · simp only [List.mem_append] at h
      rcases h with h | h
      · exact List.mem_of_mem_take h
      · exact List.mem_of_mem_drop h
    · exact h
  · cases h
theorem apM_sub {l : List S105} {k : Int} {x : ByteArray} {v o : Int} {p : S105} (h : p ∈ (apM l k x v o).1) : p ∈ l ∨ p.f0=x:=by
  unfold apM at h
  split at h
  · split at h
    · exact .inl (dropM_sub h)
    · split at h
      · exact .inl h
      · split at h
        · exact .inl h
        · exact putM_sub h
  · cases h
theorem apM_reply {l : List S105} (hl : prB l=true) {k : Int} {x : ByteArray} {v o : Int} (hc : cmdB k x v o=true) (h5 : k ≠ 5) : -2≤(apM l k x v o).2∧(apM l k x v o).2≤999:=by
  have hb:=getM_bound l x
  unfold apM
  rw [if_pos ⟨hl,hc,h5⟩]
  split
  · simp only;omega
  · split
    · simp only;omega
    · split
      · simp only;omega
      · simp only;omega
theorem entB_parts {cl sq k : Int} {x : ByteArray} {v o : Int} (h : entB cl sq k x v o=true) : (0≤cl∧cl≤3)∧(1≤sq∧sq≤999)∧cmdB k x v o=true:=by
  unfold entB l1B at h
  simp only [Bool.and_eq_true,decide_eq_true_eq] at h
  exact ⟨h.1,h.2.1,h.2.2⟩
theorem okS_of {cl sq n : Int} (h0 : 0≤cl∧cl≤3) (h1 : 1≤sq∧sq≤999) (h2 : -2≤n∧n≤999) : okS (⟨cl,sq,n⟩ : S76)=true:=by
  unfold okS l1B
  simp only [Bool.and_eq_true,decide_eq_true_eq]
  exact ⟨h0,h1,h2⟩
theorem put_new {l : List S76} (h : sesB l=true) {cl sq n : Int} (h0 : 0≤cl∧cl≤3) (h1 : 1≤sq∧sq≤999) (h2 : -2≤n∧n≤999) (hlt : (findS l cl).f1 < sq) :
    putB l ⟨cl,sq,n⟩=(putL l ⟨cl,sq,n⟩ false,true)∧sesB (putL l ⟨cl,sq,n⟩ false)=true∧∀ c,findS (putL l ⟨cl,sq,n⟩ false) c=if cl=c then ⟨cl,sq,n⟩ else findS l c:=by
  have ho:=okS_of h0 h1 h2
  refine ⟨?_,putL_valid _ ho l none h rfl,fun c=>putL_find _ c l (sesG_order l none h)⟩
  unfold putB
  rw [if_pos (show sesB l=true∧sesB [(⟨cl,sq,n⟩ : S76)]=true from ⟨h,by rw [sesOne];exact ho⟩),if_neg (by rw [seq_find h h0.1 h0.2];show ¬ sq≤_;omega)]
theorem applM_ok {s : SM} {cl sq k : Int} {x : ByteArray} {v o : Int} (hs : s.ok=true) (he : entB cl sq k x v o=true) (hi : idleB s cl sq k x=false) :
    (applM s cl sq k x v o).1.ok=true∧(applM s cl sq k x v o).1.a=s.a∧(applM s cl sq k x v o).1.b=s.b∧(applM s cl sq k x v o).1.t=(s.t || decide (k=5))∧(∀ c,findS (applM s cl sq k x v o).1.ss c=if cl=c then ⟨cl,sq,(applM s cl sq k x v o).2⟩ else findS s.ss c)∧-2≤(applM s cl sq k x v o).2:=by
  obtain ⟨hiv,hp,hss,hin,htl⟩:=stB_parts.mp hs
  obtain ⟨hcl,hsq,hcm⟩:=entB_parts he
  unfold idleB at hi
  simp only [Bool.or_eq_false_iff,decide_eq_false_iff_not,Bool.not_eq_false'] at hi
  obtain ⟨hlt,ht,htk⟩:=hi
  unfold takesB at htk
  by_cases h5 : k=5
  · rw [if_pos h5] at htk
    obtain ⟨e,hv,hf⟩:=put_new hss hcl hsq (n:=0) (by omega) (by omega)
    have ea : applM s cl sq k x v o=(⟨s.a,s.b,s.ps,(putB s.ss ⟨cl,sq,0⟩).1,true,x⟩,0):=if_pos h5
    rw [ea,e]
    refine ⟨stB_parts.mpr ⟨hiv,hp,hv,hin,?_⟩,rfl,rfl,by simp [h5],hf,by show (-2 : Int)≤0;omega⟩
    unfold tailB
    by_cases hx : x.toList=([] : List UInt8)
    · rw [if_pos hx]
    · rw [if_neg hx]
      rw [decide_eq_false hx,Bool.false_or] at htk
      rw [htk]
      rfl
  · rw [if_neg h5] at htk
    have hr:=apM_reply hp hcm h5
    obtain ⟨e,hv,hf⟩:=put_new hss hcl hsq (n:=(apM s.ps k x v o).2) hr (by omega)
    have ea : applM s cl sq k x v o=(⟨s.a,s.b,(apM s.ps k x v o).1,(putB s.ss ⟨cl,sq,(apM s.ps k x v o).2⟩).1,s.t,s.c⟩,(apM s.ps k x v o).2):=if_neg h5
    rw [ea,e]
    refine ⟨stB_parts.mpr ⟨hiv,apM_ok hp k x v o,hv,fun p hm=>?_,htl⟩,rfl,rfl,by simp [h5],hf,hr.1⟩
    rcases apM_sub hm with h | h
    · exact hin p h
    · rw [h];exact htk
theorem aeM_bad {s : SM} {cl sq k : Int} {x : ByteArray} {v o : Int} (h : ¬ (s.ok && entB cl sq k x v o)=true) : aeM s cl sq k x v o=(SM.zero,-3):=if_neg h
theorem aeM_idle {s : SM} {cl sq k : Int} {x : ByteArray} {v o : Int} (h : (s.ok && entB cl sq k x v o)=true) (hi : idleB s cl sq k x=true) : aeM s cl sq k x v o=(s,idleN s cl sq):=by
  unfold aeM
  rw [if_pos h,if_pos hi]
theorem aeM_go {s : SM} {cl sq k : Int} {x : ByteArray} {v o : Int} (h : (s.ok && entB cl sq k x v o)=true) (hi : idleB s cl sq k x=false) : aeM s cl sq k x v o=applM s cl sq k x v o:=by
  unfold aeM
  rw [if_pos h,if_neg (by simp [hi])]
/-- an entry leaves a state in which it is idle,and every entry that was idle stays so -/
theorem aeM_after {s : SM} {cl sq k : Int} {x : ByteArray} {v o : Int} (hs : s.ok=true) (he : entB cl sq k x v o=true) :
    (aeM s cl sq k x v o).1.ok=true∧idleB (aeM s cl sq k x v o).1 cl sq k x=true∧idleN (aeM s cl sq k x v o).1 cl sq=(aeM s cl sq k x v o).2 ∧
    ∀ cl' sq' k' x',idleB s cl' sq' k' x'=true→idleB (aeM s cl sq k x v o).1 cl' sq' k' x'=true:=by
  have hh : (s.ok && entB cl sq k x v o)=true:=by rw [hs,he];rfl
  cases hi : idleB s cl sq k x with
  | true =>
    rw [aeM_idle hh hi]
    exact ⟨hs,hi,rfl,fun _ _ _ _ h=>h⟩
  | false =>
    rw [aeM_go hh hi]
    obtain ⟨h1,h2,h3,h4,h5,h6⟩:=applM_ok hs he hi
    have hf:=h5 cl
    rw [if_pos rfl] at hf
    refine ⟨h1,?_,?_,fun cl' sq' k' x' h=>?_⟩
    · unfold idleB
      rw [hf,decide_eq_true (Int.le_refl _)]
      rfl
    · unfold idleN
      rw [hf,if_pos rfl]
    · unfold idleB at h hi ⊢
      simp only [Bool.or_eq_false_iff,decide_eq_false_iff_not] at hi
      rw [h2,h3,h4,h5 cl']
      simp only [Bool.or_eq_true,decide_eq_true_eq] at h ⊢
      rcases h with h | h | h
      · left
        by_cases e : cl=cl'
        · rw [if_pos e]
          subst e
          show sq'≤sq
          omega
        · rw [if_neg e];exact h
      · exact .inr (.inl (.inl h))
      · exact .inr (.inr h)
/-! The model of a log that is replayed. -/
def enB (e : S44) : Bool:=entB e.f0 e.f1 e.f2.f0 e.f2.f1 e.f2.f2 e.f2.f3
def aeE (s : SM) (e : S44) : SM × Int:=aeM s e.f0 e.f1 e.f2.f0 e.f2.f1 e.f2.f2 e.f2.f3
def logB (l : List S44) : Bool:=decide (l.length≤24) && l.all enB
def stepE (q : SM × List Int) (e : S44) : SM × List Int:=((aeE q.1 e).1,q.2 ++ [(aeE q.1 e).2])
def rpM (s : SM) (l : List S44) : SM × List Int:=if s.ok=true∧logB l=true then l.foldl stepE (s,[]) else (SM.zero,[])
theorem en_nat {l : List S44} {j : Nat} (h : j < l.length) : rd_T44 l (j : Int)=l[j]:=by simp [rd_T44,List.getD_eq_getElem?_getD,List.getElem?_eq_getElem h]
theorem en_drop {l : List S44} {j : Nat} (h : j < l.length) : l.drop j=rd_T44 l (j : Int) :: l.drop (j + 1):=by rw [en_nat h];exact List.drop_eq_getElem_cons h
theorem logB_bad {l : List S44} (h : 24 < l.length) : logB l=false:=by unfold logB;rw [decide_eq_false (by omega)];rfl
theorem logB_all {l : List S44} (h : l.length≤24) : logB l=l.all enB:=by unfold logB;rw [decide_eq_true h];rfl
theorem logB_parts {l : List S44} (h : logB l=true) : l.length≤24∧l.all enB=true:=by
  unfold logB at h
  simp only [Bool.and_eq_true,decide_eq_true_eq] at h
  exact h
theorem ok_len {s : SM} (h : s.ok=true) : s.ps.length≤48∧s.ss.length≤4:=by
  obtain ⟨-,hp,hv,-,-⟩:=stB_parts.mp h
  exact ⟨prB_len hp,sesB_len hv⟩
/-- what a log leaves -/
theorem fold_ok : ∀ (l : List S44) (q : SM × List Int),q.1.ok=true→l.all enB=true→(l.foldl stepE q).1.ok=true∧(l.foldl stepE q).2.length=q.2.length + l.length∧∀ cl sq k x,idleB q.1 cl sq k x=true→idleB (l.foldl stepE q).1 cl sq k x=true
  | [],q,h,_=>⟨h,rfl,fun _ _ _ _ h=>h⟩
  | e :: l,q,h,ha=>by
    rw [List.all_cons,Bool.and_eq_true] at ha
    obtain ⟨h1,h2,h3,h4⟩:=aeM_after h ha.1
    obtain ⟨g1,g2,g3⟩:=fold_ok l (stepE q e) h1 ha.2
    rw [List.foldl_cons]
    refine ⟨g1,?_,fun cl sq k x hi=>g3 cl sq k x (h4 cl sq k x hi)⟩
    rw [g2]
    show (q.2 ++ [(aeE q.1 e).2]).length + l.length=q.2.length + (l.length + 1)
    rw [List.length_append,List.length_singleton]
    omega
/-- the replies of before stand ahead -/
theorem fold_from : ∀ (l : List S44) (s : SM) (a : List Int),l.foldl stepE (s,a)=((l.foldl stepE (s,[])).1,a ++ (l.foldl stepE (s,[])).2)
  | [],s,a=>by simp
  | e :: l,s,a=>by
    rw [List.foldl_cons,List.foldl_cons]
    show l.foldl stepE ((aeE s e).1,a ++ [(aeE s e).2])=_
    rw [fold_from l _ (a ++ [(aeE s e).2]),show stepE (s,[]) e=((aeE s e).1,[(aeE s e).2]) from rfl,fold_from l _ [(aeE s e).2]]
    simp
theorem rpM_bad {s : SM} {l : List S44} (h : ¬ (s.ok=true∧logB l=true)) : rpM s l=(SM.zero,[]):=if_neg h
theorem rpM_go {s : SM} {l : List S44} (hs : s.ok=true) (hl : logB l=true) : rpM s l=l.foldl stepE (s,[]):=if_pos ⟨hs,hl⟩
theorem rpM_ok {s : SM} {l : List S44} (hs : s.ok=true) (hl : logB l=true) : (rpM s l).1.ok=true∧(rpM s l).2.length=l.length∧∀ cl sq k x,idleB s cl sq k x=true→idleB (rpM s l).1 cl sq k x=true:=by
  rw [rpM_go hs hl]
  obtain ⟨h1,h2,h3⟩:=fold_ok l (s,[]) hs (logB_parts hl).2
  exact ⟨h1,h2.trans (Nat.zero_add _),h3⟩
theorem logB_app {a b : List S44} (h : logB (a ++ b)=true) : logB a=true∧logB b=true:=by
  obtain ⟨h1,h2⟩:=logB_parts h
  rw [List.length_append] at h1
  rw [List.all_append,Bool.and_eq_true] at h2
  rw [logB_all (by omega),logB_all (by omega)]
  exact h2
/-- two parts of a log,one after the other -/
theorem rpM_two {s : SM} {a b : List S44} (hs : s.ok=true) (h : logB (a ++ b)=true) : rpM s (a ++ b)=((rpM (rpM s a).1 b).1,(rpM s a).2 ++ (rpM (rpM s a).1 b).2):=by
  obtain ⟨ha,hb⟩:=logB_app h
  obtain ⟨h1,-,-⟩:=rpM_ok hs ha
  rw [rpM_go hs h,rpM_go h1 hb,rpM_go hs ha,List.foldl_append,fold_from b]
/-- the first entry once more -/
theorem rpM_more {s : SM} {e : S44} {l : List S44} (hs : s.ok=true) (h : logB (e :: l)=true) (hl : (e :: l).length < 24) : ∃ n,rpM s (e :: l ++ [e])=((rpM s (e :: l)).1,(rpM s (e :: l)).2 ++ [n])∧logB (e :: l ++ [e])=true:=by
  obtain ⟨h1,h2⟩:=logB_parts h
  rw [List.all_cons,Bool.and_eq_true] at h2
  have hm : logB (e :: l ++ [e])=true:=by
    rw [logB_all (by rw [List.length_append,List.length_singleton];omega),List.all_append,List.all_cons,h2.1,h2.2]
    simp [h2.1]
  refine ⟨(rpM (rpM s (e :: l)).1 [e]).2.headD 0,?_,hm⟩
  obtain ⟨g1,-,g3⟩:=rpM_ok hs h
  have he1 : logB [e]=true:=(logB_app hm).2
  obtain ⟨i1,i2,-,-⟩:=aeM_after hs h2.1
  have hid : idleB (rpM s (e :: l)).1 e.f0 e.f1 e.f2.f0 e.f2.f1=true:=by
    rw [rpM_go hs h,List.foldl_cons]
    exact (fold_ok l (stepE (s,[]) e) i1 h2.2).2.2 _ _ _ _ i2
  rw [rpM_two hs hm,rpM_go g1 he1]
  show _=(_,_ ++ [_])
  have hx : stepE ((rpM s (e :: l)).1,[]) e=((rpM s (e :: l)).1,[(aeE (rpM s (e :: l)).1 e).2]):=by
    unfold stepE aeE
    rw [aeM_idle (by rw [g1];exact h2.1) hid]
    rfl
  rw [show [e].foldl stepE ((rpM s (e :: l)).1,[])=stepE ((rpM s (e :: l)).1,[]) e from rfl,hx]
  rfl
theorem rpM_once {s : SM} {es : List S44} (hs : s.ok=true) (h : logB es=true) (h0 : 0 < es.length) (hl : es.length < 24) : ∃ n,rpM s (es ++ [rd_T44 es 0])=((rpM s es).1,(rpM s es).2 ++ [n]):=by
  cases es with
  | nil=>exact absurd h0 (Nat.lt_irrefl 0)
  | cons e l =>
    obtain ⟨n,hn,-⟩:=rpM_more hs h hl
    exact ⟨n,hn⟩
theorem rpM_parts {s : SM} {es t1 t2 : List S44} (hs : s.ok=true) (h : logB es=true) (he : t1 ++ t2=es) : rpM s es=((rpM (rpM s t1).1 t2).1,(rpM s t1).2 ++ (rpM (rpM s t1).1 t2).2):=by
  subst he
  exact rpM_two hs h

theorem spec_CommandValid.M (k : Int) (x : ByteArray) (v o : Int) (w : World) : Calls Try.prog 84 #[.agg #[.int .i64 k,.string x,.int .i64 v,.int .i64 o]] w fun e w'=>e=.returned (.bool (cmdB k x v o))∧Below w.heap.size w w':=by
 have B:=Aside0.mk (Below.refl w.heap.size w)
 have hu:=Try.underlying42
 go_enter Try.func84,Try.ntmps84
 go_wp2_with (first
  | ((with_reducible refine gate_dst (N:=1) rfl ?_);refine bxq 1 #[.int .i64 (k),.string x,.int .i64 (v),.int .i64 (o)] 42 B fun g1 w1 hb B F1 L1 E1=>?_;obtain ⟨c1_0,c1_1,c1_2,c1_3⟩:=cs4 F1;clear hb E1)
  | (go_at_call 85;with_reducible refine cl (spec_KeyValid.M x _) B fun w2 hb B=>?_;replace F1:=bn F1 hb;clear c1_0 c1_1 c1_2 c1_3;obtain ⟨c1_0,c1_1,c1_2,c1_3⟩:=cs4 F1;clear hb)
  | (go_at_call 83;with_reducible refine cl (spec_l1In.M v 0 999 _) B fun w3 hb B=>?_;replace F1:=bn F1 hb;clear c1_0 c1_1 c1_2 c1_3;obtain ⟨c1_0,c1_1,c1_2,c1_3⟩:=cs4 F1;clear hb)
  | (go_at_call 83;with_reducible refine cl (spec_l1In.M v 0 999 _) B fun w4 hb B=>?_;replace F1:=bn F1 hb;clear c1_0 c1_1 c1_2 c1_3;obtain ⟨c1_0,c1_1,c1_2,c1_3⟩:=cs4 F1;clear hb)
  | (go_at_call 83;with_reducible refine cl (spec_l1In.M o (-1) 999 _) B fun w5 hb B=>?_;replace F1:=bn F1 hb;clear hb))
 all_goals (go_ret;exact ⟨congrArg (fun b=>Ending.returned (Value.bool b)) (by unfold cmdB;grind [l1B]),B.out⟩)

theorem impl_valueValid.M (n : Int) (w : World) : Calls Try.prog 112 #[.int .i64 n] w fun e w'=>e=.returned (.bool (l1B n 0 999))∧Below w.heap.size w w':=by
  go_enter Try.func112,Try.ntmps112
  go_wp2
  all_goals go_ret
  all_goals (refine ⟨?_,Below.refl _ _⟩;unfold l1B;simp_all;try omega)

theorem impl_CommandValid.M (k : Int) (x : ByteArray) (v o : Int) (w : World) : Calls Try.prog 72 #[.agg #[.int .i64 k,.string x,.int .i64 v,.int .i64 o]] w fun e w'=>e=.returned (.bool (cmdB k x v o))∧Below w.heap.size w w':=by
 have B:=Aside0.mk (Below.refl w.heap.size w)
 have hu:=Try.underlying42
 go_enter Try.func72,Try.ntmps72
 go_wp2_with (first
  | ((with_reducible refine gate_dst (N:=1) rfl ?_);refine bxq 1 #[.int .i64 (k),.string x,.int .i64 (v),.int .i64 (o)] 42 B fun g1 w1 hb B F1 L1 E1=>?_;obtain ⟨c1_0,c1_1,c1_2,c1_3⟩:=cs4 F1;clear hb E1)
  | (go_at_call 110;with_reducible refine cl (impl_KeyValid.M x _) B fun w2 hb B=>?_;replace F1:=bn F1 hb;clear c1_0 c1_1 c1_2 c1_3;obtain ⟨c1_0,c1_1,c1_2,c1_3⟩:=cs4 F1;clear hb)
  | (go_at_call 112;with_reducible refine cl (impl_valueValid.M v _) B fun w3 hb B=>?_;replace F1:=bn F1 hb;clear c1_0 c1_1 c1_2 c1_3;obtain ⟨c1_0,c1_1,c1_2,c1_3⟩:=cs4 F1;clear hb)
  | (go_at_call 112;with_reducible refine cl (impl_valueValid.M v _) B fun w4 hb B=>?_;replace F1:=bn F1 hb;clear c1_0 c1_1 c1_2 c1_3;obtain ⟨c1_0,c1_1,c1_2,c1_3⟩:=cs4 F1;clear hb)
  | (go_at_call 112;with_reducible refine cl (impl_valueValid.M o _) B fun w5 hb B=>?_;replace F1:=bn F1 hb;clear c1_0 c1_1 c1_2 c1_3;obtain ⟨c1_0,c1_1,c1_2,c1_3⟩:=cs4 F1;clear hb))
 all_goals (go_ret;exact ⟨congrArg (fun b=>Ending.returned (Value.bool b)) (by unfold cmdB;grind [l1B]),B.out⟩)

theorem impl_seqValid.M (n : Int) (w : World) : Calls Try.prog 71 #[.int .i64 n] w fun e w'=>e=.returned (.bool (l1B n 1 999))∧Below w.heap.size w w':=by
  go_enter Try.func71,Try.ntmps71
  go_wp2
  all_goals go_ret
  all_goals (refine ⟨?_,Below.refl _ _⟩;unfold l1B;simp_all;try omega)

theorem spec_EntryValid.M (ci sq k : Int) (x : ByteArray) (v o : Int) (w : World) : Calls Try.prog 38 #[.agg #[.int .i64 ci,.int .i64 sq,.int .i64 k,.string x,.int .i64 v,.int .i64 o]] w fun e w'=>e=.returned (.bool (entB ci sq k x v o))∧Below w.heap.size w w':=by
 have B:=Aside0.mk (Below.refl w.heap.size w)
 have hu:=Try.underlying44
 go_enter Try.func38,Try.ntmps38
 go_wp2_with (first
  | ((with_reducible refine gate_dst (N:=1) rfl ?_);refine bxq 1 #[.int .i64 (ci),.int .i64 (sq),.int .i64 (k),.string x,.int .i64 (v),.int .i64 (o)] 44 B fun g1 w1 hb B F1 L1 E1=>?_;obtain ⟨c1_0,c1_1,c1_2,c1_3,c1_4,c1_5⟩:=cs6 F1;clear hb E1)
  | (go_at_call 83;with_reducible refine cl (spec_l1In.M ci 0 3 _) B fun w2 hb B=>?_;replace F1:=bn F1 hb;clear c1_0 c1_1 c1_2 c1_3 c1_4 c1_5;obtain ⟨c1_0,c1_1,c1_2,c1_3,c1_4,c1_5⟩:=cs6 F1;clear hb)
  | (go_at_call 83;with_reducible refine cl (spec_l1In.M sq 1 999 _) B fun w3 hb B=>?_;replace F1:=bn F1 hb;clear c1_0 c1_1 c1_2 c1_3 c1_4 c1_5;obtain ⟨c1_0,c1_1,c1_2,c1_3,c1_4,c1_5⟩:=cs6 F1;clear hb)
  | (go_at_call 84;with_reducible refine cl (spec_CommandValid.M k x v o _) B fun w4 hb B=>?_;clear hb))
 all_goals go_ret
 all_goals (refine ⟨congrArg (fun b=>Ending.returned (Value.bool b)) ?_,B.out⟩;unfold entB;grind [l1B])
theorem impl_EntryValid.M (ci sq k : Int) (x : ByteArray) (v o : Int) (w : World) : Calls Try.prog 19 #[.agg #[.int .i64 ci,.int .i64 sq,.int .i64 k,.string x,.int .i64 v,.int .i64 o]] w fun e w'=>e=.returned (.bool (entB ci sq k x v o))∧Below w.heap.size w w':=by
 have B:=Aside0.mk (Below.refl w.heap.size w)
 have hu:=Try.underlying44
 go_enter Try.func19,Try.ntmps19
 go_wp2_with (first
  | ((with_reducible refine gate_dst (N:=1) rfl ?_);refine bxq 1 #[.int .i64 (ci),.int .i64 (sq),.int .i64 (k),.string x,.int .i64 (v),.int .i64 (o)] 44 B fun g1 w1 hb B F1 L1 E1=>?_;obtain ⟨c1_0,c1_1,c1_2,c1_3,c1_4,c1_5⟩:=cs6 F1;clear hb E1)
  | (go_at_call 71;with_reducible refine cl (impl_seqValid.M sq _) B fun w2 hb B=>?_;replace F1:=bn F1 hb;clear c1_0 c1_1 c1_2 c1_3 c1_4 c1_5;obtain ⟨c1_0,c1_1,c1_2,c1_3,c1_4,c1_5⟩:=cs6 F1;clear hb)
  | (go_at_call 72;with_reducible refine cl (impl_CommandValid.M k x v o _) B fun w3 hb B=>?_;clear hb))
 all_goals go_ret
 all_goals (refine ⟨congrArg (fun b=>Ending.returned (Value.bool b)) ?_,B.out⟩;unfold entB;grind [l1B])

theorem spec_l10Log.M (A0 : Option Addr) (c0 : Nat) (l : List S44) (w : World) (hr0 : Kd.C k44 w A0 l.length l) : Calls Try.prog 74 #[.slice A0 l.length c0] w fun e w'=>e=.returned (.bool (logB l))∧Below w.heap.size w w':=by
 have B:=Aside0.mk (Below.refl w.heap.size w)
 have hu:=Try.underlying44
 have HR0:=Aside0.mk hr0
 have h48:=hr0.2.1
 clear hr0
 obtain ⟨r,hr⟩ : ∃ r,logB l=r:=⟨_,rfl⟩
 rw [hr]
 have HG:=Aside0.mk (show 24 < l.length→r=false from fun h=>by rw [← hr];exact logB_bad h)
 have H:=Aside0.mk (show l.length≤24→(l.drop 0).all enB=r from fun h=>by rw [← hr,logB_all h];rfl)
 clear hr
 go_enter Try.func74,Try.ntmps74
 go_wp2
 go_loopg [3] (l.length + 1) (fun kx v3 wr=>∃ j : Nat,v3=.int .i64 (j : Int)∧j≤l.length∧l.length < j + kx∧j≤24∧Aside0 (Below w.heap.size w wr)∧Aside0 (l.length≤24→(l.drop j).all enB=r))
 case atStart=>exact ⟨0,rfl,by omega,by omega,by omega,B,H⟩
 case round =>
  clear H B
  obtain ⟨j,rfl,hj,hk,h24,B,H⟩:=hrel
  by_cases hlt : j < l.length
  ·have HS:=H.out
   rw [en_drop hlt,List.all_cons] at HS
   clear H
   obtain ⟨d,rfl⟩ : ∃ d,gk=d + 1:=⟨gk - 1,by omega⟩
   have cj : decide ((j : Int) < (l.length : Int))=true:=decide_eq_true (by omega)
   obtain ⟨ad,hA,y0,y1,y2,y3,y4,y5⟩:=at_T44 (cb HR0 B) (j : Int) (by omega) (by omega)
   cases hA
   rw [Int.toNat_natCast] at y0 y1 y2 y3 y4 y5
   have j1:=eq_true (show (j : Int) < (l.length : Int) by omega)
   have j2:=eq_true hlt
   generalize hy : rd_T44 l (j : Int)=y at *
   replace HS:=Aside0.mk HS
   by_cases hq : 24≤j
   ·have c24 : decide ((24 : Int)≤(j : Int))=true:=decide_eq_true (by omega)
    obtain rfl : r=false:=HG.out (by omega)
    go_wp2
    go_ret
    exact ⟨rfl,B.out⟩
   ·have c24 : decide ((24 : Int)≤(j : Int))=false:=decide_eq_false (by omega)
    go_wp2_with (first
     | (go_at_call 38;with_reducible refine cl (spec_EntryValid.M y.f0 y.f1 y.f2.f0 y.f2.f1 y.f2.f2 y.f2.f3 _) B fun w101 hb B=>?_;clear hb))
    all_goals first
     | (refine useEq (a:=enB y) (b:=true) ?_ (fun hK=>?_);(unfold enB;grind);go_roundg d;(case measure=>omega);(case rel=>exact ⟨j + 1,congrArg (Value.int .i64) (Int.natCast_succ _).symm,by omega,by omega,by omega,B,⟨fun h=>by have h9:=HS.out h;rw [hK,Bool.true_and] at h9;exact h9⟩⟩))
     | (refine useEq (a:=enB y) (b:=false) ?_ (fun hK=>?_);(unfold enB;grind);refine useEq (a:=r) (b:=false) ?_ (fun hM=>?_);(by_cases h : l.length≤24;(rw [← HS.out h,hK];rfl);exact HG.out (by omega));subst hM;go_ret;exact ⟨rfl,B.out⟩)
  ·have cj : decide ((j : Int) < (l.length : Int))=false:=decide_eq_false (by omega)
   obtain rfl : r=true:=by rw [← H.out (by omega),List.drop_of_length_le (by omega)];rfl
   go_wp2
   go_ret
   exact ⟨rfl,B.out⟩
theorem impl_entriesValid.M (A0 : Option Addr) (c0 : Nat) (l : List S44) (w : World) (hr0 : Kd.C k44 w A0 l.length l) : Calls Try.prog 75 #[.slice A0 l.length c0] w fun e w'=>e=.returned (.bool (logB l))∧Below w.heap.size w w':=by
 have B:=Aside0.mk (Below.refl w.heap.size w)
 have hu:=Try.underlying44
 have HR0:=Aside0.mk hr0
 have h48:=hr0.2.1
 clear hr0
 obtain ⟨r,hr⟩ : ∃ r,logB l=r:=⟨_,rfl⟩
 rw [hr]
 have HG:=Aside0.mk (show 24 < l.length→r=false from fun h=>by rw [← hr];exact logB_bad h)
 have H:=Aside0.mk (show l.length≤24→(l.drop 0).all enB=r from fun h=>by rw [← hr,logB_all h];rfl)
 clear hr
 by_cases hl : l.length≤24
 ·have cl0 : decide (24 < (l.length : Int))=false:=decide_eq_false (by omega)
  go_enter Try.func75,Try.ntmps75
  go_wp2
  go_loopg [10] (l.length + 1) (fun kx v10 wr=>∃ j : Nat,v10=.int .i64 (j : Int)∧j≤l.length∧l.length < j + kx∧j≤24∧Aside0 (Below w.heap.size w wr)∧Aside0 (l.length≤24→(l.drop j).all enB=r))
  case atStart=>exact ⟨0,rfl,by omega,by omega,by omega,B,H⟩
  case round =>
   clear H B
   obtain ⟨j,rfl,hj,hk,h24,B,H⟩:=hrel
   by_cases hlt : j < l.length
   ·have HS:=H.out
    rw [en_drop hlt,List.all_cons] at HS
    clear H
    obtain ⟨d,rfl⟩ : ∃ d,gk=d + 1:=⟨gk - 1,by omega⟩
    have cj : decide ((j : Int) < (l.length : Int))=true:=decide_eq_true (by omega)
    obtain ⟨ad,hA,y0,y1,y2,y3,y4,y5⟩:=at_T44 (cb HR0 B) (j : Int) (by omega) (by omega)
    cases hA
    rw [Int.toNat_natCast] at y0 y1 y2 y3 y4 y5
    have j1:=eq_true (show (j : Int) < (l.length : Int) by omega)
    have j2:=eq_true hlt
    generalize hy : rd_T44 l (j : Int)=y at *
    replace HS:=Aside0.mk HS
    go_wp2_with (first
     | ((with_reducible refine gate_dst (N:=4) rfl ?_);refine bxq 4 #[.int .i64 (0),.int .i64 (0),.int .i64 (0),.string (⟨#[]⟩ : ByteArray),.int .i64 (0),.int .i64 (0)] 44 B fun g4 w101 hb B F4 L4 E4=>?_;obtain ⟨c4_0,c4_1,c4_2,c4_3,c4_4,c4_5⟩:=cs6 F4;clear hb E4)
     | ((with_reducible refine gate_store (t:=44) (p:=4) rfl ?_);obtain ⟨y0,y1,y2,y3,y4,y5,z0,z1,z2,z3,z4,z5⟩:=cz6 F4;refine sxq 44 44 4 0 [.int .i64 (y.f0),.int .i64 (y.f1),.int .i64 (y.f2.f0),.string y.f2.f1,.int .i64 (y.f2.f2),.int .i64 (y.f2.f3)] [.int .i64 (y.f0),.int .i64 (y.f1),.int .i64 (y.f2.f0),.string y.f2.f1,.int .i64 (y.f2.f2),.int .i64 (y.f2.f3)] B F4 L4 fun w102 hk B G=>?_;replace F4:=G;clear c4_0 c4_1 c4_2 c4_3 c4_4 c4_5;obtain ⟨c4_0,c4_1,c4_2,c4_3,c4_4,c4_5⟩:=cs6 F4;clear hk y0 z0 y1 z1 y2 z2 y3 z3 y4 z4 y5 z5)
     | (go_at_call 19;with_reducible refine cl (impl_EntryValid.M y.f0 y.f1 y.f2.f0 y.f2.f1 y.f2.f2 y.f2.f3 _) B fun w103 hb B=>?_;clear hb))
    all_goals first
     | (refine useEq (a:=enB y) (b:=true) ?_ (fun hK=>?_);(unfold enB;grind);go_roundg d;(case measure=>omega);(case rel=>exact ⟨j + 1,congrArg (Value.int .i64) (Int.natCast_succ _).symm,by omega,by omega,by omega,B,⟨fun h=>by have h9:=HS.out h;rw [hK,Bool.true_and] at h9;exact h9⟩⟩))
     | (refine useEq (a:=enB y) (b:=false) ?_ (fun hK=>?_);(unfold enB;grind);refine useEq (a:=r) (b:=false) ?_ (fun hM=>?_);(by_cases h : l.length≤24;(rw [← HS.out h,hK];rfl);exact HG.out (by omega));subst hM;go_ret;exact ⟨rfl,B.out⟩)
   ·have cj : decide ((j : Int) < (l.length : Int))=false:=decide_eq_false (by omega)
    obtain rfl : r=true:=by rw [← H.out (by omega),List.drop_of_length_le (by omega)];rfl
    go_wp2
    go_ret
    exact ⟨rfl,B.out⟩
 ·have cl0 : decide (24 < (l.length : Int))=true:=decide_eq_true (by omega)
  obtain rfl : r=false:=HG.out (by omega)
  go_enter Try.func75,Try.ntmps75
  go_wp2
  go_ret
  exact ⟨rfl,B.out⟩

/-! Rows that are made and written. -/
section
variable {P : Program} {w W W' : World} {α β : Type} {d : Kd α} {e b : Nat} {xs : List α}
variable {ops ops' : Array Oper} {o : Oper} {rest : List Oper} {a : Act} {QE : Exit→Act→World→Prop}
theorem fr {v v' : Value} {β : Type} {d' : Kd β} {e' : Nat} {ys : List β} (q : Aside0 (Fr W v)) (R : Aside0 (Ow d' e' W b v' ys)) : Aside0 (∀ k,v.ownBlock=some k→v'.ownBlock=some k→False):=⟨fun k h1 h2=>by
  have:=q.out k h1
  have:=Kd.R_lt R.out k h2
  omega⟩
/-- the form of a row that is not empty -/
theorem rform {A : Option Addr} {n c : Nat} (R : Aside0 (Ow d e W b (.slice A n c) xs)) (hp : 0 < xs.length) : ∃ g,A=some ⟨g,0,none⟩∧b≤g:=by
  obtain ⟨g,cap,hv,hb,_⟩:=Kd.R_form R.out hp
  cases hv
  exact ⟨g,rfl,hb⟩
/-- the cells of an element -/
theorem rcells {g n c : Nat} (z : α) (R : Aside0 (Ow d e W b (.slice (some ⟨g,0,none⟩) n c) xs)) (i : Nat) (hi : i < n) : ∃ cs,cs.length=d.sz∧d.M W b (fun k=>True∧k ≠ g) (xs.getD i z) cs∧(∀ j u,cs[j]?=some u→W.cell? ⟨g,i * d.sz + j,none⟩=some u)∧∀ j,W.frozen? ⟨g,i * d.sz + j,none⟩=false:=by
  have:=Kd.R_elem R.out z (i : Int) (Int.natCast_nonneg i) (by omega)
  rwa [Int.toNat_natCast] at this
theorem es {g n c : Nat} {t : TypeId} {p : Tmp} {v : Operand} (hgd : o.guard=none) (ho : o.op=.store t (.tmp p) v) (hN : o.dst=none) (i off : Nat) (seg : List Value) (x' : α) (hrun : (execOp a.eval o).run P W=.ok .skip (W.setCells g (i * d.sz + off) seg))
    (R : Aside0 (Ow d e W b (.slice (some ⟨g,0,none⟩) n c) xs)) (hi : i < n) {cs : List Value} (hcl : cs.length=d.sz) (hcc : ∀ j u,cs[j]?=some u→W.cell? ⟨g,i * d.sz + j,none⟩=some u) (hj : off + seg.length≤d.sz)
    (hM : d.M W b (fun _=>False) x' (cs.take off ++ seg ++ cs.drop (off + seg.length))) (B : Aside0 (Below w.heap.size w W)) (hb : w.heap.size≤g)
    (h : ∀ w',W.grownBy w' (some g)→Aside0 (Below w.heap.size w w')→Aside0 (Ow d e w' b (.slice (some ⟨g,0,none⟩) n c) (xs.set i x'))→wpList P ops QE rest a w') : wpList P ops QE (o :: rest) a W :=
  store_event hgd ho hN hrun fun w' hw=>by
    have hP:=Kd.R_seg R.out (i : Int) (Int.natCast_nonneg i) (by omega) (c:=cs) (seg:=seg) (j:=off) (x':=x') (okp:=fun _=>False) hcl (by rw [Int.toNat_natCast];exact hcc) hj hM (fun _ hk=>hk.elim)
    rw [Int.toNat_natCast] at hP
    subst hw
    refine h _ hP.2 ⟨pw_below_grown B.out (some g) (below_size B.out) hP.2 (fun k hk=>?_)⟩ ⟨hP.1⟩
    cases hk
    exact hb
end
section
variable {P : Program} {w W W' : World} {α β : Type} {d : Kd α} {e b : Nat} {xs : List α}
variable {ops ops' : Array Oper} {o : Oper} {rest : List Oper} {a : Act} {QE : Exit→Act→World→Prop}
/-- a literal of records -/
theorem lt (d : Kd α) (e : Nat) (hgd : o.guard=none) {N : Tmp} (hd : o.dst=some N) (xs : List α) (inner : List Value) (hrun : (execOp a.eval o).run P W=.ok (.value (.slice (some ⟨W.heap.size,0,none⟩) xs.length xs.length)) (W.alloc (.cells inner.toArray e)))
    (hp : Reps (d.M W W.heap.size (fun _=>True)) d.sz xs inner) (hm : xs.length≤9223372036854775807) (B : Aside0 (Below w.heap.size w W))
    (h : ∀ zs,xs=zs→∀ A kk w1,Below W.heap.size W w1→Aside0 (Below w.heap.size w w1)→Aside0 (Ow d e w1 w.heap.size (.slice A zs.length kk) zs)→Aside0 (Fr W (.slice A zs.length kk))→wpList P ops QE rest (a.put o.dst (.slice A zs.length kk)) w1) : wpList P ops QE (o :: rest) a W :=
  Kd.R_lit d (w0:=W) W.heap.size e hgd hd hrun hp (fun _ h=>h) trivial (Below.refl _ _) (Nat.le_refl _) hm fun v1 w1 hR hb hg hnew=>by
    obtain ⟨A,kk,rfl⟩:=Kd.R_slice hR
    exact h xs rfl A kk w1 hb ⟨below_step B.out hb⟩ ⟨Kd.R_lower hR (below_size B.out)⟩ ⟨fun k hk=>Kd.R_base hR k hk⟩
/-- a row is put behind a row of the walk's own -/
theorem apx (d : Kd α) (e : Nat) (hgd : o.guard=none) (s x : Operand) (t : TypeId) (z : Value) (bytes : Nat) (ho : o.op=.call { callee:=.builtin .append,args:=#[s,x],argTypes:=#[t,t] })
    (ht : P.underlying t=some (.slice e)) (hinfo : (P.info? e).map (fun i=>(i.zero,i.size,i.bytes))=some (some z,d.sz,bytes)) (hz : z.cells.size=d.sz) (hs0 : 0 < d.sz) (hb0 : 0 < bytes)
    {v : Value} {ys : List α} {A : Option Addr} {m c : Nat} (hs : a.eval s=v) (hx : a.eval x=.slice A m c) (R : Aside0 (Ow d e W w.heap.size v xs)) (C : d.C W A m ys) (hKM : ∀ x cs,d.K W x cs→d.M W w.heap.size (fun _=>False) x cs)
    (hl : (xs.length + m) * bytes≤140737488355328) (B : Aside0 (Below w.heap.size w W))
    (h : ∀ zs,xs ++ ys=zs→∀ A' kk w1,W.grownBy w1 v.ownBlock→Aside0 (Below w.heap.size w w1)→Aside0 (Ow d e w1 w.heap.size (.slice A' zs.length kk) zs)→Aside0 ((Value.slice A' zs.length kk).ownBlock=v.ownBlock ∨ ∃ b,(Value.slice A' zs.length kk).ownBlock=some b∧W.heap.size≤b)→wpList P ops QE rest (a.put o.dst (.slice A' zs.length kk)) w1) : wpList P ops QE (o :: rest) a W :=
  Kd.R_append_rows d (w0:=w) w.heap.size hgd s x t e z bytes ho ht hinfo hz hs0 hb0 v xs ys A m c (fun _=>True) (fun _=>False) hs hx R.out C hKM (fun _ h=>h.elim) (fun _ _=>trivial) B.out (below_size B.out) hl fun v1 w1 hR hb hg hat=>by
    obtain ⟨A',kk,rfl⟩:=Kd.R_slice hR
    exact h _ rfl A' kk w1 hg ⟨hb⟩ ⟨hR⟩ ⟨hat⟩
/-- what lies elsewhere stays when a row grows -/
theorem bga {g t : Nat} {cs : Array Value} {v : Value} (F : Aside0 (W.heap[g]?=some (.cells cs t (0,0)))) (hg : W.grownBy W' v.ownBlock) (R : Aside0 (Ow d e W b v xs)) (ht : e ≠ t) : Aside0 (W'.heap[g]?=some (.cells cs t (0,0))):=⟨blk_grown F.out hg (Kd.R_ne R.out F.out ht)⟩
theorem rga {d' : Kd β} {e' b' : Nat} {v v' : Value} {ys : List β} (R' : Aside0 (Ow d' e' W b' v' ys)) (hE : d'.E=[]) (hg : W.grownBy W' v.ownBlock) (ne : ∀ k,v'.ownBlock=some k→v.ownBlock=some k→False) : Aside0 (Ow d' e' W' b' v' ys) :=
  ⟨Kd.R_mono (Kd.R_grown (Kd.R_tight hE R'.out) hg (fun k h1 h2=>ne k h1.symm h2.symm)) (fun _ _=>trivial)⟩
theorem dty {d' : Kd β} {e' b' : Nat} {v v' : Value} {ys : List β} (R : Aside0 (Ow d e W b v xs)) (R' : Aside0 (Ow d' e' W b' v' ys)) (h : e ≠ e') : ∀ k,v'.ownBlock=some k→v.ownBlock=some k→False:=fun k h1 h2=>by
  obtain ⟨_,o1⟩:=Kd.R_own R.out
  obtain ⟨_,o2⟩:=Kd.R_own R'.out
  obtain ⟨c1,t1⟩:=own_typed o1 k h2
  obtain ⟨c2,t2⟩:=own_typed o2 k h1
  rw [t1] at t2
  cases t2
  exact h rfl
theorem nilC (d : Kd α) (W : World) : Kd.C d W none ([] : List α).length []:=⟨rfl,by simp,fun h=>absurd h (Nat.lt_irrefl 0)⟩
end
/-- a row that grew lies apart from the others still -/
theorem dap {W : World} {v v1 v' : Value} {β : Type} {d' : Kd β} {e' b' : Nat} {ys : List β} (hat : Aside0 (v1.ownBlock=v.ownBlock ∨ ∃ b,v1.ownBlock=some b∧W.heap.size≤b)) (D : Aside0 (∀ k,v.ownBlock=some k→v'.ownBlock=some k→False)) (R : Aside0 (Ow d' e' W b' v' ys)) : Aside0 (∀ k,v1.ownBlock=some k→v'.ownBlock=some k→False):=⟨fun k h1 h2=>by
  rcases hat.out with h | ⟨b,h,hb⟩
  · exact D.out k (h ▸ h1) h2
  · rw [h] at h1
    cases h1
    have:=Kd.R_lt R.out k h2
    omega⟩
/-! Calls that give or write several rows. -/
theorem c2r {P : Program} {F : FuncId} {args : Array Value} {w W : World} {Q : Ending→World→Prop} {α β : Type} {d : Kd α} {d' : Kd β} {e e' : Nat} {xs : List α} {ys : List β} {f : Value→Value→Value} (c : Calls P F args W fun r w'=>∃ v1 v2,r=.returned (f v1 v2)∧Kd.R d e w' W.heap.size (fun _=>True) v1 xs∧Kd.R d' e' w' W.heap.size (fun _=>True) v2 ys∧Below W.heap.size W w') (B : Aside0 (Below w.heap.size w W))
    (h : ∀ A kk A' kk' W',Below W.heap.size W W'→Aside0 (Below w.heap.size w W')→Aside0 (Ow d e W' w.heap.size (.slice A xs.length kk) xs)→Aside0 (Fr W (.slice A xs.length kk))→Aside0 (Ow d' e' W' w.heap.size (.slice A' ys.length kk') ys)→Aside0 (Fr W (.slice A' ys.length kk'))→Q (.returned (f (.slice A xs.length kk) (.slice A' ys.length kk'))) W') : Calls P F args W Q :=
  c.mono (by
    rintro r W' ⟨v1,v2,rfl,ho,ho',hb⟩
    obtain ⟨A,kk,rfl⟩:=Kd.R_slice ho
    obtain ⟨A',kk',rfl⟩:=Kd.R_slice ho'
    exact h A kk A' kk' W' hb ⟨below_step B.out hb⟩ ⟨Kd.R_lower ho (below_size B.out)⟩ ⟨fun k hk=>Kd.R_base ho k hk⟩ ⟨Kd.R_lower ho' (below_size B.out)⟩ ⟨fun k hk=>Kd.R_base ho' k hk⟩)
/-! What draws of states give. -/
section
variable {P : Program} {F : FuncId} {args : Array Value} {w W : World} {Q : Ending→World→Prop} {α β : Type} {d : Kd α} {d' : Kd β} {e e' : Nat}
end
/-- where a walk is to stand -/
structure Stop (p : Prop) : Prop where
  out : p

/-! A box of the type of a row's elements is no part of the row. -/
section
variable {W W' : World} {v v1 : Value} {g : Nat} {o : Obj}
theorem nb (q : Aside0 (Fr W v)) (F : Aside0 (W.heap[g]?=some o)) : Aside0 (∀ k,v.ownBlock=some k→k ≠ g):=⟨fun k h e=>by
  subst e
  have h1:=q.out k h
  have h2:=blk_lt F.out
  omega⟩
theorem nba (hat : Aside0 (v1.ownBlock=v.ownBlock ∨ ∃ b,v1.ownBlock=some b∧W.heap.size≤b)) (N : Aside0 (∀ k,v.ownBlock=some k→k ≠ g)) (F : Aside0 (W.heap[g]?=some o)) : Aside0 (∀ k,v1.ownBlock=some k→k ≠ g):=⟨fun k h e=>by
  rcases hat.out with h1 | ⟨b,h1,hb⟩
  · exact N.out k (h1 ▸ h) e
  · rw [h1] at h
    cases h
    subst e
    have h2:=blk_lt F.out
    omega⟩
theorem bgn (F : Aside0 (W.heap[g]?=some o)) (hg : W.grownBy W' v.ownBlock) (N : Aside0 (∀ k,v.ownBlock=some k→k ≠ g)) : Aside0 (W'.heap[g]?=some o):=⟨blk_grown F.out hg (fun e=>N.out g e.symm rfl)⟩
theorem rkn {α : Type} {d : Kd α} {e b : Nat} {xs : List α} (R : Aside0 (Ow d e W b v xs)) (hk : KeepBut W W' g none) (N : Aside0 (∀ k,v.ownBlock=some k→k ≠ g)) (hE : d.E=[]:=by rfl) : Aside0 (Ow d e W' b v xs) :=
  ⟨Kd.R_mono (Kd.R_keep (Kd.R_tight hE R.out) hk (fun k q=>N.out k q.symm)) (fun _ _=>trivial)⟩
theorem nbx {α : Type} {d : Kd α} {e b : Nat} {xs : List α} (E : Aside0 (g=W.heap.size)) (R : Aside0 (Ow d e W b v xs)) : Aside0 (∀ k,v.ownBlock=some k→k ≠ g):=⟨fun k h e=>by
  have h1:=Kd.R_lt R.out k h
  have h2:=E.out
  omega⟩
end

/-! Operations of a region that draws its order,one by one: a box,a literal,a row put behind a row. -/
section
variable {P : Program} {w W : World} {ops' : Array Oper} {o : Oper} {a : Act} {QE : Exit→Act→World→Prop} {Kc : Act→World→Prop}
theorem below_al (W : World) (ob : Obj) : Below W.heap.size W (W.alloc ob):=below_alloc (Below.refl _ _) ob
theorem al_blk (W : World) (ob : Obj) : (W.alloc ob).heap[W.heap.size]?=some ob:=by unfold World.alloc;exact Array.getElem?_push_size
theorem bxs {N : Tmp} {cs : Array Value} {t : TypeId} (hw : Region.wanted o (yielded ops' a.tmps)=true) (hd : o.dst=some N) (hrun : (execOp a.eval o).run P W=.ok (.value (.pointer (some ⟨W.heap.size,0,none⟩))) (W.alloc (.cells cs t (0,0))))
    (B : Aside0 (Below w.heap.size w W))
    (h : ∀ g w1,Below W.heap.size W w1→Aside0 (Below w.heap.size w w1)→Aside0 (w1.heap[g]?=some (.cells cs t (0,0)))→Aside0 (w.heap.size≤g)→Aside0 (g=W.heap.size)→Kc (a.put (some N) (.pointer (some ⟨g,0,none⟩))) w1) :
    if Region.wanted o (yielded ops' a.tmps)=true then Oper.wp P o a W Kc QE else Kc (a.put (some N) undef) W :=
  value_ hw hd hrun (h _ _ (below_al W _) ⟨below_step B.out (below_al W _)⟩ ⟨al_blk W _⟩ ⟨below_size B.out⟩ ⟨rfl⟩)
variable {α β : Type} {b : Nat} {xs : List α}
theorem lts (d : Kd α) (e : Nat) (hw : Region.wanted o (yielded ops' a.tmps)=true) {N : Tmp} (hd : o.dst=some N) (xs : List α) (inner : List Value) (hrun : (execOp a.eval o).run P W=.ok (.value (.slice (some ⟨W.heap.size,0,none⟩) xs.length xs.length)) (W.alloc (.cells inner.toArray e)))
    (hp : Reps (d.M W W.heap.size (fun _=>True)) d.sz xs inner) (hm : xs.length≤9223372036854775807) (B : Aside0 (Below w.heap.size w W))
    (h : ∀ zs,xs=zs→∀ A kk w1,Below W.heap.size W w1→Aside0 (Below w.heap.size w w1)→Aside0 (Ow d e w1 w.heap.size (.slice A zs.length kk) zs)→Aside0 (Fr W (.slice A zs.length kk))→Kc (a.put (some N) (.slice A zs.length kk)) w1) :
    if Region.wanted o (yielded ops' a.tmps)=true then Oper.wp P o a W Kc QE else Kc (a.put (some N) undef) W:=by
  rw [← hd]
  refine Kd.R_lit_step d (w0:=W) W.heap.size e hw hd hrun hp (fun _ h=>h) trivial (Below.refl _ _) (Nat.le_refl _) hm fun v1 w1 hR hb hg hnew=>?_
  obtain ⟨A,kk,rfl⟩:=Kd.R_slice hR
  rw [hd]
  exact h xs rfl A kk w1 hb ⟨below_step B.out hb⟩ ⟨Kd.R_lower hR (below_size B.out)⟩ ⟨fun k hk=>Kd.R_base hR k hk⟩
theorem aps (d : Kd α) (e : Nat) (hw : Region.wanted o (yielded ops' a.tmps)=true) {N : Tmp} (hd : o.dst=some N) (s x : Operand) (t : TypeId) (z : Value) (bytes : Nat) (ho : o.op=.call { callee:=.builtin .append,args:=#[s,x],argTypes:=#[t,t] })
    (ht : P.underlying t=some (.slice e)) (hinfo : (P.info? e).map (fun i=>(i.zero,i.size,i.bytes))=some (some z,d.sz,bytes)) (hz : z.cells.size=d.sz) (hs0 : 0 < d.sz) (hb0 : 0 < bytes)
    {v : Value} {ys : List α} {A : Option Addr} {m c : Nat} (hs : a.eval s=v) (hx : a.eval x=.slice A m c) (R : Aside0 (Ow d e W w.heap.size v xs)) (C : d.C W A m ys) (hKM : ∀ x cs,d.K W x cs→d.M W w.heap.size (fun _=>False) x cs)
    (hl : (xs.length + m) * bytes≤140737488355328) (B : Aside0 (Below w.heap.size w W))
    (h : ∀ zs,xs ++ ys=zs→∀ A' kk w1,W.grownBy w1 v.ownBlock→Aside0 (Below w.heap.size w w1)→Aside0 (Ow d e w1 w.heap.size (.slice A' zs.length kk) zs)→Aside0 ((Value.slice A' zs.length kk).ownBlock=v.ownBlock ∨ ∃ b,(Value.slice A' zs.length kk).ownBlock=some b∧W.heap.size≤b)→Kc (a.put (some N) (.slice A' zs.length kk)) w1) :
    if Region.wanted o (yielded ops' a.tmps)=true then Oper.wp P o a W Kc QE else Kc (a.put (some N) undef) W:=by
  rw [← hd]
  refine Kd.R_append_rows_step d (w0:=w) w.heap.size hw s x t e z bytes ho ht hinfo hz hs0 hb0 v xs ys A m c (fun _=>True) (fun _=>False) hs hx R.out C hKM (fun _ h=>h.elim) (fun _ _=>trivial) B.out (below_size B.out) hl fun v1 w1 hR hb hg hat=>?_
  obtain ⟨A',kk,rfl⟩:=Kd.R_slice hR
  rw [hd]
  exact h _ rfl A' kk w1 hg ⟨hb⟩ ⟨hR⟩ ⟨hat⟩
end

/-- make([]T,0,n) -/
theorem make_cap {α : Type} {P : Program} {ops : Array Oper} {Q : Exit→Act→World→Prop} {rest : List Oper} {o : Oper} {a : Act} (d : Kd α) {w0 W : World} (base e : Nat) (hgd : o.guard=none) {N : Tmp} (hd : o.dst=some N) (t : TypeId) (x y : Operand) (ho : o.op=.makeSlice t x y) (n : Nat)
  (hx : a.eval x=.int .i64 0) (hy : a.eval y=.int .i64 (n : Int)) (ht : P.underlying t=some (.slice e)) (z : Value) (bytes : Nat) (hinfo : (P.info? e).map (fun i=>(i.zero,i.size,i.bytes))=some (some z,d.sz,bytes)) (hb0 : 0 < bytes)
  (hl : n * bytes≤281474976710656) (HB : Below base w0 W) (hbase : base≤W.heap.size)
  (h : ∀ v1 w1,d.R e w1 base (fun _=>True) v1 []→Below base w0 w1→wpList P ops Q rest (a.put o.dst v1) w1) : wpList P ops Q (o :: rest) a W:=by
 obtain ⟨i0,hi,hzz⟩:=Option.map_eq_some_iff.1 hinfo
 simp only [Prod.mk.injEq] at hzz
 obtain ⟨hz0,hz1,hz2⟩:=hzz
 have hm : n≤281474976710656:=Nat.le_trans (Nat.le_mul_of_pos_right _ hb0) hl
 have hr:=run_make (P:=P) W t e i0 z ht hi hz0 .i64 .i64 0 (n : Int) (Int.le_refl _) (by omega)
  (by
   have h3 : ((i0.bytes * n : Nat) : Int)≤281474976710656:=by rw [hz2,Nat.mul_comm];omega
   rwa [Int.natCast_mul] at h3) (by omega)
 simp only [Int.toNat_zero,Int.toNat_natCast] at hr
 have hown:=World.ownsRow_made (base:=base) (e:=e) (size:=i0.size) W (madeCells z.cells (n * i0.size)) n hbase (by unfold maxLen;omega) (size_madeCells _ _)
 rw [hz1] at hown hr
 refine Kd.event_run hgd ?_ (h _ _ ⟨fun _ _=>trivial,[],hown,Reps.none _ _⟩ (HB.alloc hbase _))
 simp [execOp,ho,hx,hy,hr]

/-- sessions as cells of a row that is read are sessions as cells of a row of one's own -/
theorem own_Session (W : World) (base : Nat) (x : S76) (cs : List Value) (h : k76.K W x cs) : k76.M W base (fun _=>False) x cs:=by
 obtain rfl:=k76_open h
 exact k76_mkM _ _ _ x
theorem impl_copyOfSession.M (A0 : Option Addr) (c0 : Nat) (l : List S76) (w : World) (hr0 : Kd.C k76 w A0 l.length l) (hc0 : l.length≤c0) (hs : l.length≤1000000) :
  Calls Try.prog 93 #[.slice A0 l.length c0] w fun e w'=>∃ v0_ : Value,e=.returned v0_∧Kd.R k76 76 w' w.heap.size (fun _=>True) v0_ l∧Below w.heap.size w w':=by
 have HR0:=Aside0.mk hr0
 clear hr0
 go_enter Try.func93,Try.ntmps93
 go_wp2_with ((with_reducible refine gate_builtin (b:=.append) (xs:=#[.const (.slice none 0 0),.tmp 3]) rfl ?_);at_builtin;refine Kd.R_append_rows k76 (w0:=w) w.heap.size rfl (.const (.slice none 0 0)) (.tmp 3) 36 76 (.agg #[.int .i64 0,.int .i64 0,.int .i64 0]) 24 rfl Try.underlying36 info76 rfl (by decide) (by omega) (.slice none 0 0) [] l _ _ _ (fun _=>True) (fun _=>False) rfl rfl (Kd.R_nil _ _ _ _ _) HR0.out (fun x cs h=>own_Session _ _ x cs h) (fun _ h=>h.elim) (fun _ _=>trivial) (Below.refl _ _) (Nat.le_refl _) (by simp only [List.length_nil];omega) ?_;intro v1 w1 ho hb hg hat;rw [List.nil_append] at ho;have O:=Aside0.mk ho;have B:=Aside0.mk hb;clear ho hb hg hat)
 go_ret
 exact ⟨_,rfl,O.out,B.out⟩

/-- sessions as cells of a row that is read are sessions as cells of a row of one's own -/
theorem own_Pair (W : World) (base : Nat) (x : S105) (cs : List Value) (h : k105.K W x cs) : k105.M W base (fun _=>False) x cs:=by
 obtain rfl:=k105_open h
 exact k105_mkM _ _ _ x
theorem impl_copyOfPair.M (A0 : Option Addr) (c0 : Nat) (l : List S105) (w : World) (hr0 : Kd.C k105 w A0 l.length l) (hc0 : l.length≤c0) (hs : l.length≤1000000) :
  Calls Try.prog 92 #[.slice A0 l.length c0] w fun e w'=>∃ v0_ : Value,e=.returned v0_∧Kd.R k105 105 w' w.heap.size (fun _=>True) v0_ l∧Below w.heap.size w w':=by
 have HR0:=Aside0.mk hr0
 clear hr0
 go_enter Try.func92,Try.ntmps92
 go_wp2_with ((with_reducible refine gate_builtin (b:=.append) (xs:=#[.const (.slice none 0 0),.tmp 3]) rfl ?_);at_builtin;refine Kd.R_append_rows k105 (w0:=w) w.heap.size rfl (.const (.slice none 0 0)) (.tmp 3) 35 105 (.agg #[.string (⟨#[]⟩ : ByteArray),.int .i64 0]) 24 rfl Try.underlying35 info105 rfl (by decide) (by omega) (.slice none 0 0) [] l _ _ _ (fun _=>True) (fun _=>False) rfl rfl (Kd.R_nil _ _ _ _ _) HR0.out (fun x cs h=>own_Pair _ _ x cs h) (fun _ h=>h.elim) (fun _ _=>trivial) (Below.refl _ _) (Nat.le_refl _) (by simp only [List.length_nil];omega) ?_;intro v1 w1 ho hb hg hat;rw [List.nil_append] at ho;have O:=Aside0.mk ho;have B:=Aside0.mk hb;clear ho hb hg hat)
 go_ret
 exact ⟨_,rfl,O.out,B.out⟩

/-! The model of the pairs of an interval. -/
def inM (l : List S105) (a b : ByteArray) : List S105:=if prB l && ivB a b then l.filter (fun p=>insB a b p.f0) else []
theorem inM_len (l : List S105) (a b : ByteArray) : (inM l a b).length≤l.length:=by
  unfold inM
  split
  · exact List.length_filter_le _ _
  · simp
theorem has_ins {l : List S105} {a b : ByteArray} (hv : prB l=true) (h : ivB a b=true) {j : Nat} (hj : j < l.length) : hasB a b (rd_T105 l (j : Int)).f0=insB a b (rd_T105 l (j : Int)).f0:=by
  unfold hasB
  rw [h,prB_key hv _ (by rw [pr_nat hj];exact List.getElem_mem _)]
  rfl

/-! What is found among pairs. -/
/-- what stays of the pairs,but for the place of a key -/
theorem others {l : List S105} {c : ByteArray} (hv : prB l=true) {p : S105} (hp : p ∈ l) (hne : p.f0 ≠ c) (hh : hitM l c=true) : p ∈ l.take (atP l c) ∨ p ∈ l.drop (atP l c + 1):=by
  obtain ⟨hlt,he,-⟩:=hit_true hh
  rw [pr_nat hlt] at he
  have e : l=l.take (atP l c) ++ l[atP l c] :: l.drop (atP l c + 1):=by rw [← List.drop_eq_getElem_cons hlt,List.take_append_drop]
  rw [e] at hp
  rcases List.mem_append.mp hp with h | h
  · exact .inl h
  · rcases List.mem_cons.mp h with h | h
    · exact absurd (h ▸ he) hne
    · exact .inr h
/-! The models of cutting and joining states,and what the laws ask of them. -/
def spec_l10Copy.T1 : Bool × List (List Nat × List Nat):=(true,[([],[]),([0],[0]),([],[]),([],[]),([3],[3]),([2,4],[2,4]),([],[]),([],[]),([7],[7]),([6,8,5],[6,8]),([],[]),([10],[10]),([],[]),([12],[12]),([1,5,9,11,13],[1,5,9,11,13]),([14,9,0,1,2,3,4,5,6,7,8,9,10,11,12,13,14],[14])])
def spec_l10Copy.B1 : List Nat:=[0,1,0,0,8,28,0,0,128,508,0,1024,0,4096,16383,32767]
theorem spec_l10Copy.tab1 : rtab .any (opsOf Try.f39 1)=spec_l10Copy.T1:=by kernel_rfl
theorem spec_l10Copy.bits1 : waitsOk spec_l10Copy.T1.2 spec_l10Copy.B1=true:=by kernel_rfl
theorem spec_l10Copy.M (a b : ByteArray) (AP : Option Addr) (cP : Nat) (ps : List S105) (AS : Option Addr) (cS : Nat) (ss : List S76) (t : Bool) (c : ByteArray) (w : World) (hrp : Kd.C k105 w AP ps.length ps) (hrs : Kd.C k76 w AS ss.length ss) (hcp : ps.length≤cP) (hcs : ss.length≤cS) (hpl : ps.length≤1000000) (hsl : ss.length≤1000000) : Calls Try.prog 39 #[.agg #[.string a,.string b,.slice AP ps.length cP,.slice AS ss.length cS,.bool t,.string c]] w fun e w'=>∃ v2 v3,e=.returned (.agg #[.string a,.string b,v2,v3,.bool t,.string c])∧Kd.R k105 105 w' w.heap.size (fun _=>True) v2 ps∧Kd.R k76 76 w' w.heap.size (fun _=>True) v3 ss∧Below w.heap.size w w':=by
 have B:=Aside0.mk (Below.refl w.heap.size w)
 have hu:=Try.underlying38
 have hu2:=Try.underlying34
 have HRP:=Aside0.mk hrp
 have HRS:=Aside0.mk hrs
 have HCP:=Aside0.mk hcp
 have HCS:=Aside0.mk hcs
 clear hrp hrs hcp hcs
 go_enter Try.func39,Try.ntmps39
 go_wp2_with (first
  | ((with_reducible refine gate_dst (N:=1) rfl ?_);refine bxq 1 #[.string a,.string b,.slice AP ps.length cP,.slice AS ss.length cS,.bool t,.string c] 38 B fun g1 w1 hb B F1 L1 E1=>?_;obtain ⟨c1_0,c1_1,c1_2,c1_3,c1_4,c1_5⟩:=cs6 F1;clear hb E1)
  | ((with_reducible refine gate_dst (N:=2) rfl ?_);refine bxq 2 #[.string (⟨#[]⟩ : ByteArray),.string (⟨#[]⟩ : ByteArray),.slice none 0 0,.slice none 0 0,.bool false,.string (⟨#[]⟩ : ByteArray)] 38 B fun g2 w2 hb B F2 L2 E2=>?_;have N1_2:=ne1 E2 F1;replace F1:=bn F1 hb;clear c1_0 c1_1 c1_2 c1_3 c1_4 c1_5;obtain ⟨c1_0,c1_1,c1_2,c1_3,c1_4,c1_5⟩:=cs6 F1;clear hb E2))
 all_goals (
  refine rg (n:=16) (S:=fun W=>W.heap[g1]?=some (.cells #[.string a,.string b,.slice AP ps.length cP,.slice AS ss.length cS,.bool t,.string c] 38 (0,0))) (ds:=[]) #[false,false,false,false,false,false,false,false,false,false,false,false,false,false,false,false] (by kernel_rfl) rfl rfl F1.out id B (fun w3 hb B hHeld=>?_)
  refine with_tabW spec_l10Copy.tab1 spec_l10Copy.bits1 (fun HT_ HW_=>?_)
  replace F1:=bn F1 hb
  replace F2:=bn F2 hb
  clear hb
  refine join_ 3 (bits 16 15871) (σ:=Option Addr × Nat × Option Addr × Nat × List S105 × Option Addr × Nat) (fun (AL5,kL5,AL8,kL8,z8,AL9,kL9)=>[(3,.pointer (some ⟨g1,0,none⟩)),(4,.agg #[.string a,.string b]),(5,.slice AL5 ([] : List S105).length kL5),(6,.pointer (some ⟨g1,2,none⟩)),(7,.slice AP ps.length cP),(8,.slice AL8 z8.length kL8),(9,.slice AL9 ([] : List S76).length kL9),(10,.pointer (some ⟨g1,3,none⟩)),(11,.slice AS ss.length cS),(13,.pointer (some ⟨g1,4,none⟩)),(14,.bool t),(15,.pointer (some ⟨g1,5,none⟩)),(16,.string c)]) (fun (AL5,kL5,AL8,kL8,z8,AL9,kL9) W=>Aside0 (Below w.heap.size w W)∧Aside0 (W.heap[g1]?=some (.cells #[.string a,.string b,.slice AP ps.length cP,.slice AS ss.length cS,.bool t,.string c] 38 (0,0)))∧Aside0 (W.heap[g2]?=some (.cells #[.string (⟨#[]⟩ : ByteArray),.string (⟨#[]⟩ : ByteArray),.slice none 0 0,.slice none 0 0,.bool false,.string (⟨#[]⟩ : ByteArray)] 38 (0,0)))∧Aside0 (Ow k105 105 W w.heap.size (.slice AL8 z8.length kL8) z8)∧Aside0 (Ow k76 76 W w.heap.size (.slice AL9 ([] : List S76).length kL9) ([] : List S76))∧ps=z8) ?_ (fun J=>?_)
  rotate_left
  ·refine pvq 0 (some 3) (bits 16 1) HT_ ?_
   refine tvq 1 (some 4) (bits 16 3) HT_ HW_ rfl hHeld (by intro w' hS;have s0:=hS;obtain ⟨q0,q1,q2,q3,q4,q5⟩:=cs6 (Aside0.mk s0);go_simp;with_reducible rfl) ?_
   refine pvq 3 (some 6) (bits 16 11) HT_ ?_
   refine tvq 4 (some 7) (bits 16 27) HT_ HW_ rfl hHeld (by intro w' hS;have s0:=hS;obtain ⟨q0,q1,q2,q3,q4,q5⟩:=cs6 (Aside0.mk s0);go_simp;with_reducible rfl) ?_
   refine pvq 7 (some 10) (bits 16 155) HT_ ?_
   refine tvq 8 (some 11) (bits 16 411) HT_ HW_ rfl hHeld (by intro w' hS;have s0:=hS;obtain ⟨q0,q1,q2,q3,q4,q5⟩:=cs6 (Aside0.mk s0);go_simp;with_reducible rfl) ?_
   refine pvq 10 (some 13) (bits 16 1435) HT_ ?_
   refine tvq 11 (some 14) (bits 16 3483) HT_ HW_ rfl hHeld (by intro w' hS;have s0:=hS;obtain ⟨q0,q1,q2,q3,q4,q5⟩:=cs6 (Aside0.mk s0);go_simp;with_reducible rfl) ?_
   refine pvq 12 (some 15) (bits 16 7579) HT_ ?_
   refine tvq 13 (some 16) (bits 16 15771) HT_ HW_ rfl hHeld (by intro w' hS;have s0:=hS;obtain ⟨q0,q1,q2,q3,q4,q5⟩:=cs6 (Aside0.mk s0);go_simp;with_reducible rfl) ?_
   refine nmq ?_
   refine two_ (i:=2) (j:=6) (Ni:=some 5) (Nj:=some 9) (bits 16 15775) (bits 16 15835) rfl rfl rfl rfl (two_of HT_.out (by kernel_rfl)) (by decide) (by decide) (fun K hK=>?_) (fun K hK=>?_)
   ·refine lts k105 105 (by rfl) rfl ([] : List S105) [] ?hr (Reps.none _ _) (by simp) B (fun z5 hz5 AL5 kL5 w4 hb B RL5 QL5=>?_)
    (case hr=>go_simp;first | done | rfl)
    replace F1:=bn F1 hb
    replace F2:=bn F2 hb
    clear hb QL5
    subst hz5
    refine hK.out _ _ F1.out (fun hHeld=>?_)
    clear hK K
    refine npq (some 5) ?_
    refine two_ (i:=5) (j:=6) (Ni:=some 8) (Nj:=some 9) (bits 16 15807) (bits 16 15839) rfl rfl rfl rfl (two_of HT_.out (by kernel_rfl)) (by decide) (by decide) (fun K hK=>?_) (fun K hK=>?_)
    ·refine aps k105 105 (by rfl) rfl (.tmp 5) (.tmp 7) 35 (.agg #[.string (⟨#[]⟩ : ByteArray),.int .i64 (0)]) 24 rfl Try.underlying35 info105 rfl (by decide) (by omega) rfl rfl RL5 (cb HRP B) (fun x cs h=>by rw [k105_open h];exact k105_mkM _ _ _ x) (by first | omega | (simp only [List.length_append,List.length_nil,List.length_cons];omega)) B (fun z8 hz8 AL8 kL8 w5 hg B RL8 hat=>?_)
     replace F1:=bga F1 hg RL5 (by decide)
     replace F2:=bga F2 hg RL5 (by decide)
     clear hg hat
     refine hK.out _ _ F1.out (fun hHeld=>?_)
     clear hK K
     refine npq (some 8) ?_
     refine one_ (i:=6) (N:=some 9) (bits 16 15871) rfl rfl (one_of HT_.out (by kernel_rfl)) (by decide) (fun K hK=>?_)
     refine lts k76 76 (by rfl) rfl ([] : List S76) [] ?hr (Reps.none _ _) (by simp) B (fun z9 hz9 AL9 kL9 w6 hb B RL9 QL9=>?_)
     (case hr=>go_simp;first | done | rfl)
     have DL8_L9:=fr QL9 RL8
     replace F1:=bn F1 hb
     replace F2:=bn F2 hb
     replace RL8:=rn RL8 hb
     clear hb QL9
     subst hz9
     refine hK.out _ _ F1.out (fun hHeld=>?_)
     clear hK K
     refine npq (some 9) ?_
     refine norm_ (a':=_) ?_ (J ⟨AL5,kL5,AL8,kL8,z8,AL9,kL9⟩ _ ⟨B,F1,F2,RL8,RL9,(by rw [← hz8];rfl)⟩)
     simp only [putAll,Act.put,za,zb,zc]
     try rfl
    ·refine lts k76 76 (by rfl) rfl ([] : List S76) [] ?hr (Reps.none _ _) (by simp) B (fun z9 hz9 AL9 kL9 w5 hb B RL9 QL9=>?_)
     (case hr=>go_simp;first | done | rfl)
     have DL5_L9:=fr QL9 RL5
     replace F1:=bn F1 hb
     replace F2:=bn F2 hb
     replace RL5:=rn RL5 hb
     clear hb QL9
     subst hz9
     refine hK.out _ _ F1.out (fun hHeld=>?_)
     clear hK K
     refine npq (some 9) ?_
     refine one_ (i:=5) (N:=some 8) (bits 16 15871) rfl rfl (one_of HT_.out (by kernel_rfl)) (by decide) (fun K hK=>?_)
     refine aps k105 105 (by rfl) rfl (.tmp 5) (.tmp 7) 35 (.agg #[.string (⟨#[]⟩ : ByteArray),.int .i64 (0)]) 24 rfl Try.underlying35 info105 rfl (by decide) (by omega) rfl rfl RL5 (cb HRP B) (fun x cs h=>by rw [k105_open h];exact k105_mkM _ _ _ x) (by first | omega | (simp only [List.length_append,List.length_nil,List.length_cons];omega)) B (fun z8 hz8 AL8 kL8 w6 hg B RL8 hat=>?_)
     replace F1:=bga F1 hg RL5 (by decide)
     replace F2:=bga F2 hg RL5 (by decide)
     replace RL9:=rga RL9 rfl hg (dty RL5 RL9 (by decide))
     clear hg hat
     refine hK.out _ _ F1.out (fun hHeld=>?_)
     clear hK K
     refine npq (some 8) ?_
     refine norm_ (a':=_) ?_ (J ⟨AL5,kL5,AL8,kL8,z8,AL9,kL9⟩ _ ⟨B,F1,F2,RL8,RL9,(by rw [← hz8];rfl)⟩)
     simp only [putAll,Act.put,za,zb,zc]
     try rfl
   ·refine lts k76 76 (by rfl) rfl ([] : List S76) [] ?hr (Reps.none _ _) (by simp) B (fun z9 hz9 AL9 kL9 w4 hb B RL9 QL9=>?_)
    (case hr=>go_simp;first | done | rfl)
    replace F1:=bn F1 hb
    replace F2:=bn F2 hb
    clear hb QL9
    subst hz9
    refine hK.out _ _ F1.out (fun hHeld=>?_)
    clear hK K
    refine npq (some 9) ?_
    refine one_ (i:=2) (N:=some 5) (bits 16 15839) rfl rfl (one_of HT_.out (by kernel_rfl)) (by decide) (fun K hK=>?_)
    refine lts k105 105 (by rfl) rfl ([] : List S105) [] ?hr (Reps.none _ _) (by simp) B (fun z5 hz5 AL5 kL5 w5 hb B RL5 QL5=>?_)
    (case hr=>go_simp;first | done | rfl)
    have DL9_L5:=fr QL5 RL9
    replace F1:=bn F1 hb
    replace F2:=bn F2 hb
    replace RL9:=rn RL9 hb
    clear hb QL5
    subst hz5
    refine hK.out _ _ F1.out (fun hHeld=>?_)
    clear hK K
    refine npq (some 5) ?_
    refine one_ (i:=5) (N:=some 8) (bits 16 15871) rfl rfl (one_of HT_.out (by kernel_rfl)) (by decide) (fun K hK=>?_)
    refine aps k105 105 (by rfl) rfl (.tmp 5) (.tmp 7) 35 (.agg #[.string (⟨#[]⟩ : ByteArray),.int .i64 (0)]) 24 rfl Try.underlying35 info105 rfl (by decide) (by omega) rfl rfl RL5 (cb HRP B) (fun x cs h=>by rw [k105_open h];exact k105_mkM _ _ _ x) (by first | omega | (simp only [List.length_append,List.length_nil,List.length_cons];omega)) B (fun z8 hz8 AL8 kL8 w6 hg B RL8 hat=>?_)
    replace F1:=bga F1 hg RL5 (by decide)
    replace F2:=bga F2 hg RL5 (by decide)
    replace RL9:=rga RL9 rfl hg (dty RL5 RL9 (by decide))
    clear hg hat
    refine hK.out _ _ F1.out (fun hHeld=>?_)
    clear hK K
    refine npq (some 8) ?_
    refine norm_ (a':=_) ?_ (J ⟨AL5,kL5,AL8,kL8,z8,AL9,kL9⟩ _ ⟨B,F1,F2,RL8,RL9,(by rw [← hz8];rfl)⟩)
    simp only [putAll,Act.put,za,zb,zc]
    try rfl
  rintro ⟨AL5,kL5,AL8,kL8,z8,AL9,kL9⟩ w7 ⟨B,F1,F2,RL8,RL9,rfl⟩
  refine norm_ (a':=?_) ?_ ?_
  rotate_left
  ·simp only [putAll,Act.put,za,zb,zc]
   rfl
  refine one_ (i:=9) (N:=some 12) (bits 16 16383) rfl rfl (one_of HT_.out (by kernel_rfl)) (by decide) (fun K hK=>?_)
  refine aps k76 76 (by rfl) rfl (.tmp 9) (.tmp 11) 36 (.agg #[.int .i64 (0),.int .i64 (0),.int .i64 (0)]) 24 rfl Try.underlying36 info76 rfl (by decide) (by omega) rfl rfl RL9 (cb HRS B) (fun x cs h=>by rw [k76_open h];exact k76_mkM _ _ _ x) (by first | omega | (simp only [List.length_append,List.length_nil,List.length_cons];omega)) B (fun z12 hz12 AL12 kL12 w8 hg B RL12 hat=>?_)
  replace F1:=bga F1 hg RL9 (by decide)
  replace F2:=bga F2 hg RL9 (by decide)
  replace RL8:=rga RL8 rfl hg (dty RL9 RL8 (by decide))
  clear hg hat
  refine hK.out _ _ F1.out (fun hHeld=>?_)
  clear hK K
  refine npq (some 12) ?_
  refine pvq 14 (some 17) (bits 16 32767) HT_ ?_
  refine nmq ?_
  refine one_ (i:=15) (N:=none) (bits 16 65535) rfl rfl (one_of HT_.out (by kernel_rfl)) (by decide) (fun K hK=>?_)
  obtain ⟨y0,y1,y2,y3,y4,y5,z0,z1,z2,z3,z4,z5⟩:=cz6 F2
  refine sxs (g:=g2) 0 [.string a,.string b,.slice AL8 ps.length kL8,.slice AL12 z12.length kL12,.bool t,.string c] [.string a,.string b,.slice AL8 ps.length kL8,.slice AL12 z12.length kL12,.bool t,.string c] (by rfl) rfl ?hr B F2 L2 rfl (Nat.le_of_ble_eq_true rfl) (fun w9 hk B G=>?_)
  (case hr=>go_simp;first | done | rfl)
  replace F1:=bk F1 hk N1_2.out
  replace RL8:=rk RL8 F2 (by decide) hk
  replace RL12:=rk RL12 F2 (by decide) hk
  replace F2:=G
  clear hk y0 z0 y1 z1 y2 z2 y3 z3 y4 z4 y5 z5
  refine hK.out _ _ F1.out (fun hHeld=>?_)
  clear hK K
  refine done_ (done_of HT_.out (by kernel_rfl)) ?_)
 all_goals try go_wp2
 try (refine bodyPost_ret (results_single rfl (.cell g2 38 _ (0,0) _ rfl F2.out hu rfl (by kernel_rfl) .nil)) rfl ?_)
 obtain rfl : z12=ss:=by rw [← hz12];rfl
 exact ⟨_,_,rfl,RL8.out,RL12.out,B.out⟩
theorem impl_copyState.M (a b : ByteArray) (AP : Option Addr) (cP : Nat) (ps : List S105) (AS : Option Addr) (cS : Nat) (ss : List S76) (t : Bool) (c : ByteArray) (w : World) (hrp : Kd.C k105 w AP ps.length ps) (hrs : Kd.C k76 w AS ss.length ss) (hcp : ps.length≤cP) (hcs : ss.length≤cS) (hpl : ps.length≤1000000) (hsl : ss.length≤1000000) : Calls Try.prog 49 #[.agg #[.string a,.string b,.slice AP ps.length cP,.slice AS ss.length cS,.bool t,.string c]] w fun e w'=>∃ v2 v3,e=.returned (.agg #[.string a,.string b,v2,v3,.bool t,.string c])∧Kd.R k105 105 w' w.heap.size (fun _=>True) v2 ps∧Kd.R k76 76 w' w.heap.size (fun _=>True) v3 ss∧Below w.heap.size w w':=by
 have B:=Aside0.mk (Below.refl w.heap.size w)
 have hu:=Try.underlying38
 have hu2:=Try.underlying34
 have HRP:=Aside0.mk hrp
 have HRS:=Aside0.mk hrs
 have HCP:=Aside0.mk hcp
 have HCS:=Aside0.mk hcs
 clear hrp hrs hcp hcs
 go_enter Try.func49,Try.ntmps49
 go_wp2_with (first
  | ((with_reducible refine gate_dst (N:=1) rfl ?_);refine bxq 1 #[.string a,.string b,.slice AP ps.length cP,.slice AS ss.length cS,.bool t,.string c] 38 B fun g1 w1 hb B F1 L1 E1=>?_;obtain ⟨c1_0,c1_1,c1_2,c1_3,c1_4,c1_5⟩:=cs6 F1;clear hb E1)
  | ((with_reducible refine gate_dst (N:=2) rfl ?_);refine bxq 2 #[.string (⟨#[]⟩ : ByteArray),.string (⟨#[]⟩ : ByteArray),.slice none 0 0,.slice none 0 0,.bool false,.string (⟨#[]⟩ : ByteArray)] 38 B fun g2 w2 hb B F2 L2 E2=>?_;have N1_2:=ne1 E2 F1;replace F1:=bn F1 hb;clear c1_0 c1_1 c1_2 c1_3 c1_4 c1_5;obtain ⟨c1_0,c1_1,c1_2,c1_3,c1_4,c1_5⟩:=cs6 F1;clear hb E2)
  | (go_at_call 92;with_reducible refine cr (impl_copyOfPair.M _ _ ps _ (cb HRP B) HCP.out (by omega)) B fun AC3 kC3 w3 hb B RC3 QC3=>?_;replace F1:=bn F1 hb;replace F2:=bn F2 hb;clear QC3;clear c1_0 c1_1 c1_2 c1_3 c1_4 c1_5;obtain ⟨c1_0,c1_1,c1_2,c1_3,c1_4,c1_5⟩:=cs6 F1;clear hb)
  | ((with_reducible refine gate_store (t:=35) (p:=6) rfl ?_);obtain ⟨y0,y1,y2,y3,y4,y5,z0,z1,z2,z3,z4,z5⟩:=cz6 F1;refine sxq 38 35 6 2 [.slice AC3 ps.length kC3] [.string a,.string b,.slice AC3 ps.length kC3,.slice AS ss.length cS,.bool t,.string c] B F1 L1 fun w4 hk B G=>?_;replace F2:=bk F2 hk N1_2.out.symm;replace RC3:=rk RC3 F1 (by decide) hk;replace F1:=G;clear c1_0 c1_1 c1_2 c1_3 c1_4 c1_5;obtain ⟨c1_0,c1_1,c1_2,c1_3,c1_4,c1_5⟩:=cs6 F1;clear hk y0 z0 y1 z1 y2 z2 y3 z3 y4 z4 y5 z5)
  | (go_at_call 93;with_reducible refine cr (impl_copyOfSession.M _ _ ss _ (cb HRS B) HCS.out (by omega)) B fun AC5 kC5 w5 hb B RC5 QC5=>?_;have DC3_C5:=fr QC5 RC3;replace F1:=bn F1 hb;replace F2:=bn F2 hb;replace RC3:=rn RC3 hb;clear QC5;clear c1_0 c1_1 c1_2 c1_3 c1_4 c1_5;obtain ⟨c1_0,c1_1,c1_2,c1_3,c1_4,c1_5⟩:=cs6 F1;clear hb)
  | ((with_reducible refine gate_store (t:=36) (p:=10) rfl ?_);obtain ⟨y0,y1,y2,y3,y4,y5,z0,z1,z2,z3,z4,z5⟩:=cz6 F1;refine sxq 38 36 10 3 [.slice AC5 ss.length kC5] [.string a,.string b,.slice AC3 ps.length kC3,.slice AC5 ss.length kC5,.bool t,.string c] B F1 L1 fun w6 hk B G=>?_;replace F2:=bk F2 hk N1_2.out.symm;replace RC3:=rk RC3 F1 (by decide) hk;replace RC5:=rk RC5 F1 (by decide) hk;replace F1:=G;clear c1_0 c1_1 c1_2 c1_3 c1_4 c1_5;obtain ⟨c1_0,c1_1,c1_2,c1_3,c1_4,c1_5⟩:=cs6 F1;clear hk y0 z0 y1 z1 y2 z2 y3 z3 y4 z4 y5 z5)
  | ((with_reducible refine gate_store (t:=38) (p:=2) rfl ?_);obtain ⟨y0,y1,y2,y3,y4,y5,z0,z1,z2,z3,z4,z5⟩:=cz6 F2;refine sxq 38 38 2 0 [.string a,.string b,.slice AC3 ps.length kC3,.slice AC5 ss.length kC5,.bool t,.string c] [.string a,.string b,.slice AC3 ps.length kC3,.slice AC5 ss.length kC5,.bool t,.string c] B F2 L2 fun w7 hk B G=>?_;replace RC3:=rk RC3 F2 (by decide) hk;replace RC5:=rk RC5 F2 (by decide) hk;replace F2:=G;clear hk y0 z0 y1 z1 y2 z2 y3 z3 y4 z4 y5 z5))
 try (refine bodyPost_ret (results_single rfl (.cell g2 38 _ (0,0) _ rfl F2.out hu rfl (by kernel_rfl) .nil)) rfl ?_)
 exact ⟨_,_,rfl,RC3.out,RC5.out,B.out⟩

def spec_SessionsValid.T5 : Bool × List (List Nat × List Nat):=(true,[([],[]),([0],[0]),([1],[1]),([2],[2]),([3,2],[3]),([4],[4]),([5,4],[4,5]),([6,4,4],[4,6]),([7,4],[4,7]),([4,8],[4,8]),([9,7],[9]),([10],[10]),([11,10],[10,11]),([12,10,10],[10,12]),([13,10],[10,13]),([10,14],[10,14]),([15,13],[15]),([16],[16]),([17,16],[16,17]),([18,16,16],[16,18]),([19],[19]),([20,19],[19,20]),([19],[19]),([19],[19]),([23,19],[19,23]),([22,24,19],[19,22,24]),([25,19],[19,25]),([26,19],[19,26]),([21,27,19],[19,21,27]),([19,28,16],[16,19,28]),([16,29],[16,29])])
def spec_SessionsValid.B5 : List Nat:=[0,1,3,7,15,31,63,127,255,511,1023,2047,4095,8191,16383,32767,65535,131071,262143,524287,1048575,2097151,1048575,1048575,9437183,30408703,63963135,131071999,268435455,536870911,1073741823]
theorem spec_SessionsValid.tab5 : rtab .any (opsOf Try.f82 5)=spec_SessionsValid.T5:=by kernel_rfl
theorem spec_SessionsValid.bits5 : waitsOk spec_SessionsValid.T5.2 spec_SessionsValid.B5=true:=by kernel_rfl
theorem spec_SessionsValid.M (A0 : Option Addr) (c0 : Nat) (l : List S76) (w : World) (hr0 : Kd.C k76 w A0 l.length l) : Calls Try.prog 82 #[.slice A0 l.length c0] w fun e w'=>e=.returned (.bool (sesB l))∧Below w.heap.size w w':=by
 have hu:=Try.underlying76
 have B:=Aside0.mk (Below.refl w.heap.size w)
 have HR0:=Aside0.mk hr0
 clear hr0
 obtain ⟨r,hr⟩ : ∃ r,sesB l=r:=⟨_,rfl⟩
 rw [hr]
 unfold sesB at hr
 have H:=Aside0.mk (show sesJ l 0=r from hr)
 have L48:=Aside0.mk (show l.length≤9223372036854775807 from HR0.out.2.1)
 clear hr
 go_enter Try.func82,Try.ntmps82
 go_wp2
 go_loopg [3] (l.length + 1) (fun kx v3 wr=>∃ j : Nat,v3=.int .i64 (j : Int)∧j≤l.length∧l.length < j + kx∧Aside0 (Below w.heap.size w wr)∧Aside0 (sesJ l j=r))
 case atStart=>exact ⟨0,rfl,by omega,by omega,B,H⟩
 case round =>
  clear H B
  obtain ⟨j,rfl,hj,hk,B,H⟩:=hrel
  by_cases hlt : j < l.length
  ·have HS:=Aside0.mk ((sesJ_step hlt).symm.trans H.out)
   clear H
   obtain ⟨d,rfl⟩ : ∃ d,gk=d + 1:=⟨gk - 1,by omega⟩
   have h48:=L48.out
   have cj : decide ((j : Int) < (l.length : Int))=true:=decide_eq_true (by omega)
   obtain ⟨ad,hA,y0,y1,y2⟩:=at_T76 (cb HR0 B) (j : Int) (by omega) (by omega)
   cases hA
   rw [Int.toNat_natCast] at y0 y1 y2
   have j1:=eq_true (show (j : Int) < (l.length : Int) by omega)
   have j2:=eq_true hlt
   generalize hy : rd_T76 l (j : Int)=y at *
   go_wp2_with (first
    | ((with_reducible refine gate_dst (N:=4) rfl ?_);refine bxq 4 #[.int .i64 (0),.int .i64 (0),.int .i64 (0)] 76 B fun g4 w1 hb B F4 L4 E4=>?_;obtain ⟨c4_0,c4_1,c4_2⟩:=cs3 F4;clear hb E4)
    | ((with_reducible refine gate_store (t:=76) (p:=4) rfl ?_);obtain ⟨y0,y1,y2,z0,z1,z2⟩:=cz3 F4;refine sxq 76 76 4 0 [.int .i64 (y.f0),.int .i64 (y.f1),.int .i64 (y.f2)] [.int .i64 (y.f0),.int .i64 (y.f1),.int .i64 (y.f2)] B F4 L4 fun w2 hk B G=>?_;replace F4:=G;clear c4_0 c4_1 c4_2;obtain ⟨c4_0,c4_1,c4_2⟩:=cs3 F4;clear hk y0 z0 y1 z1 y2 z2))
   all_goals try (go_ret;exact ⟨andF HS.out (by grind [l1B]),B.out⟩)
   all_goals (
    refine rg (n:=31) (S:=fun W=>W.heap[g4]?=some (.cells #[.int .i64 (y.f0),.int .i64 (y.f1),.int .i64 (y.f2)] 76 (0,0))∧Kd.C k76 W (some ad) l.length l) (ds:=[]) #[false,false,false,false,false,false,false,false,false,false,false,false,false,false,false,false,false,false,false,false,false,false,false,false,false,false,false,false,false,false,false] (by kernel_rfl) rfl rfl ⟨F4.out,(cb HR0 B)⟩ id B (fun w3 hb B hHeld=>?_)
    refine with_tabW spec_SessionsValid.tab5 spec_SessionsValid.bits5 (fun HT_ HW_=>?_)
    replace F4:=bn F4 hb
    clear hb
    refine pvq 0 (some 15) (bits 31 1) HT_ ?_
    refine tvq 1 (some 16) (bits 31 3) HT_ HW_ rfl hHeld (by intro w' hS;obtain ⟨s0,s1⟩:=hS;obtain ⟨q0,q1,q2⟩:=cs3 (Aside0.mk s0);go_simp;with_reducible rfl) ?_
    refine nmq ?_
    refine one_ (i:=2) (N:=some 17) (bits 31 7) rfl rfl (one_of HT_.out (by kernel_rfl)) (by decide) (fun K hK=>?_)
    rcases hq1 : (l1B y.f0 0 3) with _ | _
    ·refine gsq Try.func83 #[.int .i64 (y.f0),.int .i64 (0),.int .i64 (3)] ?_
     with_reducible refine cl (clv (spec_l1In.M y.f0 0 3 _) (congrArg Value.bool hq1)) B fun w4 hb B=>?_
     replace F4:=bn F4 hb
     clear hb
     refine ⟨_,rfl,?_⟩
     refine hK.out _ _ ⟨F4.out,(cb HR0 B)⟩ (fun hHeld=>?_)
     clear hK K
     refine npq (some 17) ?_
     refine pvq 3 (some 18) (bits 31 15) HT_ ?_
     refine pvq 4 (some 19) (bits 31 31) HT_ ?_
     refine svq 5 (some 20) (bits 31 63) HT_ ?_
     refine svq 6 (some 21) (bits 31 127) HT_ ?_
     refine svq 7 (some 22) (bits 31 255) HT_ ?_
     refine svq 8 (some 23) (bits 31 511) HT_ ?_
     refine pvq 9 (some 24) (bits 31 1023) HT_ ?_
     refine pvq 10 (some 25) (bits 31 2047) HT_ ?_
     refine svq 11 (some 26) (bits 31 4095) HT_ ?_
     refine svq 12 (some 27) (bits 31 8191) HT_ ?_
     refine svq 13 (some 28) (bits 31 16383) HT_ ?_
     refine svq 14 (some 29) (bits 31 32767) HT_ ?_
     refine pvq 15 (some 30) (bits 31 65535) HT_ ?_
     refine pvq 16 (some 31) (bits 31 131071) HT_ ?_
     refine svq 17 (some 32) (bits 31 262143) HT_ ?_
     refine svq 18 (some 33) (bits 31 524287) HT_ ?_
     refine svq 19 (some 34) (bits 31 1048575) HT_ ?_
     refine svq 20 (some 35) (bits 31 2097151) HT_ ?_
     refine svq 21 (some 36) (bits 31 4194303) HT_ ?_
     refine svq 22 (some 37) (bits 31 8388607) HT_ ?_
     refine svq 23 (some 38) (bits 31 16777215) HT_ ?_
     refine svq 24 (some 39) (bits 31 33554431) HT_ ?_
     refine svq 25 (some 40) (bits 31 67108863) HT_ ?_
     refine svq 26 (some 41) (bits 31 134217727) HT_ ?_
     refine svq 27 (some 42) (bits 31 268435455) HT_ ?_
     refine svq 28 (some 43) (bits 31 536870911) HT_ ?_
     refine svq 29 (some 44) (bits 31 1073741823) HT_ ?_
     refine pvq 30 (some 45) (bits 31 2147483647) HT_ ?_
     refine nmq ?_
     refine done_ (done_of HT_.out (by kernel_rfl)) ?_
     try go_wp2
     all_goals first
      | (go_roundg d;(case measure=>omega);(case rel=>exact ⟨j + 1,congrArg (Value.int .i64) (Int.natCast_succ _).symm,by omega,by omega,B,⟨andT HS.out (by grind [l1B])⟩⟩))
      | (go_ret;exact ⟨andF HS.out (by grind [l1B]),B.out⟩)
    ·refine gsq Try.func83 #[.int .i64 (y.f0),.int .i64 (0),.int .i64 (3)] ?_
     with_reducible refine cl (clv (spec_l1In.M y.f0 0 3 _) (congrArg Value.bool hq1)) B fun w4 hb B=>?_
     replace F4:=bn F4 hb
     clear hb
     refine ⟨_,rfl,?_⟩
     refine hK.out _ _ ⟨F4.out,(cb HR0 B)⟩ (fun hHeld=>?_)
     clear hK K
     refine npq (some 17) ?_
     refine pvq 3 (some 18) (bits 31 15) HT_ ?_
     refine pvq 4 (some 19) (bits 31 31) HT_ ?_
     refine pvq 5 (some 20) (bits 31 63) HT_ ?_
     refine tvq 6 (some 21) (bits 31 127) HT_ HW_ rfl hHeld (by intro w' hS;obtain ⟨s0,s1⟩:=hS;obtain ⟨q0,q1,q2⟩:=cs3 (Aside0.mk s0);go_simp;with_reducible rfl) ?_
     refine nmq ?_
     refine one_ (i:=7) (N:=some 22) (bits 31 255) rfl rfl (one_of HT_.out (by kernel_rfl)) (by decide) (fun K hK=>?_)
     rcases hq2 : (l1B y.f1 1 999) with _ | _
     ·refine gsq Try.func83 #[.int .i64 (y.f1),.int .i64 (1),.int .i64 (999)] ?_
      with_reducible refine cl (clv (spec_l1In.M y.f1 1 999 _) (congrArg Value.bool hq2)) B fun w5 hb B=>?_
      replace F4:=bn F4 hb
      clear hb
      refine ⟨_,rfl,?_⟩
      refine hK.out _ _ ⟨F4.out,(cb HR0 B)⟩ (fun hHeld=>?_)
      clear hK K
      refine npq (some 22) ?_
      refine pvq 8 (some 23) (bits 31 511) HT_ ?_
      refine pvq 9 (some 24) (bits 31 1023) HT_ ?_
      refine pvq 10 (some 25) (bits 31 2047) HT_ ?_
      refine svq 11 (some 26) (bits 31 4095) HT_ ?_
      refine svq 12 (some 27) (bits 31 8191) HT_ ?_
      refine svq 13 (some 28) (bits 31 16383) HT_ ?_
      refine svq 14 (some 29) (bits 31 32767) HT_ ?_
      refine pvq 15 (some 30) (bits 31 65535) HT_ ?_
      refine pvq 16 (some 31) (bits 31 131071) HT_ ?_
      refine svq 17 (some 32) (bits 31 262143) HT_ ?_
      refine svq 18 (some 33) (bits 31 524287) HT_ ?_
      refine svq 19 (some 34) (bits 31 1048575) HT_ ?_
      refine svq 20 (some 35) (bits 31 2097151) HT_ ?_
      refine svq 21 (some 36) (bits 31 4194303) HT_ ?_
      refine svq 22 (some 37) (bits 31 8388607) HT_ ?_
      refine svq 23 (some 38) (bits 31 16777215) HT_ ?_
      refine svq 24 (some 39) (bits 31 33554431) HT_ ?_
      refine svq 25 (some 40) (bits 31 67108863) HT_ ?_
      refine svq 26 (some 41) (bits 31 134217727) HT_ ?_
      refine svq 27 (some 42) (bits 31 268435455) HT_ ?_
      refine svq 28 (some 43) (bits 31 536870911) HT_ ?_
      refine svq 29 (some 44) (bits 31 1073741823) HT_ ?_
      refine pvq 30 (some 45) (bits 31 2147483647) HT_ ?_
      refine nmq ?_
      refine done_ (done_of HT_.out (by kernel_rfl)) ?_
      try go_wp2
      all_goals first
       | (go_roundg d;(case measure=>omega);(case rel=>exact ⟨j + 1,congrArg (Value.int .i64) (Int.natCast_succ _).symm,by omega,by omega,B,⟨andT HS.out (by grind [l1B])⟩⟩))
       | (go_ret;exact ⟨andF HS.out (by grind [l1B]),B.out⟩)
     ·refine gsq Try.func83 #[.int .i64 (y.f1),.int .i64 (1),.int .i64 (999)] ?_
      with_reducible refine cl (clv (spec_l1In.M y.f1 1 999 _) (congrArg Value.bool hq2)) B fun w5 hb B=>?_
      replace F4:=bn F4 hb
      clear hb
      refine ⟨_,rfl,?_⟩
      refine hK.out _ _ ⟨F4.out,(cb HR0 B)⟩ (fun hHeld=>?_)
      clear hK K
      refine npq (some 22) ?_
      refine pvq 8 (some 23) (bits 31 511) HT_ ?_
      refine pvq 9 (some 24) (bits 31 1023) HT_ ?_
      refine pvq 10 (some 25) (bits 31 2047) HT_ ?_
      refine pvq 11 (some 26) (bits 31 4095) HT_ ?_
      refine tvq 12 (some 27) (bits 31 8191) HT_ HW_ rfl hHeld (by intro w' hS;obtain ⟨s0,s1⟩:=hS;obtain ⟨q0,q1,q2⟩:=cs3 (Aside0.mk s0);go_simp;with_reducible rfl) ?_
      refine nmq ?_
      refine one_ (i:=13) (N:=some 28) (bits 31 16383) rfl rfl (one_of HT_.out (by kernel_rfl)) (by decide) (fun K hK=>?_)
      rcases hq3 : (l1B y.f2 (-2) 999) with _ | _
      ·refine gsq Try.func83 #[.int .i64 (y.f2),.int .i64 (-2),.int .i64 (999)] ?_
       with_reducible refine cl (clv (spec_l1In.M y.f2 (-2) 999 _) (congrArg Value.bool hq3)) B fun w6 hb B=>?_
       replace F4:=bn F4 hb
       clear hb
       refine ⟨_,rfl,?_⟩
       refine hK.out _ _ ⟨F4.out,(cb HR0 B)⟩ (fun hHeld=>?_)
       clear hK K
       refine npq (some 28) ?_
       refine pvq 14 (some 29) (bits 31 32767) HT_ ?_
       refine pvq 15 (some 30) (bits 31 65535) HT_ ?_
       refine pvq 16 (some 31) (bits 31 131071) HT_ ?_
       refine svq 17 (some 32) (bits 31 262143) HT_ ?_
       refine svq 18 (some 33) (bits 31 524287) HT_ ?_
       refine svq 19 (some 34) (bits 31 1048575) HT_ ?_
       refine svq 20 (some 35) (bits 31 2097151) HT_ ?_
       refine svq 21 (some 36) (bits 31 4194303) HT_ ?_
       refine svq 22 (some 37) (bits 31 8388607) HT_ ?_
       refine svq 23 (some 38) (bits 31 16777215) HT_ ?_
       refine svq 24 (some 39) (bits 31 33554431) HT_ ?_
       refine svq 25 (some 40) (bits 31 67108863) HT_ ?_
       refine svq 26 (some 41) (bits 31 134217727) HT_ ?_
       refine svq 27 (some 42) (bits 31 268435455) HT_ ?_
       refine svq 28 (some 43) (bits 31 536870911) HT_ ?_
       refine svq 29 (some 44) (bits 31 1073741823) HT_ ?_
       refine pvq 30 (some 45) (bits 31 2147483647) HT_ ?_
       refine nmq ?_
       refine done_ (done_of HT_.out (by kernel_rfl)) ?_
       try go_wp2
       all_goals first
        | (go_roundg d;(case measure=>omega);(case rel=>exact ⟨j + 1,congrArg (Value.int .i64) (Int.natCast_succ _).symm,by omega,by omega,B,⟨andT HS.out (by grind [l1B])⟩⟩))
        | (go_ret;exact ⟨andF HS.out (by grind [l1B]),B.out⟩)
      ·refine gsq Try.func83 #[.int .i64 (y.f2),.int .i64 (-2),.int .i64 (999)] ?_
       with_reducible refine cl (clv (spec_l1In.M y.f2 (-2) 999 _) (congrArg Value.bool hq3)) B fun w6 hb B=>?_
       replace F4:=bn F4 hb
       clear hb
       refine ⟨_,rfl,?_⟩
       refine hK.out _ _ ⟨F4.out,(cb HR0 B)⟩ (fun hHeld=>?_)
       clear hK K
       refine npq (some 28) ?_
       refine pvq 14 (some 29) (bits 31 32767) HT_ ?_
       refine pvq 15 (some 30) (bits 31 65535) HT_ ?_
       refine pvq 16 (some 31) (bits 31 131071) HT_ ?_
       refine pvq 17 (some 32) (bits 31 262143) HT_ ?_
       by_cases hz : j=0
       ·rw [if_pos hz] at HS
        have dz : decide (0 < (j : Int))=false:=decide_eq_false (by omega)
        have dz2 : decide (0 < j)=false:=decide_eq_false (by omega)
        clear hz
        refine pvq 18 (some 33) (bits 31 524287) HT_ ?_
        refine pvq 19 (some 34) (bits 31 1048575) HT_ ?_
        refine svq 20 (some 35) (bits 31 2097151) HT_ ?_
        refine svq 21 (some 36) (bits 31 4194303) HT_ ?_
        refine svq 22 (some 37) (bits 31 8388607) HT_ ?_
        refine svq 23 (some 38) (bits 31 16777215) HT_ ?_
        refine svq 24 (some 39) (bits 31 33554431) HT_ ?_
        refine svq 25 (some 40) (bits 31 67108863) HT_ ?_
        refine svq 26 (some 41) (bits 31 134217727) HT_ ?_
        refine svq 27 (some 42) (bits 31 268435455) HT_ ?_
        refine svq 28 (some 43) (bits 31 536870911) HT_ ?_
        refine pvq 29 (some 44) (bits 31 1073741823) HT_ ?_
        refine pvq 30 (some 45) (bits 31 2147483647) HT_ ?_
        refine nmq ?_
        refine done_ (done_of HT_.out (by kernel_rfl)) ?_
        try go_wp2
        all_goals first
         | (go_roundg d;(case measure=>omega);(case rel=>exact ⟨j + 1,congrArg (Value.int .i64) (Int.natCast_succ _).symm,by omega,by omega,B,⟨andT HS.out (by grind [l1B])⟩⟩))
         | (go_ret;exact ⟨andF HS.out (by grind [l1B]),B.out⟩)
       ·rw [if_neg hz] at HS
        have dz : decide (0 < (j : Int))=true:=decide_eq_true (by omega)
        have dz2 : decide (0 < j)=true:=decide_eq_true (by omega)
        obtain ⟨i,hi⟩ : ∃ i,j - 1=i:=⟨_,rfl⟩
        rw [hi] at HS
        have WI:=Aside0.mk (show (j : Int) - 1=(i : Int) by omega)
        have hij : i < l.length:=by omega
        have IW:=Aside0.mk (show wrap64 (i : Int)=(i : Int) by unfold wrap64;omega)
        have i1:=eq_true (show (i : Int) < (l.length : Int) by omega)
        have i2:=eq_true hij
        generalize hx : rd_T76 l (i : Int)=x at HS
        clear hz hi
        refine pvq 18 (some 33) (bits 31 524287) HT_ ?_
        refine pvq 19 (some 34) (bits 31 1048575) HT_ ?_
        refine pvq 20 (some 35) (bits 31 2097151) HT_ ?_
        refine tvq 21 (some 36) (bits 31 4194303) HT_ HW_ rfl hHeld (by intro w' hS;obtain ⟨s0,s1⟩:=hS;obtain ⟨q0,q1,q2⟩:=cs3 (Aside0.mk s0);go_simp;with_reducible rfl) ?_
        refine pvq 22 (some 37) (bits 31 8388607) HT_ ?_
        refine pvq 23 (some 38) (bits 31 16777215) HT_ ?_
        refine pu (i:=24) (N:=some 39) (v:=.int .i64 ((i : Int))) (bits 31 33554431) rfl rfl (any_of HT_.out (by kernel_rfl)) (fun _ _ _ h=>h) (by kernel_rfl) ?_ ?_;(intro w';go_simp;rw [WI.out];exact (i64_w _).trans IW.out)
        refine pvq 25 (some 40) (bits 31 67108863) HT_ ?_
        refine pvq 26 (some 41) (bits 31 134217727) HT_ ?_
        refine tvq 27 (some 42) (bits 31 268435455) HT_ HW_ rfl hHeld (by intro w' hS;obtain ⟨s0,s1⟩:=hS;obtain ⟨_,hA,q0,q1,q2⟩:=at_T76 s1 (i : Int) (by omega) (by omega);cases hA;rw [Int.toNat_natCast] at q0 q1 q2;rw [hx] at q0 q1 q2;go_simp;with_reducible rfl) ?_
        refine pvq 28 (some 43) (bits 31 536870911) HT_ ?_
        refine pvq 29 (some 44) (bits 31 1073741823) HT_ ?_
        refine pvq 30 (some 45) (bits 31 2147483647) HT_ ?_
        refine nmq ?_
        refine done_ (done_of HT_.out (by kernel_rfl)) ?_
        try go_wp2
        all_goals first
         | (go_roundg d;(case measure=>omega);(case rel=>exact ⟨j + 1,congrArg (Value.int .i64) (Int.natCast_succ _).symm,by omega,by omega,B,⟨andT HS.out (by grind [l1B])⟩⟩))
         | (go_ret;exact ⟨andF HS.out (by grind [l1B]),B.out⟩))
   all_goals try go_wp2
   all_goals try (go_ret;exact ⟨andF HS.out (by grind [l1B]),B.out⟩)
  ·have cj : decide ((j : Int) < (l.length : Int))=false:=decide_eq_false (by omega)
   have hr : r=true:=by rw [← H.out];exact sesJ_end hlt
   subst hr
   go_wp2
   go_ret
   exact ⟨rfl,B.out⟩

theorem find_drop {l : List S76} {j : Nat} (c : Int) (h : j < l.length) : findS (l.drop j) c=if (rd_T76 l (j : Int)).f0=c then rd_T76 l (j : Int) else findS (l.drop (j + 1)) c:=by
 rw [ses_drop h,findS]
theorem spec_l9Find.M (A0 : Option Addr) (c0 : Nat) (l : List S76) (c : Int) (w : World) (hr0 : Kd.C k76 w A0 l.length l) : Calls Try.prog 40 #[.slice A0 l.length c0,.int .i64 c] w fun e w'=>e=.returned (.agg #[.int .i64 (findS l c).f0,.int .i64 (findS l c).f1,.int .i64 (findS l c).f2])∧Below w.heap.size w w':=by
 have B:=Aside0.mk (Below.refl w.heap.size w)
 have hu:=Try.underlying76
 have HR0:=Aside0.mk hr0
 have L63:=Aside0.mk hr0.2.1
 clear hr0
 obtain ⟨r,hr⟩ : ∃ r,findS l c=r:=⟨_,rfl⟩
 rw [hr]
 have H:=Aside0.mk (show findS (l.drop 0) c=r from hr)
 clear hr
 go_enter Try.func40,Try.ntmps40
 go_wp2_with (first
  | ((with_reducible refine gate_dst (N:=4) rfl ?_);refine bxq 4 #[.int .i64 (0),.int .i64 (0),.int .i64 (0)] 76 B fun g4 w1 hb B F4 L4 E4=>?_;clear hb E4))
 go_loopg [5] (l.length + 1) (fun kx v5 wr=>∃ j : Nat,v5=.int .i64 (j : Int)∧j≤l.length∧l.length < j + kx∧Aside0 (Below w.heap.size w wr)∧Aside0 (wr.heap[g4]?=some (.cells #[.int .i64 (0),.int .i64 (0),.int .i64 (0)] 76 (0,0)))∧Aside0 (findS (l.drop j) c=r))
 case atStart=>exact ⟨0,rfl,by omega,by omega,B,F4,H⟩
 case round =>
  clear H B F4
  obtain ⟨j,rfl,hj,hk,B,F4,H⟩:=hrel
  have h63:=L63.out
  by_cases hlt : j < l.length
  ·have HS:=H.out
   rw [find_drop c hlt] at HS
   clear H
   obtain ⟨d,rfl⟩ : ∃ d,gk=d + 1:=⟨gk - 1,by omega⟩
   have cj : decide ((j : Int) < (l.length : Int))=true:=decide_eq_true (by omega)
   obtain ⟨ad,hA,y0,y1,y2⟩:=at_T76 (cb HR0 B) (j : Int) (by omega) (by omega)
   cases hA
   rw [Int.toNat_natCast] at y0 y1 y2
   have j1:=eq_true (show (j : Int) < (l.length : Int) by omega)
   have j2:=eq_true hlt
   generalize hy : rd_T76 l (j : Int)=y at *
   by_cases hc : y.f0=c
   ·rw [if_pos hc] at HS
    have dc : (y.f0 == c)=true:=by simp [hc]
    have dc2 : decide (y.f0=c)=true:=decide_eq_true hc
    subst HS
    go_wp2_with (first
     | ((with_reducible refine gate_store (t:=76) (p:=4) rfl ?_);obtain ⟨y0,y1,y2,z0,z1,z2⟩:=cz3 F4;refine sxq 76 76 4 0 [.int .i64 (y.f0),.int .i64 (y.f1),.int .i64 (y.f2)] [.int .i64 (y.f0),.int .i64 (y.f1),.int .i64 (y.f2)] B F4 L4 fun w101 hk B G=>?_;replace F4:=G;clear hk y0 z0 y1 z1 y2 z2))
    refine bodyPost_ret (results_single rfl (.cell g4 76 _ (0,0) _ rfl F4.out hu rfl (by kernel_rfl) .nil)) rfl ?_
    exact ⟨rfl,B.out⟩
   ·rw [if_neg hc] at HS
    have dc : (y.f0 == c)=false:=by simp [hc]
    have dc2 : decide (y.f0=c)=false:=decide_eq_false hc
    go_wp2
    go_roundg d
    case measure=>omega
    case rel=>exact ⟨j + 1,congrArg (Value.int .i64) (Int.natCast_succ _).symm,by omega,by omega,B,F4,⟨HS⟩⟩
  ·have cj : decide ((j : Int) < (l.length : Int))=false:=decide_eq_false (by omega)
   have hr:=H.out
   rw [List.drop_of_length_le (by omega)] at hr
   subst hr
   go_wp2_with (first
    | ((with_reducible refine gate_store (t:=76) (p:=4) rfl ?_);obtain ⟨y0,y1,y2,z0,z1,z2⟩:=cz3 F4;refine sxq 76 76 4 0 [.int .i64 (0),.int .i64 (0),.int .i64 (0)] [.int .i64 (0),.int .i64 (0),.int .i64 (0)] B F4 L4 fun w301 hk B G=>?_;replace F4:=G;clear hk y0 z0 y1 z1 y2 z2))
   refine bodyPost_ret (results_single rfl (.cell g4 76 _ (0,0) _ rfl F4.out hu rfl (by kernel_rfl) .nil)) rfl ?_
   exact ⟨rfl,B.out⟩
theorem spec_SessionSeq.M (A0 : Option Addr) (c0 : Nat) (l : List S76) (c : Int) (w : World) (hr0 : Kd.C k76 w A0 l.length l) (hc0 : l.length≤c0) : Calls Try.prog 89 #[.slice A0 l.length c0,.int .i64 c] w fun e w'=>e=.returned (.int .i64 (seqB l c))∧Below w.heap.size w w':=by
 have B:=Aside0.mk (Below.refl w.heap.size w)
 have hu:=Try.underlying76
 have HR0:=Aside0.mk hr0
 have HC0:=Aside0.mk hc0
 have L63:=Aside0.mk hr0.2.1
 clear hr0 hc0
 have hfld : ∀ W : World,Sem.run Try.prog (Instr.field 76 (Value.agg #[Value.int .i64 (findS l c).f0,Value.int .i64 (findS l c).f1,Value.int .i64 (findS l c).f2]) 1) W=.ok (Value.int .i64 (findS l c).f1) W:=fun W=>by rfl
 cases hv : sesB l with
 | false =>
  rw [show seqB l c=-1 from if_neg (by rintro ⟨h,-⟩;rw [hv] at h;cases h)]
  go_enter Try.func89,Try.ntmps89
  go_wp2_with (first
   | (go_at_call 82;with_reducible refine cl (spec_SessionsValid.M _ _ l _ (cb HR0 B)) B fun w1 hb B=>?_;clear hb)
   | (go_at_call 83;with_reducible refine cl (spec_l1In.M c 0 3 _) B fun w2 hb B=>?_;clear hb)
   | (go_at_call 40;with_reducible refine cl (spec_l9Find.M _ _ l c _ (cb HR0 B)) B fun w3 hb B=>?_;clear hb))
  all_goals (go_ret;exact ⟨rfl,B.out⟩)
 | true =>
  cases hc : l1B c 0 3 with
  | false =>
   rw [show seqB l c=-1 from if_neg (by rintro ⟨-,h1,h2⟩;unfold l1B at hc;rw [decide_eq_true h1,decide_eq_true h2] at hc;cases hc)]
   go_enter Try.func89,Try.ntmps89
   go_wp2_with (first
    | (go_at_call 82;with_reducible refine cl (spec_SessionsValid.M _ _ l _ (cb HR0 B)) B fun w1 hb B=>?_;clear hb)
    | (go_at_call 83;with_reducible refine cl (spec_l1In.M c 0 3 _) B fun w2 hb B=>?_;clear hb)
    | (go_at_call 40;with_reducible refine cl (spec_l9Find.M _ _ l c _ (cb HR0 B)) B fun w3 hb B=>?_;clear hb))
   all_goals (go_ret;exact ⟨rfl,B.out⟩)
  | true =>
   have hc2:=hc
   unfold l1B at hc2
   rw [Bool.and_eq_true,decide_eq_true_eq,decide_eq_true_eq] at hc2
   rw [show seqB l c=(findS l c).f1 from if_pos ⟨hv,hc2⟩]
   clear hc2
   go_enter Try.func89,Try.ntmps89
   go_wp2_with (first
    | (go_at_call 82;with_reducible refine cl (spec_SessionsValid.M _ _ l _ (cb HR0 B)) B fun w1 hb B=>?_;clear hb)
    | (go_at_call 83;with_reducible refine cl (spec_l1In.M c 0 3 _) B fun w2 hb B=>?_;clear hb)
    | (go_at_call 40;with_reducible refine cl (spec_l9Find.M _ _ l c _ (cb HR0 B)) B fun w3 hb B=>?_;clear hb))
   all_goals (go_ret;exact ⟨rfl,B.out⟩)

theorem atP_step {l : List S105} {j : Nat} {c : ByteArray} (h : ∀ i (hi : i < l.length),i < j→ltB l[i].f0 c=true) (hj : j≤l.length) (hs : ∀ hl : j < l.length,ltB l[j].f0 c=false) : atP l c=j:=take_len l j hj h hs
theorem spec_l4Place.M (A0 : Option Addr) (c0 : Nat) (l : List S105) (c : ByteArray) (w : World) (hr0 : Kd.C k105 w A0 l.length l) : Calls Try.prog 116 #[.slice A0 l.length c0,.string c] w fun e w'=>e=.returned (.int .i64 ((atP l c : Nat) : Int))∧Below w.heap.size w w':=by
 have B:=Aside0.mk (Below.refl w.heap.size w)
 have HR0:=Aside0.mk hr0
 have L63:=Aside0.mk hr0.2.1
 clear hr0
 go_enter Try.func116,Try.ntmps116
 go_wp2
 go_loopg [5] (l.length + 1) (fun kx v5 wr=>∃ j : Nat,v5=.int .i64 (j : Int)∧j≤l.length∧l.length < j + kx∧Aside0 (Below w.heap.size w wr)∧Aside0 (∀ i (hi : i < l.length),i < j→ltB l[i].f0 c=true))
 case atStart=>exact ⟨0,rfl,by omega,by omega,B,⟨fun i _ h=>absurd h (Nat.not_lt_zero _)⟩⟩
 case round =>
  clear B
  obtain ⟨j,rfl,hj,hk,B,H⟩:=hrel
  have h63:=L63.out
  by_cases hlt : j < l.length
  ·obtain ⟨d,rfl⟩ : ∃ d,gk=d + 1:=⟨gk - 1,by omega⟩
   have cj : decide ((j : Int) < (l.length : Int))=true:=decide_eq_true (by omega)
   obtain ⟨ad,hA,y0,y1⟩:=at_T105 (cb HR0 B) (j : Int) (by omega) (by omega)
   cases hA
   rw [Int.toNat_natCast] at y0 y1
   have j1:=eq_true (show (j : Int) < (l.length : Int) by omega)
   have j2:=eq_true hlt
   have hy : rd_T105 l (j : Int)=l[j]:=pr_nat hlt
   generalize rd_T105 l (j : Int)=y at *
   have HY:=Aside0.mk hy
   clear hy
   cases hb : Op.bytesLess y.f0.toList c.toList with
   | true =>
    go_wp2
    go_roundg d
    case measure=>omega
    case rel=>exact ⟨j + 1,congrArg (Value.int .i64) (Int.natCast_succ _).symm,by omega,by omega,B,⟨fun i hi h=>by
     rcases Nat.lt_or_eq_of_le (show i≤j by omega) with h' | h'
     ·exact H.out i hi h'
     ·subst h';rw [← HY.out];exact hb⟩⟩
   | false =>
    have hr:=atP_step H.out hj (fun _=>by rw [← HY.out];exact hb)
    go_wp2
    go_ret
    exact ⟨by rw [hr];rfl,B.out⟩
  ·have cj : decide ((j : Int) < (l.length : Int))=false:=decide_eq_false (by omega)
   have hr:=atP_step H.out hj (fun h=>absurd h hlt)
   go_wp2
   go_ret
   exact ⟨by rw [hr];rfl,B.out⟩

def spec_PairsValid.T6 : Bool × List (List Nat × List Nat):=(true,[([],[]),([],[]),([0,1],[0,1]),([2],[2]),([3],[3]),([4],[4]),([5],[5]),([6,5],[6]),([7],[7]),([7],[7]),([8,9,7],[7,8,9]),([10,7],[7,10]),([11,7],[7,11]),([12,7,7],[7,12]),([13,7],[7,13]),([7,14],[7,14]),([15,13],[15]),([16],[16]),([17,16],[16,17]),([18,16,16],[16,18]),([19],[19]),([19],[19]),([20,21,19],[19,20,21]),([22,19],[19,22]),([23,19],[19,23]),([19],[19]),([19],[19]),([26,19],[19,26]),([25,27,19],[19,25,27]),([28,19],[19,28]),([29,19],[19,29]),([24,30,19],[19,24,30]),([19,31,16],[16,19,31]),([16,32],[16,32])])
def spec_PairsValid.B6 : List Nat:=[0,0,3,7,15,31,63,127,255,255,1023,2047,4095,8191,16383,32767,65535,131071,262143,524287,1048575,1048575,4194303,8388607,16777215,1048575,1048575,68157439,235929599,504365055,1041235967,2147483647,4294967295,8589934591]
theorem spec_PairsValid.tab6 : rtab .any (opsOf Try.f81 6)=spec_PairsValid.T6:=by kernel_rfl
theorem spec_PairsValid.bits6 : waitsOk spec_PairsValid.T6.2 spec_PairsValid.B6=true:=by kernel_rfl
theorem spec_PairsValid.M (A0 : Option Addr) (c0 : Nat) (l : List S105) (w : World) (hr0 : Kd.C k105 w A0 l.length l) : Calls Try.prog 81 #[.slice A0 l.length c0] w fun e w'=>e=.returned (.bool (prB l))∧Below w.heap.size w w':=by
 have hu:=Try.underlying105
 have B:=Aside0.mk (Below.refl w.heap.size w)
 have HR0:=Aside0.mk hr0
 clear hr0
 obtain ⟨r,hr⟩ : ∃ r,prB l=r:=⟨_,rfl⟩
 rw [hr]
 unfold prB at hr
 by_cases hl : l.length≤48
 ·have H:=Aside0.mk (show prJ l 0=r by unfold prJ prP;simpa [hl] using hr)
  have cl0 : decide (48 < (l.length : Int))=false:=decide_eq_false (by omega)
  have L48:=Aside0.mk (show l.length≤4611686018427387904 by omega)
  clear hl hr
  go_enter Try.func81,Try.ntmps81
  go_wp2
  go_loopg [3] (l.length + 1) (fun kx v3 wr=>∃ j : Nat,v3=.int .i64 (j : Int)∧j≤l.length∧l.length < j + kx∧Aside0 (Below w.heap.size w wr)∧Aside0 (prJ l j=r))
  case atStart=>exact ⟨0,rfl,by omega,by omega,B,H⟩
  case round =>
   clear H B
   obtain ⟨j,rfl,hj,hk,B,H⟩:=hrel
   by_cases hlt : j < l.length
   ·have HS:=Aside0.mk ((prJ_step hlt).symm.trans H.out)
    clear H
    obtain ⟨d,rfl⟩ : ∃ d,gk=d + 1:=⟨gk - 1,by omega⟩
    have h48:=L48.out
    have cj : decide ((j : Int) < (l.length : Int))=true:=decide_eq_true (by omega)
    obtain ⟨ad,hA,y0,y1⟩:=at_T105 (cb HR0 B) (j : Int) (by omega) (by omega)
    cases hA
    rw [Int.toNat_natCast] at y0 y1
    have j1:=eq_true (show (j : Int) < (l.length : Int) by omega)
    have j2:=eq_true hlt
    generalize hy : rd_T105 l (j : Int)=y at *
    try go_wp2
    all_goals try (go_ret;exact ⟨andF HS.out (by grind [l1B,ltB]),B.out⟩)
    all_goals (
     refine rg (n:=34) (S:=fun W=>Kd.C k105 W (some ad) l.length l) (ds:=[]) #[false,false,false,false,false,false,false,false,false,false,false,false,false,false,false,false,false,false,false,false,false,false,false,false,false,false,false,false,false,false,false,false,false,false] (by kernel_rfl) rfl rfl (cb HR0 B) id B (fun w1 hb B hHeld=>?_)
     refine with_tabW spec_PairsValid.tab6 spec_PairsValid.bits6 (fun HT_ HW_=>?_)
     clear hb
     refine pvq 0 (some 13) (bits 34 1) HT_ ?_
     refine pvq 1 (some 14) (bits 34 3) HT_ ?_
     refine pvq 2 (some 15) (bits 34 7) HT_ ?_
     refine pvq 3 (some 16) (bits 34 15) HT_ ?_
     refine tvq 4 (some 17) (bits 34 31) HT_ HW_ rfl hHeld (by intro w' hS;have s0:=hS;obtain ⟨_,hA,q0,q1⟩:=at_T105 s0 (j : Int) (by omega) (by omega);cases hA;rw [Int.toNat_natCast] at q0 q1;rw [hy] at q0 q1;go_simp;with_reducible rfl) ?_
     refine nmq ?_
     refine one_ (i:=5) (N:=some 18) (bits 34 63) rfl rfl (one_of HT_.out (by kernel_rfl)) (by decide) (fun K hK=>?_)
     rcases hq1 : (keyB y.f0) with _ | _
     ·refine gsq Try.func85 #[.string y.f0] ?_
      with_reducible refine cl (clv (spec_KeyValid.M y.f0 _) (congrArg Value.bool hq1)) B fun w2 hb B=>?_
      clear hb
      refine ⟨_,rfl,?_⟩
      refine hK.out _ _ (cb HR0 B) (fun hHeld=>?_)
      clear hK K
      refine npq (some 18) ?_
      refine pvq 6 (some 19) (bits 34 127) HT_ ?_
      refine pvq 7 (some 20) (bits 34 255) HT_ ?_
      refine svq 8 (some 21) (bits 34 511) HT_ ?_
      refine svq 9 (some 22) (bits 34 1023) HT_ ?_
      refine svq 10 (some 23) (bits 34 2047) HT_ ?_
      refine svq 11 (some 24) (bits 34 4095) HT_ ?_
      refine svq 12 (some 25) (bits 34 8191) HT_ ?_
      refine svq 13 (some 26) (bits 34 16383) HT_ ?_
      refine svq 14 (some 27) (bits 34 32767) HT_ ?_
      refine pvq 15 (some 28) (bits 34 65535) HT_ ?_
      refine pvq 16 (some 29) (bits 34 131071) HT_ ?_
      refine svq 17 (some 30) (bits 34 262143) HT_ ?_
      refine svq 18 (some 31) (bits 34 524287) HT_ ?_
      refine svq 19 (some 32) (bits 34 1048575) HT_ ?_
      refine svq 20 (some 33) (bits 34 2097151) HT_ ?_
      refine svq 21 (some 34) (bits 34 4194303) HT_ ?_
      refine svq 22 (some 35) (bits 34 8388607) HT_ ?_
      refine svq 23 (some 36) (bits 34 16777215) HT_ ?_
      refine svq 24 (some 37) (bits 34 33554431) HT_ ?_
      refine svq 25 (some 38) (bits 34 67108863) HT_ ?_
      refine svq 26 (some 39) (bits 34 134217727) HT_ ?_
      refine svq 27 (some 40) (bits 34 268435455) HT_ ?_
      refine svq 28 (some 41) (bits 34 536870911) HT_ ?_
      refine svq 29 (some 42) (bits 34 1073741823) HT_ ?_
      refine svq 30 (some 43) (bits 34 2147483647) HT_ ?_
      refine svq 31 (some 44) (bits 34 4294967295) HT_ ?_
      refine svq 32 (some 45) (bits 34 8589934591) HT_ ?_
      refine pvq 33 (some 46) (bits 34 17179869183) HT_ ?_
      refine nmq ?_
      refine done_ (done_of HT_.out (by kernel_rfl)) ?_
      try go_wp2
      all_goals first
       | (go_roundg d;(case measure=>omega);(case rel=>exact ⟨j + 1,congrArg (Value.int .i64) (Int.natCast_succ _).symm,by omega,by omega,B,⟨andT HS.out (by grind [l1B,ltB])⟩⟩))
       | (go_ret;exact ⟨andF HS.out (by grind [l1B,ltB]),B.out⟩)
     ·refine gsq Try.func85 #[.string y.f0] ?_
      with_reducible refine cl (clv (spec_KeyValid.M y.f0 _) (congrArg Value.bool hq1)) B fun w2 hb B=>?_
      clear hb
      refine ⟨_,rfl,?_⟩
      refine hK.out _ _ (cb HR0 B) (fun hHeld=>?_)
      clear hK K
      refine npq (some 18) ?_
      refine pvq 6 (some 19) (bits 34 127) HT_ ?_
      refine pvq 7 (some 20) (bits 34 255) HT_ ?_
      refine pvq 8 (some 21) (bits 34 511) HT_ ?_
      refine pvq 9 (some 22) (bits 34 1023) HT_ ?_
      refine pvq 10 (some 23) (bits 34 2047) HT_ ?_
      refine pvq 11 (some 24) (bits 34 4095) HT_ ?_
      refine tvq 12 (some 25) (bits 34 8191) HT_ HW_ rfl hHeld (by intro w' hS;have s0:=hS;obtain ⟨_,hA,q0,q1⟩:=at_T105 s0 (j : Int) (by omega) (by omega);cases hA;rw [Int.toNat_natCast] at q0 q1;rw [hy] at q0 q1;go_simp;with_reducible rfl) ?_
      refine nmq ?_
      refine one_ (i:=13) (N:=some 26) (bits 34 16383) rfl rfl (one_of HT_.out (by kernel_rfl)) (by decide) (fun K hK=>?_)
      rcases hq2 : (l1B y.f1 0 999) with _ | _
      ·refine gsq Try.func83 #[.int .i64 (y.f1),.int .i64 (0),.int .i64 (999)] ?_
       with_reducible refine cl (clv (spec_l1In.M y.f1 0 999 _) (congrArg Value.bool hq2)) B fun w3 hb B=>?_
       clear hb
       refine ⟨_,rfl,?_⟩
       refine hK.out _ _ (cb HR0 B) (fun hHeld=>?_)
       clear hK K
       refine npq (some 26) ?_
       refine pvq 14 (some 27) (bits 34 32767) HT_ ?_
       refine pvq 15 (some 28) (bits 34 65535) HT_ ?_
       refine pvq 16 (some 29) (bits 34 131071) HT_ ?_
       refine svq 17 (some 30) (bits 34 262143) HT_ ?_
       refine svq 18 (some 31) (bits 34 524287) HT_ ?_
       refine svq 19 (some 32) (bits 34 1048575) HT_ ?_
       refine svq 20 (some 33) (bits 34 2097151) HT_ ?_
       refine svq 21 (some 34) (bits 34 4194303) HT_ ?_
       refine svq 22 (some 35) (bits 34 8388607) HT_ ?_
       refine svq 23 (some 36) (bits 34 16777215) HT_ ?_
       refine svq 24 (some 37) (bits 34 33554431) HT_ ?_
       refine svq 25 (some 38) (bits 34 67108863) HT_ ?_
       refine svq 26 (some 39) (bits 34 134217727) HT_ ?_
       refine svq 27 (some 40) (bits 34 268435455) HT_ ?_
       refine svq 28 (some 41) (bits 34 536870911) HT_ ?_
       refine svq 29 (some 42) (bits 34 1073741823) HT_ ?_
       refine svq 30 (some 43) (bits 34 2147483647) HT_ ?_
       refine svq 31 (some 44) (bits 34 4294967295) HT_ ?_
       refine svq 32 (some 45) (bits 34 8589934591) HT_ ?_
       refine pvq 33 (some 46) (bits 34 17179869183) HT_ ?_
       refine nmq ?_
       refine done_ (done_of HT_.out (by kernel_rfl)) ?_
       try go_wp2
       all_goals first
        | (go_roundg d;(case measure=>omega);(case rel=>exact ⟨j + 1,congrArg (Value.int .i64) (Int.natCast_succ _).symm,by omega,by omega,B,⟨andT HS.out (by grind [l1B,ltB])⟩⟩))
        | (go_ret;exact ⟨andF HS.out (by grind [l1B,ltB]),B.out⟩)
      ·refine gsq Try.func83 #[.int .i64 (y.f1),.int .i64 (0),.int .i64 (999)] ?_
       with_reducible refine cl (clv (spec_l1In.M y.f1 0 999 _) (congrArg Value.bool hq2)) B fun w3 hb B=>?_
       clear hb
       refine ⟨_,rfl,?_⟩
       refine hK.out _ _ (cb HR0 B) (fun hHeld=>?_)
       clear hK K
       refine npq (some 26) ?_
       refine pvq 14 (some 27) (bits 34 32767) HT_ ?_
       refine pvq 15 (some 28) (bits 34 65535) HT_ ?_
       refine pvq 16 (some 29) (bits 34 131071) HT_ ?_
       refine pvq 17 (some 30) (bits 34 262143) HT_ ?_
       by_cases hz : j=0
       ·rw [if_pos hz] at HS
        have dz : decide (0 < (j : Int))=false:=decide_eq_false (by omega)
        have dz2 : decide (0 < j)=false:=decide_eq_false (by omega)
        clear hz
        refine pvq 18 (some 31) (bits 34 524287) HT_ ?_
        refine pvq 19 (some 32) (bits 34 1048575) HT_ ?_
        refine svq 20 (some 33) (bits 34 2097151) HT_ ?_
        refine svq 21 (some 34) (bits 34 4194303) HT_ ?_
        refine svq 22 (some 35) (bits 34 8388607) HT_ ?_
        refine svq 23 (some 36) (bits 34 16777215) HT_ ?_
        refine svq 24 (some 37) (bits 34 33554431) HT_ ?_
        refine svq 25 (some 38) (bits 34 67108863) HT_ ?_
        refine svq 26 (some 39) (bits 34 134217727) HT_ ?_
        refine svq 27 (some 40) (bits 34 268435455) HT_ ?_
        refine svq 28 (some 41) (bits 34 536870911) HT_ ?_
        refine svq 29 (some 42) (bits 34 1073741823) HT_ ?_
        refine svq 30 (some 43) (bits 34 2147483647) HT_ ?_
        refine svq 31 (some 44) (bits 34 4294967295) HT_ ?_
        refine pvq 32 (some 45) (bits 34 8589934591) HT_ ?_
        refine pvq 33 (some 46) (bits 34 17179869183) HT_ ?_
        refine nmq ?_
        refine done_ (done_of HT_.out (by kernel_rfl)) ?_
        try go_wp2
        all_goals first
         | (go_roundg d;(case measure=>omega);(case rel=>exact ⟨j + 1,congrArg (Value.int .i64) (Int.natCast_succ _).symm,by omega,by omega,B,⟨andT HS.out (by grind [l1B,ltB])⟩⟩))
         | (go_ret;exact ⟨andF HS.out (by grind [l1B,ltB]),B.out⟩)
       ·rw [if_neg hz] at HS
        have dz : decide (0 < (j : Int))=true:=decide_eq_true (by omega)
        have dz2 : decide (0 < j)=true:=decide_eq_true (by omega)
        obtain ⟨i,hi⟩ : ∃ i,j - 1=i:=⟨_,rfl⟩
        rw [hi] at HS
        have WI:=Aside0.mk (show (j : Int) - 1=(i : Int) by omega)
        have hij : i < l.length:=by omega
        have IW:=Aside0.mk (show wrap64 (i : Int)=(i : Int) by unfold wrap64;omega)
        have i1:=eq_true (show (i : Int) < (l.length : Int) by omega)
        have i2:=eq_true hij
        generalize hx : rd_T105 l (i : Int)=x at HS
        clear hz hi
        refine pvq 18 (some 31) (bits 34 524287) HT_ ?_
        refine pvq 19 (some 32) (bits 34 1048575) HT_ ?_
        refine pvq 20 (some 33) (bits 34 2097151) HT_ ?_
        refine pvq 21 (some 34) (bits 34 4194303) HT_ ?_
        refine pvq 22 (some 35) (bits 34 8388607) HT_ ?_
        refine pvq 23 (some 36) (bits 34 16777215) HT_ ?_
        refine tvq 24 (some 37) (bits 34 33554431) HT_ HW_ rfl hHeld (by intro w' hS;have s0:=hS;obtain ⟨_,hA,q0,q1⟩:=at_T105 s0 (j : Int) (by omega) (by omega);cases hA;rw [Int.toNat_natCast] at q0 q1;rw [hy] at q0 q1;go_simp;with_reducible rfl) ?_
        refine pvq 25 (some 38) (bits 34 67108863) HT_ ?_
        refine pvq 26 (some 39) (bits 34 134217727) HT_ ?_
        refine pu (i:=27) (N:=some 40) (v:=.int .i64 ((i : Int))) (bits 34 268435455) rfl rfl (any_of HT_.out (by kernel_rfl)) (fun _ _ _ h=>h) (by kernel_rfl) ?_ ?_;(intro w';go_simp;rw [WI.out];exact (i64_w _).trans IW.out)
        refine pvq 28 (some 41) (bits 34 536870911) HT_ ?_
        refine pvq 29 (some 42) (bits 34 1073741823) HT_ ?_
        refine tvq 30 (some 43) (bits 34 2147483647) HT_ HW_ rfl hHeld (by intro w' hS;have s0:=hS;obtain ⟨_,hA,q0,q1⟩:=at_T105 s0 (i : Int) (by omega) (by omega);cases hA;rw [Int.toNat_natCast] at q0 q1;rw [hx] at q0 q1;go_simp;with_reducible rfl) ?_
        refine pvq 31 (some 44) (bits 34 4294967295) HT_ ?_
        refine pvq 32 (some 45) (bits 34 8589934591) HT_ ?_
        refine pvq 33 (some 46) (bits 34 17179869183) HT_ ?_
        refine nmq ?_
        refine done_ (done_of HT_.out (by kernel_rfl)) ?_
        try go_wp2
        all_goals first
         | (go_roundg d;(case measure=>omega);(case rel=>exact ⟨j + 1,congrArg (Value.int .i64) (Int.natCast_succ _).symm,by omega,by omega,B,⟨andT HS.out (by grind [l1B,ltB])⟩⟩))
         | (go_ret;exact ⟨andF HS.out (by grind [l1B,ltB]),B.out⟩))
    all_goals try go_wp2
    all_goals try (go_ret;exact ⟨andF HS.out (by grind [l1B,ltB]),B.out⟩)
   ·have cj : decide ((j : Int) < (l.length : Int))=false:=decide_eq_false (by omega)
    have hr : r=true:=by rw [← H.out];exact prJ_end hlt
    subst hr
    go_wp2
    go_ret
    exact ⟨rfl,B.out⟩
 ·have cl0 : decide (48 < (l.length : Int))=true:=decide_eq_true (by omega)
  have hr : r=false:=by rw [← hr,decide_eq_false hl];rfl
  subst hr
  go_enter Try.func81,Try.ntmps81
  go_wp2
  go_ret
  exact ⟨rfl,B.out⟩

theorem spec_PairGet.M (A0 : Option Addr) (c0 : Nat) (l : List S105) (c : ByteArray) (w : World) (hr0 : Kd.C k105 w A0 l.length l) (hc0 : l.length≤c0) : Calls Try.prog 86 #[.slice A0 l.length c0,.string c] w fun e w'=>e=.returned (.int .i64 (getM l c))∧Below w.heap.size w w':=by
 have B:=Aside0.mk (Below.refl w.heap.size w)
 have hu:=Try.underlying105
 have HR0:=Aside0.mk hr0
 have HC0:=Aside0.mk hc0
 have L63:=Aside0.mk hr0.2.1
 clear hr0 hc0
 by_cases hv : prB l=true
 ·have h48:=prB_len hv
  cases hh : hitM l c with
  | true =>
   obtain ⟨hlt,hf0,hf⟩:=hit_true hh
   have j1:=eq_true (show ((atP l c : Nat) : Int) < (l.length : Int) by omega)
   have j2:=eq_true hlt
   have hne : (((atP l c : Nat) : Int) == (l.length : Int))=false:=by simp;omega
   have hlt2 : decide (((atP l c : Nat) : Int) < (l.length : Int))=true:=decide_eq_true (by omega)
   go_enter Try.func86,Try.ntmps86
   go_wp2_with (first
    | (go_at_call 116;with_reducible refine cl (spec_l4Place.M _ _ l c _ (cb HR0 B)) B fun w1 hb B=>?_;clear hb)
    | (go_at_call 81;with_reducible refine cl (spec_PairsValid.M _ _ l _ (cb HR0 B)) B fun w2 hb B=>?_;clear hb;(obtain ⟨ad,hA,y0,y1⟩:=at_T105 (cb HR0 B) ((atP l c : Nat) : Int) (Int.natCast_nonneg _) (Int.ofNat_lt.mpr hlt);cases hA;rw [Int.toNat_natCast] at y0 y1)))
   all_goals (go_ret;exact ⟨by simp [getM, *],B.out⟩)
  | false =>
   by_cases hlt : atP l c < l.length
   ·have hf:=hit_false hh hlt
    have j1:=eq_true (show ((atP l c : Nat) : Int) < (l.length : Int) by omega)
    have j2:=eq_true hlt
    have hne : (((atP l c : Nat) : Int) == (l.length : Int))=false:=by simp;omega
    have hlt2 : decide (((atP l c : Nat) : Int) < (l.length : Int))=true:=decide_eq_true (by omega)
    go_enter Try.func86,Try.ntmps86
    go_wp2_with (first
     | (go_at_call 116;with_reducible refine cl (spec_l4Place.M _ _ l c _ (cb HR0 B)) B fun w1 hb B=>?_;clear hb)
     | (go_at_call 81;with_reducible refine cl (spec_PairsValid.M _ _ l _ (cb HR0 B)) B fun w2 hb B=>?_;clear hb;(obtain ⟨ad,hA,y0,y1⟩:=at_T105 (cb HR0 B) ((atP l c : Nat) : Int) (Int.natCast_nonneg _) (Int.ofNat_lt.mpr hlt);cases hA;rw [Int.toNat_natCast] at y0 y1)))
    all_goals (go_ret;exact ⟨by simp [getM, *],B.out⟩)
   ·have hne : atP l c=l.length:=by have:=atP_le l c;omega
    go_enter Try.func86,Try.ntmps86
    go_wp2_with (first
     | (go_at_call 116;with_reducible refine cl (spec_l4Place.M _ _ l c _ (cb HR0 B)) B fun w1 hb B=>?_;clear hb)
     | (go_at_call 81;with_reducible refine cl (spec_PairsValid.M _ _ l _ (cb HR0 B)) B fun w2 hb B=>?_;clear hb))
    all_goals (go_ret;exact ⟨by simp [getM, *],B.out⟩)
 ·replace hv:=Bool.eq_false_iff.mpr hv
  go_enter Try.func86,Try.ntmps86
  go_wp2_with (first
   | (go_at_call 116;with_reducible refine cl (spec_l4Place.M _ _ l c _ (cb HR0 B)) B fun w1 hb B=>?_;clear hb)
   | (go_at_call 81;with_reducible refine cl (spec_PairsValid.M _ _ l _ (cb HR0 B)) B fun w2 hb B=>?_;clear hb))
  all_goals (go_ret;exact ⟨by simp [getM, *],B.out⟩)

theorem spec_PairDrop.M (A0 : Option Addr) (c0 : Nat) (l : List S105) (c : ByteArray) (w : World) (hr0 : Kd.C k105 w A0 l.length l) (hc0 : l.length≤c0) : Calls Try.prog 87 #[.slice A0 l.length c0,.string c] w fun e w'=>∃ v0,e=.returned (.tuple #[v0,.bool (dropM l c).2])∧Kd.R k105 105 w' w.heap.size (fun _=>True) v0 (dropM l c).1∧Below w.heap.size w w':=by
 have B:=Aside0.mk (Below.refl w.heap.size w)
 have hu:=Try.underlying105
 have HR0:=Aside0.mk hr0
 have HC0:=Aside0.mk hc0
 have L63:=Aside0.mk hr0.2.1
 clear hr0
 obtain ⟨i0,hif,_,hsz0,_⟩:=info_parts info105
 by_cases hv : prB l=true
 ·have h48:=prB_len hv
  cases hh : hitM l c with
  | true =>
   obtain ⟨hlt,hf0,hf⟩:=hit_true hh
   have j1:=eq_true (show ((atP l c : Nat) : Int) < (l.length : Int) by omega)
   have j2:=eq_true hlt
   have hne : (((atP l c : Nat) : Int) == (l.length : Int))=false:=by simp;omega
   have hcut1:=cut_to (P:=Try.prog) 35 105 .i64 Try.underlying35 hif A0 l.length c0 ((atP l c : Nat) : Int) (by omega) (by omega) hc0
   rw [Int.toNat_natCast] at hcut1
   have C1:=Aside0.mk (fun {W : World} (h : Kd.C k105 W A0 l.length l)=>show Kd.C k105 W A0 (atP l c) (l.take (atP l c)) from by
    have:=Kd.C_take h (m:=atP l c) (by omega)
    rwa [List.length_take,Nat.min_eq_left (by omega)] at this)
   have hcut2:=cut_from (P:=Try.prog) 35 105 .i64 Try.underlying35 hif 2 hsz0 A0 l.length c0 (((atP l c : Nat) : Int) + 1) (by omega) (by omega)
   rw [show (((atP l c : Nat) : Int) + 1).toNat=atP l c + 1 by omega] at hcut2
   obtain ⟨A2,hA2⟩ : ∃ A2,A2=(if c0=atP l c + 1 then A0 else A0.map (·.add ((atP l c + 1) * 2))):=⟨_,rfl⟩
   rw [← hA2] at hcut2
   have C2:=Aside0.mk (fun {W : World} (h : Kd.C k105 W A0 l.length l)=>show Kd.C k105 W A2 (l.length - (atP l c + 1)) (l.drop (atP l c + 1)) from by
    have:=Kd.C_drop h (m:=atP l c + 1) (c:=c0) (by omega) hc0
    rw [List.length_drop] at this
    rw [hA2]
    exact this)
   clear hA2
   clear hif hsz0 hc0
   have hM : dropM l c=(l.take (atP l c) ++ l.drop (atP l c + 1),true):=by unfold dropM;rw [if_pos hv,if_pos hh]
   go_enter Try.func87,Try.ntmps87
   go_wp2_with (first
    | ((with_reducible refine gate_dst (N:=8) rfl ?_);refine lt k105 105 ?hg (N:=8) ?hd ([] : List S105) [] ?hr (Reps.none _ _) (by simp) B ?_;(case hd | hg=>rfl);(case hr=>go_simp;first | done | rfl);intro z8 hz8 AL8 kL8 w1 hb B RL8 QL8;clear hb QL8)
    | (go_at_call 81;with_reducible refine cl (spec_PairsValid.M _ _ l _ (cb HR0 B)) B fun w2 hb B=>?_;replace RL8:=rn RL8 hb;clear hb)
    | (go_at_call 116;with_reducible refine cl (spec_l4Place.M _ _ l c _ (cb HR0 B)) B fun w3 hb B=>?_;replace RL8:=rn RL8 hb;clear hb;(obtain ⟨ad,hA,y0,y1⟩:=at_T105 (cb HR0 B) ((atP l c : Nat) : Int) (Int.natCast_nonneg _) (Int.ofNat_lt.mpr hlt);cases hA;rw [Int.toNat_natCast] at y0 y1))
    | ((with_reducible refine gate_builtin (b:=.append) (xs:=#[.tmp 32,.tmp 35]) rfl ?_);at_builtin;refine apx k105 105 rfl (.tmp 32) (.tmp 35) 35 (.agg #[.string (⟨#[]⟩ : ByteArray),.int .i64 (0)]) 24 rfl Try.underlying35 info105 rfl (by decide) (by omega) rfl rfl RL8 (C1.out (cb HR0 B)) (fun x cs h=>by rw [k105_open h];exact k105_mkM _ _ _ x) (by rw [← hz8];simp only [List.length_append,List.length_nil,List.length_cons,List.length_take,List.length_drop];omega) B ?_;intro z36 hz36 AL36 kL36 w4 hg B RL36 hat;clear hg hat)
    | ((with_reducible refine gate_builtin (b:=.append) (xs:=#[.tmp 37,.tmp 41]) rfl ?_);at_builtin;refine apx k105 105 rfl (.tmp 37) (.tmp 41) 35 (.agg #[.string (⟨#[]⟩ : ByteArray),.int .i64 (0)]) 24 rfl Try.underlying35 info105 rfl (by decide) (by omega) rfl rfl RL36 (C2.out (cb HR0 B)) (fun x cs h=>by rw [k105_open h];exact k105_mkM _ _ _ x) (by rw [← hz36,← hz8];simp only [List.length_append,List.length_nil,List.length_cons,List.length_take,List.length_drop];omega) B ?_;intro z42 hz42 AL42 kL42 w5 hg B RL42 hat;clear hg hat))
   go_ret2;have hZ : z42=l.take (atP l c) ++ l.drop (atP l c + 1):=(by rw [← hz42,← hz36,← hz8];try simp);exact ⟨_,by rw [hM];rfl,by rw [hM,← hZ];exact RL42.out,B.out⟩
  | false =>
   clear hif hsz0 hc0
   have hM : dropM l c=(l,false):=by unfold dropM;rw [if_pos hv,if_neg (by rw [hh];simp)]
   by_cases hlt : atP l c < l.length
   ·have hf:=hit_false hh hlt
    have j1:=eq_true (show ((atP l c : Nat) : Int) < (l.length : Int) by omega)
    have j2:=eq_true hlt
    have hne : (((atP l c : Nat) : Int) == (l.length : Int))=false:=by simp;omega
    go_enter Try.func87,Try.ntmps87
    go_wp2_with (first
     | ((with_reducible refine gate_dst (N:=8) rfl ?_);refine lt k105 105 ?hg (N:=8) ?hd ([] : List S105) [] ?hr (Reps.none _ _) (by simp) B ?_;(case hd | hg=>rfl);(case hr=>go_simp;first | done | rfl);intro z8 hz8 AL8 kL8 w1 hb B RL8 QL8;clear hb QL8)
     | (go_at_call 81;with_reducible refine cl (spec_PairsValid.M _ _ l _ (cb HR0 B)) B fun w2 hb B=>?_;replace RL8:=rn RL8 hb;clear hb)
     | (go_at_call 116;with_reducible refine cl (spec_l4Place.M _ _ l c _ (cb HR0 B)) B fun w3 hb B=>?_;replace RL8:=rn RL8 hb;clear hb;(obtain ⟨ad,hA,y0,y1⟩:=at_T105 (cb HR0 B) ((atP l c : Nat) : Int) (Int.natCast_nonneg _) (Int.ofNat_lt.mpr hlt);cases hA;rw [Int.toNat_natCast] at y0 y1))
     | ((with_reducible refine gate_builtin (b:=.append) (xs:=#[.tmp 29,.tmp 30]) rfl ?_);at_builtin;refine apx k105 105 rfl (.tmp 29) (.tmp 30) 35 (.agg #[.string (⟨#[]⟩ : ByteArray),.int .i64 (0)]) 24 rfl Try.underlying35 info105 rfl (by decide) (by omega) rfl rfl RL8 (cb HR0 B) (fun x cs h=>by rw [k105_open h];exact k105_mkM _ _ _ x) (by rw [← hz8];simp only [List.length_append,List.length_nil,List.length_cons,List.length_take,List.length_drop];omega) B ?_;intro z31 hz31 AL31 kL31 w4 hg B RL31 hat;clear hg hat))
    go_ret2;have hZ : z31=l:=(by rw [← hz31,← hz8];try simp);exact ⟨_,by rw [hM];rfl,by rw [hM,← hZ];exact RL31.out,B.out⟩
   ·have hne : atP l c=l.length:=by have:=atP_le l c;omega
    go_enter Try.func87,Try.ntmps87
    go_wp2_with (first
     | ((with_reducible refine gate_dst (N:=8) rfl ?_);refine lt k105 105 ?hg (N:=8) ?hd ([] : List S105) [] ?hr (Reps.none _ _) (by simp) B ?_;(case hd | hg=>rfl);(case hr=>go_simp;first | done | rfl);intro z8 hz8 AL8 kL8 w1 hb B RL8 QL8;clear hb QL8)
     | (go_at_call 81;with_reducible refine cl (spec_PairsValid.M _ _ l _ (cb HR0 B)) B fun w2 hb B=>?_;replace RL8:=rn RL8 hb;clear hb)
     | (go_at_call 116;with_reducible refine cl (spec_l4Place.M _ _ l c _ (cb HR0 B)) B fun w3 hb B=>?_;replace RL8:=rn RL8 hb;clear hb)
     | ((with_reducible refine gate_builtin (b:=.append) (xs:=#[.tmp 29,.tmp 30]) rfl ?_);at_builtin;refine apx k105 105 rfl (.tmp 29) (.tmp 30) 35 (.agg #[.string (⟨#[]⟩ : ByteArray),.int .i64 (0)]) 24 rfl Try.underlying35 info105 rfl (by decide) (by omega) rfl rfl RL8 (cb HR0 B) (fun x cs h=>by rw [k105_open h];exact k105_mkM _ _ _ x) (by rw [← hz8];simp only [List.length_append,List.length_nil,List.length_cons,List.length_take,List.length_drop];omega) B ?_;intro z31 hz31 AL31 kL31 w4 hg B RL31 hat;clear hg hat))
    go_ret2;have hZ : z31=l:=(by rw [← hz31,← hz8];try simp);exact ⟨_,by rw [hM];rfl,by rw [hM,← hZ];exact RL31.out,B.out⟩
 ·replace hv:=Bool.eq_false_iff.mpr hv
  clear hif hsz0 hc0
  have hM : dropM l c=([],false):=by unfold dropM;rw [if_neg (by rw [hv];simp)]
  go_enter Try.func87,Try.ntmps87
  go_wp2_with (first
   | ((with_reducible refine gate_dst (N:=8) rfl ?_);refine lt k105 105 ?hg (N:=8) ?hd ([] : List S105) [] ?hr (Reps.none _ _) (by simp) B ?_;(case hd | hg=>rfl);(case hr=>go_simp;first | done | rfl);intro z8 hz8 AL8 kL8 w1 hb B RL8 QL8;clear hb QL8)
   | (go_at_call 81;with_reducible refine cl (spec_PairsValid.M _ _ l _ (cb HR0 B)) B fun w2 hb B=>?_;replace RL8:=rn RL8 hb;clear hb))
  go_ret2;have hZ : z8=[]:=(by rw [← hz8];try simp);exact ⟨_,by rw [hM];rfl,by rw [hM,← hZ];exact RL8.out,B.out⟩

theorem spec_PairPut.M (A0 : Option Addr) (c0 : Nat) (l : List S105) (c : ByteArray) (v : Int) (w : World) (hr0 : Kd.C k105 w A0 l.length l) (hc0 : l.length≤c0) : Calls Try.prog 88 #[.slice A0 l.length c0,.string c,.int .i64 v] w fun e w'=>∃ v0,e=.returned (.tuple #[v0,.bool (putM l c v).2])∧Kd.R k105 105 w' w.heap.size (fun _=>True) v0 (putM l c v).1∧Below w.heap.size w w':=by
 have B:=Aside0.mk (Below.refl w.heap.size w)
 have hu:=Try.underlying105
 have HR0:=Aside0.mk hr0
 have HC0:=Aside0.mk hc0
 have L63:=Aside0.mk hr0.2.1
 clear hr0
 obtain ⟨i0,hif,_,hsz0,_⟩:=info_parts info105
 by_cases hvv : (prB l && (keyB c && l1B v 0 999))=true
 ·have hu0 : putM l c v=if hitM l c then ((l.take (atP l c) ++ [⟨c,v⟩]) ++ l.drop (atP l c + 1),true) else if 48≤l.length then (l,false) else ((l.take (atP l c) ++ [⟨c,v⟩]) ++ l.drop (atP l c),true):=if_pos hvv
  simp only [Bool.and_eq_true] at hvv
  obtain ⟨hv,hkv,hlv⟩:=hvv
  have h48:=prB_len hv
  have hat:=atP_le l c
  cases hh : hitM l c with
  | true =>
   clear hif hsz0 hc0
   have hlt2 : decide (((atP l c : Nat) : Int) < (l.length : Int))=true:=decide_eq_true (by have:=hit_true hh;omega)
   obtain ⟨hlt,hf0,hf⟩:=hit_true hh
   have j1:=eq_true (show ((atP l c : Nat) : Int) < (l.length : Int) by omega)
   have j2:=eq_true hlt
   have hM : putM l c v=((l.take (atP l c) ++ [⟨c,v⟩]) ++ l.drop (atP l c + 1),true):=by rw [hu0,if_pos hh]
   go_enter Try.func88,Try.ntmps88
   go_wp2_with (first
    | ((with_reducible refine gate_dst (N:=10) rfl ?_);refine lt k105 105 ?hg (N:=10) ?hd ([] : List S105) [] ?hr (Reps.none _ _) (by simp) B ?_;(case hd | hg=>rfl);(case hr=>go_simp;first | done | rfl);intro z10 hz10 AL10 kL10 w1 hb B RL10 QL10;clear hb QL10)
    | (go_at_call 81;with_reducible refine cl (spec_PairsValid.M _ _ l _ (cb HR0 B)) B fun w2 hb B=>?_;replace RL10:=rn RL10 hb;clear hb)
    | (go_at_call 85;with_reducible refine cl (spec_KeyValid.M c _) B fun w3 hb B=>?_;replace RL10:=rn RL10 hb;clear hb)
    | (go_at_call 83;with_reducible refine cl (spec_l1In.M v 0 999 _) B fun w4 hb B=>?_;replace RL10:=rn RL10 hb;clear hb)
    | (go_at_call 116;with_reducible refine cl (spec_l4Place.M _ _ l c _ (cb HR0 B)) B fun w5 hb B=>?_;replace RL10:=rn RL10 hb;clear hb;(obtain ⟨ad,hA,y0,y1⟩:=at_T105 (cb HR0 B) ((atP l c : Nat) : Int) (Int.natCast_nonneg _) (Int.ofNat_lt.mpr hlt);cases hA;rw [Int.toNat_natCast] at y0 y1))
    | ((with_reducible refine gate_builtin (b:=.append) (xs:=#[.tmp 41,.tmp 42]) rfl ?_);at_builtin;refine apx k105 105 rfl (.tmp 41) (.tmp 42) 35 (.agg #[.string (⟨#[]⟩ : ByteArray),.int .i64 (0)]) 24 rfl Try.underlying35 info105 rfl (by decide) (by omega) rfl rfl RL10 (cb HR0 B) (fun x cs h=>by rw [k105_open h];exact k105_mkM _ _ _ x) (by rw [← hz10];simp only [List.length_append,List.length_nil,List.length_cons,List.length_take,List.length_drop];omega) B ?_;intro z43 hz43 AL43 kL43 w6 hg B RL43 hat;clear hg hat;(obtain ⟨g0,hA0,hg0⟩:=rform RL43 (by rw [← hz43,← hz10,List.nil_append];omega);subst hA0;have HLT : atP l c < z43.length:=(by rw [← hz43,← hz10,List.nil_append];exact hlt);obtain ⟨cs,hcl,hMM,hcc,hfz⟩:=rcells z105 RL43 (atP l c) HLT;have hsz : k105.sz=2:=rfl;obtain ⟨u0,hu0⟩ : ∃ u,cs[1]?=some u:=⟨_,List.getElem?_eq_getElem (by rw [hcl];decide)⟩;have q0:=hcc 1 u0 hu0;have q1:=hfz 1;rw [hsz] at q0 q1;have j3:=eq_true (show ((atP l c : Nat) : Int) < (z43.length : Int) by omega);have j4:=eq_true HLT))
    | ((with_reducible refine gate_store (t:=3) (p:=48) rfl ?_);refine es (t:=3) (p:=48) (v:=?vo7) ?hg ?ho ?hn (atP l c) 1 [.int .i64 (v)] ⟨(z43.getD (atP l c) z105).f0,v⟩ ?hr RL43 HLT hcl hcc (Nat.le_of_ble_eq_true rfl) (by rw [k105_openM hMM];exact k105_mkM _ _ _ _) B hg0 ?_;(case ho | hg | hn=>rfl);(case hr=>go_simp;first | done | rfl);intro w7 hgr B RL43;clear hgr))
   go_ret2;have hZ : z43.set (atP l c) ⟨(z43.getD (atP l c) z105).f0,v⟩=(l.take (atP l c) ++ [⟨c,v⟩]) ++ l.drop (atP l c + 1):=(by rw [← hz43,← hz10,List.nil_append,show (l.getD (atP l c) z105).f0=c from hf0,List.set_eq_take_append_cons_drop,if_pos hlt];simp);exact ⟨_,by rw [hM];rfl,by rw [hM,← hZ];exact RL43.out,B.out⟩
  | false =>
   by_cases h8 : 48≤l.length
   ·have d8 : decide ((48 : Int)≤(l.length : Int))=true:=decide_eq_true (by omega)
    have d9:=eq_true h8
    clear hif hsz0 hc0
    have hM : putM l c v=(l,false):=by rw [hu0,if_neg (by rw [hh];simp),if_pos h8]
    by_cases hlt : atP l c < l.length
    ·skip
     have hf:=hit_false hh hlt
     have j1:=eq_true (show ((atP l c : Nat) : Int) < (l.length : Int) by omega)
     have j2:=eq_true hlt
     have hlt2 : decide (((atP l c : Nat) : Int) < (l.length : Int))=true:=decide_eq_true (by omega)
     go_enter Try.func88,Try.ntmps88
     go_wp2_with (first
      | ((with_reducible refine gate_dst (N:=10) rfl ?_);refine lt k105 105 ?hg (N:=10) ?hd ([] : List S105) [] ?hr (Reps.none _ _) (by simp) B ?_;(case hd | hg=>rfl);(case hr=>go_simp;first | done | rfl);intro z10 hz10 AL10 kL10 w1 hb B RL10 QL10;clear hb QL10)
      | (go_at_call 81;with_reducible refine cl (spec_PairsValid.M _ _ l _ (cb HR0 B)) B fun w2 hb B=>?_;replace RL10:=rn RL10 hb;clear hb)
      | (go_at_call 85;with_reducible refine cl (spec_KeyValid.M c _) B fun w3 hb B=>?_;replace RL10:=rn RL10 hb;clear hb)
      | (go_at_call 83;with_reducible refine cl (spec_l1In.M v 0 999 _) B fun w4 hb B=>?_;replace RL10:=rn RL10 hb;clear hb)
      | (go_at_call 116;with_reducible refine cl (spec_l4Place.M _ _ l c _ (cb HR0 B)) B fun w5 hb B=>?_;replace RL10:=rn RL10 hb;clear hb;(obtain ⟨ad,hA,y0,y1⟩:=at_T105 (cb HR0 B) ((atP l c : Nat) : Int) (Int.natCast_nonneg _) (Int.ofNat_lt.mpr hlt);cases hA;rw [Int.toNat_natCast] at y0 y1))
      | ((with_reducible refine gate_builtin (b:=.append) (xs:=#[.tmp 53,.tmp 54]) rfl ?_);at_builtin;refine apx k105 105 rfl (.tmp 53) (.tmp 54) 35 (.agg #[.string (⟨#[]⟩ : ByteArray),.int .i64 (0)]) 24 rfl Try.underlying35 info105 rfl (by decide) (by omega) rfl rfl RL10 (cb HR0 B) (fun x cs h=>by rw [k105_open h];exact k105_mkM _ _ _ x) (by rw [← hz10];simp only [List.length_append,List.length_nil,List.length_cons,List.length_take,List.length_drop];omega) B ?_;intro z55 hz55 AL55 kL55 w6 hg B RL55 hat;clear hg hat))
     go_ret2;have hZ : z55=l:=(by rw [← hz55,← hz10];try simp);exact ⟨_,by rw [hM];rfl,by rw [hM,← hZ];exact RL55.out,B.out⟩
    ·skip
     have hlt2 : decide (((atP l c : Nat) : Int) < (l.length : Int))=false:=decide_eq_false (by omega)
     go_enter Try.func88,Try.ntmps88
     go_wp2_with (first
      | ((with_reducible refine gate_dst (N:=10) rfl ?_);refine lt k105 105 ?hg (N:=10) ?hd ([] : List S105) [] ?hr (Reps.none _ _) (by simp) B ?_;(case hd | hg=>rfl);(case hr=>go_simp;first | done | rfl);intro z10 hz10 AL10 kL10 w1 hb B RL10 QL10;clear hb QL10)
      | (go_at_call 81;with_reducible refine cl (spec_PairsValid.M _ _ l _ (cb HR0 B)) B fun w2 hb B=>?_;replace RL10:=rn RL10 hb;clear hb)
      | (go_at_call 85;with_reducible refine cl (spec_KeyValid.M c _) B fun w3 hb B=>?_;replace RL10:=rn RL10 hb;clear hb)
      | (go_at_call 83;with_reducible refine cl (spec_l1In.M v 0 999 _) B fun w4 hb B=>?_;replace RL10:=rn RL10 hb;clear hb)
      | (go_at_call 116;with_reducible refine cl (spec_l4Place.M _ _ l c _ (cb HR0 B)) B fun w5 hb B=>?_;replace RL10:=rn RL10 hb;clear hb)
      | ((with_reducible refine gate_builtin (b:=.append) (xs:=#[.tmp 53,.tmp 54]) rfl ?_);at_builtin;refine apx k105 105 rfl (.tmp 53) (.tmp 54) 35 (.agg #[.string (⟨#[]⟩ : ByteArray),.int .i64 (0)]) 24 rfl Try.underlying35 info105 rfl (by decide) (by omega) rfl rfl RL10 (cb HR0 B) (fun x cs h=>by rw [k105_open h];exact k105_mkM _ _ _ x) (by rw [← hz10];simp only [List.length_append,List.length_nil,List.length_cons,List.length_take,List.length_drop];omega) B ?_;intro z55 hz55 AL55 kL55 w6 hg B RL55 hat;clear hg hat))
     go_ret2;have hZ : z55=l:=(by rw [← hz55,← hz10];try simp);exact ⟨_,by rw [hM];rfl,by rw [hM,← hZ];exact RL55.out,B.out⟩
   ·have d8 : decide ((48 : Int)≤(l.length : Int))=false:=decide_eq_false (by omega)
    have d9:=eq_false h8
    have hcut1:=cut_to (P:=Try.prog) 35 105 .i64 Try.underlying35 hif A0 l.length c0 ((atP l c : Nat) : Int) (by omega) (by omega) hc0
    rw [Int.toNat_natCast] at hcut1
    have C1:=Aside0.mk (fun {W : World} (h : Kd.C k105 W A0 l.length l)=>show Kd.C k105 W A0 (atP l c) (l.take (atP l c)) from by
     have:=Kd.C_take h (m:=atP l c) (by omega)
     rwa [List.length_take,Nat.min_eq_left (by omega)] at this)
    have hcut2:=cut_from (P:=Try.prog) 35 105 .i64 Try.underlying35 hif 2 hsz0 A0 l.length c0 (((atP l c : Nat) : Int)) (by omega) (by omega)
    rw [show (((atP l c : Nat) : Int)).toNat=atP l c by omega] at hcut2
    obtain ⟨A2,hA2⟩ : ∃ A2,A2=(if c0=atP l c then A0 else A0.map (·.add ((atP l c) * 2))):=⟨_,rfl⟩
    rw [← hA2] at hcut2
    have C2:=Aside0.mk (fun {W : World} (h : Kd.C k105 W A0 l.length l)=>show Kd.C k105 W A2 (l.length - (atP l c)) (l.drop (atP l c)) from by
     have:=Kd.C_drop h (m:=atP l c) (c:=c0) (by omega) hc0
     rw [List.length_drop] at this
     rw [hA2]
     exact this)
    clear hA2
    clear hif hsz0 hc0
    have hM : putM l c v=((l.take (atP l c) ++ [⟨c,v⟩]) ++ l.drop (atP l c),true):=by rw [hu0,if_neg (by rw [hh];simp),if_neg h8]
    by_cases hlt : atP l c < l.length
    ·skip
     have hf:=hit_false hh hlt
     have j1:=eq_true (show ((atP l c : Nat) : Int) < (l.length : Int) by omega)
     have j2:=eq_true hlt
     have hlt2 : decide (((atP l c : Nat) : Int) < (l.length : Int))=true:=decide_eq_true (by omega)
     go_enter Try.func88,Try.ntmps88
     go_wp2_with (first
      | ((with_reducible refine gate_dst (N:=10) rfl ?_);refine lt k105 105 ?hg (N:=10) ?hd ([] : List S105) [] ?hr (Reps.none _ _) (by simp) B ?_;(case hd | hg=>rfl);(case hr=>go_simp;first | done | rfl);intro z10 hz10 AL10 kL10 w1 hb B RL10 QL10;clear hb QL10)
      | (go_at_call 81;with_reducible refine cl (spec_PairsValid.M _ _ l _ (cb HR0 B)) B fun w2 hb B=>?_;replace RL10:=rn RL10 hb;clear hb)
      | (go_at_call 85;with_reducible refine cl (spec_KeyValid.M c _) B fun w3 hb B=>?_;replace RL10:=rn RL10 hb;clear hb)
      | (go_at_call 83;with_reducible refine cl (spec_l1In.M v 0 999 _) B fun w4 hb B=>?_;replace RL10:=rn RL10 hb;clear hb)
      | (go_at_call 116;with_reducible refine cl (spec_l4Place.M _ _ l c _ (cb HR0 B)) B fun w5 hb B=>?_;replace RL10:=rn RL10 hb;clear hb;(obtain ⟨ad,hA,y0,y1⟩:=at_T105 (cb HR0 B) ((atP l c : Nat) : Int) (Int.natCast_nonneg _) (Int.ofNat_lt.mpr hlt);cases hA;rw [Int.toNat_natCast] at y0 y1))
      | ((with_reducible refine gate_builtin (b:=.append) (xs:=#[.tmp 56,.tmp 59]) rfl ?_);at_builtin;refine apx k105 105 rfl (.tmp 56) (.tmp 59) 35 (.agg #[.string (⟨#[]⟩ : ByteArray),.int .i64 (0)]) 24 rfl Try.underlying35 info105 rfl (by decide) (by omega) rfl rfl RL10 (C1.out (cb HR0 B)) (fun x cs h=>by rw [k105_open h];exact k105_mkM _ _ _ x) (by rw [← hz10];simp only [List.length_append,List.length_nil,List.length_cons,List.length_take,List.length_drop];omega) B ?_;intro z60 hz60 AL60 kL60 w6 hg B RL60 hat;clear hg hat)
      | ((with_reducible refine gate_dst (N:=65) rfl ?_);refine lt k105 105 ?hg (N:=65) ?hd ([⟨c,v⟩] : List S105) [.string c,.int .i64 (v)] ?hr (Reps.c2 (k105_mkM _ _ _ ⟨c,v⟩) (Reps.none _ _)) (by simp) B ?_;(case hd | hg=>rfl);(case hr=>go_simp;first | done | rfl);intro z65 hz65 AL65 kL65 w7 hb B RL65 QL65;replace RL60:=rn RL60 hb;clear hb QL65)
      | ((with_reducible refine gate_builtin (b:=.append) (xs:=#[.tmp 61,.tmp 65]) rfl ?_);at_builtin;refine apx k105 105 rfl (.tmp 61) (.tmp 65) 35 (.agg #[.string (⟨#[]⟩ : ByteArray),.int .i64 (0)]) 24 rfl Try.underlying35 info105 rfl (by decide) (by omega) rfl rfl RL60 (rc RL65) (fun x cs h=>by rw [k105_open h];exact k105_mkM _ _ _ x) (by rw [← hz65,← hz60,← hz10];simp only [List.length_append,List.length_nil,List.length_cons,List.length_take,List.length_drop];omega) B ?_;intro z66 hz66 AL66 kL66 w8 hg B RL66 hat;clear hg hat)
      | ((with_reducible refine gate_builtin (b:=.append) (xs:=#[.tmp 67,.tmp 70]) rfl ?_);at_builtin;refine apx k105 105 rfl (.tmp 67) (.tmp 70) 35 (.agg #[.string (⟨#[]⟩ : ByteArray),.int .i64 (0)]) 24 rfl Try.underlying35 info105 rfl (by decide) (by omega) rfl rfl RL66 (C2.out (cb HR0 B)) (fun x cs h=>by rw [k105_open h];exact k105_mkM _ _ _ x) (by rw [← hz66,← hz65,← hz60,← hz10];simp only [List.length_append,List.length_nil,List.length_cons,List.length_take,List.length_drop];omega) B ?_;intro z71 hz71 AL71 kL71 w9 hg B RL71 hat;clear hg hat))
     go_ret2;have hZ : z71=(l.take (atP l c) ++ [⟨c,v⟩]) ++ l.drop (atP l c):=(by rw [← hz71,← hz66,← hz65,← hz60,← hz10];try simp);exact ⟨_,by rw [hM];rfl,by rw [hM,← hZ];exact RL71.out,B.out⟩
    ·skip
     have hlt2 : decide (((atP l c : Nat) : Int) < (l.length : Int))=false:=decide_eq_false (by omega)
     go_enter Try.func88,Try.ntmps88
     go_wp2_with (first
      | ((with_reducible refine gate_dst (N:=10) rfl ?_);refine lt k105 105 ?hg (N:=10) ?hd ([] : List S105) [] ?hr (Reps.none _ _) (by simp) B ?_;(case hd | hg=>rfl);(case hr=>go_simp;first | done | rfl);intro z10 hz10 AL10 kL10 w1 hb B RL10 QL10;clear hb QL10)
      | (go_at_call 81;with_reducible refine cl (spec_PairsValid.M _ _ l _ (cb HR0 B)) B fun w2 hb B=>?_;replace RL10:=rn RL10 hb;clear hb)
      | (go_at_call 85;with_reducible refine cl (spec_KeyValid.M c _) B fun w3 hb B=>?_;replace RL10:=rn RL10 hb;clear hb)
      | (go_at_call 83;with_reducible refine cl (spec_l1In.M v 0 999 _) B fun w4 hb B=>?_;replace RL10:=rn RL10 hb;clear hb)
      | (go_at_call 116;with_reducible refine cl (spec_l4Place.M _ _ l c _ (cb HR0 B)) B fun w5 hb B=>?_;replace RL10:=rn RL10 hb;clear hb)
      | ((with_reducible refine gate_builtin (b:=.append) (xs:=#[.tmp 56,.tmp 59]) rfl ?_);at_builtin;refine apx k105 105 rfl (.tmp 56) (.tmp 59) 35 (.agg #[.string (⟨#[]⟩ : ByteArray),.int .i64 (0)]) 24 rfl Try.underlying35 info105 rfl (by decide) (by omega) rfl rfl RL10 (C1.out (cb HR0 B)) (fun x cs h=>by rw [k105_open h];exact k105_mkM _ _ _ x) (by rw [← hz10];simp only [List.length_append,List.length_nil,List.length_cons,List.length_take,List.length_drop];omega) B ?_;intro z60 hz60 AL60 kL60 w6 hg B RL60 hat;clear hg hat)
      | ((with_reducible refine gate_dst (N:=65) rfl ?_);refine lt k105 105 ?hg (N:=65) ?hd ([⟨c,v⟩] : List S105) [.string c,.int .i64 (v)] ?hr (Reps.c2 (k105_mkM _ _ _ ⟨c,v⟩) (Reps.none _ _)) (by simp) B ?_;(case hd | hg=>rfl);(case hr=>go_simp;first | done | rfl);intro z65 hz65 AL65 kL65 w7 hb B RL65 QL65;replace RL60:=rn RL60 hb;clear hb QL65)
      | ((with_reducible refine gate_builtin (b:=.append) (xs:=#[.tmp 61,.tmp 65]) rfl ?_);at_builtin;refine apx k105 105 rfl (.tmp 61) (.tmp 65) 35 (.agg #[.string (⟨#[]⟩ : ByteArray),.int .i64 (0)]) 24 rfl Try.underlying35 info105 rfl (by decide) (by omega) rfl rfl RL60 (rc RL65) (fun x cs h=>by rw [k105_open h];exact k105_mkM _ _ _ x) (by rw [← hz65,← hz60,← hz10];simp only [List.length_append,List.length_nil,List.length_cons,List.length_take,List.length_drop];omega) B ?_;intro z66 hz66 AL66 kL66 w8 hg B RL66 hat;clear hg hat)
      | ((with_reducible refine gate_builtin (b:=.append) (xs:=#[.tmp 67,.tmp 70]) rfl ?_);at_builtin;refine apx k105 105 rfl (.tmp 67) (.tmp 70) 35 (.agg #[.string (⟨#[]⟩ : ByteArray),.int .i64 (0)]) 24 rfl Try.underlying35 info105 rfl (by decide) (by omega) rfl rfl RL66 (C2.out (cb HR0 B)) (fun x cs h=>by rw [k105_open h];exact k105_mkM _ _ _ x) (by rw [← hz66,← hz65,← hz60,← hz10];simp only [List.length_append,List.length_nil,List.length_cons,List.length_take,List.length_drop];omega) B ?_;intro z71 hz71 AL71 kL71 w9 hg B RL71 hat;clear hg hat))
     go_ret2;have hZ : z71=(l.take (atP l c) ++ [⟨c,v⟩]) ++ l.drop (atP l c):=(by rw [← hz71,← hz66,← hz65,← hz60,← hz10];try simp);exact ⟨_,by rw [hM];rfl,by rw [hM,← hZ];exact RL71.out,B.out⟩
 ·have hM : putM l c v=([],false):=if_neg hvv
  have hvn : prB l=false ∨ keyB c=false ∨ l1B v 0 999=false:=by grind
  clear hif hsz0 hc0
  go_enter Try.func88,Try.ntmps88
  go_wp2_with (first
   | ((with_reducible refine gate_dst (N:=10) rfl ?_);refine lt k105 105 ?hg (N:=10) ?hd ([] : List S105) [] ?hr (Reps.none _ _) (by simp) B ?_;(case hd | hg=>rfl);(case hr=>go_simp;first | done | rfl);intro z10 hz10 AL10 kL10 w1 hb B RL10 QL10;clear hb QL10)
   | (go_at_call 81;with_reducible refine cl (spec_PairsValid.M _ _ l _ (cb HR0 B)) B fun w2 hb B=>?_;replace RL10:=rn RL10 hb;clear hb)
   | (go_at_call 85;with_reducible refine cl (spec_KeyValid.M c _) B fun w3 hb B=>?_;replace RL10:=rn RL10 hb;clear hb)
   | (go_at_call 83;with_reducible refine cl (spec_l1In.M v 0 999 _) B fun w4 hb B=>?_;replace RL10:=rn RL10 hb;clear hb))
  all_goals first
   | (go_ret2;have hZ : z10=[]:=(by rw [← hz10];try simp);exact ⟨_,by rw [hM];rfl,by rw [hM,← hZ];exact RL10.out,B.out⟩)
   | (exfalso;grind)

theorem spec_ApplyCommand.M (A0 : Option Addr) (c0 : Nat) (l : List S105) (k : Int) (x : ByteArray) (v o : Int) (w : World) (hr0 : Kd.C k105 w A0 l.length l) (hc0 : l.length≤c0) : Calls Try.prog 43 #[.slice A0 l.length c0,.agg #[.int .i64 k,.string x,.int .i64 v,.int .i64 o]] w fun e w'=>∃ v0,e=.returned (.tuple #[v0,.int .i64 (apM l k x v o).2])∧Kd.R k105 105 w' w.heap.size (fun _=>True) v0 (apM l k x v o).1∧Below w.heap.size w w':=by
 have B:=Aside0.mk (Below.refl w.heap.size w)
 have hu:=Try.underlying42
 have HR0:=Aside0.mk hr0
 have HC0:=Aside0.mk hc0
 have L63:=Aside0.mk hr0.2.1
 clear hr0 hc0
 obtain ⟨r,hr⟩ : ∃ r,apM l k x v o=r:=⟨_,rfl⟩
 rw [hr]
 go_enter Try.func43,Try.ntmps43
 go_wp2_with (first
  | ((with_reducible refine gate_dst (N:=3) rfl ?_);refine bxq 3 #[.int .i64 (k),.string x,.int .i64 (v),.int .i64 (o)] 42 B fun g3 w1 hb B F3 L3 E3=>?_;obtain ⟨c3_0,c3_1,c3_2,c3_3⟩:=cs4 F3;clear hb E3)
  | (go_at_call 81;with_reducible refine cl (spec_PairsValid.M _ _ l _ (cb HR0 B)) B fun w2 hb B=>?_;replace F3:=bn F3 hb;clear c3_0 c3_1 c3_2 c3_3;obtain ⟨c3_0,c3_1,c3_2,c3_3⟩:=cs4 F3;clear hb)
  | (go_at_call 84;with_reducible refine cl (spec_CommandValid.M k x v o _) B fun w3 hb B=>?_;replace F3:=bn F3 hb;clear c3_0 c3_1 c3_2 c3_3;obtain ⟨c3_0,c3_1,c3_2,c3_3⟩:=cs4 F3;clear hb)
  | ((with_reducible refine gate_dst (N:=26) rfl ?_);refine lt k105 105 ?hg (N:=26) ?hd ([] : List S105) [] ?hr (Reps.none _ _) (by simp) B ?_;(case hd | hg=>rfl);(case hr=>go_simp;first | done | rfl);intro z26 hz26 AL26 kL26 w4 hb B RL26 QL26;replace F3:=bn F3 hb;clear c3_0 c3_1 c3_2 c3_3;obtain ⟨c3_0,c3_1,c3_2,c3_3⟩:=cs4 F3;clear hb QL26)
  | ((with_reducible refine gate_builtin (b:=.append) (xs:=#[.tmp 26,.tmp 27]) rfl ?_);at_builtin;refine apx k105 105 rfl (.tmp 26) (.tmp 27) 35 (.agg #[.string (⟨#[]⟩ : ByteArray),.int .i64 (0)]) 24 rfl Try.underlying35 info105 rfl (by decide) (by omega) rfl rfl RL26 (cb HR0 B) (fun x cs h=>by rw [k105_open h];exact k105_mkM _ _ _ x) (by have:=prB_len (by assumption);rw [← hz26];simp only [List.length_append,List.length_nil];omega) B ?_;intro z28 hz28 AL28 kL28 w5 hg B RL28 hat;replace F3:=bga F3 hg RL26 (by decide);clear c3_0 c3_1 c3_2 c3_3;obtain ⟨c3_0,c3_1,c3_2,c3_3⟩:=cs4 F3;clear hg hat)
  | (go_at_call 86;with_reducible refine cl (spec_PairGet.M _ _ l x _ (cb HR0 B) HC0.out) B fun w6 hb B=>?_;replace F3:=bn F3 hb;replace RL28:=rn RL28 hb;clear c3_0 c3_1 c3_2 c3_3;obtain ⟨c3_0,c3_1,c3_2,c3_3⟩:=cs4 F3;clear hb)
  | ((with_reducible refine gate_dst (N:=25) rfl ?_);refine lt k105 105 ?hg (N:=25) ?hd ([] : List S105) [] ?hr (Reps.none _ _) (by simp) B ?_;(case hd | hg=>rfl);(case hr=>go_simp;first | done | rfl);intro z25 hz25 AL25 kL25 w4 hb B RL25 QL25;replace F3:=bn F3 hb;clear hb QL25)
  | (go_at_call 87;with_reducible refine crz (spec_PairDrop.M _ _ l x _ (cb HR0 B) HC0.out) B fun zC7 hzC7 AC7 kC7 w7 hb B RC7 QC7=>?_;replace F3:=bn F3 hb;replace RL28:=rn RL28 hb;clear QC7;clear hb)
  | (go_at_call 88;with_reducible refine crz (spec_PairPut.M _ _ l x v _ (cb HR0 B) HC0.out) B fun zC7 hzC7 AC7 kC7 w7 hb B RC7 QC7=>?_;replace F3:=bn F3 hb;replace RL28:=rn RL28 hb;clear QC7;clear hb))
 all_goals first
  | (refine useEq (a:=r) (b:=([],-3)) ?_ (fun hM=>?_);(rw [← hr];unfold apM;grind);subst hM;subst hz25;go_ret2;exact ⟨_,rfl,RL25.out,B.out⟩)
  | (refine useEq (a:=r) (b:=((dropM l x).1,getM l x)) ?_ (fun hM=>?_);(rw [← hr];unfold apM;(try have hgb:=getM_bound l x);grind);subst hM;subst hzC7;go_ret2;exact ⟨_,rfl,RC7.out,B.out⟩)
  | (refine useEq (a:=r) (b:=((dropM l x).1,-1)) ?_ (fun hM=>?_);(rw [← hr];unfold apM;(try have hgb:=getM_bound l x);grind);subst hM;subst hzC7;go_ret2;exact ⟨_,rfl,RC7.out,B.out⟩)
  | (refine useEq (a:=r) (b:=((putM l x v).1,getM l x)) ?_ (fun hM=>?_);(rw [← hr];unfold apM;(try have hgb:=getM_bound l x);grind);subst hM;subst hzC7;go_ret2;exact ⟨_,rfl,RC7.out,B.out⟩)
  | (refine useEq (a:=r) (b:=((putM l x v).1,-1)) ?_ (fun hM=>?_);(rw [← hr];unfold apM;(try have hgb:=getM_bound l x);grind);subst hM;subst hzC7;go_ret2;exact ⟨_,rfl,RC7.out,B.out⟩)
  | (refine useEq (a:=z28) (b:=l) (by rw [← hz28,← hz26,List.nil_append]) (fun hZ=>?_);refine useEq (a:=r) (b:=(l,getM l x)) ?_ (fun hM=>?_);(rw [← hr];unfold apM;(try have hgb:=getM_bound l x);grind);subst hM;subst hZ;go_ret2;exact ⟨_,rfl,RL28.out,B.out⟩)
  | (refine useEq (a:=z28) (b:=l) (by rw [← hz28,← hz26,List.nil_append]) (fun hZ=>?_);refine useEq (a:=r) (b:=(l,-1)) ?_ (fun hM=>?_);(rw [← hr];unfold apM;(try have hgb:=getM_bound l x);grind);subst hM;subst hZ;go_ret2;exact ⟨_,rfl,RL28.out,B.out⟩)
  | (refine useEq (a:=z28) (b:=l) (by rw [← hz28,← hz26,List.nil_append]) (fun hZ=>?_);refine useEq (a:=r) (b:=(l,-2)) ?_ (fun hM=>?_);(rw [← hr];unfold apM;(try have hgb:=getM_bound l x);grind);subst hM;subst hZ;go_ret2;exact ⟨_,rfl,RL28.out,B.out⟩)

def cmpI (x y : Int) : Int:=if x < y then -1 else if x > y then 1 else 0
theorem cmp_isNaN.calls (x : Int) (w : World) : Calls Try.prog 117 #[.int .i64 x] w fun e w'=>e=.returned (.bool false)∧Below w.heap.size w w':=by
 go_enter Try.func117,Try.ntmps117
 go_wp2
 go_ret
 exact ⟨by simp,Below.refl _ _⟩
theorem cmp_Compare.calls (x y : Int) (w : World) : Calls Try.prog 96 #[.int .i64 x,.int .i64 y] w fun e w'=>e=.returned (.int .i64 (cmpI x y))∧Below w.heap.size w w':=by
 unfold cmpI
 by_cases h1 : x < y
 ·have d1 : decide (x < y)=true:=decide_eq_true h1
  rw [if_pos h1]
  clear h1
  go_enter Try.func96,Try.ntmps96
  go_wp2_with (first
   | (go_at_call 117;(with_reducible refine (cmp_isNaN.calls x w).mono ?_);rintro e w1 ⟨rfl,hb⟩;have B1:=Aside0.mk hb;clear hb)
   | (go_at_call 117;(with_reducible refine (cmp_isNaN.calls y w1).mono ?_);rintro e w2 ⟨rfl,hb⟩;have B2:=Aside0.mk (below_step B1.out hb);clear hb))
  go_ret
  exact ⟨rfl,B2.out⟩
 ·have d1 : decide (x < y)=false:=decide_eq_false h1
  rw [if_neg h1]
  by_cases h2 : x > y
  ·have d2 : decide (x > y)=true:=decide_eq_true h2
   rw [if_pos h2]
   clear h1 h2
   go_enter Try.func96,Try.ntmps96
   go_wp2_with (first
    | (go_at_call 117;(with_reducible refine (cmp_isNaN.calls x w).mono ?_);rintro e w1 ⟨rfl,hb⟩;have B1:=Aside0.mk hb;clear hb)
    | (go_at_call 117;(with_reducible refine (cmp_isNaN.calls y w1).mono ?_);rintro e w2 ⟨rfl,hb⟩;have B2:=Aside0.mk (below_step B1.out hb);clear hb))
   go_ret
   exact ⟨rfl,B2.out⟩
  ·have d2 : decide (x > y)=false:=decide_eq_false h2
   rw [if_neg h2]
   clear h1 h2
   go_enter Try.func96,Try.ntmps96
   go_wp2_with (first
    | (go_at_call 117;(with_reducible refine (cmp_isNaN.calls x w).mono ?_);rintro e w1 ⟨rfl,hb⟩;have B1:=Aside0.mk hb;clear hb)
    | (go_at_call 117;(with_reducible refine (cmp_isNaN.calls y w1).mono ?_);rintro e w2 ⟨rfl,hb⟩;have B2:=Aside0.mk (below_step B1.out hb);clear hb))
   go_ret
   exact ⟨rfl,B2.out⟩
theorem impl_sessionPlace1.calls (s : S76) (c : Int) (w : World) : Calls Try.prog 95 #[.agg #[.int .i64 s.f0,.int .i64 s.f1,.int .i64 s.f2],.int .i64 c] w fun e w'=>e=.returned (.int .i64 (cmpI s.f0 c))∧Below w.heap.size w w':=by
 have hu:=Try.underlying76
 go_enter Try.func95,Try.ntmps95
 go_wp2_with (first
  | ((with_reducible refine gate_dst (N:=2) rfl ?_);refine box_event ?hg (N:=2) ?hd (cs:=#[.int .i64 s.f0,.int .i64 s.f1,.int .i64 s.f2]) (t:=76) ?hr ?_;(case hd=>rfl);(case hg=>rfl);(case hr=>first | (go_simp;done) | (go_simp;rfl));intro g hg w1 hc hb;have B1:=Aside0.mk hb;have c0 : w1.cell? ⟨g,0,none⟩=some (.int .i64 s.f0):=(blk_cell hc 0).trans rfl;clear hc hb hg)
  | (go_at_call 96;(with_reducible refine (cmp_Compare.calls s.f0 c w1).mono ?_);rintro e w2 ⟨rfl,hb⟩;have B2:=Aside0.mk (below_step B1.out hb);clear hb))
 go_ret
 exact ⟨rfl,B2.out⟩
theorem cmpI_neg (x c : Int) : decide (cmpI x c < 0)=decide (x < c):=by
 unfold cmpI
 by_cases h : x < c
 ·simp [h]
 ·by_cases h2 : x > c <;> simp [h,h2]
theorem cmpI_zero (x c : Int) : (cmpI x c == 0)=decide (x=c):=by
 unfold cmpI
 by_cases h : x < c
 ·rw [if_pos h,decide_eq_false (by omega)]
  rfl
 ·by_cases h2 : x > c
  ·rw [if_neg h,if_pos h2,decide_eq_false (by omega)]
   rfl
  ·rw [if_neg h,if_neg h2,decide_eq_true (by omega)]
   rfl
theorem slices_BinarySearchFunc.calls (A0 : Option Addr) (c0 : Nat) (l : List S76) (c : Int) (w : World) (hr0 : Kd.C k76 w A0 l.length l) (hc0 : l.length≤c0) (hsz : l.length < 4611686018427387904) :
  Calls Try.prog 94 #[.slice A0 l.length c0,.int .i64 c,.func (.func 95) #[] #[]] w fun e w' =>
   e=.returned (.tuple #[.int .i64 ((placeOf l c l.length 0 l.length : Nat) : Int),.bool (hitOf l c)])∧Below w.heap.size w w':=by
 have HR0:=Aside0.mk hr0
 clear hr0
 have hu:=Try.underlying76
 generalize hR : placeOf l c l.length 0 l.length=R
 have HT:=Aside0.mk (show hitOf l c=(decide (R < l.length) && decide ((rd_T76 l ((R : Nat) : Int)).f0=c)) by unfold hitOf;rw [hR])
 have PR:=Aside0.mk hR
 clear hR
 go_enter Try.func94,Try.ntmps94
 go_wp2
 go_loopg [9,10] l.length (fun kx s9 s10 wr=>∃ lo hi : Nat,s9=.int .i64 lo∧s10=.int .i64 hi∧lo≤hi∧hi≤l.length∧hi - lo≤kx∧Aside0 (Below w.heap.size w wr)∧Aside0 (placeOf l c kx lo hi=R))
 case atStart=>exact ⟨0,l.length,rfl,rfl,Nat.zero_le _,Nat.le_refl _,by omega,⟨Below.refl _ _⟩,PR⟩
 case round =>
  clear PR
  obtain ⟨lo,hi,rfl,rfl,hlh,hin,hg,BW,PW⟩:=hrel
  by_cases hlt : lo < hi
  ·obtain ⟨d,rfl⟩ : ∃ d,gk=d + 1:=⟨gk - 1,by omega⟩
   have hp:=PW.out
   simp only [placeOf] at hp
   rw [if_pos hlt] at hp
   obtain ⟨ad,hA,x0,x1,x2⟩:=at_T76 (Kd.C_below HR0.out BW.out) (((lo + hi) / 2 : Nat) : Int) (by omega) (by omega)
   subst hA
   generalize hy : rd_T76 l (((lo + hi) / 2 : Nat) : Int)=y at x0 x1 x2 hp
   rw [Int.toNat_natCast] at x0 x1 x2
   clear hy
   by_cases hyx : y.f0 < c
   ·rw [if_pos hyx] at hp
    have P2:=Aside0.mk hp
    have dc : decide (cmpI y.f0 c < 0)=true:=(cmpI_neg _ _).trans (decide_eq_true hyx)
    clear PW hp hyx
    go_wp2_with (go_at_call 95;(with_reducible refine (impl_sessionPlace1.calls y c wr).mono ?_);rintro e w1 ⟨rfl,hb⟩;have B1:=Aside0.mk (below_step BW.out hb);clear hb)
    go_roundg d
    case measure=>omega
    case rel=>exact ⟨(lo + hi) / 2 + 1,hi,by rw [show ((lo : Int) + (hi : Int)) / 2 + 1=(((lo + hi) / 2 + 1 : Nat) : Int) by omega],rfl,by omega,hin,by omega,B1,P2⟩
   ·rw [if_neg hyx] at hp
    have P2:=Aside0.mk hp
    have dc : decide (cmpI y.f0 c < 0)=false:=(cmpI_neg _ _).trans (decide_eq_false hyx)
    clear PW hp hyx
    go_wp2_with (go_at_call 95;(with_reducible refine (impl_sessionPlace1.calls y c wr).mono ?_);rintro e w1 ⟨rfl,hb⟩;have B1:=Aside0.mk (below_step BW.out hb);clear hb)
    go_roundg d
    case measure=>omega
    case rel=>exact ⟨lo,(lo + hi) / 2,rfl,by rw [show ((lo : Int) + (hi : Int)) / 2=(((lo + hi) / 2 : Nat) : Int) by omega],by omega,by omega,by omega,B1,P2⟩
  ·obtain rfl : R=lo:=by
    rw [← PW.out]
    cases gk with
    | zero=>rfl
    | succ d=>simp only [placeOf];rw [if_neg hlt]
   by_cases hn : R < l.length
   ·obtain ⟨ad,hA,x0,x1,x2⟩:=at_T76 (Kd.C_below HR0.out BW.out) (R : Int) (by omega) (by omega)
    subst hA
    generalize hy : rd_T76 l (R : Int)=y at x0 x1 x2 HT
    rw [Int.toNat_natCast] at x0 x1 x2
    clear hy PW
    go_wp2_with (go_at_call 95;(with_reducible refine (impl_sessionPlace1.calls y c wr).mono ?_);rintro e w1 ⟨rfl,hb⟩;have B1:=Aside0.mk (below_step BW.out hb);clear hb)
    go_ret2
    refine ⟨?_,B1.out⟩
    rw [HT.out,decide_eq_true hn,← cmpI_zero]
    rfl
   ·clear PW
    go_wp2
    go_ret2
    refine ⟨?_,BW.out⟩
    rw [HT.out,decide_eq_false hn]
    rfl
theorem impl_sessionPlace.calls (A0 : Option Addr) (c0 : Nat) (l : List S76) (c : Int) (w : World) (hr0 : Kd.C k76 w A0 l.length l) (hc0 : l.length≤c0) (hsz : l.length < 4611686018427387904) :
  Calls Try.prog 50 #[.slice A0 l.length c0,.int .i64 c] w fun e w'=>e=.returned (.tuple #[.int .i64 ((placeOf l c l.length 0 l.length : Nat) : Int),.bool (hitOf l c)])∧Below w.heap.size w w':=by
 have h:=slices_BinarySearchFunc.calls A0 c0 l c w hr0 hc0 hsz
 go_enter Try.func50,Try.ntmps50
 go_wp2_with (go_at_call 94;(with_reducible refine h.mono ?_);rintro e w1 ⟨rfl,hb⟩;have B1:=Aside0.mk hb;clear hb)
 go_ret2
 exact ⟨rfl,B1.out⟩
theorem impl_sessionPlace.M (A0 : Option Addr) (c0 : Nat) (l : List S76) (c : Int) (w : World) (hr0 : Kd.C k76 w A0 l.length l) (hc0 : l.length≤c0) (hv : sesB l=true) :
  Calls Try.prog 50 #[.slice A0 l.length c0,.int .i64 c] w fun e w'=>e=.returned (.tuple #[.int .i64 ((plOf l c : Nat) : Int),.bool (hitOf l c)])∧Below w.heap.size w w' :=
 impl_sessionPlace.calls A0 c0 l c w hr0 hc0 (by have:=sesB_len hv;omega)

def impl_SessionsValid.T6 : Bool × List (List Nat × List Nat):=(true,[([],[]),([0],[0]),([1],[1]),([2],[2]),([2],[2]),([4,2],[2,4]),([3,5,2],[2,3,5]),([6,2],[2,6]),([7,2],[2,7]),([2],[2]),([9,2],[2,9]),([8,10,2],[2,8,10]),([2,11],[2,11])])
def impl_SessionsValid.B6 : List Nat:=[0,1,3,7,7,23,63,127,255,7,519,2047,4095]
theorem impl_SessionsValid.tab6 : rtab .any (opsOf Try.f68 6)=impl_SessionsValid.T6:=by kernel_rfl
theorem impl_SessionsValid.bits6 : waitsOk impl_SessionsValid.T6.2 impl_SessionsValid.B6=true:=by kernel_rfl
theorem impl_SessionsValid.M (A0 : Option Addr) (c0 : Nat) (l : List S76) (w : World) (hr0 : Kd.C k76 w A0 l.length l) : Calls Try.prog 68 #[.slice A0 l.length c0] w fun e w'=>e=.returned (.bool (sesB l))∧Below w.heap.size w w':=by
 have hu:=Try.underlying76
 have B:=Aside0.mk (Below.refl w.heap.size w)
 have HR0:=Aside0.mk hr0
 clear hr0
 obtain ⟨r,hr⟩ : ∃ r,sesB l=r:=⟨_,rfl⟩
 rw [hr]
 unfold sesB at hr
 have H:=Aside0.mk (show sesJ l 0=r from hr)
 have L48:=Aside0.mk (show l.length≤9223372036854775807 from HR0.out.2.1)
 clear hr
 go_enter Try.func68,Try.ntmps68
 go_wp2
 go_loopg [7] (l.length + 1) (fun kx v7 wr=>∃ j : Nat,v7=.int .i64 (j : Int)∧j≤l.length∧l.length < j + kx∧Aside0 (Below w.heap.size w wr)∧Aside0 (sesJ l j=r))
 case atStart=>exact ⟨0,rfl,by omega,by omega,B,H⟩
 case round =>
  clear H B
  obtain ⟨j,rfl,hj,hk,B,H⟩:=hrel
  by_cases hlt : j < l.length
  ·have HS:=Aside0.mk ((sesJ_step hlt).symm.trans H.out)
   clear H
   obtain ⟨d,rfl⟩ : ∃ d,gk=d + 1:=⟨gk - 1,by omega⟩
   have h48:=L48.out
   have cj : decide ((j : Int) < (l.length : Int))=true:=decide_eq_true (by omega)
   obtain ⟨ad,hA,y0,y1,y2⟩:=at_T76 (cb HR0 B) (j : Int) (by omega) (by omega)
   cases hA
   rw [Int.toNat_natCast] at y0 y1 y2
   have j1:=eq_true (show (j : Int) < (l.length : Int) by omega)
   have j2:=eq_true hlt
   generalize hy : rd_T76 l (j : Int)=y at *
   go_wp2_with (first
    | ((with_reducible refine gate_dst (N:=4) rfl ?_);refine bxq 4 #[.int .i64 (0),.int .i64 (0),.int .i64 (0)] 76 B fun g4 w1 hb B F4 L4 E4=>?_;obtain ⟨c4_0,c4_1,c4_2⟩:=cs3 F4;clear hb E4)
    | ((with_reducible refine gate_store (t:=76) (p:=4) rfl ?_);obtain ⟨y0,y1,y2,z0,z1,z2⟩:=cz3 F4;refine sxq 76 76 4 0 [.int .i64 (y.f0),.int .i64 (y.f1),.int .i64 (y.f2)] [.int .i64 (y.f0),.int .i64 (y.f1),.int .i64 (y.f2)] B F4 L4 fun w2 hk B G=>?_;replace F4:=G;clear c4_0 c4_1 c4_2;obtain ⟨c4_0,c4_1,c4_2⟩:=cs3 F4;clear hk y0 z0 y1 z1 y2 z2)
    | (go_at_call 71;with_reducible refine cl (impl_seqValid.M y.f1 _) B fun w3 hb B=>?_;replace F4:=bn F4 hb;clear c4_0 c4_1 c4_2;obtain ⟨c4_0,c4_1,c4_2⟩:=cs3 F4;clear hb))
   all_goals try (go_ret;exact ⟨andF HS.out (by grind [l1B]),B.out⟩)
   all_goals (
    refine rg (n:=13) (S:=fun W=>Kd.C k76 W (some ad) l.length l∧W.heap[g4]?=some (.cells #[.int .i64 (y.f0),.int .i64 (y.f1),.int .i64 (y.f2)] 76 (0,0))) (ds:=[]) #[false,false,false,false,false,false,false,false,false,false,false,false,false] (by kernel_rfl) rfl rfl ⟨(cb HR0 B),F4.out⟩ id B (fun w4 hb B hHeld=>?_)
    refine with_tabW impl_SessionsValid.tab6 impl_SessionsValid.bits6 (fun HT_ HW_=>?_)
    replace F4:=bn F4 hb
    clear hb
    refine pvq 0 (some 36) (bits 13 1) HT_ ?_
    by_cases hz : j=0
    ·rw [if_pos hz] at HS
     have dz : decide (0 < (j : Int))=false:=decide_eq_false (by omega)
     have dz2 : decide (0 < j)=false:=decide_eq_false (by omega)
     clear hz
     refine pvq 1 (some 37) (bits 13 3) HT_ ?_
     refine pvq 2 (some 38) (bits 13 7) HT_ ?_
     refine svq 3 (some 39) (bits 13 15) HT_ ?_
     refine svq 4 (some 40) (bits 13 31) HT_ ?_
     refine svq 5 (some 41) (bits 13 63) HT_ ?_
     refine svq 6 (some 42) (bits 13 127) HT_ ?_
     refine svq 7 (some 43) (bits 13 255) HT_ ?_
     refine svq 8 (some 44) (bits 13 511) HT_ ?_
     refine svq 9 (some 45) (bits 13 1023) HT_ ?_
     refine svq 10 (some 46) (bits 13 2047) HT_ ?_
     refine svq 11 (some 47) (bits 13 4095) HT_ ?_
     refine pvq 12 (some 48) (bits 13 8191) HT_ ?_
     refine nmq ?_
     refine done_ (done_of HT_.out (by kernel_rfl)) ?_
     try go_wp2
     all_goals first
      | (go_roundg d;(case measure=>omega);(case rel=>exact ⟨j + 1,congrArg (Value.int .i64) (Int.natCast_succ _).symm,by omega,by omega,B,⟨andT HS.out (by grind [l1B])⟩⟩))
      | (go_ret;exact ⟨andF HS.out (by grind [l1B]),B.out⟩)
    ·rw [if_neg hz] at HS
     have dz : decide (0 < (j : Int))=true:=decide_eq_true (by omega)
     have dz2 : decide (0 < j)=true:=decide_eq_true (by omega)
     obtain ⟨i,hi⟩ : ∃ i,j - 1=i:=⟨_,rfl⟩
     rw [hi] at HS
     have WI:=Aside0.mk (show (j : Int) - 1=(i : Int) by omega)
     have hij : i < l.length:=by omega
     have IW:=Aside0.mk (show wrap64 (i : Int)=(i : Int) by unfold wrap64;omega)
     have i1:=eq_true (show (i : Int) < (l.length : Int) by omega)
     have i2:=eq_true hij
     generalize hx : rd_T76 l (i : Int)=x at HS
     clear hz hi
     refine pvq 1 (some 37) (bits 13 3) HT_ ?_
     refine pvq 2 (some 38) (bits 13 7) HT_ ?_
     refine pvq 3 (some 39) (bits 13 15) HT_ ?_
     refine pvq 4 (some 40) (bits 13 31) HT_ ?_
     refine pu (i:=5) (N:=some 41) (v:=.int .i64 ((i : Int))) (bits 13 63) rfl rfl (any_of HT_.out (by kernel_rfl)) (fun _ _ _ h=>h) (by kernel_rfl) ?_ ?_;(intro w';go_simp;rw [WI.out];exact (i64_w _).trans IW.out)
     refine pvq 6 (some 42) (bits 13 127) HT_ ?_
     refine pvq 7 (some 43) (bits 13 255) HT_ ?_
     refine tvq 8 (some 44) (bits 13 511) HT_ HW_ rfl hHeld (by intro w' hS;obtain ⟨s0,s1⟩:=hS;obtain ⟨_,hA,q0,q1,q2⟩:=at_T76 s0 (i : Int) (by omega) (by omega);cases hA;rw [Int.toNat_natCast] at q0 q1 q2;rw [hx] at q0 q1 q2;go_simp;with_reducible rfl) ?_
     refine pvq 9 (some 45) (bits 13 1023) HT_ ?_
     refine tvq 10 (some 46) (bits 13 2047) HT_ HW_ rfl hHeld (by intro w' hS;obtain ⟨s0,s1⟩:=hS;obtain ⟨q0,q1,q2⟩:=cs3 (Aside0.mk s1);go_simp;with_reducible rfl) ?_
     refine pvq 11 (some 47) (bits 13 4095) HT_ ?_
     refine pvq 12 (some 48) (bits 13 8191) HT_ ?_
     refine nmq ?_
     refine done_ (done_of HT_.out (by kernel_rfl)) ?_
     try go_wp2
     all_goals first
      | (go_roundg d;(case measure=>omega);(case rel=>exact ⟨j + 1,congrArg (Value.int .i64) (Int.natCast_succ _).symm,by omega,by omega,B,⟨andT HS.out (by grind [l1B])⟩⟩))
      | (go_ret;exact ⟨andF HS.out (by grind [l1B]),B.out⟩))
   all_goals try go_wp2
   all_goals try (go_ret;exact ⟨andF HS.out (by grind [l1B]),B.out⟩)
  ·have cj : decide ((j : Int) < (l.length : Int))=false:=decide_eq_false (by omega)
   have hr : r=true:=by rw [← H.out];exact sesJ_end hlt
   subst hr
   go_wp2
   go_ret
   exact ⟨rfl,B.out⟩

theorem plhit {l : List S76} {c : Int} (h : hitOf l c=true) : plOf l c < l.length∧(rd_T76 l ((plOf l c : Nat) : Int)).f0=c:=by
 unfold hitOf at h
 rw [Bool.and_eq_true,decide_eq_true_eq,decide_eq_true_eq] at h
 exact h
theorem seq_hit {l : List S76} {c : Int} (hv : sesB l=true) (hc : 0≤c∧c≤3) : seqB l c=if hitOf l c=true then (rd_T76 l ((plOf l c : Nat) : Int)).f1 else 0:=by
 rw [seq_find hv hc.1 hc.2]
 exact (placeOf_find hv c).symm
/-- an operation under a guard that holds -/
theorem ungate {P : Program} {ops : Array Oper} {Q : Exit→Act→World→Prop} {a : Act} {w : World} {rest : List Oper} {o : Oper} (hw : Region.wanted o (yielded ops a.tmps)=true) (h : wpList P ops Q ({o with guard:=none} :: rest) a w) : wpList P ops Q (o :: rest) a w:=by
  rw [wpList,if_pos hw]
  rw [wpList,if_pos (by rfl)] at h
  exact h

theorem putL_cons (x : S76) (q : List S76) (s : S76) (b : Bool) : putL (x :: q) s b=if b=false∧s.f0≤x.f0 then s :: ((if x.f0=s.f0 then [] else [x]) ++ putL q s true) else (if x.f0=s.f0 then [] else [x]) ++ putL q s b:=rfl
def spec_SessionPut.T4 : Bool × List (List Nat × List Nat):=(true,[([],[]),([],[]),([1],[1]),([0,2],[0,2]),([],[]),([4],[4]),([3,5],[3,5])])
def spec_SessionPut.B4 : List Nat:=[0,0,2,7,0,16,63]
theorem spec_SessionPut.tab4 : rtab .any (opsOf Try.f44 4)=spec_SessionPut.T4:=by kernel_rfl
theorem spec_SessionPut.bits4 : waitsOk spec_SessionPut.T4.2 spec_SessionPut.B4=true:=by kernel_rfl
def spec_SessionPut.T10 : Bool × List (List Nat × List Nat):=(true,[([],[]),([0],[0]),([1],[1]),([2],[2]),([2],[2]),([3,4,2],[2,3,4]),([5,2],[2,5]),([6,2],[2,6]),([2],[2]),([8,2],[2,8]),([7,9,2],[2,7,9]),([2,10],[2,10])])
def spec_SessionPut.B10 : List Nat:=[0,1,3,7,7,31,63,127,7,263,1023,2047]
theorem spec_SessionPut.tab10 : rtab .any (opsOf Try.f44 10)=spec_SessionPut.T10:=by kernel_rfl
theorem spec_SessionPut.bits10 : waitsOk spec_SessionPut.T10.2 spec_SessionPut.B10=true:=by kernel_rfl
def spec_SessionPut.T13 : Bool × List (List Nat × List Nat):=(true,[([],[]),([],[]),([0,1],[0,1]),([2],[2]),([3],[3]),([],[]),([5],[5]),([4,6],[4,6])])
def spec_SessionPut.B13 : List Nat:=[0,0,3,7,15,0,32,127]
theorem spec_SessionPut.tab13 : rtab .any (opsOf Try.f44 13)=spec_SessionPut.T13:=by kernel_rfl
theorem spec_SessionPut.bits13 : waitsOk spec_SessionPut.T13.2 spec_SessionPut.B13=true:=by kernel_rfl
theorem spec_SessionPut.M (A0 : Option Addr) (c0 : Nat) (l : List S76) (a b c : Int) (w : World) (hr0 : Kd.C k76 w A0 l.length l) (hc0 : l.length≤c0) : Calls Try.prog 44 #[.slice A0 l.length c0,.agg #[.int .i64 a,.int .i64 b,.int .i64 c]] w fun e w'=>∃ v0,e=.returned (.tuple #[v0,.bool (putB l ⟨a,b,c⟩).2])∧Kd.R k76 76 w' w.heap.size (fun _=>True) v0 (putB l ⟨a,b,c⟩).1∧Below w.heap.size w w':=by
 have B:=Aside0.mk (Below.refl w.heap.size w)
 have hu:=Try.underlying76
 have HR0:=Aside0.mk hr0
 have HC0:=Aside0.mk hc0
 have L63:=Aside0.mk hr0.2.1
 clear hr0 hc0
 by_cases hv : sesB l=true
 ·have h4:=sesB_len hv
  cases ho : okS (⟨a,b,c⟩ : S76) with
  | true =>
   have hone : sesB [(⟨a,b,c⟩ : S76)]=true:=by rw [sesOne];exact ho
   by_cases hq : b≤seqB l a
   ·have hM : putB l ⟨a,b,c⟩=(l,false):=by unfold putB;rw [if_pos ⟨hv,hone⟩];exact if_pos hq
    have dq : decide (seqB l a ≥ b)=true:=decide_eq_true hq
    go_enter Try.func44,Try.ntmps44
    go_wp2_with (first
     | ((with_reducible refine gate_dst (N:=3) rfl ?_);refine bxq 3 #[.int .i64 (a),.int .i64 (b),.int .i64 (c)] 76 B fun g3 w201 hb B F3 L3 E3=>?_;obtain ⟨c3_0,c3_1,c3_2⟩:=cs3 F3;clear hb E3)
     | ((with_reducible refine gate_dst (N:=9) rfl ?_);refine lt k76 76 ?hg (N:=9) ?hd ([] : List S76) [] ?hr (Reps.none _ _) (by simp) B ?_;(case hd | hg=>rfl);(case hr=>go_simp;first | done | rfl);intro z9 hz9 AL9 kL9 w202 hb B RL9 QL9;have NB3_L9:=nb QL9 F3;replace F3:=bn F3 hb;clear c3_0 c3_1 c3_2;obtain ⟨c3_0,c3_1,c3_2⟩:=cs3 F3;clear hb QL9;subst hz9)
     | (go_at_call 82;with_reducible refine cl (spec_SessionsValid.M _ _ l _ (cb HR0 B)) B fun w203 hb B=>?_;replace F3:=bn F3 hb;replace RL9:=rn RL9 hb;clear c3_0 c3_1 c3_2;obtain ⟨c3_0,c3_1,c3_2⟩:=cs3 F3;clear hb)
     | ((with_reducible refine gate_dst (N:=15) rfl ?_);refine ungate ?hw ?_;(case hw=>first | (go_simp;done) | rfl);refine lt k76 76 ?hg (N:=15) ?hd ([⟨a,b,c⟩] : List S76) [.int .i64 (a),.int .i64 (b),.int .i64 (c)] ?hr (Reps.c3 (k76_mkM _ _ _ ⟨a,b,c⟩) (Reps.none _ _)) (by simp) B ?_;(case hd | hg=>rfl);(case hr=>go_simp;first | done | rfl);intro z15 hz15 AL15 kL15 w204 hb B RL15 QL15;have NB3_L15:=nb QL15 F3;replace F3:=bn F3 hb;replace RL9:=rn RL9 hb;clear c3_0 c3_1 c3_2;obtain ⟨c3_0,c3_1,c3_2⟩:=cs3 F3;clear hb QL15)
     | (go_at_call 82;with_reducible refine cl (clv (spec_SessionsValid.M _ _ z15 _ (rc RL15)) (congrArg Value.bool (show sesB z15=true by rw [← hz15];exact hone))) B fun w205 hb B=>?_;replace F3:=bn F3 hb;replace RL9:=rn RL9 hb;clear c3_0 c3_1 c3_2;obtain ⟨c3_0,c3_1,c3_2⟩:=cs3 F3;clear hb;clear hz15))
    all_goals (
     refine rg (n:=7) (S:=fun W=>W.heap[g3]?=some (.cells #[.int .i64 (a),.int .i64 (b),.int .i64 (c)] 76 (0,0))) (ds:=[]) #[false,false,false,false,false,false,false] (by kernel_rfl) rfl rfl F3.out id B (fun w206 hb B hHeld=>?_)
     refine with_tabW spec_SessionPut.tab4 spec_SessionPut.bits4 (fun HT_ HW_=>?_)
     replace F3:=bn F3 hb
     replace RL9:=rn RL9 hb
     clear hb
     refine pvq 0 (some 20) (bits 7 1) HT_ ?_
     refine pvq 1 (some 21) (bits 7 3) HT_ ?_
     refine tvq 2 (some 22) (bits 7 7) HT_ HW_ rfl hHeld (by intro w' hS;have s0:=hS;obtain ⟨q0,q1,q2⟩:=cs3 (Aside0.mk s0);go_simp;with_reducible rfl) ?_
     refine pvq 4 (some 24) (bits 7 23) HT_ ?_
     refine tvq 5 (some 25) (bits 7 55) HT_ HW_ rfl hHeld (by intro w' hS;have s0:=hS;obtain ⟨q0,q1,q2⟩:=cs3 (Aside0.mk s0);go_simp;with_reducible rfl) ?_
     refine nmq ?_
     refine one_ (i:=3) (N:=some 23) (bits 7 63) rfl rfl (one_of HT_.out (by kernel_rfl)) (by decide) (fun K hK=>?_)
     refine gsq Try.func89 #[.slice A0 l.length c0,.int .i64 (a)] ?_
     with_reducible refine cl (spec_SessionSeq.M _ _ l a _ (cb HR0 B) HC0.out) B fun w207 hb B=>?_
     replace F3:=bn F3 hb
     replace RL9:=rn RL9 hb
     clear hb
     refine ⟨_,rfl,?_⟩
     refine hK.out _ _ F3.out (fun hHeld=>?_)
     clear hK K
     refine npq (some 23) ?_
     refine pvq 6 (some 26) (bits 7 127) HT_ ?_
     refine nmq ?_
     refine done_ (done_of HT_.out (by kernel_rfl)) ?_)
    all_goals go_wp2_with (first
     | ((with_reducible refine gate_builtin (b:=.append) (xs:=#[.tmp 27,.tmp 28]) rfl ?_);at_builtin;refine apx k76 76 rfl (.tmp 27) (.tmp 28) 36 (.agg #[.int .i64 (0),.int .i64 (0),.int .i64 (0)]) 24 rfl Try.underlying36 info76 rfl (by decide) (by omega) rfl rfl RL9 (cb HR0 B) (fun x cs h=>by rw [k76_open h];exact k76_mkM _ _ _ x) (by first | omega | (simp only [List.length_nil];omega)) B ?_;intro z29 hz29 AL29 kL29 w208 hg B RL29 hat;have NB3_L29:=nba hat NB3_L9 F3;replace F3:=bgn F3 hg NB3_L9;clear hg hat))
    have hZ : z29=l:=(by rw [← hz29,List.nil_append])
    clear hz29
    subst hZ
    go_ret2
    exact ⟨_,by rw [hM];rfl,by rw [hM];exact RL29.out,B.out⟩
   ·have hM : putB l ⟨a,b,c⟩=(putL l ⟨a,b,c⟩ false,true):=by unfold putB;rw [if_pos ⟨hv,hone⟩];exact if_neg hq
    have dq : decide (seqB l a ≥ b)=false:=decide_eq_false hq
    rw [hM]
    clear hM
    obtain ⟨r,hr⟩ : ∃ r,putL l (⟨a,b,c⟩ : S76) false=r:=⟨_,rfl⟩
    rw [hr]
    have H:=Aside0.mk (show [] ++ putL (l.drop 0) (⟨a,b,c⟩ : S76) false=r from hr)
    clear hr
    go_enter Try.func44,Try.ntmps44
    go_wp2_with (first
     | ((with_reducible refine gate_dst (N:=3) rfl ?_);refine bxq 3 #[.int .i64 (a),.int .i64 (b),.int .i64 (c)] 76 B fun g3 w301 hb B F3 L3 E3=>?_;obtain ⟨c3_0,c3_1,c3_2⟩:=cs3 F3;clear hb E3)
     | ((with_reducible refine gate_dst (N:=9) rfl ?_);refine lt k76 76 ?hg (N:=9) ?hd ([] : List S76) [] ?hr (Reps.none _ _) (by simp) B ?_;(case hd | hg=>rfl);(case hr=>go_simp;first | done | rfl);intro z9 hz9 AL9 kL9 w302 hb B RL9 QL9;have NB3_L9:=nb QL9 F3;replace F3:=bn F3 hb;clear c3_0 c3_1 c3_2;obtain ⟨c3_0,c3_1,c3_2⟩:=cs3 F3;clear hb QL9;subst hz9)
     | (go_at_call 82;with_reducible refine cl (spec_SessionsValid.M _ _ l _ (cb HR0 B)) B fun w303 hb B=>?_;replace F3:=bn F3 hb;replace RL9:=rn RL9 hb;clear c3_0 c3_1 c3_2;obtain ⟨c3_0,c3_1,c3_2⟩:=cs3 F3;clear hb)
     | ((with_reducible refine gate_dst (N:=15) rfl ?_);refine ungate ?hw ?_;(case hw=>first | (go_simp;done) | rfl);refine lt k76 76 ?hg (N:=15) ?hd ([⟨a,b,c⟩] : List S76) [.int .i64 (a),.int .i64 (b),.int .i64 (c)] ?hr (Reps.c3 (k76_mkM _ _ _ ⟨a,b,c⟩) (Reps.none _ _)) (by simp) B ?_;(case hd | hg=>rfl);(case hr=>go_simp;first | done | rfl);intro z15 hz15 AL15 kL15 w304 hb B RL15 QL15;have NB3_L15:=nb QL15 F3;replace F3:=bn F3 hb;replace RL9:=rn RL9 hb;clear c3_0 c3_1 c3_2;obtain ⟨c3_0,c3_1,c3_2⟩:=cs3 F3;clear hb QL15)
     | (go_at_call 82;with_reducible refine cl (clv (spec_SessionsValid.M _ _ z15 _ (rc RL15)) (congrArg Value.bool (show sesB z15=true by rw [← hz15];exact hone))) B fun w305 hb B=>?_;replace F3:=bn F3 hb;replace RL9:=rn RL9 hb;clear c3_0 c3_1 c3_2;obtain ⟨c3_0,c3_1,c3_2⟩:=cs3 F3;clear hb;clear hz15))
    all_goals (
     refine rg (n:=7) (S:=fun W=>W.heap[g3]?=some (.cells #[.int .i64 (a),.int .i64 (b),.int .i64 (c)] 76 (0,0))) (ds:=[]) #[false,false,false,false,false,false,false] (by kernel_rfl) rfl rfl F3.out id B (fun w306 hb B hHeld=>?_)
     refine with_tabW spec_SessionPut.tab4 spec_SessionPut.bits4 (fun HT_ HW_=>?_)
     replace F3:=bn F3 hb
     replace RL9:=rn RL9 hb
     clear hb
     refine pvq 0 (some 20) (bits 7 1) HT_ ?_
     refine pvq 1 (some 21) (bits 7 3) HT_ ?_
     refine tvq 2 (some 22) (bits 7 7) HT_ HW_ rfl hHeld (by intro w' hS;have s0:=hS;obtain ⟨q0,q1,q2⟩:=cs3 (Aside0.mk s0);go_simp;with_reducible rfl) ?_
     refine pvq 4 (some 24) (bits 7 23) HT_ ?_
     refine tvq 5 (some 25) (bits 7 55) HT_ HW_ rfl hHeld (by intro w' hS;have s0:=hS;obtain ⟨q0,q1,q2⟩:=cs3 (Aside0.mk s0);go_simp;with_reducible rfl) ?_
     refine nmq ?_
     refine one_ (i:=3) (N:=some 23) (bits 7 63) rfl rfl (one_of HT_.out (by kernel_rfl)) (by decide) (fun K hK=>?_)
     refine gsq Try.func89 #[.slice A0 l.length c0,.int .i64 (a)] ?_
     with_reducible refine cl (spec_SessionSeq.M _ _ l a _ (cb HR0 B) HC0.out) B fun w307 hb B=>?_
     replace F3:=bn F3 hb
     replace RL9:=rn RL9 hb
     clear hb
     refine ⟨_,rfl,?_⟩
     refine hK.out _ _ F3.out (fun hHeld=>?_)
     clear hK K
     refine npq (some 23) ?_
     refine pvq 6 (some 26) (bits 7 127) HT_ ?_
     refine nmq ?_
     refine done_ (done_of HT_.out (by kernel_rfl)) ?_)
    all_goals try go_wp2
    clear dq hq hone ho hv
    (try clear c3_0 c3_1 c3_2)
    go_loopg [6,7,8] (l.length + 1) (fun kx v6 v7 v8 wr=>∃ (j : Nat) (p : List S76) (pl : Bool),v8=.int .i64 (j : Int)∧v7=.bool pl∧j≤l.length∧l.length < j + kx∧p.length≤2 * j∧Aside0 (Below w.heap.size w wr)∧Aside0 (wr.heap[g3]?=some (.cells #[.int .i64 (a),.int .i64 (b),.int .i64 (c)] 76 (0,0)))∧Aside0 (Ow k76 76 wr w.heap.size v6 p)∧Aside0 (∀ k_,v6.ownBlock=some k_→k_ ≠ g3)∧Aside0 (p ++ putL (l.drop j) ⟨a,b,c⟩ pl=r))
    case atStart=>exact ⟨0,[],false,rfl,rfl,by omega,by omega,by simp,B,F3,RL9,NB3_L9,H⟩
    case round =>
     clear H B F3 RL9 NB3_L9
     obtain ⟨j,p,pl,rfl,rfl,hj,hk,hpl,B,F3,Rp6,NB3_p6,H⟩:=hrel
     obtain ⟨A6,k6,rfl⟩:=Kd.R_slice Rp6.out
     obtain ⟨c3_0,c3_1,c3_2⟩:=cs3 F3
     by_cases hlt : j < l.length
     ·have HS:=H.out
      rw [ses_drop hlt,putL_cons] at HS
      clear H
      obtain ⟨d,rfl⟩ : ∃ d,gk=d + 1:=⟨gk - 1,by omega⟩
      have cj : decide ((j : Int) < (l.length : Int))=true:=decide_eq_true (by omega)
      obtain ⟨ad,hA,y0,y1,y2⟩:=at_T76 (cb HR0 B) (j : Int) (by omega) (by omega)
      cases hA
      rw [Int.toNat_natCast] at y0 y1 y2
      have j1:=eq_true (show (j : Int) < (l.length : Int) by omega)
      have j2:=eq_true hlt
      generalize hy : rd_T76 l (j : Int)=y at *
      cases pl with
      | true =>
       rw [if_neg (by simp)] at HS
       by_cases he : y.f0=a
       ·have dn : (y.f0 != a)=false:=by simp [he]
        have dn2 : decide (y.f0=a)=true:=decide_eq_true he
        rw [if_pos he] at HS
        have HT:=Aside0.mk HS
        clear HS
        try go_wp2
        all_goals (
         refine rg (n:=12) (S:=fun W=>Kd.C k76 W (some ad) l.length l∧W.heap[g3]?=some (.cells #[.int .i64 (a),.int .i64 (b),.int .i64 (c)] 76 (0,0))) (ds:=[]) #[false,false,false,false,false,false,false,false,false,false,false,false] (by kernel_rfl) rfl rfl ⟨(cb HR0 B),F3.out⟩ id B (fun w501 hb B hHeld=>?_)
         refine with_tabW spec_SessionPut.tab10 spec_SessionPut.bits10 (fun HT_ HW_=>?_)
         replace F3:=bn F3 hb
         replace Rp6:=rn Rp6 hb
         clear hb
         refine pvq 0 (some 36) (bits 12 1) HT_ ?_
         refine pvq 1 (some 37) (bits 12 3) HT_ ?_
         refine pvq 2 (some 38) (bits 12 7) HT_ ?_
         refine svq 3 (some 39) (bits 12 15) HT_ ?_
         refine svq 4 (some 40) (bits 12 31) HT_ ?_
         refine svq 5 (some 41) (bits 12 63) HT_ ?_
         refine svq 6 (some 42) (bits 12 127) HT_ ?_
         refine svq 7 (some 43) (bits 12 255) HT_ ?_
         refine svq 8 (some 44) (bits 12 511) HT_ ?_
         refine svq 9 (some 45) (bits 12 1023) HT_ ?_
         refine svq 10 (some 46) (bits 12 2047) HT_ ?_
         refine pvq 11 (some 47) (bits 12 4095) HT_ ?_
         refine nmq ?_
         refine done_ (done_of HT_.out (by kernel_rfl)) ?_
         clear c3_0 c3_1 c3_2
         obtain ⟨c3_0,c3_1,c3_2⟩:=cs3 F3)
        all_goals try go_wp2
        all_goals (
         refine rg (n:=8) (S:=fun W=>Kd.C k76 W (some ad) l.length l∧W.heap[g3]?=some (.cells #[.int .i64 (a),.int .i64 (b),.int .i64 (c)] 76 (0,0))) (ds:=[]) #[false,false,false,false,false,false,false,false] (by kernel_rfl) rfl rfl ⟨(cb HR0 B),F3.out⟩ id B (fun w502 hb B hHeld=>?_)
         refine with_tabW spec_SessionPut.tab13 spec_SessionPut.bits13 (fun HT_ HW_=>?_)
         replace F3:=bn F3 hb
         replace Rp6:=rn Rp6 hb
         clear hb
         refine pvq 0 (some 52) (bits 8 1) HT_ ?_
         refine pvq 1 (some 53) (bits 8 3) HT_ ?_
         refine pvq 2 (some 54) (bits 8 7) HT_ ?_
         refine pvq 3 (some 55) (bits 8 15) HT_ ?_
         refine tvq 4 (some 56) (bits 8 31) HT_ HW_ rfl hHeld (by intro w' hS;obtain ⟨s0,s1⟩:=hS;obtain ⟨_,hA,q0,q1,q2⟩:=at_T76 s0 (j : Int) (by omega) (by omega);cases hA;rw [Int.toNat_natCast] at q0 q1 q2;rw [hy] at q0 q1 q2;go_simp;with_reducible rfl) ?_
         refine pvq 5 (some 57) (bits 8 63) HT_ ?_
         refine tvq 6 (some 58) (bits 8 127) HT_ HW_ rfl hHeld (by intro w' hS;obtain ⟨s0,s1⟩:=hS;obtain ⟨q0,q1,q2⟩:=cs3 (Aside0.mk s1);go_simp;with_reducible rfl) ?_
         refine pvq 7 (some 59) (bits 8 255) HT_ ?_
         refine nmq ?_
         refine done_ (done_of HT_.out (by kernel_rfl)) ?_
         clear y0 y1 y2
         obtain ⟨ad2,hA,y0,y1,y2⟩:=at_T76 (cb HR0 B) (j : Int) (by omega) (by omega)
         cases hA
         rw [Int.toNat_natCast,hy] at y0 y1 y2)
        all_goals try go_wp2
        go_roundg d
        case measure=>omega
        case rel=>exact ⟨j + 1,p,true,congrArg (Value.int .i64) (Int.natCast_succ _).symm,rfl,by omega,by omega,(by omega),B,F3,Rp6,NB3_p6,⟨by have HS:=HT.out;simp only [List.append_assoc,List.cons_append,List.nil_append,List.append_nil] at HS ⊢;exact HS⟩⟩
       ·have dn : (y.f0 != a)=true:=by simp [he]
        have dn2 : decide (y.f0=a)=false:=decide_eq_false he
        rw [if_neg he] at HS
        have HT:=Aside0.mk HS
        clear HS
        try go_wp2
        all_goals (
         refine rg (n:=12) (S:=fun W=>Kd.C k76 W (some ad) l.length l∧W.heap[g3]?=some (.cells #[.int .i64 (a),.int .i64 (b),.int .i64 (c)] 76 (0,0))) (ds:=[]) #[false,false,false,false,false,false,false,false,false,false,false,false] (by kernel_rfl) rfl rfl ⟨(cb HR0 B),F3.out⟩ id B (fun w601 hb B hHeld=>?_)
         refine with_tabW spec_SessionPut.tab10 spec_SessionPut.bits10 (fun HT_ HW_=>?_)
         replace F3:=bn F3 hb
         replace Rp6:=rn Rp6 hb
         clear hb
         refine pvq 0 (some 36) (bits 12 1) HT_ ?_
         refine pvq 1 (some 37) (bits 12 3) HT_ ?_
         refine pvq 2 (some 38) (bits 12 7) HT_ ?_
         refine svq 3 (some 39) (bits 12 15) HT_ ?_
         refine svq 4 (some 40) (bits 12 31) HT_ ?_
         refine svq 5 (some 41) (bits 12 63) HT_ ?_
         refine svq 6 (some 42) (bits 12 127) HT_ ?_
         refine svq 7 (some 43) (bits 12 255) HT_ ?_
         refine svq 8 (some 44) (bits 12 511) HT_ ?_
         refine svq 9 (some 45) (bits 12 1023) HT_ ?_
         refine svq 10 (some 46) (bits 12 2047) HT_ ?_
         refine pvq 11 (some 47) (bits 12 4095) HT_ ?_
         refine nmq ?_
         refine done_ (done_of HT_.out (by kernel_rfl)) ?_
         clear c3_0 c3_1 c3_2
         obtain ⟨c3_0,c3_1,c3_2⟩:=cs3 F3)
        all_goals try go_wp2
        all_goals (
         refine rg (n:=8) (S:=fun W=>Kd.C k76 W (some ad) l.length l∧W.heap[g3]?=some (.cells #[.int .i64 (a),.int .i64 (b),.int .i64 (c)] 76 (0,0))) (ds:=[]) #[false,false,false,false,false,false,false,false] (by kernel_rfl) rfl rfl ⟨(cb HR0 B),F3.out⟩ id B (fun w602 hb B hHeld=>?_)
         refine with_tabW spec_SessionPut.tab13 spec_SessionPut.bits13 (fun HT_ HW_=>?_)
         replace F3:=bn F3 hb
         replace Rp6:=rn Rp6 hb
         clear hb
         refine pvq 0 (some 52) (bits 8 1) HT_ ?_
         refine pvq 1 (some 53) (bits 8 3) HT_ ?_
         refine pvq 2 (some 54) (bits 8 7) HT_ ?_
         refine pvq 3 (some 55) (bits 8 15) HT_ ?_
         refine tvq 4 (some 56) (bits 8 31) HT_ HW_ rfl hHeld (by intro w' hS;obtain ⟨s0,s1⟩:=hS;obtain ⟨_,hA,q0,q1,q2⟩:=at_T76 s0 (j : Int) (by omega) (by omega);cases hA;rw [Int.toNat_natCast] at q0 q1 q2;rw [hy] at q0 q1 q2;go_simp;with_reducible rfl) ?_
         refine pvq 5 (some 57) (bits 8 63) HT_ ?_
         refine tvq 6 (some 58) (bits 8 127) HT_ HW_ rfl hHeld (by intro w' hS;obtain ⟨s0,s1⟩:=hS;obtain ⟨q0,q1,q2⟩:=cs3 (Aside0.mk s1);go_simp;with_reducible rfl) ?_
         refine pvq 7 (some 59) (bits 8 255) HT_ ?_
         refine nmq ?_
         refine done_ (done_of HT_.out (by kernel_rfl)) ?_
         clear y0 y1 y2
         obtain ⟨ad2,hA,y0,y1,y2⟩:=at_T76 (cb HR0 B) (j : Int) (by omega) (by omega)
         cases hA
         rw [Int.toNat_natCast,hy] at y0 y1 y2)
        all_goals go_wp2_with (first
         | ((with_reducible refine gate_dst (N:=65) rfl ?_);refine lt k76 76 ?hg (N:=65) ?hd ([⟨y.f0,y.f1,y.f2⟩] : List S76) [.int .i64 (y.f0),.int .i64 (y.f1),.int .i64 (y.f2)] ?hr (Reps.c3 (k76_mkM _ _ _ ⟨y.f0,y.f1,y.f2⟩) (Reps.none _ _)) (by simp) B ?_;(case hd | hg=>rfl);(case hr=>go_simp;first | done | rfl);intro z65 hz65 AL65 kL65 w603 hb B RL65 QL65;have NB3_L65:=nb QL65 F3;replace F3:=bn F3 hb;replace Rp6:=rn Rp6 hb;clear hb QL65)
         | ((with_reducible refine gate_builtin (b:=.append) (xs:=#[.tmp 60,.tmp 65]) rfl ?_);at_builtin;refine apx k76 76 rfl (.tmp 60) (.tmp 65) 36 (.agg #[.int .i64 (0),.int .i64 (0),.int .i64 (0)]) 24 rfl Try.underlying36 info76 rfl (by decide) (by omega) rfl rfl Rp6 (rc RL65) (fun x cs h=>by rw [k76_open h];exact k76_mkM _ _ _ x) (by rw [← hz65];simp only [List.length_append,List.length_cons,List.length_nil];omega) B ?_;intro z66 hz66 AL66 kL66 w604 hg B RL66 hat;have NB3_L66:=nba hat NB3_p6 F3;replace F3:=bgn F3 hg NB3_p6;clear hg hat;subst hz65))
        go_roundg d
        case measure=>omega
        case rel=>exact ⟨j + 1,z66,true,congrArg (Value.int .i64) (Int.natCast_succ _).symm,rfl,by omega,by omega,(by rw [← hz66];simp only [List.length_append,List.length_cons,List.length_nil];omega),B,F3,RL66,NB3_L66,⟨by rw [← hz66];have HS:=HT.out;simp only [List.append_assoc,List.cons_append,List.nil_append,List.append_nil] at HS ⊢;exact HS⟩⟩
      | false =>
       by_cases hge : a≤y.f0
       ·have dg : decide (y.f0 ≥ a)=true:=decide_eq_true hge
        rw [if_pos ⟨rfl,hge⟩] at HS
        by_cases he : y.f0=a
        ·have dn : (y.f0 != a)=false:=by simp [he]
         have dn2 : decide (y.f0=a)=true:=decide_eq_true he
         rw [if_pos he] at HS
         have HT:=Aside0.mk HS
         clear HS
         try go_wp2
         all_goals (
          refine rg (n:=12) (S:=fun W=>Kd.C k76 W (some ad) l.length l∧W.heap[g3]?=some (.cells #[.int .i64 (a),.int .i64 (b),.int .i64 (c)] 76 (0,0))) (ds:=[]) #[false,false,false,false,false,false,false,false,false,false,false,false] (by kernel_rfl) rfl rfl ⟨(cb HR0 B),F3.out⟩ id B (fun w701 hb B hHeld=>?_)
          refine with_tabW spec_SessionPut.tab10 spec_SessionPut.bits10 (fun HT_ HW_=>?_)
          replace F3:=bn F3 hb
          replace Rp6:=rn Rp6 hb
          clear hb
          refine pvq 0 (some 36) (bits 12 1) HT_ ?_
          refine pvq 1 (some 37) (bits 12 3) HT_ ?_
          refine pvq 2 (some 38) (bits 12 7) HT_ ?_
          refine pvq 3 (some 39) (bits 12 15) HT_ ?_
          refine pvq 4 (some 40) (bits 12 31) HT_ ?_
          refine pvq 5 (some 41) (bits 12 63) HT_ ?_
          refine pvq 6 (some 42) (bits 12 127) HT_ ?_
          refine tvq 7 (some 43) (bits 12 255) HT_ HW_ rfl hHeld (by intro w' hS;obtain ⟨s0,s1⟩:=hS;obtain ⟨_,hA,q0,q1,q2⟩:=at_T76 s0 (j : Int) (by omega) (by omega);cases hA;rw [Int.toNat_natCast] at q0 q1 q2;rw [hy] at q0 q1 q2;go_simp;with_reducible rfl) ?_
          refine pvq 8 (some 44) (bits 12 511) HT_ ?_
          refine tvq 9 (some 45) (bits 12 1023) HT_ HW_ rfl hHeld (by intro w' hS;obtain ⟨s0,s1⟩:=hS;obtain ⟨q0,q1,q2⟩:=cs3 (Aside0.mk s1);go_simp;with_reducible rfl) ?_
          refine pvq 10 (some 46) (bits 12 2047) HT_ ?_
          refine pvq 11 (some 47) (bits 12 4095) HT_ ?_
          refine nmq ?_
          refine done_ (done_of HT_.out (by kernel_rfl)) ?_
          clear c3_0 c3_1 c3_2
          obtain ⟨c3_0,c3_1,c3_2⟩:=cs3 F3)
         all_goals go_wp2_with (first
          | ((with_reducible refine gate_dst (N:=50) rfl ?_);refine lt k76 76 ?hg (N:=50) ?hd ([⟨a,b,c⟩] : List S76) [.int .i64 (a),.int .i64 (b),.int .i64 (c)] ?hr (Reps.c3 (k76_mkM _ _ _ ⟨a,b,c⟩) (Reps.none _ _)) (by simp) B ?_;(case hd | hg=>rfl);(case hr=>go_simp;first | done | rfl);intro z50 hz50 AL50 kL50 w702 hb B RL50 QL50;have NB3_L50:=nb QL50 F3;replace F3:=bn F3 hb;replace Rp6:=rn Rp6 hb;clear c3_0 c3_1 c3_2;obtain ⟨c3_0,c3_1,c3_2⟩:=cs3 F3;clear hb QL50)
          | ((with_reducible refine gate_builtin (b:=.append) (xs:=#[.tmp 48,.tmp 50]) rfl ?_);at_builtin;refine apx k76 76 rfl (.tmp 48) (.tmp 50) 36 (.agg #[.int .i64 (0),.int .i64 (0),.int .i64 (0)]) 24 rfl Try.underlying36 info76 rfl (by decide) (by omega) rfl rfl Rp6 (rc RL50) (fun x cs h=>by rw [k76_open h];exact k76_mkM _ _ _ x) (by rw [← hz50];simp only [List.length_cons,List.length_nil];omega) B ?_;intro z51 hz51 AL51 kL51 w703 hg B RL51 hat;have NB3_L51:=nba hat NB3_p6 F3;replace F3:=bgn F3 hg NB3_p6;clear c3_0 c3_1 c3_2;obtain ⟨c3_0,c3_1,c3_2⟩:=cs3 F3;clear hg hat;subst hz50))
         all_goals (
          refine rg (n:=8) (S:=fun W=>Kd.C k76 W (some ad) l.length l∧W.heap[g3]?=some (.cells #[.int .i64 (a),.int .i64 (b),.int .i64 (c)] 76 (0,0))) (ds:=[]) #[false,false,false,false,false,false,false,false] (by kernel_rfl) rfl rfl ⟨(cb HR0 B),F3.out⟩ id B (fun w704 hb B hHeld=>?_)
          refine with_tabW spec_SessionPut.tab13 spec_SessionPut.bits13 (fun HT_ HW_=>?_)
          replace F3:=bn F3 hb
          replace RL51:=rn RL51 hb
          clear hb
          refine pvq 0 (some 52) (bits 8 1) HT_ ?_
          refine pvq 1 (some 53) (bits 8 3) HT_ ?_
          refine pvq 2 (some 54) (bits 8 7) HT_ ?_
          refine pvq 3 (some 55) (bits 8 15) HT_ ?_
          refine tvq 4 (some 56) (bits 8 31) HT_ HW_ rfl hHeld (by intro w' hS;obtain ⟨s0,s1⟩:=hS;obtain ⟨_,hA,q0,q1,q2⟩:=at_T76 s0 (j : Int) (by omega) (by omega);cases hA;rw [Int.toNat_natCast] at q0 q1 q2;rw [hy] at q0 q1 q2;go_simp;with_reducible rfl) ?_
          refine pvq 5 (some 57) (bits 8 63) HT_ ?_
          refine tvq 6 (some 58) (bits 8 127) HT_ HW_ rfl hHeld (by intro w' hS;obtain ⟨s0,s1⟩:=hS;obtain ⟨q0,q1,q2⟩:=cs3 (Aside0.mk s1);go_simp;with_reducible rfl) ?_
          refine pvq 7 (some 59) (bits 8 255) HT_ ?_
          refine nmq ?_
          refine done_ (done_of HT_.out (by kernel_rfl)) ?_
          clear y0 y1 y2
          obtain ⟨ad2,hA,y0,y1,y2⟩:=at_T76 (cb HR0 B) (j : Int) (by omega) (by omega)
          cases hA
          rw [Int.toNat_natCast,hy] at y0 y1 y2)
         all_goals try go_wp2
         go_roundg d
         case measure=>omega
         case rel=>exact ⟨j + 1,z51,true,congrArg (Value.int .i64) (Int.natCast_succ _).symm,rfl,by omega,by omega,(by rw [← hz51];simp only [List.length_append,List.length_cons,List.length_nil];omega),B,F3,RL51,NB3_L51,⟨by rw [← hz51];have HS:=HT.out;simp only [List.append_assoc,List.cons_append,List.nil_append,List.append_nil] at HS ⊢;exact HS⟩⟩
        ·have dn : (y.f0 != a)=true:=by simp [he]
         have dn2 : decide (y.f0=a)=false:=decide_eq_false he
         rw [if_neg he] at HS
         have HT:=Aside0.mk HS
         clear HS
         try go_wp2
         all_goals (
          refine rg (n:=12) (S:=fun W=>Kd.C k76 W (some ad) l.length l∧W.heap[g3]?=some (.cells #[.int .i64 (a),.int .i64 (b),.int .i64 (c)] 76 (0,0))) (ds:=[]) #[false,false,false,false,false,false,false,false,false,false,false,false] (by kernel_rfl) rfl rfl ⟨(cb HR0 B),F3.out⟩ id B (fun w801 hb B hHeld=>?_)
          refine with_tabW spec_SessionPut.tab10 spec_SessionPut.bits10 (fun HT_ HW_=>?_)
          replace F3:=bn F3 hb
          replace Rp6:=rn Rp6 hb
          clear hb
          refine pvq 0 (some 36) (bits 12 1) HT_ ?_
          refine pvq 1 (some 37) (bits 12 3) HT_ ?_
          refine pvq 2 (some 38) (bits 12 7) HT_ ?_
          refine pvq 3 (some 39) (bits 12 15) HT_ ?_
          refine pvq 4 (some 40) (bits 12 31) HT_ ?_
          refine pvq 5 (some 41) (bits 12 63) HT_ ?_
          refine pvq 6 (some 42) (bits 12 127) HT_ ?_
          refine tvq 7 (some 43) (bits 12 255) HT_ HW_ rfl hHeld (by intro w' hS;obtain ⟨s0,s1⟩:=hS;obtain ⟨_,hA,q0,q1,q2⟩:=at_T76 s0 (j : Int) (by omega) (by omega);cases hA;rw [Int.toNat_natCast] at q0 q1 q2;rw [hy] at q0 q1 q2;go_simp;with_reducible rfl) ?_
          refine pvq 8 (some 44) (bits 12 511) HT_ ?_
          refine tvq 9 (some 45) (bits 12 1023) HT_ HW_ rfl hHeld (by intro w' hS;obtain ⟨s0,s1⟩:=hS;obtain ⟨q0,q1,q2⟩:=cs3 (Aside0.mk s1);go_simp;with_reducible rfl) ?_
          refine pvq 10 (some 46) (bits 12 2047) HT_ ?_
          refine pvq 11 (some 47) (bits 12 4095) HT_ ?_
          refine nmq ?_
          refine done_ (done_of HT_.out (by kernel_rfl)) ?_
          clear c3_0 c3_1 c3_2
          obtain ⟨c3_0,c3_1,c3_2⟩:=cs3 F3)
         all_goals go_wp2_with (first
          | ((with_reducible refine gate_dst (N:=50) rfl ?_);refine lt k76 76 ?hg (N:=50) ?hd ([⟨a,b,c⟩] : List S76) [.int .i64 (a),.int .i64 (b),.int .i64 (c)] ?hr (Reps.c3 (k76_mkM _ _ _ ⟨a,b,c⟩) (Reps.none _ _)) (by simp) B ?_;(case hd | hg=>rfl);(case hr=>go_simp;first | done | rfl);intro z50 hz50 AL50 kL50 w802 hb B RL50 QL50;have NB3_L50:=nb QL50 F3;replace F3:=bn F3 hb;replace Rp6:=rn Rp6 hb;clear c3_0 c3_1 c3_2;obtain ⟨c3_0,c3_1,c3_2⟩:=cs3 F3;clear hb QL50)
          | ((with_reducible refine gate_builtin (b:=.append) (xs:=#[.tmp 48,.tmp 50]) rfl ?_);at_builtin;refine apx k76 76 rfl (.tmp 48) (.tmp 50) 36 (.agg #[.int .i64 (0),.int .i64 (0),.int .i64 (0)]) 24 rfl Try.underlying36 info76 rfl (by decide) (by omega) rfl rfl Rp6 (rc RL50) (fun x cs h=>by rw [k76_open h];exact k76_mkM _ _ _ x) (by rw [← hz50];simp only [List.length_cons,List.length_nil];omega) B ?_;intro z51 hz51 AL51 kL51 w803 hg B RL51 hat;have NB3_L51:=nba hat NB3_p6 F3;replace F3:=bgn F3 hg NB3_p6;clear c3_0 c3_1 c3_2;obtain ⟨c3_0,c3_1,c3_2⟩:=cs3 F3;clear hg hat;subst hz50))
         all_goals (
          refine rg (n:=8) (S:=fun W=>Kd.C k76 W (some ad) l.length l∧W.heap[g3]?=some (.cells #[.int .i64 (a),.int .i64 (b),.int .i64 (c)] 76 (0,0))) (ds:=[]) #[false,false,false,false,false,false,false,false] (by kernel_rfl) rfl rfl ⟨(cb HR0 B),F3.out⟩ id B (fun w804 hb B hHeld=>?_)
          refine with_tabW spec_SessionPut.tab13 spec_SessionPut.bits13 (fun HT_ HW_=>?_)
          replace F3:=bn F3 hb
          replace RL51:=rn RL51 hb
          clear hb
          refine pvq 0 (some 52) (bits 8 1) HT_ ?_
          refine pvq 1 (some 53) (bits 8 3) HT_ ?_
          refine pvq 2 (some 54) (bits 8 7) HT_ ?_
          refine pvq 3 (some 55) (bits 8 15) HT_ ?_
          refine tvq 4 (some 56) (bits 8 31) HT_ HW_ rfl hHeld (by intro w' hS;obtain ⟨s0,s1⟩:=hS;obtain ⟨_,hA,q0,q1,q2⟩:=at_T76 s0 (j : Int) (by omega) (by omega);cases hA;rw [Int.toNat_natCast] at q0 q1 q2;rw [hy] at q0 q1 q2;go_simp;with_reducible rfl) ?_
          refine pvq 5 (some 57) (bits 8 63) HT_ ?_
          refine tvq 6 (some 58) (bits 8 127) HT_ HW_ rfl hHeld (by intro w' hS;obtain ⟨s0,s1⟩:=hS;obtain ⟨q0,q1,q2⟩:=cs3 (Aside0.mk s1);go_simp;with_reducible rfl) ?_
          refine pvq 7 (some 59) (bits 8 255) HT_ ?_
          refine nmq ?_
          refine done_ (done_of HT_.out (by kernel_rfl)) ?_
          clear y0 y1 y2
          obtain ⟨ad2,hA,y0,y1,y2⟩:=at_T76 (cb HR0 B) (j : Int) (by omega) (by omega)
          cases hA
          rw [Int.toNat_natCast,hy] at y0 y1 y2)
         all_goals go_wp2_with (first
          | ((with_reducible refine gate_dst (N:=65) rfl ?_);refine lt k76 76 ?hg (N:=65) ?hd ([⟨y.f0,y.f1,y.f2⟩] : List S76) [.int .i64 (y.f0),.int .i64 (y.f1),.int .i64 (y.f2)] ?hr (Reps.c3 (k76_mkM _ _ _ ⟨y.f0,y.f1,y.f2⟩) (Reps.none _ _)) (by simp) B ?_;(case hd | hg=>rfl);(case hr=>go_simp;first | done | rfl);intro z65 hz65 AL65 kL65 w805 hb B RL65 QL65;have NB3_L65:=nb QL65 F3;replace F3:=bn F3 hb;replace RL51:=rn RL51 hb;clear hb QL65)
          | ((with_reducible refine gate_builtin (b:=.append) (xs:=#[.tmp 60,.tmp 65]) rfl ?_);at_builtin;refine apx k76 76 rfl (.tmp 60) (.tmp 65) 36 (.agg #[.int .i64 (0),.int .i64 (0),.int .i64 (0)]) 24 rfl Try.underlying36 info76 rfl (by decide) (by omega) rfl rfl RL51 (rc RL65) (fun x cs h=>by rw [k76_open h];exact k76_mkM _ _ _ x) (by rw [← hz65,← hz51];simp only [List.length_append,List.length_cons,List.length_nil];omega) B ?_;intro z66 hz66 AL66 kL66 w806 hg B RL66 hat;have NB3_L66:=nba hat NB3_L51 F3;replace F3:=bgn F3 hg NB3_L51;clear hg hat;subst hz65))
         go_roundg d
         case measure=>omega
         case rel=>exact ⟨j + 1,z66,true,congrArg (Value.int .i64) (Int.natCast_succ _).symm,rfl,by omega,by omega,(by rw [← hz66,← hz51];simp only [List.length_append,List.length_cons,List.length_nil];omega),B,F3,RL66,NB3_L66,⟨by rw [← hz66,← hz51];have HS:=HT.out;simp only [List.append_assoc,List.cons_append,List.nil_append,List.append_nil] at HS ⊢;exact HS⟩⟩
       ·have dg : decide (y.f0 ≥ a)=false:=decide_eq_false hge
        rw [if_neg (fun h=>hge h.2)] at HS
        have he : ¬ y.f0=a:=fun h=>hge (by omega)
        have dn : (y.f0 != a)=true:=by simp [he]
        have dn2 : decide (y.f0=a)=false:=decide_eq_false he
        rw [if_neg he] at HS
        have HT:=Aside0.mk HS
        clear HS
        try go_wp2
        all_goals (
         refine rg (n:=12) (S:=fun W=>Kd.C k76 W (some ad) l.length l∧W.heap[g3]?=some (.cells #[.int .i64 (a),.int .i64 (b),.int .i64 (c)] 76 (0,0))) (ds:=[]) #[false,false,false,false,false,false,false,false,false,false,false,false] (by kernel_rfl) rfl rfl ⟨(cb HR0 B),F3.out⟩ id B (fun w901 hb B hHeld=>?_)
         refine with_tabW spec_SessionPut.tab10 spec_SessionPut.bits10 (fun HT_ HW_=>?_)
         replace F3:=bn F3 hb
         replace Rp6:=rn Rp6 hb
         clear hb
         refine pvq 0 (some 36) (bits 12 1) HT_ ?_
         refine pvq 1 (some 37) (bits 12 3) HT_ ?_
         refine pvq 2 (some 38) (bits 12 7) HT_ ?_
         refine pvq 3 (some 39) (bits 12 15) HT_ ?_
         refine pvq 4 (some 40) (bits 12 31) HT_ ?_
         refine pvq 5 (some 41) (bits 12 63) HT_ ?_
         refine pvq 6 (some 42) (bits 12 127) HT_ ?_
         refine tvq 7 (some 43) (bits 12 255) HT_ HW_ rfl hHeld (by intro w' hS;obtain ⟨s0,s1⟩:=hS;obtain ⟨_,hA,q0,q1,q2⟩:=at_T76 s0 (j : Int) (by omega) (by omega);cases hA;rw [Int.toNat_natCast] at q0 q1 q2;rw [hy] at q0 q1 q2;go_simp;with_reducible rfl) ?_
         refine pvq 8 (some 44) (bits 12 511) HT_ ?_
         refine tvq 9 (some 45) (bits 12 1023) HT_ HW_ rfl hHeld (by intro w' hS;obtain ⟨s0,s1⟩:=hS;obtain ⟨q0,q1,q2⟩:=cs3 (Aside0.mk s1);go_simp;with_reducible rfl) ?_
         refine pvq 10 (some 46) (bits 12 2047) HT_ ?_
         refine pvq 11 (some 47) (bits 12 4095) HT_ ?_
         refine nmq ?_
         refine done_ (done_of HT_.out (by kernel_rfl)) ?_
         clear c3_0 c3_1 c3_2
         obtain ⟨c3_0,c3_1,c3_2⟩:=cs3 F3)
        all_goals try go_wp2
        all_goals (
         refine rg (n:=8) (S:=fun W=>Kd.C k76 W (some ad) l.length l∧W.heap[g3]?=some (.cells #[.int .i64 (a),.int .i64 (b),.int .i64 (c)] 76 (0,0))) (ds:=[]) #[false,false,false,false,false,false,false,false] (by kernel_rfl) rfl rfl ⟨(cb HR0 B),F3.out⟩ id B (fun w902 hb B hHeld=>?_)
         refine with_tabW spec_SessionPut.tab13 spec_SessionPut.bits13 (fun HT_ HW_=>?_)
         replace F3:=bn F3 hb
         replace Rp6:=rn Rp6 hb
         clear hb
         refine pvq 0 (some 52) (bits 8 1) HT_ ?_
         refine pvq 1 (some 53) (bits 8 3) HT_ ?_
         refine pvq 2 (some 54) (bits 8 7) HT_ ?_
         refine pvq 3 (some 55) (bits 8 15) HT_ ?_
         refine tvq 4 (some 56) (bits 8 31) HT_ HW_ rfl hHeld (by intro w' hS;obtain ⟨s0,s1⟩:=hS;obtain ⟨_,hA,q0,q1,q2⟩:=at_T76 s0 (j : Int) (by omega) (by omega);cases hA;rw [Int.toNat_natCast] at q0 q1 q2;rw [hy] at q0 q1 q2;go_simp;with_reducible rfl) ?_
         refine pvq 5 (some 57) (bits 8 63) HT_ ?_
         refine tvq 6 (some 58) (bits 8 127) HT_ HW_ rfl hHeld (by intro w' hS;obtain ⟨s0,s1⟩:=hS;obtain ⟨q0,q1,q2⟩:=cs3 (Aside0.mk s1);go_simp;with_reducible rfl) ?_
         refine pvq 7 (some 59) (bits 8 255) HT_ ?_
         refine nmq ?_
         refine done_ (done_of HT_.out (by kernel_rfl)) ?_
         clear y0 y1 y2
         obtain ⟨ad2,hA,y0,y1,y2⟩:=at_T76 (cb HR0 B) (j : Int) (by omega) (by omega)
         cases hA
         rw [Int.toNat_natCast,hy] at y0 y1 y2)
        all_goals go_wp2_with (first
         | ((with_reducible refine gate_dst (N:=65) rfl ?_);refine lt k76 76 ?hg (N:=65) ?hd ([⟨y.f0,y.f1,y.f2⟩] : List S76) [.int .i64 (y.f0),.int .i64 (y.f1),.int .i64 (y.f2)] ?hr (Reps.c3 (k76_mkM _ _ _ ⟨y.f0,y.f1,y.f2⟩) (Reps.none _ _)) (by simp) B ?_;(case hd | hg=>rfl);(case hr=>go_simp;first | done | rfl);intro z65 hz65 AL65 kL65 w903 hb B RL65 QL65;have NB3_L65:=nb QL65 F3;replace F3:=bn F3 hb;replace Rp6:=rn Rp6 hb;clear hb QL65)
         | ((with_reducible refine gate_builtin (b:=.append) (xs:=#[.tmp 60,.tmp 65]) rfl ?_);at_builtin;refine apx k76 76 rfl (.tmp 60) (.tmp 65) 36 (.agg #[.int .i64 (0),.int .i64 (0),.int .i64 (0)]) 24 rfl Try.underlying36 info76 rfl (by decide) (by omega) rfl rfl Rp6 (rc RL65) (fun x cs h=>by rw [k76_open h];exact k76_mkM _ _ _ x) (by rw [← hz65];simp only [List.length_append,List.length_cons,List.length_nil];omega) B ?_;intro z66 hz66 AL66 kL66 w904 hg B RL66 hat;have NB3_L66:=nba hat NB3_p6 F3;replace F3:=bgn F3 hg NB3_p6;clear hg hat;subst hz65))
        go_roundg d
        case measure=>omega
        case rel=>exact ⟨j + 1,z66,false,congrArg (Value.int .i64) (Int.natCast_succ _).symm,rfl,by omega,by omega,(by rw [← hz66];simp only [List.length_append,List.length_cons,List.length_nil];omega),B,F3,RL66,NB3_L66,⟨by rw [← hz66];have HS:=HT.out;simp only [List.append_assoc,List.cons_append,List.nil_append,List.append_nil] at HS ⊢;exact HS⟩⟩
     ·have cj : decide ((j : Int) < (l.length : Int))=false:=decide_eq_false (by omega)
      have hr:=H.out
      rw [List.drop_of_length_le (by omega)] at hr
      cases pl with
      | true =>
       rw [show putL ([] : List S76) ⟨a,b,c⟩ true=[] from rfl,List.append_nil] at hr
       subst hr
       go_wp2
       go_ret2
       exact ⟨_,rfl,Rp6.out,B.out⟩
      | false =>
       rw [show putL ([] : List S76) ⟨a,b,c⟩ false=[⟨a,b,c⟩] from rfl] at hr
       subst hr
       go_wp2_with (first
        | ((with_reducible refine gate_dst (N:=71) rfl ?_);refine lt k76 76 ?hg (N:=71) ?hd ([⟨a,b,c⟩] : List S76) [.int .i64 (a),.int .i64 (b),.int .i64 (c)] ?hr (Reps.c3 (k76_mkM _ _ _ ⟨a,b,c⟩) (Reps.none _ _)) (by simp) B ?_;(case hd | hg=>rfl);(case hr=>go_simp;first | done | rfl);intro z71 hz71 AL71 kL71 w1201 hb B RL71 QL71;have NB3_L71:=nb QL71 F3;replace F3:=bn F3 hb;replace Rp6:=rn Rp6 hb;clear hb QL71)
        | ((with_reducible refine gate_builtin (b:=.append) (xs:=#[.tmp 69,.tmp 71]) rfl ?_);at_builtin;refine apx k76 76 rfl (.tmp 69) (.tmp 71) 36 (.agg #[.int .i64 (0),.int .i64 (0),.int .i64 (0)]) 24 rfl Try.underlying36 info76 rfl (by decide) (by omega) rfl rfl Rp6 (rc RL71) (fun x cs h=>by rw [k76_open h];exact k76_mkM _ _ _ x) (by rw [← hz71];simp only [List.length_cons,List.length_nil];omega) B ?_;intro z72 hz72 AL72 kL72 w1202 hg B RL72 hat;have NB3_L72:=nba hat NB3_p6 F3;replace F3:=bgn F3 hg NB3_p6;clear hg hat;subst hz71))
       go_ret2
       exact ⟨_,rfl,by rw [hz72];exact RL72.out,B.out⟩
  | false =>
   have hone : sesB [(⟨a,b,c⟩ : S76)]=false:=by rw [sesOne];exact ho
   have hM : putB l ⟨a,b,c⟩=([],false):=put_bad (.inr hone)
   go_enter Try.func44,Try.ntmps44
   go_wp2_with (first
    | ((with_reducible refine gate_dst (N:=3) rfl ?_);refine bxq 3 #[.int .i64 (a),.int .i64 (b),.int .i64 (c)] 76 B fun g3 w101 hb B F3 L3 E3=>?_;obtain ⟨c3_0,c3_1,c3_2⟩:=cs3 F3;clear hb E3)
    | ((with_reducible refine gate_dst (N:=9) rfl ?_);refine lt k76 76 ?hg (N:=9) ?hd ([] : List S76) [] ?hr (Reps.none _ _) (by simp) B ?_;(case hd | hg=>rfl);(case hr=>go_simp;first | done | rfl);intro z9 hz9 AL9 kL9 w102 hb B RL9 QL9;have NB3_L9:=nb QL9 F3;replace F3:=bn F3 hb;clear c3_0 c3_1 c3_2;obtain ⟨c3_0,c3_1,c3_2⟩:=cs3 F3;clear hb QL9;subst hz9)
    | (go_at_call 82;with_reducible refine cl (spec_SessionsValid.M _ _ l _ (cb HR0 B)) B fun w103 hb B=>?_;replace F3:=bn F3 hb;replace RL9:=rn RL9 hb;clear c3_0 c3_1 c3_2;obtain ⟨c3_0,c3_1,c3_2⟩:=cs3 F3;clear hb)
    | ((with_reducible refine gate_dst (N:=15) rfl ?_);refine ungate ?hw ?_;(case hw=>first | (go_simp;done) | rfl);refine lt k76 76 ?hg (N:=15) ?hd ([⟨a,b,c⟩] : List S76) [.int .i64 (a),.int .i64 (b),.int .i64 (c)] ?hr (Reps.c3 (k76_mkM _ _ _ ⟨a,b,c⟩) (Reps.none _ _)) (by simp) B ?_;(case hd | hg=>rfl);(case hr=>go_simp;first | done | rfl);intro z15 hz15 AL15 kL15 w104 hb B RL15 QL15;have NB3_L15:=nb QL15 F3;replace F3:=bn F3 hb;replace RL9:=rn RL9 hb;clear hb QL15)
    | (go_at_call 82;with_reducible refine cl (clv (spec_SessionsValid.M _ _ z15 _ (rc RL15)) (congrArg Value.bool (show sesB z15=false by rw [← hz15];exact hone))) B fun w105 hb B=>?_;replace F3:=bn F3 hb;replace RL9:=rn RL9 hb;clear hb;clear hz15))
   go_ret2;exact ⟨_,by rw [hM];rfl,by rw [hM];exact RL9.out,B.out⟩
 ·replace hv:=Bool.eq_false_iff.mpr hv
  have hM : putB l ⟨a,b,c⟩=([],false):=put_bad (.inl hv)
  have hone:=hv
  go_enter Try.func44,Try.ntmps44
  go_wp2_with (first
   | ((with_reducible refine gate_dst (N:=3) rfl ?_);refine bxq 3 #[.int .i64 (a),.int .i64 (b),.int .i64 (c)] 76 B fun g3 w1 hb B F3 L3 E3=>?_;obtain ⟨c3_0,c3_1,c3_2⟩:=cs3 F3;clear hb E3)
   | ((with_reducible refine gate_dst (N:=9) rfl ?_);refine lt k76 76 ?hg (N:=9) ?hd ([] : List S76) [] ?hr (Reps.none _ _) (by simp) B ?_;(case hd | hg=>rfl);(case hr=>go_simp;first | done | rfl);intro z9 hz9 AL9 kL9 w2 hb B RL9 QL9;have NB3_L9:=nb QL9 F3;replace F3:=bn F3 hb;clear c3_0 c3_1 c3_2;obtain ⟨c3_0,c3_1,c3_2⟩:=cs3 F3;clear hb QL9;subst hz9)
   | (go_at_call 82;with_reducible refine cl (spec_SessionsValid.M _ _ l _ (cb HR0 B)) B fun w3 hb B=>?_;replace F3:=bn F3 hb;replace RL9:=rn RL9 hb;clear c3_0 c3_1 c3_2;obtain ⟨c3_0,c3_1,c3_2⟩:=cs3 F3;clear hb)
   | ((with_reducible refine gate_dst (N:=15) rfl ?_);refine ungate ?hw ?_;(case hw=>first | (go_simp;done) | rfl);refine lt k76 76 ?hg (N:=15) ?hd ([⟨a,b,c⟩] : List S76) [.int .i64 (a),.int .i64 (b),.int .i64 (c)] ?hr (Reps.c3 (k76_mkM _ _ _ ⟨a,b,c⟩) (Reps.none _ _)) (by simp) B ?_;(case hd | hg=>rfl);(case hr=>go_simp;first | done | rfl);intro z15 hz15 AL15 kL15 w4 hb B RL15 QL15;have NB3_L15:=nb QL15 F3;replace F3:=bn F3 hb;replace RL9:=rn RL9 hb;clear hb QL15)
   | (go_at_call 82;with_reducible refine cl (clv (spec_SessionsValid.M _ _ z15 _ (rc RL15)) (congrArg Value.bool (show sesB z15=false by rw [← hz15];exact hone))) B fun w5 hb B=>?_;replace F3:=bn F3 hb;replace RL9:=rn RL9 hb;clear hb;clear hz15))
  go_ret2;exact ⟨_,by rw [hM];rfl,by rw [hM];exact RL9.out,B.out⟩

def spec_IntervalCut.T5 : Bool × List (List Nat × List Nat):=(true,[([],[]),([],[]),([0,0],[0]),([1,2,0,1,2],[1]),([3,0,1,2,3],[])])
def spec_IntervalCut.B5 : List Nat:=[0,0,1,7,15]
theorem spec_IntervalCut.tab5 : rtab .any (opsOf Try.f41 5)=spec_IntervalCut.T5:=by kernel_rfl
theorem spec_IntervalCut.bits5 : waitsOk spec_IntervalCut.T5.2 spec_IntervalCut.B5=true:=by kernel_rfl
theorem spec_IntervalCut.M (a b c : ByteArray) (w : World) : Calls Try.prog 41 #[.agg #[.string a,.string b],.string c] w fun e w'=>e=.returned (.tuple #[.agg #[.string (cutV a b c).1,.string (cutV a b c).2.1],.agg #[.string (cutV a b c).2.2.1,.string (cutV a b c).2.2.2.1],.bool (cutV a b c).2.2.2.2])∧Below w.heap.size w w':=by
 have B:=Aside0.mk (Below.refl w.heap.size w)
 have hu:=Try.underlying34
 go_enter Try.func41,Try.ntmps41
 go_wp2_with (first
  | ((with_reducible refine gate_dst (N:=2) rfl ?_);refine bxq 2 #[.string a,.string b] 34 B fun g2 w1 hb B F2 L2 E2=>?_;obtain ⟨c2_0,c2_1⟩:=cs2 F2;clear hb E2)
  | ((with_reducible refine gate_dst (N:=4) rfl ?_);refine bxq 4 #[.string (⟨#[]⟩ : ByteArray),.string (⟨#[]⟩ : ByteArray)] 34 B fun g4 w2 hb B F4 L4 E4=>?_;have N2_4:=ne1 E4 F2;replace F2:=bn F2 hb;clear c2_0 c2_1;obtain ⟨c2_0,c2_1⟩:=cs2 F2;clear hb E4)
  | ((with_reducible refine gate_dst (N:=5) rfl ?_);refine bxq 5 #[.string (⟨#[]⟩ : ByteArray),.string (⟨#[]⟩ : ByteArray)] 34 B fun g5 w3 hb B F5 L5 E5=>?_;have N2_5:=ne1 E5 F2;have N4_5:=ne1 E5 F4;replace F2:=bn F2 hb;replace F4:=bn F4 hb;clear c2_0 c2_1;obtain ⟨c2_0,c2_1⟩:=cs2 F2;clear hb E5)
  | ((with_reducible refine gate_dst (N:=7) rfl ?_);refine bxq 7 #[.string (⟨#[]⟩ : ByteArray),.string (⟨#[]⟩ : ByteArray)] 34 B fun g7 w4 hb B F7 L7 E7=>?_;have N2_7:=ne1 E7 F2;have N4_7:=ne1 E7 F4;have N5_7:=ne1 E7 F5;replace F2:=bn F2 hb;replace F4:=bn F4 hb;replace F5:=bn F5 hb;clear c2_0 c2_1;obtain ⟨c2_0,c2_1⟩:=cs2 F2;obtain ⟨c7_0,c7_1⟩:=cs2 F7;clear hb E7)
  | ((with_reducible refine gate_store (t:=34) (p:=7) rfl ?_);obtain ⟨y0,y1,z0,z1⟩:=cz2 F7;refine sxq 34 34 7 0 [.string a,.string c] [.string a,.string c] B F7 L7 fun w5 hk B G=>?_;replace F2:=bk F2 hk N2_7.out;replace F4:=bk F4 hk N4_7.out;replace F5:=bk F5 hk N5_7.out;replace F7:=G;clear c2_0 c2_1;obtain ⟨c2_0,c2_1⟩:=cs2 F2;clear c7_0 c7_1;obtain ⟨c7_0,c7_1⟩:=cs2 F7;clear hk y0 z0 y1 z1)
  | ((with_reducible refine gate_dst (N:=8) rfl ?_);refine bxq 8 #[.string (⟨#[]⟩ : ByteArray),.string (⟨#[]⟩ : ByteArray)] 34 B fun g8 w6 hb B F8 L8 E8=>?_;have N2_8:=ne1 E8 F2;have N4_8:=ne1 E8 F4;have N5_8:=ne1 E8 F5;have N7_8:=ne1 E8 F7;replace F2:=bn F2 hb;replace F4:=bn F4 hb;replace F5:=bn F5 hb;replace F7:=bn F7 hb;clear c2_0 c2_1;obtain ⟨c2_0,c2_1⟩:=cs2 F2;clear c7_0 c7_1;obtain ⟨c7_0,c7_1⟩:=cs2 F7;obtain ⟨c8_0,c8_1⟩:=cs2 F8;clear hb E8)
  | ((with_reducible refine gate_store (t:=34) (p:=8) rfl ?_);obtain ⟨y0,y1,z0,z1⟩:=cz2 F8;refine sxq 34 34 8 0 [.string c,.string b] [.string c,.string b] B F8 L8 fun w7 hk B G=>?_;replace F2:=bk F2 hk N2_8.out;replace F4:=bk F4 hk N4_8.out;replace F5:=bk F5 hk N5_8.out;replace F7:=bk F7 hk N7_8.out;replace F8:=G;clear c2_0 c2_1;obtain ⟨c2_0,c2_1⟩:=cs2 F2;clear c7_0 c7_1;obtain ⟨c7_0,c7_1⟩:=cs2 F7;clear c8_0 c8_1;obtain ⟨c8_0,c8_1⟩:=cs2 F8;clear hk y0 z0 y1 z1)
  | (go_at_call 80;with_reducible refine cl (spec_IntervalValid.M a b _) B fun w8 hb B=>?_;replace F4:=bn F4 hb;replace F5:=bn F5 hb;replace F7:=bn F7 hb;replace F8:=bn F8 hb;clear c7_0 c7_1;obtain ⟨c7_0,c7_1⟩:=cs2 F7;clear c8_0 c8_1;obtain ⟨c8_0,c8_1⟩:=cs2 F8;clear hb)
  | (go_at_call 85;with_reducible refine cl (spec_KeyValid.M c _) B fun w9 hb B=>?_;replace F4:=bn F4 hb;replace F5:=bn F5 hb;replace F7:=bn F7 hb;replace F8:=bn F8 hb;clear c7_0 c7_1;obtain ⟨c7_0,c7_1⟩:=cs2 F7;clear c8_0 c8_1;obtain ⟨c8_0,c8_1⟩:=cs2 F8;clear hb)
  | (go_at_call 80;with_reducible refine cl (spec_IntervalValid.M a c _) B fun w10 hb B=>?_;replace F4:=bn F4 hb;replace F5:=bn F5 hb;replace F7:=bn F7 hb;replace F8:=bn F8 hb;clear c7_0 c7_1;obtain ⟨c7_0,c7_1⟩:=cs2 F7;clear c8_0 c8_1;obtain ⟨c8_0,c8_1⟩:=cs2 F8;clear hb)
  | (go_at_call 80;with_reducible refine cl (spec_IntervalValid.M c b _) B fun w11 hb B=>?_;replace F4:=bn F4 hb;replace F5:=bn F5 hb;replace F7:=bn F7 hb;replace F8:=bn F8 hb;clear c7_0 c7_1;obtain ⟨c7_0,c7_1⟩:=cs2 F7;clear c8_0 c8_1;obtain ⟨c8_0,c8_1⟩:=cs2 F8;clear hb)
  | ((with_reducible refine gate_store (t:=34) (p:=4) rfl ?_);obtain ⟨y0,y1,z0,z1⟩:=cz2 F4;refine sxq 34 34 4 0 [.string (⟨#[]⟩ : ByteArray),.string (⟨#[]⟩ : ByteArray)] [.string (⟨#[]⟩ : ByteArray),.string (⟨#[]⟩ : ByteArray)] B F4 L4 fun w12 hk B G=>?_;replace F5:=bk F5 hk N4_5.out.symm;replace F7:=bk F7 hk N4_7.out.symm;replace F8:=bk F8 hk N4_8.out.symm;replace F4:=G;clear c7_0 c7_1;obtain ⟨c7_0,c7_1⟩:=cs2 F7;clear c8_0 c8_1;obtain ⟨c8_0,c8_1⟩:=cs2 F8;clear hk y0 z0 y1 z1)
  | ((with_reducible refine gate_store (t:=34) (p:=5) rfl ?_);obtain ⟨y0,y1,z0,z1⟩:=cz2 F5;refine sxq 34 34 5 0 [.string (⟨#[]⟩ : ByteArray),.string (⟨#[]⟩ : ByteArray)] [.string (⟨#[]⟩ : ByteArray),.string (⟨#[]⟩ : ByteArray)] B F5 L5 fun w13 hk B G=>?_;replace F4:=bk F4 hk N4_5.out;replace F7:=bk F7 hk N5_7.out.symm;replace F8:=bk F8 hk N5_8.out.symm;replace F5:=G;clear c7_0 c7_1;obtain ⟨c7_0,c7_1⟩:=cs2 F7;clear c8_0 c8_1;obtain ⟨c8_0,c8_1⟩:=cs2 F8;clear hk y0 z0 y1 z1))
 all_goals try (refine bodyPost_ret (results_list (rs:=[.cell 4 34,.cell 5 34,.tmp 6]) rfl (by simp) (.cell g4 34 _ (0,0) _ rfl F4.out hu rfl (by kernel_rfl) (.cell g5 34 _ (0,0) _ rfl F5.out hu rfl (by kernel_rfl) (.tmp .nil)))) rfl ?_;refine ⟨?_,B.out⟩;unfold cutV cutB;simp_all;done)
 all_goals (
  refine rg (n:=5) (S:=fun W=>W.heap[g7]?=some (.cells #[.string a,.string c] 34 (0,0))∧W.heap[g8]?=some (.cells #[.string c,.string b] 34 (0,0))) (ds:=[]) #[false,false,false,false,false] (by kernel_rfl) rfl rfl ⟨F7.out,F8.out⟩ id B (fun w14 hb B hHeld=>?_)
  refine with_tabW spec_IntervalCut.tab5 spec_IntervalCut.bits5 (fun HT_ HW_=>?_)
  replace F4:=bn F4 hb
  replace F5:=bn F5 hb
  replace F7:=bn F7 hb
  replace F8:=bn F8 hb
  clear hb
  refine tvq 0 (some 37) (bits 5 1) HT_ HW_ rfl hHeld (by intro w' hS;obtain ⟨s0,s1⟩:=hS;obtain ⟨q0,q1⟩:=cs2 (Aside0.mk s0);go_simp;with_reducible rfl) ?_
  refine tvq 1 (some 38) (bits 5 3) HT_ HW_ rfl hHeld (by intro w' hS;obtain ⟨s0,s1⟩:=hS;obtain ⟨q0,q1⟩:=cs2 (Aside0.mk s1);go_simp;with_reducible rfl) ?_
  refine nmq ?_
  refine one_ (i:=2) (N:=none) (bits 5 7) rfl rfl (one_of HT_.out (by kernel_rfl)) (by decide) (fun K hK=>?_)
  obtain ⟨y0,y1,z0,z1⟩:=cz2 F4
  refine sxs (g:=g4) 0 [.string a,.string c] [.string a,.string c] (by rfl) rfl ?hr B F4 L4 rfl (Nat.le_of_ble_eq_true rfl) (fun w15 hk B G=>?_)
  (case hr=>go_simp;first | done | rfl)
  replace F5:=bk F5 hk N4_5.out.symm
  replace F7:=bk F7 hk N4_7.out.symm
  replace F8:=bk F8 hk N4_8.out.symm
  replace F4:=G
  clear hk y0 z0 y1 z1
  refine hK.out _ _ ⟨F7.out,F8.out⟩ (fun hHeld=>?_)
  clear hK K
  refine one_ (i:=3) (N:=none) (bits 5 15) rfl rfl (one_of HT_.out (by kernel_rfl)) (by decide) (fun K hK=>?_)
  obtain ⟨y0,y1,z0,z1⟩:=cz2 F5
  refine sxs (g:=g5) 0 [.string c,.string b] [.string c,.string b] (by rfl) rfl ?hr B F5 L5 rfl (Nat.le_of_ble_eq_true rfl) (fun w16 hk B G=>?_)
  (case hr=>go_simp;first | done | rfl)
  replace F4:=bk F4 hk N4_5.out
  replace F7:=bk F7 hk N5_7.out.symm
  replace F8:=bk F8 hk N5_8.out.symm
  replace F5:=G
  clear hk y0 z0 y1 z1
  refine hK.out _ _ ⟨F7.out,F8.out⟩ (fun hHeld=>?_)
  clear hK K
  refine pvq 4 (some 6) (bits 5 31) HT_ ?_
  refine nmq ?_
  refine done_ (done_of HT_.out (by kernel_rfl)) ?_)
 all_goals try go_wp2
 all_goals try (refine bodyPost_ret (results_list (rs:=[.cell 4 34,.cell 5 34,.tmp 6]) rfl (by simp) (.cell g4 34 _ (0,0) _ rfl F4.out hu rfl (by kernel_rfl) (.cell g5 34 _ (0,0) _ rfl F5.out hu rfl (by kernel_rfl) (.tmp .nil)))) rfl ?_;refine ⟨?_,B.out⟩;unfold cutV cutB;simp_all;done)

def spec_StateValid.T6 : Bool × List (List Nat × List Nat):=(true,[([],[]),([0],[0]),([],[]),([2],[2]),([],[]),([3,4],[3,4]),([5],[5]),([6],[6]),([1,7],[1,7]),([8],[8])])
def spec_StateValid.B6 : List Nat:=[0,1,0,4,0,28,60,124,255,511]
theorem spec_StateValid.tab6 : rtab .any (opsOf Try.f37 6)=spec_StateValid.T6:=by kernel_rfl
theorem spec_StateValid.bits6 : waitsOk spec_StateValid.T6.2 spec_StateValid.B6=true:=by kernel_rfl
theorem spec_StateValid.M (a b : ByteArray) (AP : Option Addr) (cP : Nat) (ps : List S105) (AS : Option Addr) (cS : Nat) (ss : List S76) (t : Bool) (c : ByteArray) (w : World) (hrp : Kd.C k105 w AP ps.length ps) (hrs : Kd.C k76 w AS ss.length ss) : Calls Try.prog 37 #[.agg #[.string a,.string b,.slice AP ps.length cP,.slice AS ss.length cS,.bool t,.string c]] w fun e w'=>e=.returned (.bool (stB a b ps ss t c))∧Below w.heap.size w w':=by
 have B:=Aside0.mk (Below.refl w.heap.size w)
 have hu:=Try.underlying38
 have hu2:=Try.underlying34
 have HRP:=Aside0.mk hrp
 have HRS:=Aside0.mk hrs
 clear hrp hrs
 go_enter Try.func37,Try.ntmps37
 go_wp2_with (first
  | ((with_reducible refine gate_dst (N:=1) rfl ?_);refine bxq 1 #[.string a,.string b,.slice AP ps.length cP,.slice AS ss.length cS,.bool t,.string c] 38 B fun g1 w1 hb B F1 L1 E1=>?_;obtain ⟨c1_0,c1_1,c1_2,c1_3,c1_4,c1_5⟩:=cs6 F1;clear hb E1)
  | (go_at_call 80;with_reducible refine cl (spec_IntervalValid.M a b _) B fun w2 hb B=>?_;replace F1:=bn F1 hb;clear c1_0 c1_1 c1_2 c1_3 c1_4 c1_5;obtain ⟨c1_0,c1_1,c1_2,c1_3,c1_4,c1_5⟩:=cs6 F1;clear hb)
  | (go_at_call 81;with_reducible refine cl (spec_PairsValid.M _ _ ps _ (cb HRP B)) B fun w3 hb B=>?_;replace F1:=bn F1 hb;clear c1_0 c1_1 c1_2 c1_3 c1_4 c1_5;obtain ⟨c1_0,c1_1,c1_2,c1_3,c1_4,c1_5⟩:=cs6 F1;clear hb)
  | (go_at_call 82;with_reducible refine cl (spec_SessionsValid.M _ _ ss _ (cb HRS B)) B fun w4 hb B=>?_;replace F1:=bn F1 hb;clear hb))
 all_goals try (go_ret;exact ⟨congrArg (fun b=>Ending.returned (Value.bool b)) (by grind [stB]),B.out⟩)
 have hv : ivB a b=true∧prB ps=true∧sesB ss=true:=by grind
 have hst : stB a b ps ss t c=((ps.all fun p=>hasB a b p.f0) && tailB a b t c):=by
  unfold stB
  rw [all_has hv.1 hv.2.1,hv.1,hv.2.1,hv.2.2]
  rfl
 obtain ⟨q,hq⟩ : ∃ q,(ps.all fun p=>hasB a b p.f0)=q:=⟨_,rfl⟩
 rw [hq] at hst
 have H:=Aside0.mk (show ((ps.drop 0).all fun p=>hasB a b p.f0)=q from hq)
 have L48:=Aside0.mk (prB_len hv.2.1)
 clear hq hv c1_0 c1_1 c1_2 c1_3 c1_4 c1_5
 have HST:=Aside0.mk hst
 clear hst
 go_loopg [3] (ps.length + 1) (fun kx v3 wr=>∃ j : Nat,v3=.int .i64 (j : Int)∧j≤ps.length∧ps.length < j + kx∧Aside0 (Below w.heap.size w wr)∧Aside0 (wr.heap[g1]?=some (.cells #[.string a,.string b,.slice AP ps.length cP,.slice AS ss.length cS,.bool t,.string c] 38 (0,0)))∧Aside0 (((ps.drop j).all fun p=>hasB a b p.f0)=q))
 case atStart=>exact ⟨0,rfl,by omega,by omega,B,F1,H⟩
 case round =>
  clear H B F1
  obtain ⟨j,rfl,hj,hk,B,F1,H⟩:=hrel
  have hst:=HST.out
  obtain ⟨c1_0,c1_1,c1_2,c1_3,c1_4,c1_5⟩:=cs6 F1
  by_cases hlt : j < ps.length
  ·have HS:=H.out
   rw [pr_drop hlt,List.all_cons] at HS
   clear H
   obtain ⟨d,rfl⟩ : ∃ d,gk=d + 1:=⟨gk - 1,by omega⟩
   have h48:=L48.out
   have cj : decide ((j : Int) < (ps.length : Int))=true:=decide_eq_true (by omega)
   obtain ⟨ad,hA,y0,y1⟩:=at_T105 (cb HRP B) (j : Int) (by omega) (by omega)
   cases hA
   rw [Int.toNat_natCast] at y0 y1
   have j1:=eq_true (show (j : Int) < (ps.length : Int) by omega)
   have j2:=eq_true hlt
   generalize hy : rd_T105 ps (j : Int)=y at *
   try go_wp2
   all_goals (
    refine rg (n:=10) (S:=fun W=>W.heap[g1]?=some (.cells #[.string a,.string b,.slice (some ad) ps.length cP,.slice AS ss.length cS,.bool t,.string c] 38 (0,0))∧Kd.C k105 W (some ad) ps.length ps) (ds:=[]) #[false,false,false,false,false,false,false,false,false,false] (by kernel_rfl) rfl rfl ⟨F1.out,(cb HRP B)⟩ id B (fun w5 hb B hHeld=>?_)
    refine with_tabW spec_StateValid.tab6 spec_StateValid.bits6 (fun HT_ HW_=>?_)
    replace F1:=bn F1 hb
    clear hb
    refine pvq 0 (some 30) (bits 10 1) HT_ ?_
    refine tvq 1 (some 31) (bits 10 3) HT_ HW_ rfl hHeld (by intro w' hS;obtain ⟨s0,s1⟩:=hS;obtain ⟨q0,q1,q2,q3,q4,q5⟩:=cs6 (Aside0.mk s0);go_simp;with_reducible rfl) ?_
    refine pvq 2 (some 32) (bits 10 7) HT_ ?_
    refine tvq 3 (some 33) (bits 10 15) HT_ HW_ rfl hHeld (by intro w' hS;obtain ⟨s0,s1⟩:=hS;obtain ⟨q0,q1,q2,q3,q4,q5⟩:=cs6 (Aside0.mk s0);go_simp;with_reducible rfl) ?_
    refine pvq 4 (some 34) (bits 10 31) HT_ ?_
    refine pvq 5 (some 35) (bits 10 63) HT_ ?_
    refine pvq 6 (some 36) (bits 10 127) HT_ ?_
    refine tvq 7 (some 37) (bits 10 255) HT_ HW_ rfl hHeld (by intro w' hS;obtain ⟨s0,s1⟩:=hS;obtain ⟨_,hA,q0,q1⟩:=at_T105 s1 (j : Int) (by omega) (by omega);cases hA;rw [Int.toNat_natCast] at q0 q1;rw [hy] at q0 q1;go_simp;with_reducible rfl) ?_
    refine nmq ?_
    refine one_ (i:=8) (N:=some 38) (bits 10 511) rfl rfl (one_of HT_.out (by kernel_rfl)) (by decide) (fun K hK=>?_)
    refine gsq Try.func42 #[.agg #[.string a,.string b],.string y.f0] ?_
    with_reducible refine cl (spec_IntervalHas.M a b y.f0 _) B fun w6 hb B=>?_
    replace F1:=bn F1 hb
    clear hb
    refine ⟨_,rfl,?_⟩
    refine hK.out _ _ ⟨F1.out,(cb HRP B)⟩ (fun hHeld=>?_)
    clear hK K
    refine npq (some 38) ?_
    refine pvq 9 (some 39) (bits 10 1023) HT_ ?_
    refine nmq ?_
    refine done_ (done_of HT_.out (by kernel_rfl)) ?_
    try go_wp2
    all_goals first
     | (go_roundg d;(case measure=>omega);(case rel=>exact ⟨j + 1,congrArg (Value.int .i64) (Int.natCast_succ _).symm,by omega,by omega,B,F1,⟨andT HS (by grind)⟩⟩))
     | (go_ret;exact ⟨congrArg (fun b=>Ending.returned (Value.bool b)) (by have HS:=HS;grind [stB]),B.out⟩))
   all_goals try go_wp2
  ·have cj : decide ((j : Int) < (ps.length : Int))=false:=decide_eq_false (by omega)
   have hr : q=true:=by rw [← H.out,List.drop_of_length_le (by omega)];rfl
   clear H
   go_wp2_with (first
    | (go_at_call 41;with_reducible refine cl (spec_IntervalCut.M a b c _) B fun w1 hb B=>?_;replace F1:=bn F1 hb;clear c1_0 c1_1 c1_2 c1_3 c1_4 c1_5;obtain ⟨c1_0,c1_1,c1_2,c1_3,c1_4,c1_5⟩:=cs6 F1;clear hb)
    | ((with_reducible refine gate_dst (N:=4) rfl ?_);refine bxq 4 #[.string (⟨#[]⟩ : ByteArray),.string (⟨#[]⟩ : ByteArray)] 34 B fun g4 w2 hb B F4 L4 E4=>?_;have N1_4:=ne1 E4 F1;replace F1:=bn F1 hb;clear c1_0 c1_1 c1_2 c1_3 c1_4 c1_5;obtain ⟨c1_0,c1_1,c1_2,c1_3,c1_4,c1_5⟩:=cs6 F1;clear hb E4)
    | ((with_reducible refine gate_dst (N:=5) rfl ?_);refine bxq 5 #[.string (⟨#[]⟩ : ByteArray),.string (⟨#[]⟩ : ByteArray)] 34 B fun g5 w3 hb B F5 L5 E5=>?_;have N1_5:=ne1 E5 F1;have N4_5:=ne1 E5 F4;replace F1:=bn F1 hb;replace F4:=bn F4 hb;clear c1_0 c1_1 c1_2 c1_3 c1_4 c1_5;obtain ⟨c1_0,c1_1,c1_2,c1_3,c1_4,c1_5⟩:=cs6 F1;clear hb E5)
    | ((with_reducible refine gate_store (t:=34) (p:=4) rfl ?_);obtain ⟨y0,y1,z0,z1⟩:=cz2 F4;refine sxq 34 34 4 0 [.string (cutV a b c).1,.string (cutV a b c).2.1] [.string (cutV a b c).1,.string (cutV a b c).2.1] B F4 L4 fun w4 hk B G=>?_;replace F1:=bk F1 hk N1_4.out;replace F5:=bk F5 hk N4_5.out.symm;replace F4:=G;clear c1_0 c1_1 c1_2 c1_3 c1_4 c1_5;obtain ⟨c1_0,c1_1,c1_2,c1_3,c1_4,c1_5⟩:=cs6 F1;clear hk y0 z0 y1 z1)
    | ((with_reducible refine gate_store (t:=34) (p:=5) rfl ?_);obtain ⟨y0,y1,z0,z1⟩:=cz2 F5;refine sxq 34 34 5 0 [.string (cutV a b c).2.2.1,.string (cutV a b c).2.2.2.1] [.string (cutV a b c).2.2.1,.string (cutV a b c).2.2.2.1] B F5 L5 fun w5 hk B G=>?_;replace F1:=bk F1 hk N1_5.out;replace F5:=G;clear c1_0 c1_1 c1_2 c1_3 c1_4 c1_5;obtain ⟨c1_0,c1_1,c1_2,c1_3,c1_4,c1_5⟩:=cs6 F1;clear hk y0 z0 y1 z1))
   all_goals go_ret
   all_goals
    refine ⟨congrArg (fun b=>Ending.returned (Value.bool b)) ?_,B.out⟩
    rw [hst,hr,Bool.true_and]
    unfold tailB
    grind [cutV_ok]

end Go.Proofs.Ythofkheehldioaa.PFnReplay
