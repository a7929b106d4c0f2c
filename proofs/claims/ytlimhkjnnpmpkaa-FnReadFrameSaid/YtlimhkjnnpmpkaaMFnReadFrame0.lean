/- Walks over models, part 0: base nums rows nbox c2r rdr drawn rd4 dwE rdff rdE frm mki infoint rdbyt rdcmdE drs rdentE esi drreadframe alive eqe lawFnReadFrame. -/
import Derived.Test.YtlimhkjnnpmpkaaPFnReadFramex0
import Derived.Deep.RegionHeld3
import Derived.Test.YtlimhkjnnpmpkaaPFnReadFramex1
import Derived.Lib.Strings
import Derived.Laws.BytesArg
import Derived.Test.YtlimhkjnnpmpkaaPFnReadFramex26
import Derived.Test.YtlimhkjnnpmpkaaPFnReadFramex25
import Derived.Test.YtlimhkjnnpmpkaaPFnReadFramex21
import Derived.Test.YtlimhkjnnpmpkaaPFnReadFramex16
import Derived.Test.YtlimhkjnnpmpkaaPFnReadFramex9
import Derived.Test.YtlimhkjnnpmpkaaPFnReadFramex24
import Derived.Test.YtlimhkjnnpmpkaaPFnReadFramex4
import Derived.Test.YtlimhkjnnpmpkaaPFnReadFramex22
namespace Go.Proofs.Ytlimhkjnnpmpkaa.PFnReadFrame
open Go.RowKit Go.Proofs.YtlimhkjnnpmpkaaW.PrintWords Go.Proofs.YtlimhkjnnpmpkaaW.PrintLast Go.Proofs.YtlimhkjnnpmpkaaW.PrintMore
set_option linter.unusedVariables false
set_option linter.unusedSimpArgs false
set_option maxHeartbeats 4000000
set_option maxRecDepth 100000
def bits (n m : Nat) : Array Bool:=((List.range n).map fun i=>m.testBit i).toArray
/-! Words: a call by its contract,boxes and rows carried on. -/
section
variable {P : Program} {F : FuncId} {args : Array Value} {w W W' : World} {v : Value} {Q : Ending→World→Prop}
theorem cl (c : Calls P F args W fun e w'=>e=.returned v∧Below W.heap.size W w') (B : Aside0 (Below w.heap.size w W))
    (h : ∀ W',Below W.heap.size W W'→Aside0 (Below w.heap.size w W')→Q (.returned v) W') : Calls P F args W Q :=
  c.mono (by rintro e W' ⟨rfl,hb⟩;exact h W' hb ⟨below_step B.out hb⟩)
variable {α β : Type} {d : Kd α} {d' : Kd β} {e e' b : Nat} {xs : List α} {ys : List β} {f : Value→Value}
/-- what a row of a call's own is known by -/
def Ow (d : Kd α) (e : Nat) (W : World) (b : Nat) (v : Value) (xs : List α) : Prop:=Kd.R d e W b (fun _=>True) v xs
/-- the row lies in a block that was not there before -/
def Fr (W : World) (v : Value) : Prop:=∀ k,v.ownBlock=some k→W.heap.size≤k
theorem cr (c : Calls P F args W fun r w'=>∃ v0,r=.returned (f v0)∧Kd.R d e w' W.heap.size (fun _=>True) v0 xs∧Below W.heap.size W w') (B : Aside0 (Below w.heap.size w W))
    (h : ∀ A kk W',Below W.heap.size W W'→Aside0 (Below w.heap.size w W')→Aside0 (Ow d e W' w.heap.size (.slice A xs.length kk) xs)→Aside0 (Fr W (.slice A xs.length kk))→Q (.returned (f (.slice A xs.length kk))) W') : Calls P F args W Q :=
  c.mono (by
    rintro r W' ⟨v0,rfl,ho,hb⟩
    obtain ⟨A,kk,rfl⟩:=Kd.R_slice ho
    exact h A kk W' hb ⟨below_step B.out hb⟩ ⟨Kd.R_lower ho (below_size B.out)⟩ ⟨fun k hk=>Kd.R_base ho k hk⟩)
theorem crz (c : Calls P F args W fun r w'=>∃ v0,r=.returned (f v0)∧Kd.R d e w' W.heap.size (fun _=>True) v0 xs∧Below W.heap.size W w') (B : Aside0 (Below w.heap.size w W))
    (h : ∀ zs,xs=zs→∀ A kk W',Below W.heap.size W W'→Aside0 (Below w.heap.size w W')→Aside0 (Ow d e W' w.heap.size (.slice A zs.length kk) zs)→Aside0 (Fr W (.slice A zs.length kk))→Q (.returned (f (.slice A zs.length kk))) W') : Calls P F args W Q:=cr c B (h xs rfl)
theorem bn {g : Nat} {o : Obj} (F : Aside0 (W.heap[g]?=some o)) (hb : Below W.heap.size W W') : Aside0 (W'.heap[g]?=some o):=⟨blk_below F.out hb⟩
theorem rn {v : Value} (R : Aside0 (Ow d e W b v xs)) (hb : Below W.heap.size W W') : Aside0 (Ow d e W' b v xs):=⟨Kd.R_below R.out hb⟩
theorem rc {A : Option Addr} {n c : Nat} (R : Aside0 (Ow d e W b (.slice A n c) xs)) : Kd.C d W A xs.length xs:=(Kd.R_reads' R.out).2.2
theorem rl {A : Option Addr} {c : Nat} (R : Aside0 (Ow d e W b (.slice A xs.length c) xs)) : xs.length≤c:=(Kd.R_reads' R.out).2.1
theorem cs4 {g t : Nat} {a b c d : Value} (F : Aside0 (W.heap[g]?=some (.cells #[a,b,c,d] t (0,0)))) : W.cell? ⟨g,0,none⟩=some a∧W.cell? ⟨g,1,none⟩=some b∧W.cell? ⟨g,2,none⟩=some c∧W.cell? ⟨g,3,none⟩=some d:=⟨(blk_cell F.out 0).trans rfl,(blk_cell F.out 1).trans rfl,(blk_cell F.out 2).trans rfl,(blk_cell F.out 3).trans rfl⟩
theorem cs6 {g t : Nat} {a b c d x y : Value} (F : Aside0 (W.heap[g]?=some (.cells #[a,b,c,d,x,y] t (0,0)))) : W.cell? ⟨g,0,none⟩=some a∧W.cell? ⟨g,1,none⟩=some b∧W.cell? ⟨g,2,none⟩=some c∧W.cell? ⟨g,3,none⟩=some d∧W.cell? ⟨g,4,none⟩=some x∧W.cell? ⟨g,5,none⟩=some y :=
  ⟨(blk_cell F.out 0).trans rfl,(blk_cell F.out 1).trans rfl,(blk_cell F.out 2).trans rfl,(blk_cell F.out 3).trans rfl,(blk_cell F.out 4).trans rfl,(blk_cell F.out 5).trans rfl⟩
theorem fz {g t : Nat} {cs : Array Value} (F : Aside0 (W.heap[g]?=some (.cells cs t (0,0)))) (j : Nat) : W.frozen? ⟨g,j,none⟩=false:=blk_frozen F.out j
theorem cz4 {g t : Nat} {a b c d : Value} (F : Aside0 (W.heap[g]?=some (.cells #[a,b,c,d] t (0,0)))) : W.cell? ⟨g,0,none⟩=some a∧W.cell? ⟨g,1,none⟩=some b∧W.cell? ⟨g,2,none⟩=some c∧W.cell? ⟨g,3,none⟩=some d∧W.frozen? ⟨g,0,none⟩=false∧W.frozen? ⟨g,1,none⟩=false∧W.frozen? ⟨g,2,none⟩=false∧W.frozen? ⟨g,3,none⟩=false :=
  ⟨(blk_cell F.out 0).trans rfl,(blk_cell F.out 1).trans rfl,(blk_cell F.out 2).trans rfl,(blk_cell F.out 3).trans rfl,fz F 0,fz F 1,fz F 2,fz F 3⟩
theorem cz6 {g t : Nat} {a b c d x y : Value} (F : Aside0 (W.heap[g]?=some (.cells #[a,b,c,d,x,y] t (0,0)))) : W.cell? ⟨g,0,none⟩=some a∧W.cell? ⟨g,1,none⟩=some b∧W.cell? ⟨g,2,none⟩=some c∧W.cell? ⟨g,3,none⟩=some d∧W.cell? ⟨g,4,none⟩=some x∧W.cell? ⟨g,5,none⟩=some y∧W.frozen? ⟨g,0,none⟩=false∧W.frozen? ⟨g,1,none⟩=false∧W.frozen? ⟨g,2,none⟩=false∧W.frozen? ⟨g,3,none⟩=false∧W.frozen? ⟨g,4,none⟩=false∧W.frozen? ⟨g,5,none⟩=false :=
  ⟨(blk_cell F.out 0).trans rfl,(blk_cell F.out 1).trans rfl,(blk_cell F.out 2).trans rfl,(blk_cell F.out 3).trans rfl,(blk_cell F.out 4).trans rfl,(blk_cell F.out 5).trans rfl,fz F 0,fz F 1,fz F 2,fz F 3,fz F 4,fz F 5⟩
theorem sets_keep (g : Nat) : ∀ (vs : List Value) (j : Nat) (W1 : World),KeepBut W W1 g none→KeepBut W (W1.setCells g j vs) g none
  | [],_,_,h=>h
  | v :: r,j,_,h=>sets_keep g r (j + 1) _ (h.set_ j v)
theorem sets_below (g : Nat) (hg : w.heap.size≤g) : ∀ (vs : List Value) (j : Nat) (W1 : World),Below w.heap.size w W1→Below w.heap.size w (W1.setCells g j vs)
  | [],_,_,h=>h
  | _ :: r,j,_,h=>sets_below g hg r (j + 1) _ (below_set h hg)
theorem sets_blk (g t : Nat) (s : List Value) : ∀ (vs l r : List Value) (W1 : World),r.length=vs.length→W1.heap[g]?=some (.cells (l ++ r ++ s).toArray t (0,0))→(W1.setCells g l.length vs).heap[g]?=some (.cells (l ++ vs ++ s).toArray t (0,0))
  | [],l,r,_,hr,h=>by
    obtain rfl : r=[]:=List.eq_nil_of_length_eq_zero hr
    exact h
  | v :: vs,l,[],_,hr,h=>by cases hr
  | v :: vs,l,x :: r,W1,hr,h=>by
    have:=sets_blk g t s vs (l ++ [v]) r (W1.setCell ⟨g,l.length,none⟩ v) (by simpa using hr) (by
      rw [blk_set h]
      simp)
    simpa [World.setCells] using this
theorem sets_blk' {g t : Nat} {cs : Array Value} (off : Nat) (ns vs : List Value) (hl : cs.toList.take off ++ ns ++ cs.toList.drop (off + ns.length)=vs) (hs : off + ns.length≤cs.size) (F : W.heap[g]?=some (.cells cs t (0,0))) : (W.setCells g off ns).heap[g]?=some (.cells vs.toArray t (0,0)):=by
  subst hl
  have h1 : (cs.toList.take off).length=off:=by rw [List.length_take,Array.length_toList (xs:=cs)];omega
  have:=sets_blk g t (cs.toList.drop (off + ns.length)) ns (cs.toList.take off) ((cs.toList.drop off).take ns.length) W (by rw [List.length_take,List.length_drop,Array.length_toList (xs:=cs)];omega) (by
    rw [F]
    congr 1
    congr 1
    rw [List.append_assoc,← List.drop_drop,List.take_append_drop,List.take_append_drop])
  rwa [h1] at this
variable {ops ops' : Array Oper} {o : Oper} {rest : List Oper} {a : Act} {QE : Exit→Act→World→Prop}
theorem bx (hgd : o.guard=none) {N : Tmp} (hd : o.dst=some N) {cs : Array Value} {t : TypeId} (hrun : (execOp a.eval o).run P W=.ok (.value (.pointer (some ⟨W.heap.size,0,none⟩))) (W.alloc (.cells cs t (0,0))))
    (B : Aside0 (Below w.heap.size w W))
    (h : ∀ g w1,Below W.heap.size W w1→Aside0 (Below w.heap.size w w1)→Aside0 (w1.heap[g]?=some (.cells cs t (0,0)))→Aside0 (w.heap.size≤g)→Aside0 (g=W.heap.size)→wpList P ops QE rest (a.put o.dst (.pointer (some ⟨g,0,none⟩))) w1) : wpList P ops QE (o :: rest) a W :=
  box_event hgd hd hrun fun g hg w1 hc hb=>h g w1 hb ⟨below_step B.out hb⟩ ⟨hc⟩ ⟨hg ▸ below_size B.out⟩ ⟨hg⟩
theorem sx (hgd : o.guard=none) {t t' : TypeId} {p : Tmp} {v : Operand} (ho : o.op=.store t' (.tmp p) v) (hN : o.dst=none) {g : Nat} {cs : Array Value} (off : Nat) (ns vs : List Value) (hrun : (execOp a.eval o).run P W=.ok .skip (W.setCells g off ns))
    (B : Aside0 (Below w.heap.size w W)) (F : Aside0 (W.heap[g]?=some (.cells cs t (0,0)))) (L : Aside0 (w.heap.size≤g)) (hl : cs.toList.take off ++ ns ++ cs.toList.drop (off + ns.length)=vs) (hs : off + ns.length≤cs.size)
    (h : ∀ w',KeepBut W w' g none→Aside0 (Below w.heap.size w w')→Aside0 (w'.heap[g]?=some (.cells vs.toArray t (0,0)))→wpList P ops QE rest a w') : wpList P ops QE (o :: rest) a W :=
  store_event hgd ho hN hrun fun w' hw=>by
    subst hw
    exact h _ (sets_keep g ns off W (KeepBut.refl _ _ _)) ⟨sets_below g L.out ns off W B.out⟩ ⟨sets_blk' off ns vs hl hs F.out⟩
theorem sxs {Kc : Act→World→Prop} {g t : Nat} {cs : Array Value} (off : Nat) (ns vs : List Value) (hw : Region.wanted o (yielded ops' a.tmps)=true) (hN : o.dst=none) (hrun : (execOp a.eval o).run P W=.ok .skip (W.setCells g off ns))
    (B : Aside0 (Below w.heap.size w W)) (F : Aside0 (W.heap[g]?=some (.cells cs t (0,0)))) (L : Aside0 (w.heap.size≤g)) (hl : cs.toList.take off ++ ns ++ cs.toList.drop (off + ns.length)=vs) (hs : off + ns.length≤cs.size)
    (h : ∀ w',KeepBut W w' g none→Aside0 (Below w.heap.size w w')→Aside0 (w'.heap[g]?=some (.cells vs.toArray t (0,0)))→Kc (a.put none undef) w') : if Region.wanted o (yielded ops' a.tmps)=true then Oper.wp P o a W Kc QE else Kc (a.put none undef) W:=by
  rw [if_pos hw]
  unfold Oper.wp
  rw [hrun]
  show Kc (a.put o.dst undef) _
  rw [hN]
  exact h _ (sets_keep g ns off W (KeepBut.refl _ _ _)) ⟨sets_below g L.out ns off W B.out⟩ ⟨sets_blk' off ns vs hl hs F.out⟩
theorem rg {S : World→Prop} {ds : List Nat} {id n : Nat} (l : Array Bool) (hm : P.follows .mixedOrders=true) (hn : ops'.size=n) (hl : Array.replicate n false=l) (hS : S W) (hd : S W→S W.drew) (B : Aside0 (Below w.heap.size w W))
    (h : ∀ W',Below W.heap.size W W'→Aside0 (Below w.heap.size w W')→S W'→wpAnyLast P .any ops' QE S ds n l a W') : (Code.region id ops' true).wp P QE a W :=
  start_ l hm hn hl (hd hS) fun hH=>h _ (below_drew1 (Below.refl _ _)) ⟨below_drew B.out⟩ hH
theorem pv {S : World→Prop} {md : Region.Mode} {ds : List Nat} (i : Nat) (N : Option Tmp) {oi : Oper} {v : Value} {fuel : Nat} {l : Array Bool} {T : Bool × List (List Nat × List Nat)} (l' : Array Bool) (HT : Aside0 (rtab md ops'=T)) (hc : anyT T l.toList l'.toList i=true) (hi : ops'[i]?=some oi) (hN : oi.dst=N)
    (hQ : ∀ c a w,QE (.panic c) (a.put oi.dst v) w→QE (.panic c) a w) (hw : Region.wanted oi (yielded ops' a.tmps)=true) (hy : ∀ w,(execOp a.eval oi).run P w=.ok (.value v) w) (h : wpAnyLast P md ops' QE S ds fuel l' (a.put N v) W) : wpAnyLast P md ops' QE S ds (fuel + 1) l a W :=
  pure_ l' hi hN (any_of HT.out hc) hQ (Or.inl ⟨hw,hy⟩) rfl h
theorem tv {S : World→Prop} {md : Region.Mode} {ds : List Nat} (i : Nat) (N : Option Tmp) {oi : Oper} {v : Value} {fuel : Nat} {l : Array Bool} {T : Bool × List (List Nat × List Nat)} {U : List Nat} (l' : Array Bool) (HT : Aside0 (rtab md ops'=T)) (HW : Aside0 (waitsOk T.2 U=true)) (hc : takeW T U ds l.toList l'.toList i=true) (hi : ops'[i]?=some oi) (hN : oi.dst=N)
    (hQ : ∀ c a w,QE (.panic c) (a.put oi.dst v) w→QE (.panic c) a w) (hw : Region.wanted oi (yielded ops' a.tmps)=true) (hS : S W) (hy : ∀ w,S w→(execOp a.eval oi).run P w=.ok (.value v) w) (h : wpAnyLast P md ops' QE S ds fuel l' (a.put N v) W) : wpAnyLast P md ops' QE S ds (fuel + 1) l a W :=
  take_ l' hi hN (take_ofW HT.out HW.out hc) hQ (Or.inl ⟨hw,hy⟩) hS rfl h
theorem za {α : Type} (xs : List α) (i : Nat) (x : α) : xs.toArray.setIfInBounds i x=(xs.set i x).toArray:=List.setIfInBounds_toArray ..
theorem zb {α : Type} (x y : α) (xs : List α) : (x :: xs).set 0 y=y :: xs:=rfl
theorem zc {α : Type} (x y : α) (xs : List α) (n : Nat) : (x :: xs).set (n + 1) y=x :: xs.set n y:=rfl
theorem ne1 {g g' : Nat} {o : Obj} (E : Aside0 (g=W.heap.size)) (F : Aside0 (W.heap[g']?=some o)) : Aside0 (g' ≠ g):=⟨Nat.ne_of_lt (E.out ▸ blk_lt F.out)⟩
theorem bk {g g' : Nat} {o : Obj} (F : Aside0 (W.heap[g']?=some o)) (hk : KeepBut W W' g none) (N : g' ≠ g) : Aside0 (W'.heap[g']?=some o):=⟨hk.blk F.out N (by simp)⟩
theorem rk {v : Value} {g t : Nat} {cs : Array Value} (R : Aside0 (Ow d e W b v xs)) (F : Aside0 (W.heap[g]?=some (.cells cs t (0,0)))) (ht : ∀ q,q ∈ e :: d.E→q ≠ t) (hk : KeepBut W W' g none) : Aside0 (Ow d e W' b v xs) :=
  ⟨Kd.R_mono (Kd.R_keep (Kd.R_types R.out F.out ht) hk (fun _ q=>q.2)) (fun _ q=>q.1)⟩
/-! The same with what goes by itself left out. -/
theorem bxq (N : Tmp) (cs : Array Value) (t : TypeId) (B : Aside0 (Below w.heap.size w W))
    (h : ∀ g w1,Below W.heap.size W w1→Aside0 (Below w.heap.size w w1)→Aside0 (w1.heap[g]?=some (.cells cs t (0,0)))→Aside0 (w.heap.size≤g)→Aside0 (g=W.heap.size)→wpList P ops QE rest (a.put o.dst (.pointer (some ⟨g,0,none⟩))) w1)
    (hgd : o.guard=none:=by exact rfl) (hd : o.dst=some N:=by exact rfl) (hrun : (execOp a.eval o).run P W=.ok (.value (.pointer (some ⟨W.heap.size,0,none⟩))) (W.alloc (.cells cs t (0,0))):=by go_simp;first | done | rfl) : wpList P ops QE (o :: rest) a W:=bx hgd hd hrun B h
theorem sxq (t t' : TypeId) (p : Tmp) {v : Operand} {g : Nat} {cs : Array Value} (off : Nat) (ns vs : List Value) (B : Aside0 (Below w.heap.size w W)) (F : Aside0 (W.heap[g]?=some (.cells cs t (0,0)))) (L : Aside0 (w.heap.size≤g))
    (h : ∀ w',KeepBut W w' g none→Aside0 (Below w.heap.size w w')→Aside0 (w'.heap[g]?=some (.cells vs.toArray t (0,0)))→wpList P ops QE rest a w')
    (hgd : o.guard=none:=by exact rfl) (ho : o.op=.store t' (.tmp p) v:=by exact rfl) (hN : o.dst=none:=by exact rfl) (hrun : (execOp a.eval o).run P W=.ok .skip (W.setCells g off ns):=by go_simp;first | done | rfl)
    (hl : cs.toList.take off ++ ns ++ cs.toList.drop (off + ns.length)=vs:=by exact rfl) (hs : off + ns.length≤cs.size:=by exact Nat.le_of_ble_eq_true rfl) : wpList P ops QE (o :: rest) a W:=sx hgd ho hN off ns vs hrun B F L hl hs h
theorem pvq {S : World→Prop} {md : Region.Mode} {ds : List Nat} (i : Nat) (N : Option Tmp) {oi : Oper} {v : Value} {fuel : Nat} {l : Array Bool} {T : Bool × List (List Nat × List Nat)} (l' : Array Bool) (HT : Aside0 (rtab md ops'=T)) (h : wpAnyLast P md ops' QE S ds fuel l' (a.put N v) W)
    (hi : ops'[i]?=some oi:=by exact rfl) (hN : oi.dst=N:=by exact rfl) (hc : anyT T l.toList l'.toList i=true:=by kernel_rfl) (hQ : ∀ c a w,QE (.panic c) (a.put oi.dst v) w→QE (.panic c) a w:=by exact fun _ _ _ h=>h) (hw : Region.wanted oi (yielded ops' a.tmps)=true:=by kernel_rfl)
    (hy : ∀ w,(execOp a.eval oi).run P w=.ok (.value v) w:=by intro w';go_simp;with_reducible rfl) : wpAnyLast P md ops' QE S ds (fuel + 1) l a W:=pv i N l' HT hc hi hN hQ hw hy h
theorem tvq {S : World→Prop} {md : Region.Mode} {ds : List Nat} (i : Nat) (N : Option Tmp) {oi : Oper} {v : Value} {fuel : Nat} {l : Array Bool} {T : Bool × List (List Nat × List Nat)} {U : List Nat} (l' : Array Bool) (HT : Aside0 (rtab md ops'=T)) (HW : Aside0 (waitsOk T.2 U=true)) (hi : ops'[i]?=some oi) (hS : S W)
    (hy : ∀ w,S w→(execOp a.eval oi).run P w=.ok (.value v) w) (h : wpAnyLast P md ops' QE S ds fuel l' (a.put N v) W)
    (hN : oi.dst=N:=by exact rfl) (hc : takeW T U ds l.toList l'.toList i=true:=by kernel_rfl) (hQ : ∀ c a w,QE (.panic c) (a.put oi.dst v) w→QE (.panic c) a w:=by exact fun _ _ _ h=>h) (hw : Region.wanted oi (yielded ops' a.tmps)=true:=by kernel_rfl) : wpAnyLast P md ops' QE S ds (fuel + 1) l a W:=tv i N l' HT HW hc hi hN hQ hw hS hy h
theorem gsq {oi : Oper} {N : Option Tmp} {K : Act→World→Prop} {f : FuncId} {fn : Func} {ao : Array Operand} {ts : Array TypeId} (hf : P.funcs[f]?=some fn) (args : Array Value) (h : Calls P f args W fun e w'=>∃ v,e=.returned v∧K (a.put N v) w')
    (hN : oi.dst=N:=by exact rfl) (hop : oi.op=.call { callee:=.value (.func f),args:=ao,argTypes:=ts }:=by exact rfl) (hname : (fn.name == "runtime.NumGoroutine")=false:=by kernel_rfl) (hb : fn.body.isSome=true:=by exact rfl) (hw : Region.wanted oi (yielded ops' a.tmps)=true:=by rfl)
    (hargs : ao.map a.eval=args:=by (try simp only [List.map_toArray,List.map_cons,List.map_nil]);rfl) : if Region.wanted oi (yielded ops' a.tmps)=true then Oper.wp P oi a W K QE else K (a.put N undef) W:=goes_ hf hname hb args hw hN hop hargs h
theorem nmq {S : World→Prop} {md : Region.Mode} {ds : List Nat} {fuel : Nat} {l : Array Bool} {a' : Act} (h : wpAnyLast P md ops' QE S ds fuel l a' W) (ha : a=a':=by simp only [Act.put,za,zb,zc,i64_w,i32_w];rfl) : wpAnyLast P md ops' QE S ds fuel l a W:=norm_ ha h
theorem npq {S : World→Prop} {md : Region.Mode} {ds : List Nat} {fuel : Nat} {l : Array Bool} (N : Option Tmp) {v : Value} {a' : Act} (h : wpAnyLast P md ops' QE S ds fuel l a' W) (ha : a.put N v=a':=by simp only [Act.put,za,zb,zc,i64_w,i32_w];rfl) : wpAnyLast P md ops' QE S ds fuel l (a.put N v) W:=norm_ ha h
end

theorem w64 {x : Int} (h0 : -9223372036854775808≤x) (h1 : x≤9223372036854775807) : wrap64 x=x:=by
  unfold wrap64
  omega
theorem rd_drop {xs : List Int} {j : Nat} (h : j < xs.length) : xs.drop j=rd xs (j : Int) :: xs.drop (j + 1):=by
  rw [List.drop_eq_getElem_cons h]
  simp [rd,List.getD_eq_getElem?_getD,List.getElem?_eq_getElem h]
/-! Rows that are made and written. -/
section
variable {P : Program} {w W W' : World} {α β : Type} {d : Kd α} {e b : Nat} {xs : List α}
variable {ops ops' : Array Oper} {o : Oper} {rest : List Oper} {a : Act} {QE : Exit→Act→World→Prop}
theorem mkr (d : Kd α) (e : Nat) (hgd : o.guard=none) {N : Tmp} (hd : o.dst=some N) (t : TypeId) (x y : Operand) (ho : o.op=.makeSlice t x y) (n : Nat) (hx : a.eval x=.int .i64 (n : Int)) (hy : a.eval y=.int .i64 (n : Int))
    (ht : P.underlying t=some (.slice e)) (z : Value) (bytes : Nat) (hinfo : (P.info? e).map (fun i=>(i.zero,i.size,i.bytes))=some (some z,d.sz,bytes)) (hz : z.cells.size=d.sz) (hs0 : 0 < d.sz) (hb0 : 0 < bytes)
    (z0 : α) (hzero : d.M W W.heap.size (fun _=>True) z0 z.cells.toList) (hl : n * bytes≤281474976710656) (B : Aside0 (Below w.heap.size w W))
    (h : ∀ A kk w1,Below W.heap.size W w1→Aside0 (Below w.heap.size w w1)→Aside0 (Ow d e w1 w.heap.size (.slice A n kk) (List.replicate n z0))→Aside0 (Fr W (.slice A n kk))→wpList P ops QE rest (a.put o.dst (.slice A n kk)) w1) : wpList P ops QE (o :: rest) a W :=
  Kd.R_make d W.heap.size e hgd hd t x y ho n hx hy ht z bytes hinfo hz hs0 hb0 z0 hzero (fun _ h=>h) trivial (Int.natCast_nonneg n) (by rwa [Int.toNat_natCast]) (Below.refl _ _) (Nat.le_refl _) fun v1 w1 hR hb hg hnew=>by
    rw [Int.toNat_natCast] at hR
    obtain ⟨A,kk,hv⟩:=Kd.R_slice hR
    rw [List.length_replicate] at hv
    subst hv
    exact h A kk w1 hb ⟨below_step B.out hb⟩ ⟨Kd.R_lower hR (below_size B.out)⟩ ⟨fun k hk=>Kd.R_base hR k hk⟩
theorem fr {v v' : Value} {β : Type} {d' : Kd β} {e' : Nat} {ys : List β} (q : Aside0 (Fr W v)) (R : Aside0 (Ow d' e' W b v' ys)) : Aside0 (∀ k,v.ownBlock=some k→v'.ownBlock=some k→False):=⟨fun k h1 h2=>by
  have:=q.out k h1
  have:=Kd.R_lt R.out k h2
  omega⟩
/-- the form of a row that is not empty -/
theorem rform {A : Option Addr} {n c : Nat} (R : Aside0 (Ow d e W b (.slice A n c) xs)) (hp : 0 < xs.length) : ∃ g,A=some ⟨g,0,none⟩∧b≤g:=by
  obtain ⟨g,cap,hv,hb,_⟩:=Kd.R_form R.out hp
  cases hv
  exact ⟨g,rfl,hb⟩
/-- the cells of an element -/
theorem rcells {g n c : Nat} (z : α) (R : Aside0 (Ow d e W b (.slice (some ⟨g,0,none⟩) n c) xs)) (i : Nat) (hi : i < n) : ∃ cs,cs.length=d.sz∧d.M W b (fun k=>True∧k ≠ g) (xs.getD i z) cs∧(∀ j u,cs[j]?=some u→W.cell? ⟨g,i * d.sz + j,none⟩=some u)∧∀ j,W.frozen? ⟨g,i * d.sz + j,none⟩=false:=by
  have:=Kd.R_elem R.out z (i : Int) (Int.natCast_nonneg i) (by omega)
  rwa [Int.toNat_natCast] at this
theorem es {g n c : Nat} {t : TypeId} {p : Tmp} {v : Operand} (hgd : o.guard=none) (ho : o.op=.store t (.tmp p) v) (hN : o.dst=none) (i off : Nat) (seg : List Value) (x' : α) (hrun : (execOp a.eval o).run P W=.ok .skip (W.setCells g (i * d.sz + off) seg))
    (R : Aside0 (Ow d e W b (.slice (some ⟨g,0,none⟩) n c) xs)) (hi : i < n) {cs : List Value} (hcl : cs.length=d.sz) (hcc : ∀ j u,cs[j]?=some u→W.cell? ⟨g,i * d.sz + j,none⟩=some u) (hj : off + seg.length≤d.sz)
    (hM : d.M W b (fun _=>False) x' (cs.take off ++ seg ++ cs.drop (off + seg.length))) (B : Aside0 (Below w.heap.size w W)) (hb : w.heap.size≤g)
    (h : ∀ w',W.grownBy w' (some g)→Aside0 (Below w.heap.size w w')→Aside0 (Ow d e w' b (.slice (some ⟨g,0,none⟩) n c) (xs.set i x'))→wpList P ops QE rest a w') : wpList P ops QE (o :: rest) a W :=
  store_event hgd ho hN hrun fun w' hw=>by
    have hP:=Kd.R_seg R.out (i : Int) (Int.natCast_nonneg i) (by omega) (c:=cs) (seg:=seg) (j:=off) (x':=x') (okp:=fun _=>False) hcl (by rw [Int.toNat_natCast];exact hcc) hj hM (fun _ hk=>hk.elim)
    rw [Int.toNat_natCast] at hP
    subst hw
    refine h _ hP.2 ⟨pw_below_grown B.out (some g) (below_size B.out) hP.2 (fun k hk=>?_)⟩ ⟨hP.1⟩
    cases hk
    exact hb
end
section
variable {P : Program} {w W W' : World} {α β : Type} {d : Kd α} {e b : Nat} {xs : List α}
variable {ops ops' : Array Oper} {o : Oper} {rest : List Oper} {a : Act} {QE : Exit→Act→World→Prop}
/-- a literal of records -/
theorem lt (d : Kd α) (e : Nat) (hgd : o.guard=none) {N : Tmp} (hd : o.dst=some N) (xs : List α) (inner : List Value) (hrun : (execOp a.eval o).run P W=.ok (.value (.slice (some ⟨W.heap.size,0,none⟩) xs.length xs.length)) (W.alloc (.cells inner.toArray e)))
    (hp : Reps (d.M W W.heap.size (fun _=>True)) d.sz xs inner) (hm : xs.length≤9223372036854775807) (B : Aside0 (Below w.heap.size w W))
    (h : ∀ zs,xs=zs→∀ A kk w1,Below W.heap.size W w1→Aside0 (Below w.heap.size w w1)→Aside0 (Ow d e w1 w.heap.size (.slice A zs.length kk) zs)→Aside0 (Fr W (.slice A zs.length kk))→wpList P ops QE rest (a.put o.dst (.slice A zs.length kk)) w1) : wpList P ops QE (o :: rest) a W :=
  Kd.R_lit d (w0:=W) W.heap.size e hgd hd hrun hp (fun _ h=>h) trivial (Below.refl _ _) (Nat.le_refl _) hm fun v1 w1 hR hb hg hnew=>by
    obtain ⟨A,kk,rfl⟩:=Kd.R_slice hR
    exact h xs rfl A kk w1 hb ⟨below_step B.out hb⟩ ⟨Kd.R_lower hR (below_size B.out)⟩ ⟨fun k hk=>Kd.R_base hR k hk⟩
/-- a row is put behind a row of the walk's own -/
theorem apx (d : Kd α) (e : Nat) (hgd : o.guard=none) (s x : Operand) (t : TypeId) (z : Value) (bytes : Nat) (ho : o.op=.call { callee:=.builtin .append,args:=#[s,x],argTypes:=#[t,t] })
    (ht : P.underlying t=some (.slice e)) (hinfo : (P.info? e).map (fun i=>(i.zero,i.size,i.bytes))=some (some z,d.sz,bytes)) (hz : z.cells.size=d.sz) (hs0 : 0 < d.sz) (hb0 : 0 < bytes)
    {v : Value} {ys : List α} {A : Option Addr} {m c : Nat} (hs : a.eval s=v) (hx : a.eval x=.slice A m c) (R : Aside0 (Ow d e W w.heap.size v xs)) (C : d.C W A m ys) (hKM : ∀ x cs,d.K W x cs→d.M W w.heap.size (fun _=>False) x cs)
    (hl : (xs.length + m) * bytes≤140737488355328) (B : Aside0 (Below w.heap.size w W))
    (h : ∀ zs,xs ++ ys=zs→∀ A' kk w1,W.grownBy w1 v.ownBlock→Aside0 (Below w.heap.size w w1)→Aside0 (Ow d e w1 w.heap.size (.slice A' zs.length kk) zs)→Aside0 ((Value.slice A' zs.length kk).ownBlock=v.ownBlock ∨ ∃ b,(Value.slice A' zs.length kk).ownBlock=some b∧W.heap.size≤b)→wpList P ops QE rest (a.put o.dst (.slice A' zs.length kk)) w1) : wpList P ops QE (o :: rest) a W :=
  Kd.R_append_rows d (w0:=w) w.heap.size hgd s x t e z bytes ho ht hinfo hz hs0 hb0 v xs ys A m c (fun _=>True) (fun _=>False) hs hx R.out C hKM (fun _ h=>h.elim) (fun _ _=>trivial) B.out (below_size B.out) hl fun v1 w1 hR hb hg hat=>by
    obtain ⟨A',kk,rfl⟩:=Kd.R_slice hR
    exact h _ rfl A' kk w1 hg ⟨hb⟩ ⟨hR⟩ ⟨hat⟩
theorem rga {d' : Kd β} {e' b' : Nat} {v v' : Value} {ys : List β} (R' : Aside0 (Ow d' e' W b' v' ys)) (hE : d'.E=[]) (hg : W.grownBy W' v.ownBlock) (ne : ∀ k,v'.ownBlock=some k→v.ownBlock=some k→False) : Aside0 (Ow d' e' W' b' v' ys) :=
  ⟨Kd.R_mono (Kd.R_grown (Kd.R_tight hE R'.out) hg (fun k h1 h2=>ne k h1.symm h2.symm)) (fun _ _=>trivial)⟩
end
/-! A box of the type of a row's elements is no part of the row. -/
section
variable {W W' : World} {v v1 : Value} {g : Nat} {o : Obj}
theorem nb (q : Aside0 (Fr W v)) (F : Aside0 (W.heap[g]?=some o)) : Aside0 (∀ k,v.ownBlock=some k→k ≠ g):=⟨fun k h e=>by
  subst e
  have h1:=q.out k h
  have h2:=blk_lt F.out
  omega⟩
theorem rkn {α : Type} {d : Kd α} {e b : Nat} {xs : List α} (R : Aside0 (Ow d e W b v xs)) (hk : KeepBut W W' g none) (N : Aside0 (∀ k,v.ownBlock=some k→k ≠ g)) (hE : d.E=[]:=by rfl) : Aside0 (Ow d e W' b v xs) :=
  ⟨Kd.R_mono (Kd.R_keep (Kd.R_tight hE R.out) hk (fun k q=>N.out k q.symm)) (fun _ _=>trivial)⟩
end

/-! Calls that give or write several rows. -/
/-! A reader of a code that functions share: what their calls keep. -/
section
variable {w W W' W0 : World} {g gb t p2 : Nat} {bs : List Int} {p p' : Int} {cs : Array Value} {α : Type} {d : Kd α} {e b : Nat} {v v1 : Value} {xs : List α}
def RB (g : Nat) : Nat→Prop:=fun k=>k=g
theorem bkr (F : Aside0 (W.heap[gb]?=some (.cells cs t (0,0)))) (HI : Aside0 (IsS77 w W g bs p)) (ht : t ≠ 77) (hk : Kept W W' (RB g)) : Aside0 (W'.heap[gb]?=some (.cells cs t (0,0))):=⟨blk_kept F.out hk (fun h=>HI.out.ne_blk F.out ht h.symm)⟩
theorem rkr (R : Aside0 (Ow d e W b v xs)) (HI : Aside0 (IsS77 w W g bs p)) (ht : ∀ q,q ∈ e :: d.E→q ≠ 77) (hk : Kept W W' (RB g)) : Aside0 (Ow d e W' b v xs):=⟨Kd.R_mono (Kd.R_kept (HI.out.apart R.out ht) hk (fun _ h=>h.2)) (fun _ _=>trivial)⟩
theorem hib (HI : Aside0 (IsS77 w W g bs p)) (hb : Below W.heap.size W W') : Aside0 (IsS77 w W' g bs p):=⟨HI.out.below hb⟩
theorem his (HI : Aside0 (IsS77 w W g bs p)) (F : Aside0 (W.heap[gb]?=some (.cells cs t (0,0)))) (ht : t ≠ 77) (hk : KeepBut W W' gb none) : Aside0 (IsS77 w W' g bs p):=⟨HI.out.kept (Kept.of_keep (Kept.refl W (RB gb)) hk (.inl rfl)) (fun h=>HI.out.ne_blk F.out ht h)⟩
theorem hig (HI : Aside0 (IsS77 w W g bs p)) (R : Aside0 (Ow d e W b v xs)) (ht : e ≠ 77) (hg : W.grownBy W' v.ownBlock) : Aside0 (IsS77 w W' g bs p):=⟨HI.out.grown hg (HI.out.own_ne R.out ht)⟩
theorem kkb (K : Aside0 (Kept W0 W (RB g))) (hb : Below W.heap.size W W') : Aside0 (Kept W0 W' (RB g)):=⟨K.out.below hb⟩
theorem kks (K : Aside0 (Kept W0 W (RB g))) (M : Aside0 (W0.heap.size≤gb)) (hk : KeepBut W W' gb none) : Aside0 (Kept W0 W' (RB g)):=⟨K.out.of_keep hk (.inr M.out)⟩
theorem kkr (K : Aside0 (Kept W0 W (RB g))) (hk : Kept W W' (RB g)) : Aside0 (Kept W0 W' (RB g)):=⟨K.out.then_ hk (fun _ h=>.inl h)⟩
theorem kkg (K : Aside0 (Kept W0 W (RB g))) (M : Aside0 (Fr W0 v)) (hg : W.grownBy W' v.ownBlock) : Aside0 (Kept W0 W' (RB g)):=⟨Kept.of_grown hg K.out (fun k h=>.inr (M.out k h))⟩
theorem mbx (E : Aside0 (gb=W.heap.size)) (K : Aside0 (Kept W0 W (RB g))) : Aside0 (W0.heap.size≤gb):=⟨E.out ▸ K.out.1⟩
theorem mrf (Q : Aside0 (Fr W v)) (K : Aside0 (Kept W0 W (RB g))) : Aside0 (Fr W0 v):=⟨fun k h=>Nat.le_trans K.out.1 (Q.out k h)⟩
theorem mra (hat : Aside0 (v1.ownBlock=v.ownBlock ∨ ∃ b,v1.ownBlock=some b∧W.heap.size≤b)) (M : Aside0 (Fr W0 v)) (K : Aside0 (Kept W0 W (RB g))) : Aside0 (Fr W0 v1):=⟨fun k h=>by
  rcases hat.out with h1 | ⟨b,h1,hb⟩
  · exact M.out k (h1 ▸ h)
  · rw [h1] at h
    cases h
    exact Nat.le_trans K.out.1 hb⟩
end
section
variable {P : Program} {F : FuncId} {args : Array Value} {w W : World} {Q : Ending→World→Prop} {g : Nat} {bs : List Int} {p N : Int} {α β τ σ : Type}
/-- what a call with a reader leaves -/
def Left (w W : World) (g : Nat) (bs : List Int) (p N : Int) (p' : Int) (w' : World) : Prop:=(p≤p'∧p'≤p + N)∧IsS77 w w' g bs p'∧Below w.heap.size w w'∧Kept W w' (RB g)
theorem cg1 {f : α→Value} {q : α→Prop} (c : Calls P F args W fun e w'=>∃ x p',e=.returned (f x)∧q x∧Left w W g bs p N p' w')
    (h : ∀ x p',q x→(p≤p'∧p'≤p + N)→∀ W',Kept W W' (RB g)→Aside0 (Below w.heap.size w W')→Aside0 (IsS77 w W' g bs p')→Q (.returned (f x)) W') : Calls P F args W Q :=
  c.mono (by rintro e W' ⟨x,p',rfl,hq,hp,hi,hb,hk⟩;exact h x p' hq hp W' hk ⟨hb⟩ ⟨hi⟩)
theorem cgr {d : Kd α} {e : Nat} {f : Value→Value} {q : List α→Prop} (c : Calls P F args W fun r w'=>∃ v0 xs p',r=.returned (f v0)∧q xs∧Kd.R d e w' w.heap.size (fun _=>True) v0 xs∧Fr W v0∧Left w W g bs p N p' w')
    (h : ∀ xs A kk p',q xs→(p≤p'∧p'≤p + N)→∀ W',Kept W W' (RB g)→Aside0 (Below w.heap.size w W')→Aside0 (IsS77 w W' g bs p')→Aside0 (Ow d e W' w.heap.size (.slice A xs.length kk) xs)→Aside0 (Fr W (.slice A xs.length kk))→Q (.returned (f (.slice A xs.length kk))) W') : Calls P F args W Q :=
  c.mono (by
    rintro r W' ⟨v0,xs,p',rfl,hq,ho,hf,hp,hi,hb,hk⟩
    obtain ⟨A,kk,rfl⟩:=Kd.R_slice ho
    exact h xs A kk p' hq hp W' hk ⟨hb⟩ ⟨hi⟩ ⟨ho⟩ ⟨hf⟩)
theorem copen {w W : World} {P : Program} {F : FuncId} {args : Array Value} {Q : Ending→World→Prop} {bs : List Int} {p : Int} (c : Calls P F args W fun e w'=>∃ g,e=.returned (.pointer (some ⟨g,0,none⟩))∧IsS77 w w' g bs p∧Below w.heap.size w w'∧Below W.heap.size W w')
    (h : ∀ g W',Below W.heap.size W W'→Aside0 (Below w.heap.size w W')→Aside0 (IsS77 w W' g bs p)→Q (.returned (.pointer (some ⟨g,0,none⟩))) W') : Calls P F args W Q :=
  c.mono (by rintro e W' ⟨g,rfl,hi,hb,hb'⟩;exact h g W' hb' ⟨hb⟩ ⟨hi⟩)
theorem kept_keep {W W' : World} {g : Nat} (h : KeepBut W W' g none) : Kept W W' (RB g):=Kept.of_keep (Kept.refl W _) h (.inl rfl)
end

/-! What draws of states give. -/
section
variable {P : Program} {F : FuncId} {args : Array Value} {w W : World} {Q : Ending→World→Prop} {α β : Type} {d : Kd α} {d' : Kd β} {e e' : Nat}
end
/-- where a walk is to stand -/
structure Stop (p : Prop) : Prop where
  out : p

/-! Calls with the reader that give commands and entries. -/
section
variable {P : Program} {F : FuncId} {args : Array Value} {w W : World} {g : Nat} {bs : List Int} {p N : Int} {Q : Ending→World→Prop} {α β τ σ μ ν : Type}
theorem cg4 {f : α→β→τ→σ→Value} {q : α→β→τ→σ→Prop} (c : Calls P F args W fun e w'=>∃ x y z u p',e=.returned (f x y z u)∧q x y z u∧Left w W g bs p N p' w')
    (h : ∀ x y z u p',q x y z u→(p≤p'∧p'≤p + N)→∀ W',Kept W W' (RB g)→Aside0 (Below w.heap.size w W')→Aside0 (IsS77 w W' g bs p')→Q (.returned (f x y z u)) W') : Calls P F args W Q :=
  c.mono (by rintro e W' ⟨x,y,z,u,p',rfl,hq,hp,hi,hb,hk⟩;exact h x y z u p' hq hp W' hk ⟨hb⟩ ⟨hi⟩)
theorem cg6 {f : α→β→τ→σ→μ→ν→Value} {q : α→β→τ→σ→μ→ν→Prop} (c : Calls P F args W fun e w'=>∃ x y z u v o p',e=.returned (f x y z u v o)∧q x y z u v o∧Left w W g bs p N p' w')
    (h : ∀ x y z u v o p',q x y z u v o→(p≤p'∧p'≤p + N)→∀ W',Kept W W' (RB g)→Aside0 (Below w.heap.size w W')→Aside0 (IsS77 w W' g bs p')→Q (.returned (f x y z u v o)) W') : Calls P F args W Q :=
  c.mono (by rintro e W' ⟨x,y,z,u,v,o,p',rfl,hq,hp,hi,hb,hk⟩;exact h x y z u v o p' hq hp W' hk ⟨hb⟩ ⟨hi⟩)
variable {ops' : Array Oper} {o : Oper} {a : Act} {QE : Exit→Act→World→Prop} {Kc : Act→World→Prop}
/-- an element that is read in a region that draws its order -/
theorem lds {N : Tmp} {v : Value} (h : Kc (a.put (some N) v) W) (hw : Region.wanted o (yielded ops' a.tmps)=true:=by rfl) (hd : o.dst=some N:=by exact rfl) (hrun : (execOp a.eval o).run P W=.ok (.value v) W:=by go_simp;first | done | rfl) :
    if Region.wanted o (yielded ops' a.tmps)=true then Oper.wp P o a W Kc QE else Kc (a.put (some N) undef) W:=value_ hw hd hrun h
end

namespace Dw
/-! Eventually: for all large enough numbers of rounds;small lemmas on numbers and lists. -/
def Evn (P : Nat→Prop) : Prop:=∃ K,∀ k,K≤k→P k
theorem Evn.all {P : Nat→Prop} (h : ∀ k,P k) : Evn P:=⟨0,fun k _=>h k⟩
theorem Evn.mp {P Q : Nat→Prop} (hp : Evn P) (hq : Evn fun k=>P k→Q k) : Evn Q:=by
 obtain ⟨K1,h1⟩:=hp
 obtain ⟨K2,h2⟩:=hq
 exact ⟨max K1 K2,fun k hk=>h2 k (by omega) (h1 k (by omega))⟩
theorem Evn.succ {P : Nat→Prop} (h : Evn fun k=>P (k + 1)) : Evn P:=by
 obtain ⟨K,h⟩:=h
 refine ⟨K + 1,fun k hk=>?_⟩
 obtain ⟨m,rfl⟩ : ∃ m,k=m + 1:=⟨k - 1,by omega⟩
 exact h m (by omega)
theorem Evn.some {P : Nat→Prop} (h : Evn P) : ∃ k,P k:=by
 obtain ⟨K,h⟩:=h
 exact ⟨K,h K (Nat.le_refl K)⟩
theorem w64 {x : Int} (h0 : -9223372036854775808≤x) (h1 : x≤9223372036854775807) : wrap64 x=x:=by
 unfold wrap64
 omega
theorem rd_drop {xs : List Int} {j : Nat} (h : j < xs.length) : xs.drop j=rd xs (j : Int) :: xs.drop (j + 1):=by
 rw [List.drop_eq_getElem_cons h]
 simp [rd,List.getD_eq_getElem?_getD,List.getElem?_eq_getElem h]
theorem rd_nat {xs : List Int} {j : Nat} (h : j < xs.length) : rd xs (j : Int)=xs[j]:=by
 simp [rd,List.getD_eq_getElem?_getD,List.getElem?_eq_getElem h]
/-! The reader of a code: a pick is in its range;the place goes on by one. -/
def Code (b : List Int) : Prop:=b.length≤2000∧∀ x ∈ b,0≤x∧x≤255
theorem rd_code {b : List Int} (h : Code b) (i : Int) : 0≤rd b i∧rd b i≤255:=by
 unfold rd
 rw [List.getD_eq_getElem?_getD]
 by_cases hi : i.toNat < b.length
 ·rw [List.getElem?_eq_getElem hi]
  exact h.2 _ (List.getElem_mem hi)
 ·rw [List.getElem?_eq_none (by omega)]
  simp
theorem xor_pos (a b : Int) (ha0 : 0≤a) (ha1 : a < 4611686018427387904) (hb0 : 0≤b) (hb1 : b < 4611686018427387904) : 0≤Go.bits .xor .i64 a b:=by
 obtain ⟨n,rfl⟩:=Int.eq_ofNat_of_zero_le ha0
 obtain ⟨m,rfl⟩:=Int.eq_ofNat_of_zero_le hb0
 have hn : n < 2 ^ 62:=by omega
 have hm : m < 2 ^ 62:=by omega
 have hx:=Nat.xor_lt_two_pow hn hm
 have n64 : n % 2 ^ 64=n:=Nat.mod_eq_of_lt (by omega)
 have m64 : m % 2 ^ 64=m:=Nat.mod_eq_of_lt (by omega)
 have e : Go.bits .xor .i64 (n : Int) (m : Int)=IntKind.i64.wrap ((n ^^^ m : Nat) : Int):=by
  show IntKind.i64.wrap (((BitVec.ofInt 64 (n : Int) ^^^ BitVec.ofInt 64 (m : Int)).toNat : Nat) : Int)=_
  rw [BitVec.ofInt_natCast,BitVec.ofInt_natCast,BitVec.toNat_xor,BitVec.toNat_ofNat,BitVec.toNat_ofNat,n64,m64]
 rw [e,IntKind.wrap_i64]
 omega
theorem spec_pick (b : List Int) (hb : Code b) (p n : Int) (h0 : 0≤p) (h1 : p≤1099511627776) :
  ∃ r,0≤r∧(1≤n→r < n)∧(n≤1→r=0)∧Evn fun k=>spec_l20Rd_pick.f k b p n=some (r,p + 1):=by
 have hw : wrap64 (p + 1)=p + 1:=w64 (by omega) (by omega)
 by_cases hn : n < 1
 ·refine ⟨0,by omega,by omega,by omega,Evn.succ (Evn.all fun k=>?_)⟩
  unfold spec_l20Rd_pick.f
  rw [if_pos hn,hw]
  simp only [spec_l20Rd_pick.j0]
  rw [if_pos trivial]
 ·by_cases hl : b.length=0
  ·refine ⟨0,by omega,by omega,by omega,Evn.succ (Evn.all fun k=>?_)⟩
   unfold spec_l20Rd_pick.f
   rw [if_neg hn,hw,hl]
   simp only [spec_l20Rd_pick.j0]
   rw [if_pos (by rfl)]
  ·have hl1 : 1≤(b.length : Int):=by omega
   have hle : ((b.length : Int) == 0)=false:=by simpa using hl
   have e1 : wrap64 (p + 1 - 1)=p:=by rw [show p + 1 - 1=p by omega];exact w64 (by omega) (by omega)
   by_cases hp : p < (b.length : Int)
   ·have hr:=rd_code hb p
    refine ⟨Int.tmod (rd b p) n,Int.tmod_nonneg n hr.1,fun h=>Int.tmod_lt_of_pos _ (by omega),fun h=>?_,Evn.succ (Evn.all fun k=>?_)⟩
    ·have : n=1:=by omega
     subst this
     exact Int.tmod_one _
    ·unfold spec_l20Rd_pick.f
     rw [if_neg hn,hw,hle]
     simp only [spec_l20Rd_pick.j0]
     rw [if_neg (by simp),e1,if_pos hp,if_pos h0,if_neg (by omega),w64 (x:=rd b p) (by omega) (by omega)]
   ·have ei : Int.tmod p (b.length : Int)=p % (b.length : Int):=Int.tmod_eq_emod_of_nonneg h0
    have i0 : 0≤p % (b.length : Int):=Int.emod_nonneg _ (by omega)
    have i1 : p % (b.length : Int) < (b.length : Int):=Int.emod_lt_of_pos _ (by omega)
    have e7 : wrap64 (wrap64 (p * 7) + 3)=p * 7 + 3:=by rw [w64 (x:=p * 7) (by omega) (by omega),w64 (by omega) (by omega)]
    have ej : Int.tmod (p * 7 + 3) (b.length : Int)=(p * 7 + 3) % (b.length : Int):=Int.tmod_eq_emod_of_nonneg (by omega)
    have j0 : 0≤(p * 7 + 3) % (b.length : Int):=Int.emod_nonneg _ (by omega)
    have j1 : (p * 7 + 3) % (b.length : Int) < (b.length : Int):=Int.emod_lt_of_pos _ (by omega)
    have eq : Int.tdiv p (b.length : Int)=p / (b.length : Int):=Int.tdiv_eq_ediv_of_nonneg h0
    have q0 : 0≤p / (b.length : Int):=Int.ediv_nonneg h0 (by omega)
    have q1 : p / (b.length : Int)≤p:=Int.ediv_le_self _ h0
    have hu:=rd_code hb (p % (b.length : Int))
    have hv:=rd_code hb ((p * 7 + 3) % (b.length : Int))
    have main : ∀ u v q : Int,0≤u→u≤255→0≤v→v≤255→0≤q→q≤p →
      ∃ x,wrap64 ((wrap64 ((wrap64 ((wrap64 ((wrap64 u) * 131)) + (wrap64 ((wrap64 v) * 1117)))) + (wrap64 (p * 29)))) + (wrap64 ((wrap64 q) * 53)))=x∧0≤x∧x < 4611686018427387904∧0≤wrap64 (Int.tdiv x 64)∧wrap64 (Int.tdiv x 64) < 4611686018427387904:=by
     intro u v q u0 u1 v0 v1 q0 q1
     refine ⟨u * 131 + v * 1117 + p * 29 + q * 53,?_,by omega,by omega,?_,?_⟩
     ·rw [w64 (x:=u) (by omega) (by omega),w64 (x:=v) (by omega) (by omega),w64 (x:=q) (by omega) (by omega),w64 (x:=u * 131) (by omega) (by omega),w64 (x:=v * 1117) (by omega) (by omega),w64 (x:=p * 29) (by omega) (by omega),w64 (x:=q * 53) (by omega) (by omega),w64 (x:=u * 131 + v * 1117) (by omega) (by omega),w64 (x:=u * 131 + v * 1117 + p * 29) (by omega) (by omega),w64 (by omega) (by omega)]
     all_goals
      rw [Int.tdiv_eq_ediv_of_nonneg (by omega),w64 (by omega) (by omega)]
      omega
    obtain ⟨x,hx,x0,x1,y0,y1⟩:=main _ _ _ hu.1 hu.2 hv.1 hv.2 q0 q1
    refine ⟨Int.tmod (Go.bits .xor .i64 x (wrap64 (Int.tdiv x 64))) n,Int.tmod_nonneg n (xor_pos _ _ x0 x1 y0 y1),fun h=>Int.tmod_lt_of_pos _ (by omega),fun h=>?_,Evn.succ (Evn.all fun k=>?_)⟩
    ·have : n=1:=by omega
     subst this
     exact Int.tmod_one _
    ·unfold spec_l20Rd_pick.f
     rw [if_neg hn,hw,hle]
     simp only [spec_l20Rd_pick.j0]
     rw [if_neg (by simp),e1,if_neg hp,if_neg (by omega),ei,if_pos i0,if_pos i1,e7,ej,if_pos j0,if_pos j1,if_neg (by omega),eq,hx]
theorem spec_open (l : List Int) (hl : ∀ x ∈ l,(Lit.int .u8 x).wf=true) : ∃ b,Code b∧spec_l20Open.f l=some (b,0):=by
 have hx : ∀ x ∈ l,0≤x∧x≤255:=fun x hx=>by
  have h' : (decide (IntKind.u8.min≤x) && decide (x≤IntKind.u8.max))=true:=hl x hx
  rw [Bool.and_eq_true,decide_eq_true_eq,decide_eq_true_eq] at h'
  exact h'
 unfold spec_l20Open.f
 by_cases h : (l.length : Int) > 2000
 ·refine ⟨l.take 2000,⟨by rw [List.length_take];omega,fun x hm=>hx x (List.mem_of_mem_take hm)⟩,?_⟩
  rw [if_pos h,if_pos (by omega)]
 ·exact ⟨l,⟨by omega,hx⟩,by rw [if_neg h]⟩
/-! What a reader draws: a value with what is known of it,and the place behind it,not far. -/
def Dr {α : Type} (g : Nat→Option (α × Int)) (p c : Int) (P : α→Prop) : Prop:=∃ r q,p≤q∧q≤p + c∧P r∧Evn fun k=>g k=some (r,q)
theorem Dr.bind {α β : Type} {g : Nat→Option (α × Int)} {H : Nat→α × Int→Option (β × Int)} {p c C : Int} {P : α→Prop} {Q : β→Prop}
  (h1 : Dr g p c P) (h2 : ∀ bt : α × Int,P bt.1→p≤bt.2→bt.2≤p + c→Dr (fun k=>H k bt) bt.2 (C - c) Q) : Dr (fun k=>(g k).bind (H k)) p C Q:=by
 obtain ⟨r,q,hq0,hq1,hr,e⟩:=h1
 obtain ⟨r',q',h0,h1,hr',e'⟩:=h2 (r,q) hr hq0 hq1
 refine ⟨r',q',by simp only at h0;omega,by simp only at h1;omega,hr',Evn.mp e (Evn.mp e' (Evn.all fun k e' e=>?_))⟩
 dsimp only
 rw [e]
 exact e'
/-- a value that is computed on the way,by a function that draws nothing -/
theorem Dr.run {α β : Type} {g : Nat→Option α} {H : Nat→α→Option (β × Int)} {p c : Int} {Q : β→Prop} {r : α} (h1 : Evn fun k=>g k=some r) (h2 : Dr (fun k=>H k r) p c Q) : Dr (fun k=>(g k).bind (H k)) p c Q:=by
 obtain ⟨r',q',h0,h1',hr',e'⟩:=h2
 refine ⟨r',q',h0,h1',hr',Evn.mp h1 (Evn.mp e' (Evn.all fun k e' e=>?_))⟩
 dsimp only
 rw [e]
 exact e'
theorem Dr.succ {α : Type} {g : Nat→Option (α × Int)} {p c : Int} {P : α→Prop} (h : Dr (fun k=>g (k + 1)) p c P) : Dr g p c P:=by
 obtain ⟨r,q,h0,h1,hr,e⟩:=h
 exact ⟨r,q,h0,h1,hr,Evn.succ e⟩
def InPick (n r : Int) : Prop:=0≤r∧(1≤n→r < n)∧(n≤1→r=0)
theorem dr_pick {b : List Int} (hb : Code b) {p : Int} (n : Int) (h0 : 0≤p) (h1 : p≤1099511627776) : Dr (fun k=>spec_l20Rd_pick.f k b p n) p 1 (InPick n):=by
 obtain ⟨r,a,c,d,e⟩:=spec_pick b hb p n h0 h1
 exact ⟨r,p + 1,by omega,by omega,⟨a,c,d⟩,e⟩
/-- What is drawn at the end: no place behind it. -/
def Drw {α : Type} (g : Nat→Option α) (P : α→Prop) : Prop:=∃ r,P r∧Evn fun k=>g k=some r
theorem Drw.bind {α β : Type} {g : Nat→Option (α × Int)} {H : Nat→α × Int→Option β} {p c : Int} {P : α→Prop} {Q : β→Prop}
  (h1 : Dr g p c P) (h2 : ∀ bt : α × Int,P bt.1→p≤bt.2→bt.2≤p + c→Drw (fun k=>H k bt) Q) : Drw (fun k=>(g k).bind (H k)) Q:=by
 obtain ⟨r,q,hq0,hq1,hr,e⟩:=h1
 obtain ⟨r',hr',e'⟩:=h2 (r,q) hr hq0 hq1
 refine ⟨r',hr',Evn.mp e (Evn.mp e' (Evn.all fun k e' e=>?_))⟩
 dsimp only
 rw [e]
 exact e'
theorem Drw.run {α β : Type} {g : Nat→Option α} {H : Nat→α→Option β} {Q : β→Prop} {r : α} (h1 : Evn fun k=>g k=some r) (h2 : Drw (fun k=>H k r) Q) : Drw (fun k=>(g k).bind (H k)) Q:=by
 obtain ⟨r',hr',e'⟩:=h2
 refine ⟨r',hr',Evn.mp h1 (Evn.mp e' (Evn.all fun k e' e=>?_))⟩
 dsimp only
 rw [e]
 exact e'
/-! Strings and their bytes. -/
theorem str_nil : strOfNums []=(⟨#[]⟩ : ByteArray):=rfl
theorem ba_ext {a b : ByteArray} (h : a.data.toList=b.data.toList) : a=b:=by
 cases a;cases b;simp only [ByteArray.mk.injEq];exact Array.toList_inj.mp h
theorem ba_append (a b : ByteArray) : (a ++ b).data.toList=a.data.toList ++ b.data.toList:=by
 rw [ByteArray.data_append,Array.toList_append]
theorem str_append (xs ys : List Int) : strOfNums (xs ++ ys)=strOfNums xs ++ strOfNums ys:=by
 refine ba_ext ?_
 rw [ba_append,strOfNums_data,strOfNums_data,strOfNums_data,List.map_append]
theorem str_bytes (s : ByteArray) : strOfNums (bytesOf s)=s:=by
 refine ba_ext ?_
 rw [strOfNums_data,bytesOf,List.map_map]
 exact (List.map_congr_left (g:=id) fun b _=>by simp).trans (List.map_id _)
theorem bytes_str {xs : List Int} (h : ∀ x ∈ xs,0≤x∧x≤255) : bytesOf (strOfNums xs)=xs:=by
 rw [bytesOf,strOfNums_data,List.map_map]
 refine (List.map_congr_left (g:=id) fun x hx=>?_).trans (List.map_id _)
 have:=h x hx
 simp only [Function.comp,id]
 rw [UInt8.toNat_ofNat_of_lt' (by simp [UInt8.size];omega)]
 omega
theorem ba_toList (s : ByteArray) : s.toList=s.data.toList:=Lib.toList_data s
theorem bytes_byte (s : ByteArray) : ∀ x ∈ bytesOf s,0≤x∧x≤255:=by
 intro x hx
 unfold bytesOf at hx
 obtain ⟨b,_,rfl⟩:=List.mem_map.mp hx
 have:=b.toNat_lt
 omega
/-! The model of keys. -/
def lowB (x : Int) : Bool:=decide (97≤x) && decide (x≤122)
def keyB (s : ByteArray) : Bool:=decide (1≤s.size) && decide (s.size≤4) && (bytesOf s).all lowB
theorem bt_drop' {s : ByteArray} {j : Nat} (h : j < s.size) : (bytesOf s).drop j=bt s (j : Int) :: (bytesOf s).drop (j + 1):=by
 rw [rd_drop (by rw [bytesOf_length];exact h),rd_bytesOf]
theorem bytesOf_tail (s : ByteArray) : bytesOf (s.extract 1 s.size)=(bytesOf s).drop 1:=by
 unfold bytesOf
 rw [← List.map_drop]
 refine congrArg _ ?_
 rw [ByteArray.data_extract,Array.toList_extract]
 rw [List.extract_eq_take_drop,List.take_of_length_le (by rw [List.length_drop,data_length];omega)]
theorem nil_iff (s : ByteArray) : s.toList=([] : List UInt8) ↔ s.size=0:=by
 rw [ba_toList]
 refine ⟨fun h=>?_,fun h=>?_⟩
 ·have:=data_length s
  rw [h] at this
  exact this.symm
 ·exact List.eq_nil_of_length_eq_zero (by rw [data_length];exact h)
/-! The model of commands. -/
def valB (x : Int) : Bool:=decide (0≤x∧x≤999)
def cmdB (kind : Int) (key : ByteArray) (value old : Int) : Bool :=
 (keyB key || (decide (kind=5) && decide (key.size=0))) &&
 (if kind=2 then valB value && decide (old=0) else if kind=4 then valB value && (decide (old=-1) || valB old) else decide (1≤kind∧kind≤5) && (decide (value=0) && decide (old=0)))
theorem nil_dec (s : ByteArray) : decide (s.toList=([] : List UInt8))=decide (s.size=0):=decide_eq_decide.mpr (nil_iff s)
/-! The model of entries. -/
def entB (client seq kind : Int) (key : ByteArray) (value old : Int) : Bool:=decide (0≤client∧client≤3) && (decide (1≤seq∧seq≤999) && cmdB kind key value old)
/-! The model of numbers as bytes. -/
def encG : Nat→Nat→List Int
 | 0,n=>[(n : Int)]
 | g + 1,n=>if n < 128 then [(n : Int)] else (((n % 128 : Nat) : Int) + 128) :: encG g (n / 128)
def encN (n : Int) : List Int:=if 0≤n∧n≤268435455 then encG 4 n.toNat else []
theorem encG_length (g : Nat) : ∀ n,1≤(encG g n).length∧(encG g n).length≤g + 1:=by
 induction g with
 | zero=>intro n;simp [encG]
 | succ g ih =>
  intro n
  unfold encG
  split
  ·simp
  ·have:=ih (n / 128)
   simp
   omega
theorem encN_length (n : Int) : (encN n).length≤5:=by
 unfold encN
 split
 ·exact (encG_length 4 _).2
 ·simp
/-! The model of texts as bytes. -/
def encT (s : ByteArray) : List Int:=if s.size≤8 then encN (s.size : Int) ++ bytesOf s else []
theorem encT_length (s : ByteArray) : (encT s).length≤13:=by
 unfold encT
 have:=encN_length (s.size : Int)
 split
 ·rw [List.length_append,bytesOf_length]
  omega
 ·simp
theorem bt_drop {s : ByteArray} {j : Nat} (h : j < s.size) : (bytesOf s).drop j=bt s (j : Int) :: (bytesOf s).drop (j + 1):=by
 rw [rd_drop (by rw [bytesOf_length];exact h),rd_bytesOf]
/-! Valid bytes. -/
def byteB (x : Int) : Bool:=decide (0≤x) && decide (x≤255)
def bytesB (b : List Int) : Bool:=decide (b.length≤2000) && b.all byteB
/-! The model of reading numbers: at most g groups;the value,and how many bytes were read. -/
def decG : Nat→List Int→Bool→Option (Int × Nat)
 | 0,_,_=>none
 | _ + 1,[],_=>none
 | g + 1,x :: r,first =>
  if x < 128 then (if x=0∧first=false then none else some (x,1))
  else match decG g r false with
   | none=>none
   | some (v,c)=>some (x % 128 + 128 * v,c + 1)
def decTail (at_ : Int) : Option (Int × Nat)→Int × Int
 | none=>(-1,-1)
 | some (v,c)=>(v,at_ + (c : Int))
def decN (b : List Int) (at_ : Int) : Int × Int :=
 if bytesB b=true∧0≤at_∧at_ < (b.length : Int) then decTail at_ (decG 4 (b.drop at_.toNat) true) else (-1,-1)
/-- how many groups are left,and the weight of the next one -/
def weigh (g : Nat) (u : Int) : Prop:=(g=4∧u=1) ∨ (g=3∧u=128) ∨ (g=2∧u=16384) ∨ (g=1∧u=2097152) ∨ (g=0∧u=268435456)
def decAll (n u at_ : Int) : Option (Int × Nat)→Int × Int
 | none=>(-1,-1)
 | some (v,c)=>(n + u * v,at_ + (c : Int))
theorem bytesB_range {b : List Int} (h : bytesB b=true) {j : Nat} (hj : j < b.length) : 0≤rd b (j : Int)∧rd b (j : Int)≤255:=by
 unfold bytesB at h
 rw [Bool.and_eq_true,List.all_eq_true] at h
 have:=h.2 b[j] (List.getElem_mem hj)
 rw [rd_nat hj]
 unfold byteB at this
 simpa using this
theorem bytesB_length {b : List Int} (h : bytesB b=true) : b.length≤2000:=by
 unfold bytesB at h
 rw [Bool.and_eq_true] at h
 simpa using h.1
theorem decG_small {g : Nat} {x : Int} {r : List Int} {first : Bool} (hs : x < 128) : decG (g + 1) (x :: r) first=if x=0∧first=false then none else some (x,1):=by
 rw [decG,if_pos hs]
theorem decG_big {g : Nat} {x : Int} {r : List Int} {first : Bool} (hs : ¬ x < 128) : decG (g + 1) (x :: r) first=match decG g r false with
   | none=>none
   | some (v,c)=>some (x % 128 + 128 * v,c + 1):=by
 rw [decG,if_neg hs]
theorem decN_bad {b : List Int} {a : Int} (h : bytesB b=true→¬ (0≤a∧a < (b.length : Int))) : decN b a=(-1,-1):=by
 unfold decN
 rw [if_neg (fun q=>h q.1 q.2)]
theorem decAll_step (n u x : Int) (j : Nat) (o : Option (Int × Nat)) :
  decAll (n + u * (x % 128)) (u * 128) ((j : Int) + 1) o=decAll n u (j : Int) (match o with | none=>none | some (v,c)=>some (x % 128 + 128 * v,c + 1)):=by
 cases o with
 | none=>rfl
 | some p =>
  obtain ⟨v,c⟩:=p
  simp only [decAll]
  rw [Int.mul_add,Int.mul_assoc]
  refine Prod.ext ?_ ?_
  ·simp only;omega
  ·simp only;omega
/-! What is written is read again. -/
theorem decG_enc (h : Nat) : ∀ (g n : Nat) (rest : List Int) (first : Bool),g≤h + 1→n < 128 ^ g→1≤g→(first=true ∨ 0 < n) →
  decG g (encG h n ++ rest) first=some ((n : Int),(encG h n).length):=by
 induction h with
 | zero =>
  intro g n rest first hg hn h1 hf
  obtain rfl : g=1:=by omega
  simp only [encG,List.cons_append,List.nil_append]
  rw [decG_small (by omega),if_neg (fun q=>by rcases hf with hf | hf <;> simp_all)]
  rfl
 | succ h ih =>
  intro g n rest first hg hn h1 hf
  obtain ⟨g,rfl⟩ : ∃ m,g=m + 1:=⟨g - 1,by omega⟩
  by_cases hs : n < 128
  ·rw [encG,if_pos hs,List.cons_append,decG_small (by omega),if_neg (fun q=>by rcases hf with hf | hf <;> simp_all)]
   rfl
  ·have hlt : n / 128 < 128 ^ g:=by rw [Nat.pow_succ,Nat.mul_comm] at hn;exact Nat.div_lt_of_lt_mul hn
   have hg1 : 1≤g:=by
    rcases Nat.eq_zero_or_pos g with h0 | h0
    ·subst h0;simp at hlt;omega
    ·exact h0
   rw [encG,if_neg hs,List.cons_append,decG_big (by omega),ih g (n / 128) rest false (by omega) hlt hg1 (.inr (by omega))]
   refine congrArg some (Prod.ext ?_ rfl)
   dsimp only
   omega
theorem encG_byte (h : Nat) : ∀ n,n < 128 ^ (h + 1)→∀ x ∈ encG h n,0≤x∧x≤255:=by
 induction h with
 | zero=>intro n hn x hx;simp [encG] at hx;omega
 | succ h ih =>
  intro n hn x hx
  rw [encG] at hx
  split at hx
  ·simp at hx;omega
  ·rcases List.mem_cons.mp hx with hx | hx
   ·omega
   ·exact ih (n / 128) (by rw [Nat.pow_succ,Nat.mul_comm] at hn;exact Nat.div_lt_of_lt_mul hn) x hx
theorem bytesB_mk {b : List Int} (h1 : b.length≤2000) (h2 : ∀ x ∈ b,0≤x∧x≤255) : bytesB b=true:=by
 unfold bytesB
 rw [Bool.and_eq_true,decide_eq_true_eq,List.all_eq_true]
 refine ⟨h1,fun x hx=>?_⟩
 have:=h2 x hx
 unfold byteB
 simp [this]
theorem bytesB_iff {b : List Int} : bytesB b=true ↔ b.length≤2000∧∀ x ∈ b,0≤x∧x≤255:=by
 refine ⟨fun h=>⟨bytesB_length h,fun x hx=>?_⟩,fun h=>bytesB_mk h.1 h.2⟩
 obtain ⟨j,hj,rfl⟩:=List.getElem_of_mem hx
 have:=bytesB_range h hj
 rwa [rd_nat hj] at this
theorem encN_byte (n : Int) : ∀ x ∈ encN n,0≤x∧x≤255:=by
 intro x hx
 unfold encN at hx
 split at hx
 ·exact encG_byte 4 n.toNat (by omega) x hx
 ·simp at hx
theorem encN_pos {n : Int} (h0 : 0≤n) (h1 : n≤268435455) : 1≤(encN n).length:=by
 unfold encN
 rw [if_pos ⟨h0,h1⟩]
 exact (encG_length 4 _).1
/-- DecodeNumber of what EncodeNumber wrote,wherever it stands in valid bytes. -/
theorem decN_enc {n : Int} (h0 : 0≤n) (h1 : n≤268435455) {pre rest : List Int} (hb : bytesB (pre ++ (encN n ++ rest))=true) :
  decN (pre ++ (encN n ++ rest)) (pre.length : Int)=(n,(pre.length : Int) + ((encN n).length : Int)):=by
 have hp:=encN_pos h0 h1
 unfold decN
 rw [if_pos ⟨hb,by omega,by simp only [List.length_append];omega⟩,Int.toNat_natCast,List.drop_left]
 have e : encN n=encG 4 n.toNat:=by unfold encN;rw [if_pos ⟨h0,h1⟩]
 rw [e,decG_enc 4 4 n.toNat rest true (by omega) (by omega) (by omega) (.inl rfl)]
 simp only [decTail]
 rw [show ((n.toNat : Nat) : Int)=n by omega]
/-! What is read was written. -/
theorem decG_facts (g : Nat) : ∀ (h : Nat) (r : List Int) (first : Bool) (v : Int) (c : Nat),g≤h + 1→(∀ x ∈ r,0≤x∧x≤255)→decG g r first=some (v,c) →
  c≤r.length∧1≤c∧0≤v∧v < (128 : Int) ^ g∧r.take c=encG h v.toNat∧(first=false→0 < v):=by
 induction g with
 | zero=>intro h r first v c _ _ hd;simp [decG] at hd
 | succ g ih =>
  intro h r first v c hg hr hd
  cases r with
  | nil=>simp [decG] at hd
  | cons x r =>
   have hx:=hr x (by simp)
   have hp : (0 : Int) < 128 ^ g:=Int.pow_pos (by omega)
   by_cases hs : x < 128
   ·rw [decG_small hs] at hd
    split at hd
    ·cases hd
    ·rename_i hn
     obtain ⟨rfl,rfl⟩:=Prod.mk.inj (Option.some.inj hd)
     have e : encG h x.toNat=[x]:=by
      cases h with
      | zero=>simp only [encG];rw [show ((x.toNat : Nat) : Int)=x by omega]
      | succ h=>rw [encG,if_pos (by omega),show ((x.toNat : Nat) : Int)=x by omega]
     refine ⟨by simp,by omega,by omega,by rw [Int.pow_succ];omega,by rw [e];rfl,fun hf=>?_⟩
     rcases Int.lt_or_eq_of_le hx.1 with h0 | h0
     ·exact h0
     ·exact absurd ⟨h0.symm,hf⟩ hn
   ·rw [decG_big hs] at hd
    cases hq : decG g r false with
    | none=>rw [hq] at hd;cases hd
    | some p =>
     obtain ⟨v',c'⟩:=p
     rw [hq] at hd
     obtain ⟨rfl,rfl⟩:=Prod.mk.inj (Option.some.inj hd)
     obtain ⟨h,rfl⟩ : ∃ m,h=m + 1:=by
      refine ⟨h - 1,?_⟩
      rcases Nat.eq_zero_or_pos h with h0 | h0
      ·subst h0
       obtain rfl : g=0:=by omega
       simp [decG] at hq
      ·omega
     obtain ⟨a,b',c,d,e,f⟩:=ih h r false v' c' (by omega) (fun y hy=>hr y (List.mem_cons_of_mem _ hy)) hq
     have f:=f rfl
     refine ⟨by simp;omega,by omega,by omega,by rw [Int.pow_succ];omega,?_,fun _=>by omega⟩
     rw [List.take_succ_cons,e,encG,if_neg (by omega)]
     refine congr (congrArg List.cons (by omega)) (congrArg (encG h) (by omega))
theorem decN_facts {b : List Int} {a n next : Int} (h : decN b a=(n,next)) (hn : n ≠ -1) :
  bytesB b=true∧0≤a∧a < next∧next≤(b.length : Int)∧0≤n∧n≤268435455∧(b.take next.toNat).drop a.toNat=encN n:=by
 unfold decN at h
 split at h
 ·rename_i hc
  obtain ⟨hb,h0,h1⟩:=hc
  cases hd : decG 4 (b.drop a.toNat) true with
  | none=>rw [hd] at h;exact absurd (Prod.mk.inj h).1.symm hn
  | some p =>
   obtain ⟨v,c⟩:=p
   rw [hd] at h
   obtain ⟨rfl,rfl⟩:=Prod.mk.inj h
   have hby:=(bytesB_iff.mp hb).2
   obtain ⟨c1,c2,c3,c4,c5,_⟩:=decG_facts 4 4 _ true v c (by omega) (fun x hx=>hby x (List.mem_of_mem_drop hx)) hd
   rw [List.length_drop] at c1
   refine ⟨hb,h0,by omega,by omega,c3,by omega,?_⟩
   have e : (a + (c : Int)).toNat=a.toNat + c:=by omega
   rw [e,List.drop_take,Nat.add_sub_cancel_left,c5]
   unfold encN
   rw [if_pos ⟨c3,by omega⟩]
 ·exact absurd (Prod.mk.inj h).1.symm hn
theorem decN_none {b : List Int} {a n next : Int} (h : decN b a=(n,next)) (hn : n=-1) : next=-1:=by
 subst hn
 unfold decN at h
 split at h
 ·rename_i hc
  cases hd : decG 4 (b.drop a.toNat) true with
  | none=>rw [hd] at h;exact (Prod.mk.inj h).2.symm
  | some p =>
   obtain ⟨v,c⟩:=p
   rw [hd] at h
   have hby:=(bytesB_iff.mp hc.1).2
   obtain ⟨_,_,c3,_⟩:=decG_facts 4 4 _ true v c (by omega) (fun x hx=>hby x (List.mem_of_mem_drop hx)) hd
   have:=(Prod.mk.inj h).1
   omega
 ·exact (Prod.mk.inj h).2.symm
/-! The model of reading texts. -/
def decT (b : List Int) (a : Int) : ByteArray × Int :=
 let p:=decN b a
 if p.1 < 0 ∨ 8 < p.1 ∨ (b.length : Int) - p.2 < p.1 then (⟨#[]⟩,-1) else (strOfNums ((b.drop p.2.toNat).take p.1.toNat),p.2 + p.1)
theorem decN_cases (b : List Int) (a : Int) : (decN b a=(-1,-1)) ∨ ∃ n next,decN b a=(n,next)∧n ≠ -1:=by
 generalize h : decN b a=p
 obtain ⟨n,next⟩:=p
 by_cases hn : n=-1
 ·left
  rw [hn,decN_none h hn]
 ·right
  exact ⟨n,next,rfl,hn⟩
theorem byte_mod {b : List Int} (hb : ∀ x ∈ b,0≤x∧x≤255) : b.map (· % 256)=b :=
 (List.map_congr_left (g:=id) fun x hx=>by have:=hb x hx;simp only [id];omega).trans (List.map_id _)
theorem encT_byte (s : ByteArray) : ∀ x ∈ encT s,0≤x∧x≤255:=by
 intro x hx
 unfold encT at hx
 split at hx
 ·rcases List.mem_append.mp hx with hx | hx
  ·exact encN_byte _ x hx
  ·exact bytes_byte s x hx
 ·simp at hx
theorem encT_eq {s : ByteArray} (h : s.size≤8) : encT s=encN (s.size : Int) ++ bytesOf s:=by unfold encT;rw [if_pos h]
/-- DecodeText of what EncodeText wrote,wherever it stands in valid bytes. -/
theorem decT_enc {s : ByteArray} (h : s.size≤8) {pre rest : List Int} (hb : bytesB (pre ++ (encT s ++ rest))=true) :
  decT (pre ++ (encT s ++ rest)) (pre.length : Int)=(s,(pre.length : Int) + ((encT s).length : Int)):=by
 have hp:=encN_pos (n:=(s.size : Int)) (by omega) (by omega)
 rw [encT_eq h] at hb ⊢
 rw [List.append_assoc] at hb ⊢
 have hd:=decN_enc (n:=(s.size : Int)) (by omega) (by omega) hb
 unfold decT
 rw [hd]
 have hbl:=bytesOf_length s
 simp only [List.length_append]
 rw [if_neg (by omega),show ((pre.length : Int) + ((encN (s.size : Int)).length : Int)).toNat=(pre ++ encN (s.size : Int)).length by rw [List.length_append];omega,← List.append_assoc pre,List.drop_left,Int.toNat_natCast]
 rw [List.take_left' hbl,str_bytes]
 refine Prod.ext rfl ?_
 simp only
 omega
theorem decT_facts {b : List Int} {a : Int} {s : ByteArray} {next : Int} (h : decT b a=(s,next)) :
  (next=-1∧s=⟨#[]⟩) ∨ (bytesB b=true∧0≤a∧a < next∧next≤(b.length : Int)∧s.size≤8∧(b.take next.toNat).drop a.toNat=encT s):=by
 unfold decT at h
 rcases decN_cases b a with hd | ⟨n,q,hd,hn⟩
 ·rw [hd] at h
  simp only at h
  rw [if_pos (by omega)] at h
  obtain ⟨rfl,rfl⟩:=Prod.mk.inj h
  exact .inl ⟨rfl,rfl⟩
 ·obtain ⟨f1,f2,f3,f4,f5,f6,f7⟩:=decN_facts hd hn
  rw [hd] at h
  simp only at h
  split at h
  ·obtain ⟨rfl,rfl⟩:=Prod.mk.inj h
   exact .inl ⟨rfl,rfl⟩
  ·obtain ⟨rfl,rfl⟩:=Prod.mk.inj h
   have hb:=(bytesB_iff.mp f1).2
   have hs : (strOfNums ((b.drop q.toNat).take n.toNat)).size=n.toNat:=by rw [strOfNums_size,List.length_take,List.length_drop];omega
   refine .inr ⟨f1,f2,by omega,by omega,by omega,?_⟩
   rw [encT_eq (by omega),hs,bytes_str (fun x hx=>hb x (List.mem_of_mem_drop (List.mem_of_mem_take hx))),show ((n.toNat : Nat) : Int)=n by omega,← f7]
   rw [show (q + n).toNat=q.toNat + n.toNat by omega,List.take_add,List.drop_append_of_le_length (by rw [List.length_take];omega)]
/-! The models of entries as bytes. -/
abbrev EntT:=Int × Int × Int × ByteArray × Int × Int
def entOk (e : EntT) : Bool:=entB e.1 e.2.1 e.2.2.1 e.2.2.2.1 e.2.2.2.2.1 e.2.2.2.2.2
def zeroE : EntT:=(0,0,0,⟨#[]⟩,0,0)
def encE (e : EntT) : List Int :=
 if entOk e=true then encN e.1 ++ (encN e.2.1 ++ (encN e.2.2.1 ++ (encT e.2.2.2.1 ++ (encN e.2.2.2.2.1 ++ encN (e.2.2.2.2.2 + 1))))) else []
def decE (b : List Int) (a : Int) : EntT × Int :=
 let c:=decN b a
 let s:=decN b c.2
 let k:=decN b s.2
 let t:=decT b k.2
 let v:=decN b t.2
 let o:=decN b v.2
 if o.2 < 0 then (zeroE,-1) else if entOk (c.1,s.1,k.1,t.1,v.1,o.1 - 1)=true then ((c.1,s.1,k.1,t.1,v.1,o.1 - 1),o.2) else (zeroE,-1)
theorem entOk_facts {e : EntT} (h : entOk e=true) : 0≤e.1∧e.1≤3∧1≤e.2.1∧e.2.1≤999∧1≤e.2.2.1∧e.2.2.1≤5∧e.2.2.2.1.size≤4∧0≤e.2.2.2.2.1∧e.2.2.2.2.1≤999∧-1≤e.2.2.2.2.2∧e.2.2.2.2.2≤999:=by
 obtain ⟨c,s,k,key,v,o⟩:=e
 simp only [entOk,entB,cmdB,Bool.and_eq_true,Bool.or_eq_true,decide_eq_true_eq] at h
 obtain ⟨h1,h2,h3,h4⟩:=h
 have hk : key.size≤4:=by
  rcases h3 with h3 | h3
  ·unfold keyB at h3
   simp only [Bool.and_eq_true,decide_eq_true_eq] at h3
   exact h3.1.2
  ·omega
 have hv : (1≤k∧k≤5)∧0≤v∧v≤999∧-1≤o∧o≤999:=by
  split at h4
  ·simp only [valB,Bool.and_eq_true,decide_eq_true_eq] at h4
   omega
  ·split at h4
   ·simp only [valB,Bool.and_eq_true,Bool.or_eq_true,decide_eq_true_eq] at h4
    omega
   ·simp only [Bool.and_eq_true,decide_eq_true_eq] at h4
    omega
 exact ⟨h1.1,h1.2,h2.1,h2.2,hv.1.1,hv.1.2,hk,hv.2.1,hv.2.2.1,hv.2.2.2.1,hv.2.2.2.2⟩
theorem encE_length (e : EntT) : (encE e).length≤38:=by
 unfold encE
 split
 ·have h1:=encN_length e.1
  have h2:=encN_length e.2.1
  have h3:=encN_length e.2.2.1
  have h4:=encT_length e.2.2.2.1
  have h5:=encN_length e.2.2.2.2.1
  have h6:=encN_length (e.2.2.2.2.2 + 1)
  simp only [List.length_append]
  omega
 ·simp
theorem encE_byte (e : EntT) : ∀ x ∈ encE e,0≤x∧x≤255:=by
 intro x hx
 unfold encE at hx
 split at hx
 ·simp only [List.mem_append] at hx
  rcases hx with hx | hx | hx | hx | hx | hx
  ·exact encN_byte _ x hx
  ·exact encN_byte _ x hx
  ·exact encN_byte _ x hx
  ·exact encT_byte _ x hx
  ·exact encN_byte _ x hx
  ·exact encN_byte _ x hx
 ·simp at hx
theorem encE_pos {e : EntT} (h : entOk e=true) : 1≤(encE e).length:=by
 have f:=entOk_facts h
 unfold encE
 rw [if_pos h,List.length_append]
 have:=encN_pos (n:=e.1) (by omega) (by omega)
 omega
theorem decE_facts {b : List Int} {a : Int} {e : EntT} {next : Int} (h : decE b a=(e,next)) :
  (next=-1∧e=zeroE) ∨ (bytesB b=true∧0≤a∧a < next∧next≤(b.length : Int)∧entOk e=true∧(b.take next.toNat).drop a.toNat=encE e):=by
 unfold decE at h
 generalize h1 : decN b a=c at h
 obtain ⟨c,p1⟩:=c
 simp only at h
 generalize h2 : decN b p1=s at h
 obtain ⟨s,p2⟩:=s
 simp only at h
 generalize h3 : decN b p2=k at h
 obtain ⟨k,p3⟩:=k
 simp only at h
 generalize h4 : decT b p3=t at h
 obtain ⟨t,p4⟩:=t
 simp only at h
 generalize h5 : decN b p4=v at h
 obtain ⟨v,p5⟩:=v
 simp only at h
 generalize h6 : decN b p5=o at h
 obtain ⟨o,p6⟩:=o
 simp only at h
 split at h
 ·obtain ⟨rfl,rfl⟩:=Prod.mk.inj h
  exact .inl ⟨rfl,rfl⟩
 ·rename_i hp
  split at h
  ·rename_i hok
   obtain ⟨rfl,rfl⟩:=Prod.mk.inj h
   right
   have n6 : o ≠ -1:=fun q=>by have:=decN_none h6 q;omega
   obtain ⟨hb,a6,b6,c6,_,_,f6⟩:=decN_facts h6 n6
   have n5 : v ≠ -1:=fun q=>by have:=decN_none h5 q;omega
   obtain ⟨_,a5,b5,c5,_,_,f5⟩:=decN_facts h5 n5
   rcases decT_facts h4 with ⟨q4,_⟩ | ⟨_,a4,b4,c4,_,f4⟩
   ·omega
   ·have n3 : k ≠ -1:=fun q=>by have:=decN_none h3 q;omega
    obtain ⟨_,a3,b3,c3,_,_,f3⟩:=decN_facts h3 n3
    have n2 : s ≠ -1:=fun q=>by have:=decN_none h2 q;omega
    obtain ⟨_,a2,b2,c2,_,_,f2⟩:=decN_facts h2 n2
    have n1 : c ≠ -1:=fun q=>by have:=decN_none h1 q;omega
    obtain ⟨_,a1,b1,c1,_,_,f1⟩:=decN_facts h1 n1
    refine ⟨hb,a1,by omega,c6,hok,?_⟩
    have cut : ∀ x y z : Int,0≤x→x≤y→y≤z→z≤(b.length : Int)→(b.take z.toNat).drop x.toNat=(b.take y.toNat).drop x.toNat ++ (b.take z.toNat).drop y.toNat:=by
     intro x y z hx hxy hyz hz
     rw [show z.toNat=y.toNat + (z.toNat - y.toNat) by omega,List.take_add,List.drop_append_of_le_length (by rw [List.length_take];omega),List.drop_left' (by rw [List.length_take];omega)]
    unfold encE
    rw [if_pos hok]
    simp only
    rw [show o - 1 + 1=o by omega,← f1,← f2,← f3,← f4,← f5,← f6]
    rw [cut a p1 p6 a1 (by omega) (by omega) c6,cut p1 p2 p6 (by omega) (by omega) (by omega) c6,cut p2 p3 p6 (by omega) (by omega) (by omega) c6,cut p3 p4 p6 (by omega) (by omega) (by omega) c6,cut p4 p5 p6 (by omega) (by omega) (by omega) c6]
  ·obtain ⟨rfl,rfl⟩:=Prod.mk.inj h
   exact .inl ⟨rfl,rfl⟩
/-- DecodeEntry of what EncodeEntry wrote,wherever it stands in valid bytes. -/
theorem decE_enc {e : EntT} (h : entOk e=true) {pre rest : List Int} (hb : bytesB (pre ++ (encE e ++ rest))=true) :
  decE (pre ++ (encE e ++ rest)) (pre.length : Int)=(e,(pre.length : Int) + ((encE e).length : Int)):=by
 have f:=entOk_facts h
 have he : encE e=encN e.1 ++ (encN e.2.1 ++ (encN e.2.2.1 ++ (encT e.2.2.2.1 ++ (encN e.2.2.2.2.1 ++ encN (e.2.2.2.2.2 + 1))))):=by unfold encE;rw [if_pos h]
 have hl : ((encE e).length : Int)=(encN e.1).length + ((encN e.2.1).length + ((encN e.2.2.1).length + ((encT e.2.2.2.1).length + ((encN e.2.2.2.2.1).length + (encN (e.2.2.2.2.2 + 1)).length)))):=by
  rw [he]
  simp only [List.length_append]
  omega
 rw [hl]
 generalize hB : pre ++ (encE e ++ rest)=B at hb ⊢
 have e1 : B=pre ++ (encN e.1 ++ (encN e.2.1 ++ (encN e.2.2.1 ++ (encT e.2.2.2.1 ++ (encN e.2.2.2.2.1 ++ (encN (e.2.2.2.2.2 + 1) ++ rest)))))):=by
  rw [← hB,he];simp only [List.append_assoc]
 have e2 : B=(pre ++ encN e.1) ++ (encN e.2.1 ++ (encN e.2.2.1 ++ (encT e.2.2.2.1 ++ (encN e.2.2.2.2.1 ++ (encN (e.2.2.2.2.2 + 1) ++ rest))))):=by
  rw [e1];simp only [List.append_assoc]
 have e3 : B=(pre ++ encN e.1 ++ encN e.2.1) ++ (encN e.2.2.1 ++ (encT e.2.2.2.1 ++ (encN e.2.2.2.2.1 ++ (encN (e.2.2.2.2.2 + 1) ++ rest)))):=by
  rw [e1];simp only [List.append_assoc]
 have e4 : B=(pre ++ encN e.1 ++ encN e.2.1 ++ encN e.2.2.1) ++ (encT e.2.2.2.1 ++ (encN e.2.2.2.2.1 ++ (encN (e.2.2.2.2.2 + 1) ++ rest))):=by
  rw [e1];simp only [List.append_assoc]
 have e5 : B=(pre ++ encN e.1 ++ encN e.2.1 ++ encN e.2.2.1 ++ encT e.2.2.2.1) ++ (encN e.2.2.2.2.1 ++ (encN (e.2.2.2.2.2 + 1) ++ rest)):=by
  rw [e1];simp only [List.append_assoc]
 have e6 : B=(pre ++ encN e.1 ++ encN e.2.1 ++ encN e.2.2.1 ++ encT e.2.2.2.1 ++ encN e.2.2.2.2.1) ++ (encN (e.2.2.2.2.2 + 1) ++ rest):=by
  rw [e1];simp only [List.append_assoc]
 have d1 : decN B (pre.length : Int)=(e.1,(pre.length : Int) + ((encN e.1).length : Int)):=by rw [e1];exact decN_enc (by omega) (by omega) (by rw [← e1];exact hb)
 have d2 : decN B ((pre ++ encN e.1).length : Int)=(e.2.1,((pre ++ encN e.1).length : Int) + ((encN e.2.1).length : Int)):=by rw [e2];exact decN_enc (by omega) (by omega) (by rw [← e2];exact hb)
 have d3 : decN B ((pre ++ encN e.1 ++ encN e.2.1).length : Int)=(e.2.2.1,((pre ++ encN e.1 ++ encN e.2.1).length : Int) + ((encN e.2.2.1).length : Int)):=by rw [e3];exact decN_enc (by omega) (by omega) (by rw [← e3];exact hb)
 have d4 : decT B ((pre ++ encN e.1 ++ encN e.2.1 ++ encN e.2.2.1).length : Int)=(e.2.2.2.1,((pre ++ encN e.1 ++ encN e.2.1 ++ encN e.2.2.1).length : Int) + ((encT e.2.2.2.1).length : Int)):=by rw [e4];exact decT_enc (by omega) (by rw [← e4];exact hb)
 have d5 : decN B ((pre ++ encN e.1 ++ encN e.2.1 ++ encN e.2.2.1 ++ encT e.2.2.2.1).length : Int)=(e.2.2.2.2.1,((pre ++ encN e.1 ++ encN e.2.1 ++ encN e.2.2.1 ++ encT e.2.2.2.1).length : Int) + ((encN e.2.2.2.2.1).length : Int)):=by rw [e5];exact decN_enc (by omega) (by omega) (by rw [← e5];exact hb)
 have d6 : decN B ((pre ++ encN e.1 ++ encN e.2.1 ++ encN e.2.2.1 ++ encT e.2.2.2.1 ++ encN e.2.2.2.2.1).length : Int)=(e.2.2.2.2.2 + 1,((pre ++ encN e.1 ++ encN e.2.1 ++ encN e.2.2.1 ++ encT e.2.2.2.1 ++ encN e.2.2.2.2.1).length : Int) + ((encN (e.2.2.2.2.2 + 1)).length : Int)):=by rw [e6];exact decN_enc (by omega) (by omega) (by rw [← e6];exact hb)
 clear e1 e2 e3 e4 e5 e6 hB
 simp only [List.length_append,Int.natCast_add] at d1 d2 d3 d4 d5 d6
 unfold decE
 simp only [d1,d2,d3,d4,d5,d6]
 rw [if_neg (by omega),show e.2.2.2.2.2 + 1 - 1=e.2.2.2.2.2 by omega,if_pos h]
 refine Prod.ext rfl ?_
 simp only
 omega
/-! The model of sums. -/
def recS : Int→List Int→Int
 | _,[]=>0
 | j,x :: r=>x * (j + 1) + recS (j + 1) r
def recSum (b : List Int) : Int:=if bytesB b=true then recS 0 b % 65521 else -1
theorem byte_mul {x j : Int} (h0 : 0≤x) (h1 : x≤255) (j0 : 0≤j) (j1 : j≤1999) : 0≤x * (j + 1)∧x * (j + 1)≤510000:=by
 refine ⟨Int.mul_nonneg h0 (by omega),?_⟩
 have:=Int.mul_le_mul h1 (show j + 1≤2000 by omega) (by omega) (by omega)
 omega
/-! The model of frames. -/
def frmH (n : Int) (e : EntT) : List Int:=encN n ++ (encN ((encE e).length : Int) ++ encE e)
def frmB (n : Int) (e : EntT) : List Int:=if (0≤n∧n≤23)∧entOk e=true then frmH n e ++ encN (recSum (frmH n e)) else []
theorem frmH_length (n : Int) (e : EntT) : (frmH n e).length≤48:=by
 unfold frmH
 have h1:=encN_length n
 have h2:=encN_length ((encE e).length : Int)
 have h3:=encE_length e
 simp only [List.length_append]
 omega
theorem frmH_bytes (n : Int) (e : EntT) : bytesB (frmH n e)=true:=by
 have:=frmH_length n e
 refine bytesB_mk (by omega) fun x hx=>?_
 unfold frmH at hx
 simp only [List.mem_append] at hx
 rcases hx with hx | hx | hx
 ·exact encN_byte _ x hx
 ·exact encN_byte _ x hx
 ·exact encE_byte _ x hx
theorem recSum_bd {b : List Int} (hb : bytesB b=true) : 0≤recSum b∧recSum b≤65520:=by
 unfold recSum
 rw [if_pos hb]
 omega
theorem frmB_length (n : Int) (e : EntT) : (frmB n e).length≤53:=by
 unfold frmB
 split
 ·have h1:=frmH_length n e
  have h2:=encN_length (recSum (frmH n e))
  rw [List.length_append]
  omega
 ·simp
/-! The model of reading a frame. -/
def rdf (b : List Int) (a n : Int) : EntT × Int :=
 let e:=decE b (decN b (decN b a).2).2
 if (0≤n∧n≤23)∧0≤e.2∧a + ((frmB n e.1).length : Int)≤(b.length : Int)∧(b.take (a + ((frmB n e.1).length : Int)).toNat).drop a.toNat=frmB n e.1 then (e.1,a + ((frmB n e.1).length : Int)) else (zeroE,-1)
theorem cutCat (b : List Int) (x y z : Int) (_hx : 0≤x) (hxy : x≤y) (hyz : y≤z) (hz : z≤(b.length : Int)) :
  (b.take z.toNat).drop x.toNat=(b.take y.toNat).drop x.toNat ++ (b.take z.toNat).drop y.toNat:=by
 rw [show z.toNat=y.toNat + (z.toNat - y.toNat) by omega,List.take_add,List.drop_append_of_le_length (by rw [List.length_take];omega),List.drop_left' (by rw [List.length_take];omega)]
theorem cutLen (b : List Int) (x z : Int) (_hx : 0≤x) (hxz : x≤z) (hz : z≤(b.length : Int)) : (((b.take z.toNat).drop x.toNat).length : Int)=z - x:=by
 rw [List.length_drop,List.length_take]
 omega
/-- around a cut -/
theorem cutAround (b : List Int) (x z : Int) (hx : 0≤x) (hxz : x≤z) (hz : z≤(b.length : Int)) : b=b.take x.toNat ++ ((b.take z.toNat).drop x.toNat ++ b.drop z.toNat):=by
 have h:=cutCat b 0 x z (by omega) hx hxz hz
 have h2 : (b.take z.toNat).drop (0 : Int).toNat=b.take z.toNat:=rfl
 have h3 : (b.take x.toNat).drop (0 : Int).toNat=b.take x.toNat:=rfl
 rw [h2,h3] at h
 rw [← List.append_assoc,← h,List.take_append_drop]
/-- What the reference asks holds exactly where the program's own test holds. -/
theorem rdf_yes {b : List Int} {a n x p1 l p2 p3 s p4 : Int} {e : EntT} (h1 : decN b a=(x,p1)) (h2 : decN b p1=(l,p2)) (h3 : decE b p2=(e,p3)) (h4 : decN b p3=(s,p4))
  (hs : 0≤p4) (hx : x=n) (hn : n < 24) (hl : l=p3 - p2) (hsum : s=recSum ((b.take p3.toNat).drop a.toNat)) : rdf b a n=(e,p4):=by
 have n4 : s ≠ -1:=fun q=>by have:=decN_none h4 q;omega
 obtain ⟨hb,a4,b4,c4,_,_,f4⟩:=decN_facts h4 n4
 rcases decE_facts h3 with ⟨q3,_⟩ | ⟨_,a3,b3,c3,hok,f3⟩
 ·omega
 ·have n2 : l ≠ -1:=fun q=>by have:=decN_none h2 q;omega
  obtain ⟨_,a2,b2,c2,_,_,f2⟩:=decN_facts h2 n2
  have n1 : x ≠ -1:=fun q=>by have:=decN_none h1 q;omega
  obtain ⟨_,a1,b1,c1,g1,_,f1⟩:=decN_facts h1 n1
  have hlen : ((encE e).length : Int)=p3 - p2:=by rw [← f3];exact cutLen b p2 p3 a3 (by omega) c3
  have hH : (b.take p3.toNat).drop a.toNat=frmH n e:=by
   unfold frmH
   rw [cutCat b a p1 p3 a1 (by omega) (by omega) c3,cutCat b p1 p2 p3 a2 (by omega) (by omega) c3,f1,f2,f3,hlen,hx,hl]
  have hF : (b.take p4.toNat).drop a.toNat=frmB n e:=by
   unfold frmB
   rw [if_pos ⟨⟨by omega,by omega⟩,hok⟩,cutCat b a p3 p4 a1 (by omega) (by omega) c4,hH,f4,hsum,hH]
  have hL : a + ((frmB n e).length : Int)=p4:=by
   rw [← hF,cutLen b a p4 a1 (by omega) c4]
   omega
  unfold rdf
  simp only [h1,h2,h3]
  rw [hL,if_pos ⟨⟨by omega,by omega⟩,by omega,c4,hF⟩]
theorem rdf_no {b : List Int} {a n x p1 l p2 p3 s p4 : Int} {e : EntT} (h1 : decN b a=(x,p1)) (h2 : decN b p1=(l,p2)) (h3 : decE b p2=(e,p3)) (h4 : decN b p3=(s,p4))
  (h : ¬ (0≤p4∧x=n∧n < 24∧l=p3 - p2∧s=recSum ((b.take p3.toNat).drop a.toNat))) : rdf b a n=(zeroE,-1):=by
 unfold rdf
 simp only [h1,h2,h3]
 refine if_neg fun ⟨⟨n0,n1⟩,q3,hL,hF⟩=>h ?_
 rcases decE_facts h3 with ⟨q,_⟩ | ⟨hb,a3,b3,c3,hok,f3⟩
 ·omega
 ·have m2 : l ≠ -1:=fun q=>by have:=decN_none h2 q;omega
  obtain ⟨_,a2,b2,c2,_,_,f2⟩:=decN_facts h2 m2
  have m1 : x ≠ -1:=fun q=>by have:=decN_none h1 q;omega
  obtain ⟨_,a1,b1,c1,g1,_,f1⟩:=decN_facts h1 m1
  have hA:=cutAround b a _ a1 (by omega) hL
  rw [hF] at hA
  have hpre : ((b.take a.toNat).length : Int)=a:=by rw [List.length_take];omega
  generalize b.take a.toNat=pre at hA hpre
  generalize b.drop (a + ((frmB n e).length : Int)).toNat=rest at hA
  have hB:=hA
  unfold frmB frmH at hA
  rw [if_pos ⟨⟨n0,n1⟩,hok⟩] at hA
  have hEl:=encE_length e
  have hEp:=encE_pos hok
  have hS:=recSum_bd (frmH_bytes n e)
  generalize hsu : encN (recSum (encN n ++ (encN ((encE e).length : Int) ++ encE e)))=su at hA
  have e1 : b=pre ++ (encN n ++ (encN ((encE e).length : Int) ++ (encE e ++ (su ++ rest)))):=by
   rw [hA];simp only [List.append_assoc]
  have e2 : b=(pre ++ encN n) ++ (encN ((encE e).length : Int) ++ (encE e ++ (su ++ rest))):=by
   rw [e1];simp only [List.append_assoc]
  have e3 : b=(pre ++ encN n ++ encN ((encE e).length : Int)) ++ (encE e ++ (su ++ rest)):=by
   rw [e1];simp only [List.append_assoc]
  have e4 : b=(pre ++ encN n ++ encN ((encE e).length : Int) ++ encE e) ++ (su ++ rest):=by
   rw [e1];simp only [List.append_assoc]
  have d1 : decN b (pre.length : Int)=(n,(pre.length : Int) + ((encN n).length : Int)):=by rw [e1];exact decN_enc (by omega) (by omega) (by rw [← e1];exact hb)
  have d2 : decN b ((pre ++ encN n).length : Int)=(((encE e).length : Int),((pre ++ encN n).length : Int) + ((encN ((encE e).length : Int)).length : Int)):=by
   conv=>lhs;rw [e2]
   exact decN_enc (by omega) (by omega) (by rw [← e2];exact hb)
  have d3 : decE b ((pre ++ encN n ++ encN ((encE e).length : Int)).length : Int)=(e,((pre ++ encN n ++ encN ((encE e).length : Int)).length : Int) + ((encE e).length : Int)):=by
   conv=>lhs;rw [e3]
   exact decE_enc hok (by rw [← e3];exact hb)
  have d4 : decN b ((pre ++ encN n ++ encN ((encE e).length : Int) ++ encE e).length : Int)=(recSum (frmH n e),((pre ++ encN n ++ encN ((encE e).length : Int) ++ encE e).length : Int) + (su.length : Int)):=by
   subst hsu
   conv=>lhs;rw [e4]
   exact decN_enc (n:=recSum (frmH n e)) (by omega) (by omega) (by rw [e4] at hb;exact hb)
  have p1e : p1=((pre ++ encN n).length : Int):=by
   rw [hpre,h1] at d1
   have:=(Prod.mk.inj d1).2
   rw [this,List.length_append]
   omega
  have xe : x=n:=by
   rw [hpre,h1] at d1
   exact (Prod.mk.inj d1).1
  rw [← p1e,h2] at d2
  have p2e : p2=((pre ++ encN n ++ encN ((encE e).length : Int)).length : Int):=by
   rw [(Prod.mk.inj d2).2,p1e]
   simp only [List.length_append]
   omega
  have le : l=((encE e).length : Int):=(Prod.mk.inj d2).1
  rw [← p2e,h3] at d3
  have p3e : p3=((pre ++ encN n ++ encN ((encE e).length : Int) ++ encE e).length : Int):=by
   rw [(Prod.mk.inj d3).2,p2e]
   simp only [List.length_append]
   omega
  rw [← p3e,h4] at d4
  have hcut : (b.take p3.toNat).drop a.toNat=frmH n e:=by
   unfold frmH
   rw [p3e,← hpre]
   simp only [Int.toNat_natCast]
   rw [e4,List.take_left' rfl]
   simp only [List.append_assoc]
   rw [List.drop_left' rfl]
  refine ⟨?_,xe,by omega,?_,?_⟩
  ·rw [(Prod.mk.inj d4).2];omega
  ·rw [le,(Prod.mk.inj d3).2];omega
  ·rw [hcut];exact (Prod.mk.inj d4).1
theorem implBytes_loop (xs : List Int) (hn : xs.length≤2000) (d : Nat) : ∀ (j : Nat),j + d=xs.length →
  Evn fun k=>impl_BytesValid.l0 k xs (xs.length : Int) (j : Int)=some ((xs.drop j).all byteB):=by
 induction d with
 | zero =>
  intro j hj
  refine Evn.succ (Evn.all fun k=>?_)
  simp only [impl_BytesValid.l0]
  rw [if_neg (by omega),List.drop_of_length_le (by omega)]
  rfl
 | succ d ih =>
  intro j hj
  have hlt : j < xs.length:=by omega
  refine Evn.succ (Evn.mp (ih (j + 1) (by omega)) (Evn.all fun k e=>?_))
  simp only [impl_BytesValid.l0]
  rw [if_pos (by omega),if_pos (by omega),if_pos (by omega),w64 (by omega) (by omega),rd_drop hlt]
  rw [show ((j : Int) + 1)=((j + 1 : Nat) : Int) by omega,e]
  unfold byteB
  by_cases h : rd xs (j : Int) < 0
  ·rw [if_pos h]
   have : ¬ (0≤rd xs (j : Int)):=by omega
   simp [this]
  ·rw [if_neg h]
   have h0 : 0≤rd xs (j : Int):=by omega
   by_cases h2 : rd xs (j : Int) > 255
   ·rw [if_pos h2]
    have : ¬ (rd xs (j : Int)≤255):=by omega
    simp [this]
   ·rw [if_neg h2]
    have : rd xs (j : Int)≤255:=by omega
    simp [h0,this]
theorem implBytes (xs : List Int) : Evn fun k=>impl_BytesValid.f k xs=some (bytesB xs):=by
 by_cases hn : xs.length≤2000
 ·refine Evn.mp (implBytes_loop xs hn xs.length 0 (by omega)) (Evn.all fun k e=>?_)
  unfold impl_BytesValid.f bytesB
  rw [if_neg (by omega)]
  simpa [hn] using e
 ·refine Evn.all fun k=>?_
  unfold impl_BytesValid.f bytesB
  rw [if_pos (by omega)]
  simp [hn]
theorem implDec_loop (b : List Int) (hb : bytesB b=true) (a : Int) (g : Nat) :
  ∀ (j : Nat) (n u : Int),weigh g u→(j : Int) + (g : Int)=a + 4→0≤n→n < u→j≤b.length →
  Evn fun k=>impl_DecodeNumber.l0 k b a n u (j : Int)=some (decAll n u (j : Int) (decG g (b.drop j) (decide ((j : Int)=a)))):=by
 have hlen:=bytesB_length hb
 induction g with
 | zero =>
  intro j n u hu hj _ _ hjb
  refine Evn.succ (Evn.succ (Evn.all fun k=>?_))
  simp only [impl_DecodeNumber.l0]
  rw [decide_eq_false (by unfold weigh at hu;omega)]
  have e : impl_DecodeNumber.j2 (k + 1) b a n u (j : Int) false=some (-1,-1):=by simp only [impl_DecodeNumber.j2];rw [if_neg (by simp)]
  split <;> exact e
 | succ g ih =>
  intro j n u hu hj hn hnu hjb
  by_cases hlt : j < b.length
  ·have hr:=bytesB_range hb hlt
   have hx:=rd_drop hlt
   generalize hxx : rd b (j : Int)=x at hr hx
   have hu2 : weigh g (u * 128):=by unfold weigh at hu ⊢;omega
   have hg : g≤3:=by unfold weigh at hu;omega
   have hub : 1≤u∧u≤2097152:=by unfold weigh at hu;omega
   have hm : 0≤x % 128∧x % 128≤127:=by omega
   have hmul : 0≤u * (x % 128)∧u * (x % 128)≤u * 127:=⟨Int.mul_nonneg (by omega) (by omega),Int.mul_le_mul_of_nonneg_left hm.2 (by omega)⟩
   refine Evn.succ (Evn.succ (Evn.mp (ih (j + 1) (n + u * (x % 128)) (u * 128) hu2 (by omega) (by omega) (by omega) (by omega)) (Evn.all fun k e=>?_)))
   simp only [impl_DecodeNumber.l0]
   rw [if_pos (by omega),decide_eq_true (by omega)]
   simp only [impl_DecodeNumber.j2,if_true]
   rw [if_pos (by omega),if_pos (by omega),hxx,hx,Int.tmod_eq_emod_of_nonneg (by omega),Int.mul_comm (x % 128) u,w64 (x:=u * (x % 128)) (by omega) (by omega),w64 (x:=n + u * (x % 128)) (by omega) (by omega),w64 (x:=(j : Int) + 1) (by omega) (by omega),w64 (x:=u * 128) (by omega) (by omega)]
   by_cases hs : x < 128
   ·rw [if_neg (by omega)]
    have hxm : x % 128=x:=by omega
    rw [decG_small hs,hxm]
    by_cases hz : x=0
    ·rw [if_pos hz]
     by_cases hja : (j : Int)=a
     ·rw [if_neg (by omega),decide_eq_true hja]
      simp [decAll]
     ·rw [if_pos (by omega),decide_eq_false hja]
      simp [hz,decAll]
    ·rw [if_neg hz]
     simp [hz,decAll]
   ·rw [if_pos (by omega)]
    have ej : ((j : Int) + 1)=((j + 1 : Nat) : Int):=by omega
    have step:=decAll_step n u x j (decG g (b.drop (j + 1)) false)
    rw [ej,e,decide_eq_false (by omega),← ej,step]
    rw [decG_big hs]
  ·refine Evn.succ (Evn.succ (Evn.all fun k=>?_))
   simp only [impl_DecodeNumber.l0]
   rw [if_neg (by omega),List.drop_of_length_le (by omega)]
   simp [impl_DecodeNumber.j2,decG,decAll]
theorem implDec (b : List Int) (a : Int) : Evn fun k=>impl_DecodeNumber.f k b a=some (decN b a):=by
 by_cases hb : bytesB b=true
 ·have hlen:=bytesB_length hb
  by_cases ha : 0≤a∧a < (b.length : Int)
  ·obtain ⟨j,rfl⟩ : ∃ j : Nat,a=(j : Int):=⟨a.toNat,by omega⟩
   refine Evn.mp (implBytes b) (Evn.succ (Evn.mp (implDec_loop b hb (j : Int) 4 j 0 1 (.inl ⟨rfl,rfl⟩) (by omega) (by omega) (by omega) (by omega)) (Evn.all fun k e1 e2=>?_)))
   unfold impl_DecodeNumber.f decN
   rw [e2,hb]
   simp only [Option.bind_some,if_true]
   rw [if_neg (by omega),decide_eq_false (by omega)]
   simp only [impl_DecodeNumber.j0]
   rw [if_neg (by simp),e1,if_pos ⟨trivial,ha⟩,decide_eq_true rfl]
   simp only [Int.toNat_natCast]
   cases decG 4 (b.drop j) true with
   | none=>rfl
   | some p=>obtain ⟨v,c⟩:=p;simp [decAll,decTail]
  ·refine Evn.mp (implBytes b) (Evn.succ (Evn.all fun k e2=>?_))
   rw [decN_bad fun _=>ha]
   unfold impl_DecodeNumber.f
   rw [e2,hb]
   simp only [Option.bind_some,if_true]
   by_cases h0 : a < 0
   ·rw [if_pos h0]
    simp [impl_DecodeNumber.j0]
   ·rw [if_neg h0,decide_eq_true (by omega)]
    simp [impl_DecodeNumber.j0]
 ·refine Evn.mp (implBytes b) (Evn.succ (Evn.all fun k e2=>?_))
  rw [decN_bad fun h=>absurd h hb]
  unfold impl_DecodeNumber.f
  rw [e2]
  simp [hb,impl_DecodeNumber.j0]
theorem implLetters (n : Nat) : ∀ s : ByteArray,s.size=n→Evn fun k=>impl_lettersOnly.f k s=some ((bytesOf s).all lowB):=by
 induction n with
 | zero =>
  intro s hs
  refine Evn.succ (Evn.all fun k=>?_)
  simp only [impl_lettersOnly.f]
  rw [if_pos ((nil_iff s).mpr hs),List.eq_nil_of_length_eq_zero (l:=bytesOf s) (by rw [bytesOf_length];exact hs)]
  rfl
 | succ n ih =>
  intro s hs
  have hx:=bt_drop' (s:=s) (j:=0) (by omega)
  rw [List.drop_zero] at hx
  refine Evn.succ (Evn.mp (ih (s.extract 1 s.size) (by rw [ByteArray.size_extract];omega)) (Evn.all fun k e=>?_))
  simp only [impl_lettersOnly.f]
  rw [if_neg (fun h=>by have:=(nil_iff s).mp h;omega),if_pos (by omega),e,bytesOf_tail,hx]
  simp only [Option.bind_some,List.all_cons,Nat.zero_add]
  unfold lowB
  rw [if_pos (show (1 : Int)≤(s.size : Int) by omega)]
  simp only [Int.ofNat_zero]
  by_cases h1 : bt s 0 ≥ 97
  ·rw [if_pos h1]
   by_cases h2 : bt s 0≤122
   ·rw [if_pos h2]
    have : (97 : Int)≤bt s 0:=h1
    simp [this,h2]
   ·rw [if_neg h2]
    simp [h2]
  ·rw [if_neg h1]
   have : ¬ (97 : Int)≤bt s 0:=h1
   simp [this]
theorem implKey (s : ByteArray) : Evn fun k=>impl_KeyValid.f k s=some (keyB s):=by
 refine Evn.mp (implLetters s.size s rfl) (Evn.all fun k e=>?_)
 unfold impl_KeyValid.f keyB
 by_cases h1 : s.size < 1
 ·rw [if_pos (by omega)]
  have : ¬ 1≤s.size:=by omega
  simp [this]
 ·rw [if_neg (by omega)]
  have a1 : 1≤s.size:=by omega
  by_cases h2 : s.size > 4
  ·rw [if_pos (by omega)]
   have : ¬ s.size≤4:=by omega
   simp [this]
  ·rw [if_neg (by omega),e]
   have a2 : s.size≤4:=by omega
   simp [a1,a2]
theorem implCmd (kind : Int) (key : ByteArray) (value old : Int) : Evn fun k=>impl_CommandValid.f k kind key value old=some (cmdB kind key value old):=by
 refine Evn.mp (implKey key) (Evn.all fun k e=>?_)
 unfold impl_CommandValid.f cmdB
 rw [e,nil_dec]
 rfl
theorem implSeq (x : Int) : impl_seqValid.f x=some (decide (1≤x∧x≤999)):=by
 unfold impl_seqValid.f
 by_cases h : x ≥ 1
 ·rw [if_pos h]
  exact congrArg some (decide_eq_decide.mpr (by omega))
 ·rw [if_neg h,decide_eq_false (by omega)]
theorem implEnt (client seq kind : Int) (key : ByteArray) (value old : Int) : Evn fun k=>impl_EntryValid.f k client seq kind key value old=some (entB client seq kind key value old):=by
 refine Evn.mp (implCmd kind key value old) (Evn.all fun k e=>?_)
 unfold impl_EntryValid.f entB
 rw [implSeq]
 by_cases h1 : client ≥ 0
 ·rw [if_pos h1]
  by_cases h2 : client < 4
  ·rw [if_pos h2,decide_eq_true (show 0≤client∧client≤3 by omega)]
   by_cases h3 : 1≤seq∧seq≤999
   ·rw [decide_eq_true h3]
    simp [e]
   ·rw [decide_eq_false h3]
    simp
  ·rw [if_neg h2,decide_eq_false (show ¬ (0≤client∧client≤3) by omega)]
   rfl
 ·rw [if_neg h1,decide_eq_false (show ¬ (0≤client∧client≤3) by omega)]
  rfl
theorem implDecT (b : List Int) (a : Int) : Evn fun k=>impl_DecodeText.f k b a=some (decT b a):=by
 refine Evn.mp (implDec b a) (Evn.all fun k e=>?_)
 unfold impl_DecodeText.f decT
 rw [e]
 simp only [Option.bind_some]
 rcases decN_cases b a with h | ⟨n,s,h,hn⟩
 ·rw [h]
  simp only
  rw [if_pos (by unfold impl_DecodeText.bad;omega),if_pos (by omega)]
 ·rw [h]
  obtain ⟨f1,f2,f3,f4,f5,f6,_⟩:=decN_facts h hn
  have hl:=bytesB_length f1
  simp only
  have hw : wrap64 ((b.length : Int) - s)=(b.length : Int) - s:=w64 (by omega) (by omega)
  by_cases hc : n < 0 ∨ 8 < n ∨ (b.length : Int) - s < n
  ·rw [if_pos (by unfold impl_DecodeText.bad;rw [hw];exact hc),if_pos hc]
  ·rw [if_neg (by unfold impl_DecodeText.bad;rw [hw];exact hc),if_neg hc,if_pos (by unfold impl_DecodeText.good;omega)]
   unfold impl_DecodeText.cut
   rw [byte_mod fun x hx=>(bytesB_iff.mp f1).2 x (List.mem_of_mem_drop (List.mem_of_mem_take hx))]
theorem implDecE (b : List Int) (a : Int) : Evn fun k=>impl_DecodeEntry.f k b a=some ((decE b a).1.1,(decE b a).1.2.1,(decE b a).1.2.2.1,(decE b a).1.2.2.2.1,(decE b a).1.2.2.2.2.1,(decE b a).1.2.2.2.2.2,(decE b a).2):=by
 cases hb : bytesB b with
 | false =>
  have hn : ∀ a,decN b a=(-1,-1):=fun a=>decN_bad fun h=>by rw [hb] at h;cases h
  have hd : decE b a=(zeroE,-1):=by
   unfold decE
   simp only [hn]
   rw [if_pos (by omega)]
  refine Evn.mp (implBytes b) (Evn.all fun k e=>?_)
  unfold impl_DecodeEntry.f
  rw [e,hb,hd]
  rfl
 | true =>
  unfold decE
  generalize h1 : decN b a=c
  obtain ⟨c,p1⟩:=c
  simp only
  generalize h2 : decN b p1=s
  obtain ⟨s,p2⟩:=s
  simp only
  generalize h3 : decN b p2=kd
  obtain ⟨kd,p3⟩:=kd
  simp only
  generalize h4 : decT b p3=t
  obtain ⟨t,p4⟩:=t
  simp only
  generalize h5 : decN b p4=v
  obtain ⟨v,p5⟩:=v
  simp only
  generalize h6 : decN b p5=o
  obtain ⟨o,p6⟩:=o
  simp only
  have ho : -1≤o∧o≤268435455:=by
   by_cases q : o=-1
   ·omega
   ·have:=decN_facts h6 q
    omega
  refine Evn.mp (implBytes b) (Evn.mp (implDec b a) (Evn.mp (implDec b p1) (Evn.mp (implDec b p2) (Evn.mp (implDecT b p3) (Evn.mp (implDec b p4) (Evn.mp (implDec b p5) (Evn.mp (implEnt c s kd t v (o - 1)) (Evn.all fun k e8 e7 e6 e5 e4 e3 e2 e1=>?_))))))))
  rw [h1] at e2
  rw [h2] at e3
  rw [h3] at e4
  rw [h4] at e5
  rw [h5] at e6
  rw [h6] at e7
  unfold impl_DecodeEntry.f
  rw [e1,hb]
  simp only [Option.bind_some,if_true]
  rw [e2]
  simp only [Option.bind_some]
  rw [e3]
  simp only [Option.bind_some]
  rw [e4]
  simp only [Option.bind_some]
  rw [e5]
  simp only [Option.bind_some]
  rw [e6]
  simp only [Option.bind_some]
  rw [e7]
  simp only [Option.bind_some]
  unfold impl_DecodeEntry.judge
  by_cases hp : p6 < 0
  ·rw [if_pos hp,if_pos hp]
   rfl
  ·rw [if_neg hp,if_neg hp,w64 (by omega) (by omega),e8]
   simp only [Option.bind_some]
   by_cases hq : entB c s kd t v (o - 1)=true
   ·rw [if_pos hq,if_pos (show entOk (c,s,kd,t,v,o - 1)=true from hq)]
   ·rw [if_neg hq,if_neg (show ¬ entOk (c,s,kd,t,v,o - 1)=true from hq)]
    rfl
theorem implEnc_loop (g : Nat) : ∀ (n : Nat) (acc : List Int),n < 128 ^ (g + 1)→n≤268435455→acc.length + g≤1099511627776 →
  Evn fun k=>impl_EncodeNumber.l0 k (n : Int) acc=some (acc ++ encG g n):=by
 induction g with
 | zero =>
  intro n acc hn _ ha
  refine Evn.succ (Evn.all fun k=>?_)
  simp only [impl_EncodeNumber.l0]
  rw [if_neg (by omega),if_pos (by omega)]
  rfl
 | succ g ih =>
  intro n acc hn hm ha
  by_cases h : n < 128
  ·refine Evn.succ (Evn.all fun k=>?_)
   simp only [impl_EncodeNumber.l0]
   rw [if_neg (by omega),if_pos (by omega)]
   simp [encG,h]
  ·have hlt : n / 128 < 128 ^ (g + 1):=by rw [Nat.pow_succ,Nat.mul_comm] at hn;exact Nat.div_lt_of_lt_mul hn
   refine Evn.succ (Evn.mp (ih (n / 128) (acc ++ [((n % 128 : Nat) : Int) + 128]) hlt (by omega) (by rw [List.length_append];simp only [List.length_cons,List.length_nil];omega)) (Evn.all fun k e=>?_))
   simp only [impl_EncodeNumber.l0]
   rw [if_pos (by omega),if_pos (by omega),Int.tdiv_eq_ediv_of_nonneg (by omega),Int.tmod_eq_emod_of_nonneg (by omega),w64 (by omega) (by omega),w64 (by omega) (by omega)]
   rw [show (n : Int) / 128=((n / 128 : Nat) : Int) by omega,show (n : Int) % 128 + 128=((n % 128 : Nat) : Int) + 128 by omega,e]
   simp [encG,h]
theorem implEnc (n : Int) : Evn fun k=>impl_EncodeNumber.f k n=some (encN n):=by
 unfold encN
 by_cases h0 : n < 0
 ·refine Evn.succ (Evn.all fun k=>?_)
  unfold impl_EncodeNumber.f
  rw [if_pos h0,if_neg (by omega)]
  simp [impl_EncodeNumber.j0]
 ·by_cases h : n≤268435455
  ·refine Evn.succ (Evn.mp (implEnc_loop 4 n.toNat [] (by omega) (by omega) (by simp)) (Evn.all fun k e=>?_))
   unfold impl_EncodeNumber.f
   rw [show ((n.toNat : Nat) : Int)=n by omega] at e
   rw [if_neg h0,if_pos (by omega),decide_eq_false (by omega)]
   simpa [impl_EncodeNumber.j0] using e
  ·refine Evn.succ (Evn.all fun k=>?_)
   unfold impl_EncodeNumber.f
   rw [if_neg h0,if_neg (by omega),decide_eq_true (by omega)]
   simp [impl_EncodeNumber.j0]
theorem implEncT_loop (s : ByteArray) (hs : s.size≤8) (d : Nat) : ∀ (j : Nat) (acc : List Int),j + d=s.size→acc.length + d≤1000 →
  Evn fun k=>impl_EncodeText.l0 k s acc (j : Int)=some (acc ++ (bytesOf s).drop j):=by
 induction d with
 | zero =>
  intro j acc hj ha
  refine Evn.succ (Evn.all fun k=>?_)
  simp only [impl_EncodeText.l0]
  rw [if_neg (by omega),List.drop_of_length_le (by rw [bytesOf_length];omega),List.append_nil]
 | succ d ih =>
  intro j acc hj ha
  have hr:=bt_range s (j : Int)
  refine Evn.succ (Evn.mp (ih (j + 1) (acc ++ [bt s (j : Int)]) (by omega) (by rw [List.length_append];simp only [List.length_cons,List.length_nil];omega)) (Evn.all fun k e=>?_))
  simp only [impl_EncodeText.l0]
  rw [if_pos (by omega),if_pos (by omega),if_pos (by omega),w64 (x:=bt s (j : Int)) (by omega) (by omega),w64 (x:=(j : Int) + 1) (by omega) (by omega),bt_drop (show j < s.size by omega)]
  rw [show ((j : Int) + 1)=((j + 1 : Nat) : Int) by omega,e]
  simp
theorem implEncT (s : ByteArray) : Evn fun k=>impl_EncodeText.f k s=some (encT s):=by
 unfold encT
 by_cases h : s.size≤8
 ·have hl:=encN_length (s.size : Int)
  refine Evn.mp (implEnc (s.size : Int)) (Evn.mp (implEncT_loop s h s.size 0 (encN (s.size : Int)) (by omega) (by omega)) (Evn.all fun k e1 e2=>?_))
  unfold impl_EncodeText.f
  rw [if_neg (by omega),if_pos h,e2]
  simpa using e1
 ·refine Evn.all fun k=>?_
  unfold impl_EncodeText.f
  rw [if_pos (by omega),if_neg h]
theorem implEncE (e : EntT) : Evn fun k=>impl_EncodeEntry.f k e.1 e.2.1 e.2.2.1 e.2.2.2.1 e.2.2.2.2.1 e.2.2.2.2.2=some (encE e):=by
 obtain ⟨c,s,kd,key,v,o⟩:=e
 dsimp only
 by_cases h : entOk (c,s,kd,key,v,o)=true
 ·have f:=entOk_facts h
  simp only at f
  have h1:=encN_length c
  have h2:=encN_length s
  have h3:=encN_length kd
  have h4:=encT_length key
  have h5:=encN_length v
  have h6:=encN_length (o + 1)
  refine Evn.mp (implEnt c s kd key v o) (Evn.mp (implEnc c) (Evn.mp (implEnc s) (Evn.mp (implEnc kd) (Evn.mp (implEncT key) (Evn.mp (implEnc v) (Evn.mp (implEnc (o + 1)) (Evn.all fun k e7 e6 e5 e4 e3 e2 e1=>?_)))))))
  have hb : entB c s kd key v o=true:=h
  unfold impl_EncodeEntry.f encE
  rw [if_pos h,e1,hb]
  simp only [Option.bind_some,if_true]
  rw [w64 (by omega) (by omega)]
  simp only [e2,e3,e4,e5,e6,e7,Option.bind_some]
  rw [if_pos (by omega),if_pos (by simp only [List.length_append];omega),if_pos (by simp only [List.length_append];omega),if_pos (by simp only [List.length_append];omega),if_pos (by simp only [List.length_append];omega)]
  simp only [List.append_assoc]
 ·refine Evn.mp (implEnt c s kd key v o) (Evn.all fun k e1=>?_)
  have hb : entB c s kd key v o=false:=Bool.eq_false_iff.mpr h
  unfold impl_EncodeEntry.f encE
  rw [if_neg h,e1,hb]
  simp
theorem implSum_loop (b : List Int) (hb : bytesB b=true) (d : Nat) : ∀ (j : Nat) (n : Int),j + d=b.length→0≤n→n≤(j : Int) * 510000 →
  Evn fun k=>impl_RecordSum.l0 k n b (b.length : Int) (j : Int)=some ((n + recS (j : Int) (b.drop j)) % 65521):=by
 have hlen:=bytesB_length hb
 induction d with
 | zero =>
  intro j n hj h0 h1
  refine Evn.succ (Evn.all fun k=>?_)
  simp only [impl_RecordSum.l0]
  rw [if_neg (by omega),List.drop_of_length_le (by omega)]
  simp only [recS]
  rw [Int.add_zero,Int.tmod_eq_emod_of_nonneg h0]
 | succ d ih =>
  intro j n hj h0 h1
  have hlt : j < b.length:=by omega
  have hr:=bytesB_range hb hlt
  have hx:=rd_drop hlt
  generalize hxx : rd b (j : Int)=x at hr hx
  have hm:=byte_mul (j:=(j : Int)) hr.1 hr.2 (by omega) (by omega)
  refine Evn.succ (Evn.mp (ih (j + 1) (n + x * ((j : Int) + 1)) (by omega) (by omega) (by omega)) (Evn.all fun k e=>?_))
  simp only [impl_RecordSum.l0]
  rw [if_pos (by omega),if_pos (by omega),if_pos (by omega),hxx,w64 (x:=(j : Int) + 1) (by omega) (by omega),w64 (x:=x * ((j : Int) + 1)) (by omega) (by omega),w64 (x:=n + x * ((j : Int) + 1)) (by omega) (by omega)]
  rw [show ((j : Int) + 1)=((j + 1 : Nat) : Int) by omega] at e ⊢
  rw [e,hx]
  simp only [recS]
  rw [show (((j : Nat) : Int) + 1)=((j + 1 : Nat) : Int) by omega,Int.add_assoc]
theorem implSum (b : List Int) : Evn fun k=>impl_RecordSum.f k b=some (recSum b):=by
 unfold recSum
 by_cases hb : bytesB b=true
 ·refine Evn.mp (implBytes b) (Evn.mp (implSum_loop b hb b.length 0 0 (by omega) (by omega) (by omega)) (Evn.all fun k e1 e2=>?_))
  unfold impl_RecordSum.f
  rw [e2,if_pos hb]
  simpa [hb] using e1
 ·refine Evn.mp (implBytes b) (Evn.all fun k e2=>?_)
  unfold impl_RecordSum.f
  rw [e2,if_neg hb]
  simp [hb]
theorem implFrm_j (n : Int) (e : EntT) : Evn fun k=>impl_FrameEntry.j0 k n false e.1 e.2.1 e.2.2.1 e.2.2.2.1 e.2.2.2.2.1 e.2.2.2.2.2=some (frmH n e ++ encN (recSum (frmH n e))):=by
 have h1:=encN_length n
 have h2:=encN_length ((encE e).length : Int)
 have h3:=encE_length e
 have h4:=frmH_length n e
 have h5:=encN_length (recSum (frmH n e))
 refine Evn.succ (Evn.mp (implEncE e) (Evn.mp (implEnc n) (Evn.mp (implEnc ((encE e).length : Int)) (Evn.mp (implSum (frmH n e)) (Evn.mp (implEnc (recSum (frmH n e))) (Evn.all fun k e4 e3 e2 e1 e0=>?_))))))
 have hf : encN n ++ encN ((encE e).length : Int) ++ encE e=frmH n e:=by unfold frmH;rw [List.append_assoc]
 rw [impl_FrameEntry.j0,if_neg (by simp),e0]
 try simp only [Option.bind_some]
 rw [e1]
 try simp only [Option.bind_some]
 rw [e2]
 try simp only [Option.bind_some]
 rw [if_pos (by omega)]
 try simp only [Option.bind_some]
 rw [if_pos (by simp only [List.length_append];omega)]
 try simp only [Option.bind_some]
 rw [hf,e3]
 try simp only [Option.bind_some]
 rw [e4]
 try simp only [Option.bind_some]
 rw [if_pos (by omega)]
theorem implFrm_no (n : Int) (e : EntT) : Evn fun k=>impl_FrameEntry.j0 k n true e.1 e.2.1 e.2.2.1 e.2.2.2.1 e.2.2.2.2.1 e.2.2.2.2.2=some []:=Evn.succ (Evn.all fun k=>by
 rw [impl_FrameEntry.j0,if_pos rfl])
theorem implFrm (n : Int) (e : EntT) : Evn fun k=>impl_FrameEntry.f k n e.1 e.2.1 e.2.2.1 e.2.2.2.1 e.2.2.2.2.1 e.2.2.2.2.2=some (frmB n e):=by
 refine Evn.mp (implEnt e.1 e.2.1 e.2.2.1 e.2.2.2.1 e.2.2.2.2.1 e.2.2.2.2.2) (Evn.mp (implFrm_j n e) (Evn.mp (implFrm_no n e) (Evn.all fun k e3 e2 e1=>?_)))
 unfold impl_FrameEntry.f frmB
 by_cases h0 : n < 0
 ·rw [if_pos h0,if_neg (by omega),e3]
 ·rw [if_neg h0]
  by_cases h1 : n ≥ 24
  ·rw [if_pos h1,if_neg (by omega),e3]
  ·rw [if_neg h1,e1]
   simp only [Option.bind_some]
   by_cases h : entOk e=true
   ·have hb : entB e.1 e.2.1 e.2.2.1 e.2.2.2.1 e.2.2.2.2.1 e.2.2.2.2.2=true:=h
    rw [hb,if_pos ⟨by omega,h⟩]
    exact e2
   ·have hb : entB e.1 e.2.1 e.2.2.1 e.2.2.2.1 e.2.2.2.2.1 e.2.2.2.2.2=false:=Bool.eq_false_iff.mpr h
    rw [hb,if_neg (fun q=>h q.2)]
    exact e3
/-! slices.Equal on lists of numbers. -/
theorem slEq_loop (xs ys : List Int) (hl : xs.length=ys.length) (hn : xs.length≤1048576) (d : Nat) : ∀ (j : Nat),j + d=xs.length →
  Evn fun k=>slices_Equal_int_int.l0 k xs ys (xs.length : Int) (j : Int)=some (decide (xs.drop j=ys.drop j)):=by
 induction d with
 | zero =>
  intro j hj
  refine Evn.succ (Evn.all fun k=>?_)
  simp only [slices_Equal_int_int.l0]
  rw [if_neg (by omega),List.drop_of_length_le (by omega),List.drop_of_length_le (by omega)]
  simp
 | succ d ih =>
  intro j hj
  have hlt : j < xs.length:=by omega
  refine Evn.succ (Evn.mp (ih (j + 1) (by omega)) (Evn.all fun k e=>?_))
  simp only [slices_Equal_int_int.l0]
  rw [if_pos (by omega),if_pos (by omega),if_pos (by omega),if_pos (by omega),w64 (by omega) (by omega)]
  rw [rd_drop hlt,rd_drop (show j < ys.length by omega)]
  by_cases h : rd xs (j : Int)=rd ys (j : Int)
  ·rw [if_pos h,h]
   refine Eq.trans e ?_
   simp
  ·rw [if_neg h]
   simp [h]
theorem slEq (xs ys : List Int) (hn : xs.length≤1048576) : Evn fun k=>slices_Equal_int_int.f k xs ys=some (decide (xs=ys)):=by
 by_cases hl : xs.length=ys.length
 ·refine Evn.mp (slEq_loop xs ys hl hn xs.length 0 (by omega)) (Evn.all fun k e=>?_)
  unfold slices_Equal_int_int.f
  rw [if_pos (by omega)]
  simpa using e
 ·refine Evn.all fun k=>?_
  unfold slices_Equal_int_int.f
  rw [if_neg (by omega),decide_eq_false (fun h=>hl (by rw [h]))]
theorem rdf_zero {b : List Int} {a n : Int} (h : ¬ ((0≤n∧n≤23)∧bytesB b=true∧0≤a∧a < (b.length : Int))) : rdf b a n=(zeroE,-1):=by
 generalize h1 : decN b a=x
 obtain ⟨x,p1⟩:=x
 generalize h2 : decN b p1=l
 obtain ⟨l,p2⟩:=l
 generalize h3 : decE b p2=e
 obtain ⟨e,p3⟩:=e
 generalize h4 : decN b p3=s
 obtain ⟨s,p4⟩:=s
 refine rdf_no h1 h2 h3 h4 fun ⟨q4,qx,qn,_,_⟩=>h ?_
 have n4 : s ≠ -1:=fun q=>by have:=decN_none h4 q;omega
 obtain ⟨hb,a4,b4,c4,_,_,_⟩:=decN_facts h4 n4
 rcases decE_facts h3 with ⟨q3,_⟩ | ⟨_,a3,b3,c3,_,_⟩
 ·omega
 ·have n2 : l ≠ -1:=fun q=>by have:=decN_none h2 q;omega
  obtain ⟨_,a2,b2,c2,_,_,_⟩:=decN_facts h2 n2
  have n1 : x ≠ -1:=fun q=>by have:=decN_none h1 q;omega
  obtain ⟨_,a1,b1,c1,g1,_,_⟩:=decN_facts h1 n1
  exact ⟨by omega,hb,a1,by omega⟩
theorem implRdf_go (b : List Int) (a n : Int) (hn : 0≤n∧n≤23) (hb : bytesB b=true) (ha : 0≤a∧a < (b.length : Int)) : Evn fun k=>impl_ReadFrame.f k b a n=some ((rdf b a n).1.1,(rdf b a n).1.2.1,(rdf b a n).1.2.2.1,(rdf b a n).1.2.2.2.1,(rdf b a n).1.2.2.2.2.1,(rdf b a n).1.2.2.2.2.2,(rdf b a n).2):=by
 have hbl:=bytesB_length hb
 generalize h1 : decN b a=x
 obtain ⟨x,p1⟩:=x
 generalize h2 : decN b p1=l
 obtain ⟨l,p2⟩:=l
 generalize h3 : decE b p2=e
 obtain ⟨e,p3⟩:=e
 have hr : rdf b a n=if (0≤n∧n≤23)∧0≤p3∧a + ((frmB n e).length : Int)≤(b.length : Int)∧(b.take (a + ((frmB n e).length : Int)).toNat).drop a.toNat=frmB n e then (e,a + ((frmB n e).length : Int)) else (zeroE,-1):=by
  unfold rdf
  simp only [h1,h2,h3]
 have hfl:=frmB_length n e
 refine (Evn.mp (implBytes b) (Evn.mp (implDec b a) (Evn.mp (implDec b p1) (Evn.mp (implDecE b p2) (Evn.mp (implFrm n e) (Evn.mp (slEq (frmB n e) ((b.take (a + ((frmB n e).length : Int)).toNat).drop a.toNat) (by omega)) (Evn.all fun k e5 e4 e3 e2 e1 e0=>?_)))))))
 rw [h1] at e1
 rw [h2] at e2
 rw [h3] at e3
 unfold impl_ReadFrame.f
 rw [if_pos (by omega),e0,hb]
 simp only [Option.bind_some,if_true]
 rw [if_pos ha,e1]
 simp only [Option.bind_some]
 rw [e2]
 simp only [Option.bind_some]
 rw [e3]
 simp only [Option.bind_some]
 by_cases q3 : p3 < 0
 ·rw [if_pos q3,hr,if_neg (by omega)]
  rfl
 ·rw [if_neg q3,e4]
  simp only [Option.bind_some]
  unfold impl_ReadFrame.judge
  try dsimp only
  rw [w64 (x:=(b.length : Int) - a) (by omega) (by omega),w64 (x:=a + ((frmB n e).length : Int)) (by omega) (by omega)]
  by_cases qL : ((frmB n e).length : Int) > (b.length : Int) - a
  ·rw [if_pos qL,hr,if_neg (by omega)]
   rfl
  ·rw [if_neg qL,if_pos ⟨by omega,by omega,by omega⟩,e5]
   simp only [Option.bind_some]
   by_cases qF : frmB n e=(b.take (a + ((frmB n e).length : Int)).toNat).drop a.toNat
   ·rw [decide_eq_true qF,if_pos rfl,hr,if_pos ⟨hn,by omega,by omega,qF.symm⟩]
   ·rw [decide_eq_false qF,if_neg (by simp),hr,if_neg (fun q=>qF q.2.2.2.symm)]
    rfl
theorem implRdf (b : List Int) (a n : Int) : Evn fun k=>impl_ReadFrame.f k b a n=some ((rdf b a n).1.1,(rdf b a n).1.2.1,(rdf b a n).1.2.2.1,(rdf b a n).1.2.2.2.1,(rdf b a n).1.2.2.2.2.1,(rdf b a n).1.2.2.2.2.2,(rdf b a n).2):=by
 by_cases h : (0≤n∧n≤23)∧bytesB b=true∧0≤a∧a < (b.length : Int)
 ·exact implRdf_go b a n h.1 h.2.1 h.2.2
 ·refine Evn.mp (implBytes b) (Evn.all fun k e1=>?_)
  rw [rdf_zero h]
  unfold impl_ReadFrame.f impl_ReadFrame.none_
  by_cases hn : 0≤n∧n < 24
  ·rw [if_pos hn,e1]
   simp only [Option.bind_some]
   cases hb : bytesB b with
   | false=>rfl
   | true =>
    simp only [if_true]
    rw [if_neg (fun q=>h ⟨⟨hn.1,by omega⟩,hb,q⟩)]
    rfl
  ·rw [if_neg hn]
   rfl
theorem l1In (a b c : Int) : spec_l1In.f a b c=some (decide (b≤a∧a≤c)):=by
 unfold spec_l1In.f
 by_cases h : a ≥ b
 ·rw [if_pos h]
  simp [h]
 ·rw [if_neg h]
  simp [h]
theorem specBytes_loop (xs : List Int) (hn : xs.length≤2000) (d : Nat) : ∀ (j : Nat),j + d=xs.length →
  Evn fun k=>spec_BytesValid.l0 k xs (j : Int)=some ((xs.drop j).all byteB):=by
 induction d with
 | zero =>
  intro j hj
  refine Evn.succ (Evn.all fun k=>?_)
  simp only [spec_BytesValid.l0]
  rw [if_neg (by omega),List.drop_of_length_le (by omega)]
  rfl
 | succ d ih =>
  intro j hj
  have hlt : j < xs.length:=by omega
  refine Evn.succ (Evn.mp (ih (j + 1) (by omega)) (Evn.all fun k e=>?_))
  simp only [spec_BytesValid.l0]
  rw [if_pos (by omega),if_pos (by omega),w64 (by omega) (by omega),rd_drop hlt]
  rw [show ((j : Int) + 1)=((j + 1 : Nat) : Int) by omega,e]
  unfold spec_l1In.f byteB
  by_cases h : rd xs (j : Int) ≥ 0
  ·rw [if_pos h]
   by_cases h2 : rd xs (j : Int)≤255 <;> simp [h,h2]
  ·rw [if_neg h]
   simp [h]
theorem specBytes (xs : List Int) : Evn fun k=>spec_BytesValid.f k xs=some (bytesB xs):=by
 by_cases hn : xs.length≤2000
 ·refine Evn.mp (specBytes_loop xs hn xs.length 0 (by omega)) (Evn.all fun k e=>?_)
  unfold spec_BytesValid.f bytesB
  rw [if_neg (by omega)]
  simpa [hn] using e
 ·refine Evn.all fun k=>?_
  unfold spec_BytesValid.f bytesB
  rw [if_pos (by omega)]
  simp [hn]
theorem specDec_loop (b : List Int) (hb : bytesB b=true) (a : Int) (h0 : 0≤a) (h1 : a < (b.length : Int)) (g : Nat) :
  ∀ (j : Nat) (n u : Int),weigh g u→(j : Int) + (g : Int)=a + 4→0≤n→n < u→j≤b.length →
  Evn fun k=>spec_DecodeNumber.l0 k b a n u (j : Int)=some (decAll n u (j : Int) (decG g (b.drop j) (decide ((j : Int)=a)))):=by
 have hlen:=bytesB_length hb
 induction g with
 | zero =>
  intro j n u hu hj _ _ hjb
  refine Evn.succ (Evn.succ (Evn.all fun k=>?_))
  simp only [spec_DecodeNumber.l0]
  rw [w64 (by omega) (by omega),decide_eq_false (by omega)]
  have e : spec_DecodeNumber.j2 (k + 1) b a n u (j : Int) false=some (-1,-1):=by simp only [spec_DecodeNumber.j2];rw [if_neg (by simp)]
  split <;> exact e
 | succ g ih =>
  intro j n u hu hj hn hnu hjb
  by_cases hlt : j < b.length
  ·have hr:=bytesB_range hb hlt
   have hx:=rd_drop hlt
   generalize hxx : rd b (j : Int)=x at hr hx
   have hu2 : weigh g (u * 128):=by unfold weigh at hu ⊢;omega
   have hg : g≤3:=by unfold weigh at hu;omega
   have hub : 1≤u∧u≤2097152:=by unfold weigh at hu;omega
   have hm : 0≤x % 128∧x % 128≤127:=by omega
   have hmul : 0≤u * (x % 128)∧u * (x % 128)≤u * 127:=⟨Int.mul_nonneg (by omega) (by omega),Int.mul_le_mul_of_nonneg_left hm.2 (by omega)⟩
   refine Evn.succ (Evn.succ (Evn.mp (ih (j + 1) (n + u * (x % 128)) (u * 128) hu2 (by omega) (by omega) (by omega) (by omega)) (Evn.all fun k e=>?_)))
   simp only [spec_DecodeNumber.l0]
   rw [if_pos (by omega),w64 (x:=a + 4) (by omega) (by omega),decide_eq_true (by omega)]
   simp only [spec_DecodeNumber.j2,if_true]
   rw [if_pos (by omega),if_pos (by omega),hxx,hx,Int.tmod_eq_emod_of_nonneg (by omega),w64 (x:=u * (x % 128)) (by omega) (by omega),w64 (x:=n + u * (x % 128)) (by omega) (by omega),w64 (x:=(j : Int) + 1) (by omega) (by omega),w64 (x:=u * 128) (by omega) (by omega)]
   by_cases hs : x < 128
   ·rw [if_pos hs]
    have hxm : x % 128=x:=by omega
    rw [decG_small hs,hxm]
    by_cases hz : x=0
    ·rw [if_pos hz]
     by_cases hja : (j : Int)=a
     ·rw [if_neg (by omega),decide_eq_true hja]
      simp [decAll]
     ·rw [if_pos (by omega),decide_eq_false hja]
      simp [hz,decAll]
    ·rw [if_neg hz]
     simp [hz,decAll]
   ·rw [if_neg hs]
    have ej : ((j : Int) + 1)=((j + 1 : Nat) : Int):=by omega
    have step:=decAll_step n u x j (decG g (b.drop (j + 1)) false)
    rw [ej,e,decide_eq_false (by omega),← ej,step]
    rw [decG_big hs]
  ·refine Evn.succ (Evn.succ (Evn.all fun k=>?_))
   simp only [spec_DecodeNumber.l0]
   rw [if_neg (by omega),List.drop_of_length_le (by omega)]
   simp [spec_DecodeNumber.j2,decG,decAll]
theorem specDec (b : List Int) (a : Int) : Evn fun k=>spec_DecodeNumber.f k b a=some (decN b a):=by
 by_cases hb : bytesB b=true
 ·have hlen:=bytesB_length hb
  by_cases ha : 0≤a∧a < (b.length : Int)
  ·obtain ⟨j,rfl⟩ : ∃ j : Nat,a=(j : Int):=⟨a.toNat,by omega⟩
   refine Evn.mp (specBytes b) (Evn.succ (Evn.mp (specDec_loop b hb (j : Int) ha.1 ha.2 4 j 0 1 (.inl ⟨rfl,rfl⟩) (by omega) (by omega) (by omega) (by omega)) (Evn.all fun k e1 e2=>?_)))
   unfold spec_DecodeNumber.f decN
   rw [e2,hb]
   simp only [Option.bind_some,if_true]
   rw [w64 (by omega) (by omega),l1In,decide_eq_true (by omega)]
   simp only [Option.bind_some,Bool.not_true,spec_DecodeNumber.j0]
   rw [if_neg (by simp),e1,if_pos ⟨trivial,ha⟩,decide_eq_true rfl]
   simp only [Int.toNat_natCast]
   cases decG 4 (b.drop j) true with
   | none=>rfl
   | some p=>obtain ⟨v,c⟩:=p;simp [decAll,decTail]
  ·refine Evn.mp (specBytes b) (Evn.succ (Evn.all fun k e2=>?_))
   rw [decN_bad fun _=>ha]
   unfold spec_DecodeNumber.f
   rw [e2,hb]
   simp only [Option.bind_some,if_true]
   rw [w64 (by omega) (by omega),l1In,decide_eq_false (by omega)]
   simp [spec_DecodeNumber.j0]
 ·refine Evn.mp (specBytes b) (Evn.succ (Evn.all fun k e2=>?_))
  rw [decN_bad fun h=>absurd h hb]
  unfold spec_DecodeNumber.f
  rw [e2]
  simp [hb,spec_DecodeNumber.j0]
theorem specKey_loop (s : ByteArray) (hs : s.size≤4) (d : Nat) : ∀ j : Nat,j + d=s.size→Evn fun k=>spec_KeyValid.l0 k s (j : Int)=some (((bytesOf s).drop j).all lowB):=by
 induction d with
 | zero =>
  intro j hj
  refine Evn.succ (Evn.all fun k=>?_)
  simp only [spec_KeyValid.l0]
  rw [if_neg (by omega),List.drop_of_length_le (by rw [bytesOf_length];omega)]
  rfl
 | succ d ih =>
  intro j hj
  refine Evn.succ (Evn.mp (ih (j + 1) (by omega)) (Evn.all fun k e=>?_))
  simp only [spec_KeyValid.l0]
  rw [if_pos (by omega),if_pos (by omega),w64 (by omega) (by omega),bt_drop' (show j < s.size by omega),show ((j : Int) + 1)=((j + 1 : Nat) : Int) by omega,e]
  unfold lowB
  by_cases h1 : bt s (j : Int) < 97
  ·rw [if_pos h1]
   have : ¬ (97 : Int)≤bt s (j : Int):=by omega
   simp [this]
  ·rw [if_neg h1]
   have a1 : (97 : Int)≤bt s (j : Int):=by omega
   by_cases h2 : bt s (j : Int) > 122
   ·rw [if_pos h2]
    have : ¬ bt s (j : Int)≤122:=by omega
    simp [this]
   ·rw [if_neg h2]
    have : bt s (j : Int)≤122:=by omega
    simp [a1,this]
theorem specKey (s : ByteArray) : Evn fun k=>spec_KeyValid.f k s=some (keyB s):=by
 unfold keyB
 by_cases h : 1≤s.size∧s.size≤4
 ·refine Evn.mp (specKey_loop s h.2 s.size 0 (by omega)) (Evn.all fun k e=>?_)
  unfold spec_KeyValid.f
  rw [l1In,decide_eq_true (by omega)]
  simp only [Option.bind_some,if_true]
  refine Eq.trans e ?_
  simp [h.1,h.2]
 ·refine Evn.all fun k=>?_
  unfold spec_KeyValid.f
  rw [l1In,decide_eq_false (by omega)]
  simp only [Option.bind_some]
  rw [if_neg (by simp)]
  by_cases h1 : 1≤s.size
  ·have : ¬ s.size≤4:=fun h2=>h ⟨h1,h2⟩
   simp [this]
  ·simp [h1]
theorem specCmd (kind : Int) (key : ByteArray) (value old : Int) : Evn fun k=>spec_CommandValid.f k kind key value old=some (cmdB kind key value old):=by
 refine Evn.mp (specKey key) (Evn.all fun k e=>?_)
 unfold spec_CommandValid.f cmdB
 rw [e,nil_dec]
 simp only [Option.bind_some,Option.some.injEq]
 refine congrArg _ ?_
 unfold spec_CommandValid.rest valB
 by_cases h1 : kind=1 ∨ kind=3 ∨ kind=5
 ·rw [if_pos h1,if_neg (by omega),if_neg (by omega),decide_eq_true (show 1≤kind∧kind≤5 by omega),Bool.true_and]
 ·rw [if_neg h1]
  by_cases h2 : kind=2
  ·rw [if_pos h2,if_pos h2]
  ·rw [if_neg h2,if_neg h2]
   by_cases h4 : kind=4
   ·rw [if_pos h4,if_pos h4]
    refine congrArg _ ?_
    rw [← Bool.decide_or]
    exact decide_eq_decide.mpr (by omega)
   ·rw [if_neg h4,if_neg h4,decide_eq_false (by omega),Bool.false_and]
theorem specEnt (client seq kind : Int) (key : ByteArray) (value old : Int) : Evn fun k=>spec_EntryValid.f k client seq kind key value old=some (entB client seq kind key value old):=by
 refine Evn.mp (specCmd kind key value old) (Evn.all fun k e=>?_)
 unfold spec_EntryValid.f entB
 rw [l1In,l1In]
 by_cases h1 : 0≤client∧client≤3
 ·rw [decide_eq_true h1]
  simp only [Option.bind_some,if_true]
  by_cases h2 : 1≤seq∧seq≤999
  ·rw [decide_eq_true h2]
   simp [e]
  ·rw [decide_eq_false h2]
   simp
 ·rw [decide_eq_false h1]
  simp
theorem specDecT_loop (b : List Int) (hb : bytesB b=true) (n s : Nat) (hn : n≤8) (hs : s + n≤b.length) (d : Nat) : ∀ (j : Nat) (acc : ByteArray),j + d=n→acc.size + d≤1000 →
  Evn fun k=>spec_DecodeText.l0 k b (n : Int) (s : Int) acc ((s + j : Nat) : Int)=some (acc ++ strOfNums ((b.drop (s + j)).take d),(s : Int) + (n : Int)):=by
 have hl:=bytesB_length hb
 induction d with
 | zero =>
  intro j acc hj ha
  refine Evn.succ (Evn.all fun k=>?_)
  simp only [spec_DecodeText.l0]
  rw [w64 (by omega) (by omega),if_neg (by omega)]
  simp only [List.take_zero]
  rw [str_nil,show acc ++ (⟨#[]⟩ : ByteArray)=acc from ByteArray.append_empty]
 | succ d ih =>
  intro j acc hj ha
  have hlt : s + j < b.length:=by omega
  have hr:=bytesB_range hb hlt
  refine Evn.succ (Evn.mp (ih (j + 1) (acc ++ strOfNums [rd b ((s + j : Nat) : Int) % 256]) (by omega) (by rw [ByteArray.size_append,strOfNums_size];simp only [List.length_cons,List.length_nil];omega)) (Evn.all fun k e=>?_))
  simp only [spec_DecodeText.l0]
  rw [w64 (x:=(s : Int) + (n : Int)) (by omega) (by omega),if_pos (by omega),if_pos (by omega),if_pos (by omega)]
  simp only [Option.bind_some]
  rw [if_pos (by rw [strOfNums_size];simp only [List.length_cons,List.length_nil];omega),w64 (by omega) (by omega)]
  rw [show (((s + j : Nat) : Int) + 1)=((s + (j + 1) : Nat) : Int) by omega,e,rd_drop hlt,List.take_succ_cons,show rd b ((s + j : Nat) : Int) % 256=rd b ((s + j : Nat) : Int) by omega]
  rw [show rd b ((s + j : Nat) : Int) :: List.take d (b.drop (s + j + 1))=[rd b ((s + j : Nat) : Int)] ++ List.take d (b.drop (s + j + 1)) from rfl,str_append,ByteArray.append_assoc]
  rfl
theorem specDecT (b : List Int) (a : Int) : Evn fun k=>spec_DecodeText.f k b a=some (decT b a):=by
 rcases decN_cases b a with h | ⟨n,s,h,hn⟩
 ·refine Evn.mp (specDec b a) (Evn.succ (Evn.all fun k e=>?_))
  unfold spec_DecodeText.f decT
  rw [e,h]
  simp only [Option.bind_some]
  rw [if_pos (by omega),if_pos (by omega)]
  simp [spec_DecodeText.j0]
 ·obtain ⟨f1,f2,f3,f4,f5,f6,_⟩:=decN_facts h hn
  have hl:=bytesB_length f1
  have hw : wrap64 ((b.length : Int) - s)=(b.length : Int) - s:=w64 (by omega) (by omega)
  have e0 : ∀ k,spec_DecodeText.j0 (k + 1) b n s true=some (⟨#[]⟩,-1):=fun k=>by simp [spec_DecodeText.j0]
  by_cases hc : n < 0 ∨ 8 < n ∨ (b.length : Int) - s < n
  ·refine Evn.mp (specDec b a) (Evn.succ (Evn.all fun k e=>?_))
   unfold spec_DecodeText.f decT
   rw [e,h]
   simp only [Option.bind_some]
   rw [if_pos hc,hw,if_neg (by omega)]
   split
   ·exact e0 k
   ·rw [decide_eq_true (by omega)]
    exact e0 k
  ·obtain ⟨m,rfl⟩ : ∃ m : Nat,n=(m : Int):=⟨n.toNat,by omega⟩
   obtain ⟨q,rfl⟩ : ∃ q : Nat,s=(q : Int):=⟨s.toNat,by omega⟩
   refine Evn.mp (specDec b a) (Evn.succ (Evn.mp (specDecT_loop b f1 m q (by omega) (by omega) m 0 ⟨#[]⟩ (by omega) (by have : (⟨#[]⟩ : ByteArray).size=0:=rfl;omega)) (Evn.all fun k e1 e=>?_)))
   unfold spec_DecodeText.f decT
   rw [e,h]
   simp only [Option.bind_some]
   rw [if_neg hc,hw,if_neg (by omega),if_neg (by omega),decide_eq_false (by omega)]
   simp only [spec_DecodeText.j0]
   rw [if_neg (by simp)]
   refine Eq.trans e1 ?_
   simp only [Int.toNat_natCast,Nat.add_zero]
   rw [show (⟨#[]⟩ : ByteArray) ++ strOfNums ((b.drop q).take m)=strOfNums ((b.drop q).take m) from ByteArray.empty_append]
theorem specDecE (b : List Int) (a : Int) : Evn fun k=>spec_DecodeEntry.f k b a=some ((decE b a).1.1,(decE b a).1.2.1,(decE b a).1.2.2.1,(decE b a).1.2.2.2.1,(decE b a).1.2.2.2.2.1,(decE b a).1.2.2.2.2.2,(decE b a).2):=by
 unfold decE
 generalize h1 : decN b a=c
 obtain ⟨c,p1⟩:=c
 simp only
 generalize h2 : decN b p1=s
 obtain ⟨s,p2⟩:=s
 simp only
 generalize h3 : decN b p2=kd
 obtain ⟨kd,p3⟩:=kd
 simp only
 generalize h4 : decT b p3=t
 obtain ⟨t,p4⟩:=t
 simp only
 generalize h5 : decN b p4=v
 obtain ⟨v,p5⟩:=v
 simp only
 generalize h6 : decN b p5=o
 obtain ⟨o,p6⟩:=o
 simp only
 have ho : -1≤o∧o≤268435455:=by
  by_cases q : o=-1
  ·omega
  ·have:=decN_facts h6 q
   omega
 refine (Evn.mp (specDec b a) (Evn.mp (specDec b p1) (Evn.mp (specDec b p2) (Evn.mp (specDecT b p3) (Evn.mp (specDec b p4) (Evn.mp (specDec b p5) (Evn.mp (specEnt c s kd t v (o - 1)) (Evn.all fun k e8 e7 e6 e5 e4 e3 e2=>?_))))))))
 rw [h1] at e2
 rw [h2] at e3
 rw [h3] at e4
 rw [h4] at e5
 rw [h5] at e6
 rw [h6] at e7
 unfold spec_DecodeEntry.f
 rw [e2]
 simp only [Option.bind_some]
 rw [e3]
 simp only [Option.bind_some]
 rw [e4]
 simp only [Option.bind_some]
 rw [e5]
 simp only [Option.bind_some]
 rw [e6]
 simp only [Option.bind_some]
 rw [e7]
 simp only [Option.bind_some]
 by_cases hp : p6 < 0
 ·rw [if_pos hp,if_pos hp]
  rfl
 ·rw [if_neg hp,if_neg hp,w64 (by omega) (by omega),e8]
  simp only [Option.bind_some]
  by_cases hq : entB c s kd t v (o - 1)=true
  ·rw [if_pos hq,if_pos (show entOk (c,s,kd,t,v,o - 1)=true from hq)]
  ·rw [if_neg hq,if_neg (show ¬ entOk (c,s,kd,t,v,o - 1)=true from hq)]
   rfl
theorem specSum_loop (b : List Int) (hb : bytesB b=true) (d : Nat) : ∀ (j : Nat) (n : Int),j + d=b.length→0≤n→n < 65521 →
  Evn fun k=>spec_RecordSum.l0 k b n (j : Int)=some ((n + recS (j : Int) (b.drop j)) % 65521):=by
 have hlen:=bytesB_length hb
 induction d with
 | zero =>
  intro j n hj h0 h1
  refine Evn.succ (Evn.all fun k=>?_)
  simp only [spec_RecordSum.l0]
  rw [if_neg (by omega),List.drop_of_length_le (by omega)]
  simp only [recS]
  rw [Int.add_zero,Int.emod_eq_of_lt h0 h1]
 | succ d ih =>
  intro j n hj h0 h1
  have hlt : j < b.length:=by omega
  have hr:=bytesB_range hb hlt
  have hx:=rd_drop hlt
  generalize hxx : rd b (j : Int)=x at hr hx
  have hm:=byte_mul (j:=(j : Int)) hr.1 hr.2 (by omega) (by omega)
  refine Evn.succ (Evn.mp (ih (j + 1) ((n + x * ((j : Int) + 1)) % 65521) (by omega) (by omega) (by omega)) (Evn.all fun k e=>?_))
  simp only [spec_RecordSum.l0]
  rw [if_pos (by omega),if_pos (by omega),hxx,w64 (x:=(j : Int) + 1) (by omega) (by omega),Int.mul_comm ((j : Int) + 1) x,w64 (x:=x * ((j : Int) + 1)) (by omega) (by omega),w64 (x:=n + x * ((j : Int) + 1)) (by omega) (by omega),Int.tmod_eq_emod_of_nonneg (by omega)]
  rw [show ((j : Int) + 1)=((j + 1 : Nat) : Int) by omega] at e ⊢
  rw [e,hx]
  simp only [recS]
  rw [show (((j : Nat) : Int) + 1)=((j + 1 : Nat) : Int) by omega]
  rw [Int.emod_add_emod,Int.add_assoc]
theorem specSum (b : List Int) : Evn fun k=>spec_RecordSum.f k b=some (recSum b):=by
 unfold recSum
 by_cases hb : bytesB b=true
 ·refine Evn.mp (specBytes b) (Evn.mp (specSum_loop b hb b.length 0 0 (by omega) (by omega) (by omega)) (Evn.all fun k e1 e2=>?_))
  unfold spec_RecordSum.f
  rw [e2,if_pos hb]
  simpa [hb] using e1
 ·refine Evn.mp (specBytes b) (Evn.all fun k e2=>?_)
  unfold spec_RecordSum.f
  rw [e2,if_neg hb]
  simp [hb]
theorem specRdf (b : List Int) (a n : Int) : Evn fun k=>spec_ReadFrame.f k b a n=some ((rdf b a n).1.1,(rdf b a n).1.2.1,(rdf b a n).1.2.2.1,(rdf b a n).1.2.2.2.1,(rdf b a n).1.2.2.2.2.1,(rdf b a n).1.2.2.2.2.2,(rdf b a n).2):=by
 generalize h1 : decN b a=x
 obtain ⟨x,p1⟩:=x
 generalize h2 : decN b p1=l
 obtain ⟨l,p2⟩:=l
 generalize h3 : decE b p2=e
 obtain ⟨e,p3⟩:=e
 generalize h4 : decN b p3=s
 obtain ⟨s,p4⟩:=s
 refine Evn.mp (specDec b a) (Evn.mp (specDec b p1) (Evn.mp (specDecE b p2) (Evn.mp (specDec b p3) (Evn.mp (specSum ((b.take p3.toNat).drop a.toNat)) (Evn.all fun k e5 e4 e3 e2 e1=>?_)))))
 rw [h1] at e1
 rw [h2] at e2
 rw [h3] at e3
 rw [h4] at e4
 unfold spec_ReadFrame.f
 rw [e1]
 simp only [Option.bind_some]
 rw [e2]
 simp only [Option.bind_some]
 rw [e3]
 simp only [Option.bind_some]
 rw [e4]
 simp only [Option.bind_some]
 unfold spec_ReadFrame.judge spec_ReadFrame.none_
 try dsimp only
 by_cases q4 : p4 < 0
 ·rw [if_pos q4,rdf_no h1 h2 h3 h4 (fun q=>by omega)]
  rfl
 ·rw [if_neg q4]
  have n4 : s ≠ -1:=fun q=>by have:=decN_none h4 q;omega
  obtain ⟨hb,a4,b4,c4,_,_,_⟩:=decN_facts h4 n4
  have hbl:=bytesB_length hb
  rcases decE_facts h3 with ⟨q3,_⟩ | ⟨_,a3,b3,c3,_,_⟩
  ·omega
  ·have n2 : l ≠ -1:=fun q=>by have:=decN_none h2 q;omega
   obtain ⟨_,a2,b2,c2,_,_,_⟩:=decN_facts h2 n2
   have n1 : x ≠ -1:=fun q=>by have:=decN_none h1 q;omega
   obtain ⟨_,a1,b1,c1,g1,_,_⟩:=decN_facts h1 n1
   by_cases qx : x=n
   ·rw [if_pos qx]
    by_cases qn : n ≥ 24
    ·rw [if_pos qn,rdf_no h1 h2 h3 h4 (fun q=>by omega)]
     rfl
    ·rw [if_neg qn,w64 (by omega) (by omega)]
     by_cases ql : l=p3 - p2
     ·rw [if_pos ql,if_pos ⟨by omega,by omega,by omega⟩,e5]
      simp only [Option.bind_some]
      by_cases qs : s=recSum ((b.take p3.toNat).drop a.toNat)
      ·rw [if_pos qs,rdf_yes h1 h2 h3 h4 (by omega) qx (by omega) ql qs]
      ·rw [if_neg qs,rdf_no h1 h2 h3 h4 (fun q=>qs q.2.2.2.2)]
       rfl
     ·rw [if_neg ql,rdf_no h1 h2 h3 h4 (fun q=>ql q.2.2.2.1)]
      rfl
   ·rw [if_neg qx,rdf_no h1 h2 h3 h4 (fun q=>qx q.2.1)]
    rfl
theorem specEnc_loop (g : Nat) : ∀ (n : Nat) (acc : List Int),n < 128 ^ (g + 1)→n≤268435455→acc.length + g≤1099511627776 →
  Evn fun k=>spec_EncodeNumber.l0 k (n : Int) acc=some (acc ++ encG g n):=by
 induction g with
 | zero =>
  intro n acc hn _ ha
  refine Evn.succ (Evn.all fun k=>?_)
  simp only [spec_EncodeNumber.l0]
  rw [if_neg (by omega),if_pos (by omega)]
  rfl
 | succ g ih =>
  intro n acc hn hm ha
  by_cases h : n < 128
  ·refine Evn.succ (Evn.all fun k=>?_)
   simp only [spec_EncodeNumber.l0]
   rw [if_neg (by omega),if_pos (by omega)]
   simp [encG,h]
  ·have hlt : n / 128 < 128 ^ (g + 1):=by rw [Nat.pow_succ,Nat.mul_comm] at hn;exact Nat.div_lt_of_lt_mul hn
   refine Evn.succ (Evn.mp (ih (n / 128) (acc ++ [((n % 128 : Nat) : Int) + 128]) hlt (by omega) (by rw [List.length_append];simp only [List.length_cons,List.length_nil];omega)) (Evn.all fun k e=>?_))
   simp only [spec_EncodeNumber.l0]
   rw [if_pos (by omega),if_pos (by omega),Int.tdiv_eq_ediv_of_nonneg (by omega),Int.tmod_eq_emod_of_nonneg (by omega),w64 (by omega) (by omega),w64 (by omega) (by omega)]
   rw [show (n : Int) / 128=((n / 128 : Nat) : Int) by omega,show 128 + (n : Int) % 128=((n % 128 : Nat) : Int) + 128 by omega,e]
   simp [encG,h]
theorem specEnc (n : Int) : Evn fun k=>spec_EncodeNumber.f k n=some (encN n):=by
 unfold encN
 by_cases h : 0≤n∧n≤268435455
 ·refine Evn.mp (specEnc_loop 4 n.toNat [] (by omega) (by omega) (by simp)) (Evn.all fun k e=>?_)
  unfold spec_EncodeNumber.f
  rw [show ((n.toNat : Nat) : Int)=n by omega] at e
  simpa [l1In,h] using e
 ·refine Evn.all fun k=>?_
  unfold spec_EncodeNumber.f
  simp [l1In,h]
theorem specEncT_loop (s : ByteArray) (hs : s.size≤8) (d : Nat) : ∀ (j : Nat) (acc : List Int),j + d=s.size→acc.length + d≤1000 →
  Evn fun k=>spec_EncodeText.l0 k s acc (j : Int)=some (acc ++ (bytesOf s).drop j):=by
 induction d with
 | zero =>
  intro j acc hj ha
  refine Evn.succ (Evn.all fun k=>?_)
  simp only [spec_EncodeText.l0]
  rw [if_neg (by omega),List.drop_of_length_le (by rw [bytesOf_length];omega),List.append_nil]
 | succ d ih =>
  intro j acc hj ha
  have hr:=bt_range s (j : Int)
  refine Evn.succ (Evn.mp (ih (j + 1) (acc ++ [bt s (j : Int)]) (by omega) (by rw [List.length_append];simp only [List.length_cons,List.length_nil];omega)) (Evn.all fun k e=>?_))
  simp only [spec_EncodeText.l0]
  rw [if_pos (by omega),if_pos (by omega),if_pos (by omega),w64 (x:=bt s (j : Int)) (by omega) (by omega),w64 (x:=(j : Int) + 1) (by omega) (by omega),bt_drop (show j < s.size by omega)]
  rw [show ((j : Int) + 1)=((j + 1 : Nat) : Int) by omega,e]
  simp
theorem specEncT (s : ByteArray) : Evn fun k=>spec_EncodeText.f k s=some (encT s):=by
 unfold encT
 by_cases h : s.size≤8
 ·have hl:=encN_length (s.size : Int)
  refine Evn.mp (specEnc (s.size : Int)) (Evn.mp (specEncT_loop s h s.size 0 (encN (s.size : Int)) (by omega) (by omega)) (Evn.all fun k e1 e2=>?_))
  unfold spec_EncodeText.f
  rw [if_neg (by omega),if_pos h,e2]
  simpa using e1
 ·refine Evn.all fun k=>?_
  unfold spec_EncodeText.f
  rw [if_pos (by omega),if_neg h]
theorem specEncE (e : EntT) : Evn fun k=>spec_EncodeEntry.f k e.1 e.2.1 e.2.2.1 e.2.2.2.1 e.2.2.2.2.1 e.2.2.2.2.2=some (encE e):=by
 obtain ⟨c,s,kd,key,v,o⟩:=e
 dsimp only
 by_cases h : entOk (c,s,kd,key,v,o)=true
 ·have f:=entOk_facts h
  simp only at f
  have h1:=encN_length c
  have h2:=encN_length s
  have h3:=encN_length kd
  have h4:=encT_length key
  have h5:=encN_length v
  have h6:=encN_length (o + 1)
  refine Evn.mp (specEnt c s kd key v o) (Evn.mp (specEnc c) (Evn.mp (specEnc s) (Evn.mp (specEnc kd) (Evn.mp (specEncT key) (Evn.mp (specEnc v) (Evn.mp (specEnc (o + 1)) (Evn.all fun k e7 e6 e5 e4 e3 e2 e1=>?_)))))))
  have hb : entB c s kd key v o=true:=h
  unfold spec_EncodeEntry.f encE
  rw [if_pos h,e1,hb]
  simp only [Option.bind_some,if_true]
  rw [w64 (by omega) (by omega)]
  simp only [e2,e3,e4,e5,e6,e7,Option.bind_some]
  rw [if_pos (by omega),if_pos (by simp only [List.length_append];omega),if_pos (by simp only [List.length_append];omega),if_pos (by simp only [List.length_append];omega),if_pos (by simp only [List.length_append];omega)]
  simp only [List.append_assoc]
 ·refine Evn.mp (specEnt c s kd key v o) (Evn.all fun k e1=>?_)
  have hb : entB c s kd key v o=false:=Bool.eq_false_iff.mpr h
  unfold spec_EncodeEntry.f encE
  rw [if_neg h,e1,hb]
  simp
theorem specFrm_j (n : Int) (e : EntT) (h : entOk e=true) : Evn fun k=>spec_FrameEntry.j0 k n (encE e) false=some (frmH n e ++ encN (recSum (frmH n e))):=by
 have h1:=encN_length n
 have h2:=encN_length ((encE e).length : Int)
 have h3:=encE_length e
 have h4:=frmH_length n e
 have h5:=encN_length (recSum (frmH n e))
 refine Evn.succ (Evn.mp (specEnc n) (Evn.mp (specEnc ((encE e).length : Int)) (Evn.mp (specSum (frmH n e)) (Evn.mp (specEnc (recSum (frmH n e))) (Evn.all fun k e4 e3 e2 e1=>?_)))))
 have hf : encN n ++ encN ((encE e).length : Int) ++ encE e=frmH n e:=by unfold frmH;rw [List.append_assoc]
 rw [spec_FrameEntry.j0,if_neg (by simp),e1]
 try simp only [Option.bind_some]
 rw [e2]
 try simp only [Option.bind_some]
 rw [if_pos (by omega)]
 try simp only [Option.bind_some]
 rw [if_pos (by simp only [List.length_append];omega)]
 try simp only [Option.bind_some]
 rw [hf,e3]
 try simp only [Option.bind_some]
 rw [e4]
 try simp only [Option.bind_some]
 rw [if_pos (by omega)]
theorem specFrm_no (n : Int) (l : List Int) : Evn fun k=>spec_FrameEntry.j0 k n l true=some []:=Evn.succ (Evn.all fun k=>by
 rw [spec_FrameEntry.j0,if_pos rfl])
theorem specFrm (n : Int) (e : EntT) : Evn fun k=>spec_FrameEntry.f k n e.1 e.2.1 e.2.2.1 e.2.2.2.1 e.2.2.2.2.1 e.2.2.2.2.2=some (frmB n e):=by
 by_cases h : entOk e=true
 ·have hp:=encE_pos h
  refine Evn.mp (specEncE e) (Evn.mp (specFrm_j n e h) (Evn.mp (specFrm_no n (encE e)) (Evn.all fun k e3 e2 e1=>?_)))
  unfold spec_FrameEntry.f frmB
  rw [e1]
  simp only [Option.bind_some]
  rw [l1In]
  simp only [Option.bind_some]
  by_cases hn : 0≤n∧n≤23
  ·rw [if_pos (by simpa using hn),if_pos ⟨hn,h⟩,show (((encE e).length : Int) == 0)=false by rw [beq_eq_false_iff_ne];omega,e2]
  ·rw [if_neg (by simpa using hn),if_neg (fun q=>hn q.1),e3]
 ·have he : encE e=[]:=by unfold encE;rw [if_neg h]
  refine Evn.mp (specEncE e) (Evn.mp (specFrm_no n (encE e)) (Evn.all fun k e3 e1=>?_))
  have hf : frmB n e=[]:=by unfold frmB;exact if_neg fun q=>h q.2
  rw [hf]
  unfold spec_FrameEntry.f
  rw [e1]
  simp only [Option.bind_some]
  rw [l1In]
  simp only [Option.bind_some]
  by_cases hn : 0≤n∧n≤23
  ·rw [if_pos (by simpa using hn),show (((encE e).length : Int) == 0)=true by rw [he];rfl,e3]
  ·rw [if_neg (by simpa using hn),e3]
/-! sameInts: equality of lists of numbers. -/
theorem sameInts_loop (xs ys : List Int) (hl : xs.length=ys.length) (hn : xs.length≤1099511627776) (d : Nat) : ∀ (j : Nat),j + d=xs.length →
  Evn fun k=>laws_sameInts.l0 k xs ys (j : Int)=some (decide (xs.drop j=ys.drop j)):=by
 induction d with
 | zero =>
  intro j hj
  refine Evn.succ (Evn.all fun k=>?_)
  simp only [laws_sameInts.l0]
  rw [if_neg (by omega),List.drop_of_length_le (by omega),List.drop_of_length_le (by omega)]
  simp
 | succ d ih =>
  intro j hj
  have hlt : j < xs.length:=by omega
  refine Evn.succ (Evn.mp (ih (j + 1) (by omega)) (Evn.all fun k e=>?_))
  simp only [laws_sameInts.l0]
  rw [if_pos (by omega),if_pos (by omega),if_pos (by omega),w64 (by omega) (by omega)]
  rw [rd_drop hlt,rd_drop (show j < ys.length by omega)]
  by_cases h : rd xs (j : Int)=rd ys (j : Int)
  ·rw [if_pos h,h]
   refine Eq.trans e ?_
   simp
  ·rw [if_neg h]
   simp [h]
theorem sameInts (xs ys : List Int) (hn : xs.length≤1099511627776) : Evn fun k=>laws_sameInts.f k xs ys=some (decide (xs=ys)):=by
 by_cases hl : xs.length=ys.length
 ·refine Evn.mp (sameInts_loop xs ys hl hn xs.length 0 (by omega)) (Evn.all fun k e=>?_)
  unfold laws_sameInts.f
  rw [if_pos (by omega)]
  simpa using e
 ·refine Evn.all fun k=>?_
  unfold laws_sameInts.f
  rw [if_neg (by omega),decide_eq_false (fun h=>hl (by rw [h]))]
end Dw

namespace Dw
theorem rdf_facts {b : List Int} {a n : Int} {e : EntT} {q : Int} (h : rdf b a n=(e,q)) : (q=-1∧e=zeroE) ∨ (0≤a∧a < q∧q≤(b.length : Int)∧(b.take q.toNat).drop a.toNat=frmB n e):=by
 unfold rdf at h
 generalize h1 : decN b a=x at h
 obtain ⟨x,p1⟩:=x
 simp only at h
 generalize h2 : decN b p1=y at h
 obtain ⟨y,p2⟩:=y
 simp only at h
 generalize h3 : decE b p2=z at h
 obtain ⟨e',p3⟩:=z
 simp only at h
 split at h
 ·rename_i hc
  obtain ⟨rfl,rfl⟩:=Prod.mk.inj h
  obtain ⟨_,h0,hl,hcut⟩:=hc
  rcases decE_facts h3 with ⟨q3,_⟩ | ⟨_,a3,b3,c3,hok,f3⟩
  ·omega
  ·have n2 : y ≠ -1:=fun q=>by have:=decN_none h2 q;omega
   obtain ⟨_,a2,b2,c2,_,_,_⟩:=decN_facts h2 n2
   have n1 : x ≠ -1:=fun q=>by have:=decN_none h1 q;omega
   obtain ⟨_,a1,b1,c1,_,_,_⟩:=decN_facts h1 n1
   have hp:=encE_pos hok
   have hF : 1≤(frmB n e').length:=by
    unfold frmB frmH
    rw [if_pos ⟨by assumption,hok⟩]
    simp only [List.length_append]
    omega
   exact .inr ⟨a1,by omega,hl,hcut⟩
 ·obtain ⟨rfl,rfl⟩:=Prod.mk.inj h
  exact .inl ⟨rfl,rfl⟩
end Dw

theorem spec_l20Rd_pick.D (n : Int) (w W0 : World) (g : Nat) (bs : List Int) (p : Int) (hI : IsS77 w W0 g bs p) (hB : Below w.heap.size w W0) (hc : Dw.Code bs) (h0 : 0≤p) (h1 : p≤1099511627776) :
  Calls Try.prog 48 #[.pointer (some ⟨g,0,none⟩),.int .i64 n] W0 fun e w'=>∃ x p',e=.returned (.int .i64 x)∧(0≤x∧(1≤n→x < n)∧(n≤1→x=0))∧Left w W0 g bs p 1 p' w':=by
 obtain ⟨r,q,h2,h3,hr,k,e⟩:=Dw.dr_pick hc n h0 h1
 refine (spec_l20Rd_pick.calls k g bs p n r q w W0 hI hB (e k (Nat.le_refl k))).mono ?_
 rintro e w' ⟨rfl,hi,hb,hk⟩
 exact ⟨r,q,rfl,hr,⟨h2,h3⟩,hi,hb,kept_keep hk⟩
theorem all_rd {l : List ByteArray} {P : ByteArray→Prop} (h : ∀ s ∈ l,P s) {i : Int} (h0 : 0≤i) (h1 : i < (l.length : Int)) : P (rdOf ByteArray.empty l i):=by
 have hn : i.toNat < l.length:=by omega
 have : rdOf ByteArray.empty l i=l[i.toNat]:=by simp [rdOf,List.getD_eq_getElem?_getD,List.getElem?_eq_getElem hn]
 rw [this]
 exact h _ (List.getElem_mem hn)
theorem spec_l20Rd_odd.D (n : Int) (hn : n≤1000000) (w W0 : World) (g : Nat) (bs : List Int) (p : Int) (hI : IsS77 w W0 g bs p) (hB : Below w.heap.size w W0) (hc : Dw.Code bs) (h0 : 0≤p) (h1 : p≤1099511627776) :
  Calls Try.prog 60 #[.pointer (some ⟨g,0,none⟩),.int .i64 n] W0 fun e w'=>∃ x p',e=.returned (.bool x)∧(n≤0→x=false)∧Left w W0 g bs p 1 p' w':=by
 have B:=Aside0.mk hB
 have HI:=Aside0.mk hI
 have HC:=Aside0.mk hc
 have KK:=Aside0.mk (Kept.refl W0 (RB g))
 clear hB hI hc
 go_enter Try.func60,Try.ntmps60
 by_cases hp : 0 < n
 ·have d0 : decide (0 < n)=true:=decide_eq_true hp
  have d1:=eq_true hp
  go_wp2_with (first
   | (go_at_call 48;(with_reducible refine cg1 (spec_l20Rd_pick.D n w _ g bs p HI.out B.out HC.out (by omega) (by omega)) fun x1 p1 hx1 hp1 w1 hk B HI2=>?_);replace KK:=kkr KK hk;replace HI:=HI2;clear hk;skip))
  all_goals go_ret
  all_goals exact ⟨_,_,rfl,(fun h=>by omega),⟨by omega,by omega⟩,HI.out,B.out,KK.out⟩
 ·have d0 : decide (0 < n)=false:=decide_eq_false hp
  have d1:=eq_false hp
  go_wp2
  go_ret
  exact ⟨rfl,p,⟨by omega,by omega⟩,HI.out,B.out,KK.out⟩
theorem tdiv8 {x : Int} (h0 : 0≤x) (h1 : x < 9) : 0≤Int.tdiv x 8∧Int.tdiv x 8 < 2:=by
 rw [Int.tdiv_eq_ediv_of_nonneg h0]
 omega
theorem spec_l20Value.D (n : Int) (hn : n≤1000000) (w W0 : World) (g : Nat) (bs : List Int) (p : Int) (hI : IsS77 w W0 g bs p) (hB : Below w.heap.size w W0) (hc : Dw.Code bs) (h0 : 0≤p) (h1 : p≤1099511000000) :
  Calls Try.prog 71 #[.pointer (some ⟨g,0,none⟩),.int .i64 n] W0 fun e w'=>∃ x p',e=.returned (.int .i64 x)∧(n≤0→Dw.valB x=true)∧Left w W0 g bs p 3 p' w':=by
 have B:=Aside0.mk hB
 have HI:=Aside0.mk hI
 have HC:=Aside0.mk hc
 have KK:=Aside0.mk (Kept.refl W0 (RB g))
 clear hB hI hc
 go_enter Try.func71,Try.ntmps71
 go_wp2_with (first
  | (go_at_call 60;(with_reducible refine cg1 (spec_l20Rd_odd.D n (by omega) w _ g bs p HI.out B.out HC.out (by omega) (by omega)) fun x1 p1 hx1 hp1 w1 hk B HI2=>?_);replace KK:=kkr KK hk;replace HI:=HI2;clear hk;skip)
  | ((with_reducible refine gate_dst (N:=8) rfl ?_);refine lt (Kd.int .i64) 3 ?hg (N:=8) ?hd ([(-1),(1000)] : List Int) [.int .i64 (-1),.int .i64 (1000)] ?hr (Reps.one (show Kd.M (Kd.int .i64) _ _ _ (-1) [.int .i64 (-1)] from rfl) (Reps.one (show Kd.M (Kd.int .i64) _ _ _ (1000) [.int .i64 (1000)] from rfl) (Reps.none _ _))) (by simp) B ?_;(case hd | hg=>rfl);(case hr=>go_simp;first | done | rfl);intro z8 hz8 AL8 kL8 w51 hb B RL8 QL8;have MRL8:=mrf QL8 KK;replace HI:=hib HI hb;replace KK:=kkb KK hb;clear hb QL8)
  | (go_at_call 48;(with_reducible refine cg1 (spec_l20Rd_pick.D 2 w _ g bs p1 HI.out B.out HC.out (by omega) (by omega)) fun x52 p52 hx52 hp52 w52 hk B HI2=>?_);replace RL8:=rkr RL8 HI (by decide) hk;replace KK:=kkr KK hk;replace HI:=HI2;clear hk;skip;have hj52:=hx52.1;have hi52 : x52 < (z8.length : Int):=(by rw [← hz8];have:=hx52.2.1 (by omega);simpa using this);obtain ⟨ad52,hA52,y52⟩:=Kd.at_int (rc RL8) x52 hj52 hi52;generalize rd z8 x52=v52 at *;cases hA52;have fj52:=eq_true hj52;have fi52:=eq_true hi52)
  | (go_at_call 48;(with_reducible refine cg1 (spec_l20Rd_pick.D 20 w _ g bs p1 HI.out B.out HC.out (by omega) (by omega)) fun x101 p101 hx101 hp101 w101 hk B HI2=>?_);replace KK:=kkr KK hk;replace HI:=HI2;clear hk;skip)
  | ((with_reducible refine gate_dst (N:=15) rfl ?_);refine lt (Kd.int .i64) 3 ?hg (N:=15) ?hd ([(x101),(999)] : List Int) [.int .i64 (x101),.int .i64 (999)] ?hr (Reps.one (show Kd.M (Kd.int .i64) _ _ _ (x101) [.int .i64 (x101)] from rfl) (Reps.one (show Kd.M (Kd.int .i64) _ _ _ (999) [.int .i64 (999)] from rfl) (Reps.none _ _))) (by simp) B ?_;(case hd | hg=>rfl);(case hr=>go_simp;first | done | rfl);intro z15 hz15 AL15 kL15 w102 hb B RL15 QL15;have MRL15:=mrf QL15 KK;replace HI:=hib HI hb;replace KK:=kkb KK hb;clear hb QL15)
  | (go_at_call 48;(with_reducible refine cg1 (spec_l20Rd_pick.D 9 w _ g bs p101 HI.out B.out HC.out (by omega) (by omega)) fun x103 p103 hx103 hp103 w103 hk B HI2=>?_);replace RL15:=rkr RL15 HI (by decide) hk;replace KK:=kkr KK hk;replace HI:=HI2;clear hk;skip;obtain ⟨i17,hi17⟩ : ∃ i : Int,Int.tdiv x103 8=i:=⟨_,rfl⟩;have hb17:=tdiv8 hx103.1 (hx103.2.1 (by omega));rw [hi17] at hb17;have hv17 : IntKind.i64.wrap i17=i17:=(i64_w _).trans (w64 (by omega) (by omega));have hv18 : wrap64 i17=i17:=(w64 (by omega) (by omega));have hj17:=hb17.1;have hi17 : i17 < (z15.length : Int):=(by rw [← hz15];have:=hb17.2;simpa using this);obtain ⟨ad17,hA17,y17⟩:=Kd.at_int (rc RL15) i17 hj17 hi17;have hq17 : Dw.valB (rd z15 i17)=true:=(by rw [← hz15];rcases (show i17=0 ∨ i17=1 by omega) with h9 | h9;(rw [h9];exact (decide_eq_true ⟨hx101.1,by have:=hx101.2.1 (by omega);omega⟩ : Dw.valB x101=true));(rw [h9];rfl));generalize rd z15 i17=v17 at *;cases hA17;have fj17:=eq_true hj17;have fi17:=eq_true hi17))
 all_goals go_ret
 all_goals first
  | exact ⟨_,_,rfl,(fun _=>hq17),⟨by omega,by omega⟩,HI.out,B.out,KK.out⟩
  | exact ⟨_,_,rfl,(fun h=>by have h9:=hx1 h;simp_all),⟨by omega,by omega⟩,HI.out,B.out,KK.out⟩
theorem low_app {s : ByteArray} {c : Int} (h : (bytesOf s).all Dw.lowB=true) (h0 : 97≤c) (h1 : c≤122) : (bytesOf (s ++ strOfNums [c])).all Dw.lowB=true:=by
 rw [show bytesOf (s ++ strOfNums [c])=bytesOf s ++ bytesOf (strOfNums [c]) by unfold bytesOf;rw [Dw.ba_append,List.map_append],Dw.bytes_str (fun x hx=>by simp at hx;omega),List.all_append,h]
 simp only [List.all_cons,List.all_nil,Dw.lowB,Bool.true_and,Bool.and_true]
 rw [decide_eq_true h0,decide_eq_true h1]
 rfl
theorem spec_l20Key.D (n : Int) (hn : n≤1000000) (w W0 : World) (g : Nat) (bs : List Int) (p : Int) (hI : IsS77 w W0 g bs p) (hB : Below w.heap.size w W0) (hc : Dw.Code bs) (h0 : 0≤p) (h1 : p≤1099511000000) :
  Calls Try.prog 68 #[.pointer (some ⟨g,0,none⟩),.int .i64 n] W0 fun e w'=>∃ x p',e=.returned (.string x)∧(n≤0→Dw.keyB x=true)∧Left w W0 g bs p 6 p' w':=by
 have B:=Aside0.mk hB
 have HI:=Aside0.mk hI
 have HC:=Aside0.mk hc
 have KK:=Aside0.mk (Kept.refl W0 (RB g))
 clear hB hI hc
 go_enter Try.func68,Try.ntmps68
 go_wp2_with (first
  | (go_at_call 60;(with_reducible refine cg1 (spec_l20Rd_odd.D n (by omega) w _ g bs p HI.out B.out HC.out (by omega) (by omega)) fun x1 p1 hx1 hp1 w1 hk B HI2=>?_);replace KK:=kkr KK hk;replace HI:=HI2;clear hk;skip)
  | ((with_reducible refine gate_dst (N:=10) rfl ?_);refine lt Kd.string 9 ?hg (N:=10) ?hd ([((⟨#[]⟩ : ByteArray)),((⟨#[65]⟩ : ByteArray)),((⟨#[97,49]⟩ : ByteArray)),((⟨#[97,98,99,100,101]⟩ : ByteArray)),((⟨#[98,123]⟩ : ByteArray)),((⟨#[97,32,98]⟩ : ByteArray))] : List ByteArray) [.string (⟨#[]⟩ : ByteArray),.string (⟨#[65]⟩ : ByteArray),.string (⟨#[97,49]⟩ : ByteArray),.string (⟨#[97,98,99,100,101]⟩ : ByteArray),.string (⟨#[98,123]⟩ : ByteArray),.string (⟨#[97,32,98]⟩ : ByteArray)] ?hr (Reps.one (show Kd.M Kd.string _ _ _ ((⟨#[]⟩ : ByteArray)) [.string (⟨#[]⟩ : ByteArray)] from rfl) (Reps.one (show Kd.M Kd.string _ _ _ ((⟨#[65]⟩ : ByteArray)) [.string (⟨#[65]⟩ : ByteArray)] from rfl) (Reps.one (show Kd.M Kd.string _ _ _ ((⟨#[97,49]⟩ : ByteArray)) [.string (⟨#[97,49]⟩ : ByteArray)] from rfl) (Reps.one (show Kd.M Kd.string _ _ _ ((⟨#[97,98,99,100,101]⟩ : ByteArray)) [.string (⟨#[97,98,99,100,101]⟩ : ByteArray)] from rfl) (Reps.one (show Kd.M Kd.string _ _ _ ((⟨#[98,123]⟩ : ByteArray)) [.string (⟨#[98,123]⟩ : ByteArray)] from rfl) (Reps.one (show Kd.M Kd.string _ _ _ ((⟨#[97,32,98]⟩ : ByteArray)) [.string (⟨#[97,32,98]⟩ : ByteArray)] from rfl) (Reps.none _ _))))))) (by simp) B ?_;(case hd | hg=>rfl);(case hr=>go_simp;first | done | rfl);intro z10 hz10 AL10 kL10 w51 hb B RL10 QL10;have MRL10:=mrf QL10 KK;replace HI:=hib HI hb;replace KK:=kkb KK hb;clear hb QL10)
  | (go_at_call 48;(with_reducible refine cg1 (spec_l20Rd_pick.D 6 w _ g bs p1 HI.out B.out HC.out (by omega) (by omega)) fun x52 p52 hx52 hp52 w52 hk B HI2=>?_);replace RL10:=rkr RL10 HI (by decide) hk;replace KK:=kkr KK hk;replace HI:=HI2;clear hk;skip;have hi52 : x52 < (z10.length : Int):=(by rw [← hz10];have:=hx52.2.1 (by omega);simpa using this);obtain ⟨ad52,hA52,y52⟩:=Kd.at_string (rc RL10) x52 hx52.1 hi52;have hj52:=hx52.1;generalize rdOf ByteArray.empty z10 x52=s52 at *;cases hA52;have j52:=eq_true hj52;have i52:=eq_true hi52)
  | (go_at_call 48;(with_reducible refine cg1 (spec_l20Rd_pick.D 12 w _ g bs p1 HI.out B.out HC.out (by omega) (by omega)) fun x101 p101 hx101 hp101 w101 hk B HI2=>?_);replace KK:=kkr KK hk;replace HI:=HI2;clear hk;skip)
  | ((with_reducible refine gate_dst (N:=18) rfl ?_);refine lt Kd.string 9 ?hg (N:=18) ?hd ([((⟨#[122,122,122,122]⟩ : ByteArray)),((⟨#[122,122,122]⟩ : ByteArray)),((⟨#[97,122,122,122]⟩ : ByteArray)),((⟨#[122]⟩ : ByteArray)),((⟨#[97,97,97,97]⟩ : ByteArray))] : List ByteArray) [.string (⟨#[122,122,122,122]⟩ : ByteArray),.string (⟨#[122,122,122]⟩ : ByteArray),.string (⟨#[97,122,122,122]⟩ : ByteArray),.string (⟨#[122]⟩ : ByteArray),.string (⟨#[97,97,97,97]⟩ : ByteArray)] ?hr (Reps.one (show Kd.M Kd.string _ _ _ ((⟨#[122,122,122,122]⟩ : ByteArray)) [.string (⟨#[122,122,122,122]⟩ : ByteArray)] from rfl) (Reps.one (show Kd.M Kd.string _ _ _ ((⟨#[122,122,122]⟩ : ByteArray)) [.string (⟨#[122,122,122]⟩ : ByteArray)] from rfl) (Reps.one (show Kd.M Kd.string _ _ _ ((⟨#[97,122,122,122]⟩ : ByteArray)) [.string (⟨#[97,122,122,122]⟩ : ByteArray)] from rfl) (Reps.one (show Kd.M Kd.string _ _ _ ((⟨#[122]⟩ : ByteArray)) [.string (⟨#[122]⟩ : ByteArray)] from rfl) (Reps.one (show Kd.M Kd.string _ _ _ ((⟨#[97,97,97,97]⟩ : ByteArray)) [.string (⟨#[97,97,97,97]⟩ : ByteArray)] from rfl) (Reps.none _ _)))))) (by simp) B ?_;(case hd | hg=>rfl);(case hr=>go_simp;first | done | rfl);intro z18 hz18 AL18 kL18 w201 hb B RL18 QL18;have MRL18:=mrf QL18 KK;replace HI:=hib HI hb;replace KK:=kkb KK hb;clear hb QL18)
  | (go_at_call 48;(with_reducible refine cg1 (spec_l20Rd_pick.D 5 w _ g bs p101 HI.out B.out HC.out (by omega) (by omega)) fun x202 p202 hx202 hp202 w202 hk B HI2=>?_);replace RL18:=rkr RL18 HI (by decide) hk;replace KK:=kkr KK hk;replace HI:=HI2;clear hk;skip;have hi202 : x202 < (z18.length : Int):=(by rw [← hz18];have:=hx202.2.1 (by omega);simpa using this);obtain ⟨ad202,hA202,y202⟩:=Kd.at_string (rc RL18) x202 hx202.1 hi202;have hq202 : Dw.keyB (rdOf ByteArray.empty z18 x202)=true:=all_rd (P:=fun y=>Dw.keyB y=true) (by rw [← hz18];decide +kernel) hx202.1 hi202;have hj202:=hx202.1;generalize rdOf ByteArray.empty z18 x202=s202 at *;cases hA202;have j202:=eq_true hj202;have i202:=eq_true hi202)
  | (go_at_call 48;(with_reducible refine cg1 (spec_l20Rd_pick.D 2 w _ g bs p101 HI.out B.out HC.out (by omega) (by omega)) fun x251 p251 hx251 hp251 w251 hk B HI2=>?_);replace KK:=kkr KK hk;replace HI:=HI2;clear hk;skip;refine Stop.out ?_))
 all_goals try (go_ret;first | (exact ⟨_,_,rfl,(fun _=>hq202),⟨by omega,by omega⟩,HI.out,B.out,KK.out⟩;done) | (exact ⟨_,_,rfl,(fun h=>by have h9:=hx1 h;simp_all),⟨by omega,by omega⟩,HI.out,B.out,KK.out⟩;done))
 refine ⟨?_⟩
 have hc0:=hx251.1
 have hc1:=hx251.2.1 (by omega)
 obtain ⟨m0,hm0⟩ : ∃ m : Nat,1 + x251=(m : Int):=⟨(1 + x251).toNat,by omega⟩
 have hm1 : 1≤m0∧m0≤2:=by omega
 go_wp2
 go_loopg [5,6] (m0 + 1) (fun kx v5 v6 wr=>∃ (m : Nat) (s : ByteArray) (pp : Int),v5=.string s∧v6=.int .i64 (m : Int)∧m < kx∧m≤2∧s.size + m=m0∧Aside0 ((bytesOf s).all Dw.lowB=true)∧(p≤pp∧pp + (m : Int)≤p + 6)∧Aside0 (IsS77 w wr g bs pp)∧Aside0 (Kept W0 wr (RB g))∧Aside0 (Below w.heap.size w wr))
 case atStart=>exact ⟨m0,_,_,rfl,congrArg (Value.int .i64) (by omega),by omega,by omega,by show 0 + m0=m0;omega,⟨rfl⟩,by omega,HI,KK,B⟩
 case round =>
  clear HI KK B hm0
  obtain ⟨m,s,pp,rfl,rfl,hm,hm2,hsz,HL,hpp,HI,KK,B⟩:=hrel
  by_cases hp : 0 < m
  ·obtain ⟨d,rfl⟩ : ∃ d,gk=d + 1:=⟨gk - 1,by omega⟩
   have cj : decide ((0 : Int) < (m : Int))=true:=decide_eq_true (by omega)
   go_wp2_with (first
    | (go_at_call 48;(with_reducible refine cg1 (spec_l20Rd_pick.D 4 w _ g bs pp HI.out B.out HC.out (by omega) (by omega)) fun x301 p301 hx301 hp301 w301 hk B HI2=>?_);replace KK:=kkr KK hk;replace HI:=HI2;clear hk;skip)
    | ((with_reducible refine gate_dst (N:=35) rfl ?_);refine lt (Kd.int .u8) 5 ?hg (N:=35) ?hd ([((97 + x301))] : List Int) [.int .u8 ((97 + x301))] ?hr (Reps.one (show Kd.M (Kd.int .u8) _ _ _ ((97 + x301)) [.int .u8 ((97 + x301))] from rfl) (Reps.none _ _)) (by simp) B ?_;(case hd | hg=>rfl);(case hr=>go_simp;first | done | rfl);intro z35 hz35 AL35 kL35 w302 hb B RL35 QL35;have MRL35:=mrf QL35 KK;replace HI:=hib HI hb;replace KK:=kkb KK hb;clear hb QL35;have hcv35:=own_string (P:=Try.prog) Try.underlying41 Try.underlying5 Try.underlying9 (Kd.own_of_R RL35.out);have hsz35 : (strOfNums z35).size=1:=(by rw [← hz35];rw [strOfNums_size];rfl);have hle35 : decide (s.size + (strOfNums z35).size≤9223372036854775807)=true:=decide_eq_true (by omega)))
   go_roundg d
   case measure=>omega
   case rel=>exact ⟨m - 1,_,_,rfl,congrArg (Value.int .i64) (by omega),by omega,by omega,by rw [ByteArray.size_append,hsz35];omega,⟨by rw [← hz35];exact low_app HL.out (by omega) (by have:=hx301.2.1 (by omega);omega)⟩,by omega,HI,KK,B⟩
  ·have cj : decide ((0 : Int) < (m : Int))=false:=decide_eq_false (by omega)
   have hkk : Dw.keyB s=true:=by
    unfold Dw.keyB
    rw [HL.out,decide_eq_true (by omega),decide_eq_true (by omega)]
    rfl
   go_wp2
   go_ret
   exact ⟨_,_,rfl,(fun _=>hkk),⟨by omega,by omega⟩,HI.out,B.out,KK.out⟩

theorem spec_FrameEntry.M (n a b c : Int) (k : ByteArray) (u z : Int) (w : World) : Calls Try.prog 27 #[.int .i64 n,.agg #[.int .i64 a,.int .i64 b,.int .i64 c,.string k,.int .i64 u,.int .i64 z]] w fun e w'=>∃ v0,e=.returned v0∧Kd.R (Kd.int .i64) 3 w' w.heap.size (fun _=>True) v0 (Dw.frmB n (a,b,c,k,u,z))∧Below w.heap.size w w':=by
 obtain ⟨j,hj⟩:=(Dw.specFrm n (a,b,c,k,u,z)).some
 exact spec_FrameEntry.calls j n a b c k u z _ w hj
theorem impl_FrameEntry.M (n a b c : Int) (k : ByteArray) (u z : Int) (w : World) : Calls Try.prog 28 #[.int .i64 n,.agg #[.int .i64 a,.int .i64 b,.int .i64 c,.string k,.int .i64 u,.int .i64 z]] w fun e w'=>∃ v0,e=.returned v0∧Kd.R (Kd.int .i64) 3 w' w.heap.size (fun _=>True) v0 (Dw.frmB n (a,b,c,k,u,z))∧Below w.heap.size w w':=by
 obtain ⟨j,hj⟩:=(Dw.implFrm n (a,b,c,k,u,z)).some
 exact impl_FrameEntry.calls j n a b c k u z _ w hj
theorem spec_ReadFrame.M (A0 : Option Addr) (c0 : Nat) (l : List Int) (t n a b c : Int) (k : ByteArray) (u z q : Int) (hm : Dw.rdf l t n=((a,b,c,k,u,z),q)) (w : World) (hr0 : Kd.C (Kd.int .i64) w A0 l.length l) (hc0 : l.length≤c0) : Calls Try.prog 29 #[.slice A0 l.length c0,.int .i64 t,.int .i64 n] w fun e w'=>e=.returned (.tuple #[.agg #[.int .i64 a,.int .i64 b,.int .i64 c,.string k,.int .i64 u,.int .i64 z],.int .i64 q])∧Below w.heap.size w w':=by
 obtain ⟨j,hj⟩:=(Dw.specRdf l t n).some
 rw [hm] at hj
 exact spec_ReadFrame.calls j A0 c0 l t n a b c k u z q w hr0 hc0 hj
theorem impl_ReadFrame.M (A0 : Option Addr) (c0 : Nat) (l : List Int) (t n a b c : Int) (k : ByteArray) (u z q : Int) (hm : Dw.rdf l t n=((a,b,c,k,u,z),q)) (w : World) (hr0 : Kd.C (Kd.int .i64) w A0 l.length l) (hc0 : l.length≤c0) : Calls Try.prog 30 #[.slice A0 l.length c0,.int .i64 t,.int .i64 n] w fun e w'=>e=.returned (.tuple #[.agg #[.int .i64 a,.int .i64 b,.int .i64 c,.string k,.int .i64 u,.int .i64 z],.int .i64 q])∧Below w.heap.size w w':=by
 obtain ⟨j,hj⟩:=(Dw.implRdf l t n).some
 rw [hm] at hj
 exact impl_ReadFrame.calls j A0 c0 l t n a b c k u z q w hr0 hc0 hj
theorem frm_ok {n : Int} {e : Dw.EntT} {z : List Int} (h0 : 0≤n) (h1 : n < 24) (h : Dw.entOk e=true) (hz : Dw.frmB n e=z) : 1≤z.length∧z.length≤53:=by
 have h2:=Dw.frmB_length n e
 have h3:=Dw.encE_pos h
 rw [hz] at h2
 refine ⟨?_,h2⟩
 rw [← hz]
 unfold Dw.frmB Dw.frmH
 rw [if_pos ⟨⟨h0,by omega⟩,h⟩]
 simp only [List.length_append]
 omega

/-- a row of zeros -/
theorem mki {P : Program} {w W : World} {ops : Array Oper} {o : Oper} {rest : List Oper} {a : Act} {QE : Exit→Act→World→Prop} (e : Nat) (hgd : o.guard=none) {N : Tmp} (hd : o.dst=some N) (t : TypeId) (x y : Operand) (ho : o.op=.makeSlice t x y) (n : Nat) (hx : a.eval x=.int .i64 (n : Int)) (hy : a.eval y=.int .i64 (n : Int))
    (ht : P.underlying t=some (.slice e)) (hinfo : (P.info? e).map (fun i=>(i.zero,i.size,i.bytes))=some (some (.int .i64 0),1,8)) (hl : n * 8≤281474976710656) (B : Aside0 (Below w.heap.size w W))
    (h : ∀ zs,List.replicate n (0 : Int)=zs→∀ A kk w1,Below W.heap.size W w1→Aside0 (Below w.heap.size w w1)→Aside0 (Ow (Kd.int .i64) e w1 w.heap.size (.slice A zs.length kk) zs)→Aside0 (Fr W (.slice A zs.length kk))→wpList P ops QE rest (a.put o.dst (.slice A zs.length kk)) w1) : wpList P ops QE (o :: rest) a W :=
  mkr (Kd.int .i64) e hgd hd t x y ho n hx hy ht (.int .i64 0) 8 hinfo rfl (by decide) (by omega) (0 : Int) (show Kd.M (Kd.int .i64) _ _ _ (0 : Int) [.int .i64 0] from rfl) hl B (fun A kk w1 hb B1 R Q=>by
    have e : n=(List.replicate n (0 : Int)).length:=List.length_replicate.symm
    have hh:=h _ rfl A kk w1 hb B1
    rw [← e] at hh
    exact hh R Q)


theorem spec_EncodeNumber.M (n : Int) (w : World) : Calls Try.prog 35 #[.int .i64 n] w fun e w'=>∃ v0,e=.returned v0∧Kd.R (Kd.int .i64) 3 w' w.heap.size (fun _=>True) v0 (Dw.encN n)∧Below w.heap.size w w':=by
 obtain ⟨k,hk⟩:=(Dw.specEnc n).some
 exact spec_EncodeNumber.calls k n _ w hk
theorem spec_EncodeText.M (n : ByteArray) (w : World) : Calls Try.prog 36 #[.string n] w fun e w'=>∃ v0,e=.returned v0∧Kd.R (Kd.int .i64) 3 w' w.heap.size (fun _=>True) v0 (Dw.encT n)∧Below w.heap.size w w':=by
 obtain ⟨k,hk⟩:=(Dw.specEncT n).some
 exact spec_EncodeText.calls k n _ w hk
theorem mul_b2 {x y : Int} (h0 : 0≤x) (h1 : x < 256) (h2 : 0≤y) (h3 : y < 256) : 0≤x * y∧x * y≤65536:=by
 refine ⟨Int.mul_nonneg h0 h2,?_⟩
 have:=Int.mul_le_mul (show x≤256 by omega) (show y≤256 by omega) h2 (by omega)
 omega
theorem mul_bd {x y : Int} (h0 : 0≤x) (h1 : x≤65536) (h2 : 0≤y) (h3 : y < 256) : 0≤x * y∧x * y≤16777216:=by
 refine ⟨Int.mul_nonneg h0 h2,?_⟩
 have:=Int.mul_le_mul h1 (show y≤256 by omega) h2 (by omega)
 omega
theorem spec_l20Number.D (n : Int) (hn : n≤1000000) (w W0 : World) (g : Nat) (bs : List Int) (p : Int) (hI : IsS77 w W0 g bs p) (hB : Below w.heap.size w W0) (hc : Dw.Code bs) (h0 : 0≤p) (h1 : p≤1099511000000) :
  Calls Try.prog 64 #[.pointer (some ⟨g,0,none⟩),.int .i64 n] W0 fun e w'=>∃ x p',e=.returned (.int .i64 x)∧(True)∧Left w W0 g bs p 10 p' w':=by
 have B:=Aside0.mk hB
 have HI:=Aside0.mk hI
 have HC:=Aside0.mk hc
 have KK:=Aside0.mk (Kept.refl W0 (RB g))
 clear hB hI hc
 go_enter Try.func64,Try.ntmps64
 go_wp2_with (first
  | (go_at_call 60;(with_reducible refine cg1 (spec_l20Rd_odd.D n (by omega) w _ g bs p HI.out B.out HC.out (by omega) (by omega)) fun x1 p1 hx1 hp1 w1 hk B HI2=>?_);replace KK:=kkr KK hk;replace HI:=HI2;clear hk;skip)
  | ((with_reducible refine gate_dst (N:=8) rfl ?_);refine lt (Kd.int .i64) 3 ?hg (N:=8) ?hd ([(-1),(268435456)] : List Int) [.int .i64 (-1),.int .i64 (268435456)] ?hr (Reps.one (show Kd.M (Kd.int .i64) _ _ _ (-1) [.int .i64 (-1)] from rfl) (Reps.one (show Kd.M (Kd.int .i64) _ _ _ (268435456) [.int .i64 (268435456)] from rfl) (Reps.none _ _))) (by simp) B ?_;(case hd | hg=>rfl);(case hr=>go_simp;first | done | rfl);intro z8 hz8 AL8 kL8 w51 hb B RL8 QL8;have MRL8:=mrf QL8 KK;replace HI:=hib HI hb;replace KK:=kkb KK hb;clear hb QL8)
  | (go_at_call 48;(with_reducible refine cg1 (spec_l20Rd_pick.D 2 w _ g bs p1 HI.out B.out HC.out (by omega) (by omega)) fun x52 p52 hx52 hp52 w52 hk B HI2=>?_);replace RL8:=rkr RL8 HI (by decide) hk;replace KK:=kkr KK hk;replace HI:=HI2;clear hk;skip;have hj52:=hx52.1;have hi52 : x52 < (z8.length : Int):=(by rw [← hz8];have:=hx52.2.1 (by omega);simpa using this);obtain ⟨ad52,hA52,y52⟩:=Kd.at_int (rc RL8) x52 hj52 hi52;generalize rd z8 x52=v52 at *;cases hA52;have fj52:=eq_true hj52;have fi52:=eq_true hi52)
  | (go_at_call 48;(with_reducible refine cg1 (spec_l20Rd_pick.D 256 w _ g bs p1 HI.out B.out HC.out (by omega) (by omega)) fun x101 p101 hx101 hp101 w101 hk B HI2=>?_);replace KK:=kkr KK hk;replace HI:=HI2;clear hk;skip)
  | (go_at_call 48;(with_reducible refine cg1 (spec_l20Rd_pick.D 256 w _ g bs p101 HI.out B.out HC.out (by omega) (by omega)) fun x102 p102 hx102 hp102 w102 hk B HI2=>?_);replace KK:=kkr KK hk;replace HI:=HI2;clear hk;skip)
  | (go_at_call 48;(with_reducible refine cg1 (spec_l20Rd_pick.D 256 w _ g bs p102 HI.out B.out HC.out (by omega) (by omega)) fun x103 p103 hx103 hp103 w103 hk B HI2=>?_);replace KK:=kkr KK hk;replace HI:=HI2;clear hk;skip;have t1:=hx102.2.1 (by omega);have t2:=hx103.2.1 (by omega);obtain ⟨m19,hpm19⟩ : ∃ i : Int,x102 * x103=i:=⟨_,rfl⟩;have hqm19 : 0≤m19∧m19≤65536:=(by rw [← hpm19];exact mul_b2 (by omega) (by omega) (by omega) (by omega));have hwm19 : wrap64 (x102 * x103)=m19:=(by rw [hpm19];exact w64 (by omega) (by omega)))
  | (go_at_call 48;(with_reducible refine cg1 (spec_l20Rd_pick.D 256 w _ g bs p103 HI.out B.out HC.out (by omega) (by omega)) fun x104 p104 hx104 hp104 w104 hk B HI2=>?_);replace KK:=kkr KK hk;replace HI:=HI2;clear hk;skip)
  | (go_at_call 48;(with_reducible refine cg1 (spec_l20Rd_pick.D 256 w _ g bs p104 HI.out B.out HC.out (by omega) (by omega)) fun x105 p105 hx105 hp105 w105 hk B HI2=>?_);replace KK:=kkr KK hk;replace HI:=HI2;clear hk;skip;have t3:=hx104.2.1 (by omega);have t4:=hx105.2.1 (by omega);obtain ⟨m24,hpm24⟩ : ∃ i : Int,x104 * x105=i:=⟨_,rfl⟩;have hqm24 : 0≤m24∧m24≤65536:=(by rw [← hpm24];exact mul_b2 (by omega) (by omega) (by omega) (by omega));have hwm24 : wrap64 (x104 * x105)=m24:=(by rw [hpm24];exact w64 (by omega) (by omega)))
  | (go_at_call 48;(with_reducible refine cg1 (spec_l20Rd_pick.D 256 w _ g bs p105 HI.out B.out HC.out (by omega) (by omega)) fun x106 p106 hx106 hp106 w106 hk B HI2=>?_);replace KK:=kkr KK hk;replace HI:=HI2;clear hk;skip;have t5:=hx106.2.1 (by omega);obtain ⟨m27,hpm27⟩ : ∃ i : Int,m24 * x106=i:=⟨_,rfl⟩;have hqm27 : 0≤m27∧m27≤16777216:=(by rw [← hpm27];exact mul_bd (by omega) (by omega) (by omega) (by omega));have hwm27 : wrap64 (m24 * x106)=m27:=(by rw [hpm27];exact w64 (by omega) (by omega)))
  | ((with_reducible refine gate_dst (N:=28) rfl ?_);refine lt (Kd.int .i64) 3 ?hg (N:=28) ?hd ([(x101),(m19),(m27),(268435455),(127),(128),(16383),(16384),(2097152)] : List Int) [.int .i64 (x101),.int .i64 (m19),.int .i64 (m27),.int .i64 (268435455),.int .i64 (127),.int .i64 (128),.int .i64 (16383),.int .i64 (16384),.int .i64 (2097152)] ?hr (Reps.one (show Kd.M (Kd.int .i64) _ _ _ (x101) [.int .i64 (x101)] from rfl) (Reps.one (show Kd.M (Kd.int .i64) _ _ _ (m19) [.int .i64 (m19)] from rfl) (Reps.one (show Kd.M (Kd.int .i64) _ _ _ (m27) [.int .i64 (m27)] from rfl) (Reps.one (show Kd.M (Kd.int .i64) _ _ _ (268435455) [.int .i64 (268435455)] from rfl) (Reps.one (show Kd.M (Kd.int .i64) _ _ _ (127) [.int .i64 (127)] from rfl) (Reps.one (show Kd.M (Kd.int .i64) _ _ _ (128) [.int .i64 (128)] from rfl) (Reps.one (show Kd.M (Kd.int .i64) _ _ _ (16383) [.int .i64 (16383)] from rfl) (Reps.one (show Kd.M (Kd.int .i64) _ _ _ (16384) [.int .i64 (16384)] from rfl) (Reps.one (show Kd.M (Kd.int .i64) _ _ _ (2097152) [.int .i64 (2097152)] from rfl) (Reps.none _ _)))))))))) (by simp) B ?_;(case hd | hg=>rfl);(case hr=>go_simp;first | done | rfl);intro z28 hz28 AL28 kL28 w107 hb B RL28 QL28;have MRL28:=mrf QL28 KK;replace HI:=hib HI hb;replace KK:=kkb KK hb;clear hb QL28)
  | (go_at_call 48;(with_reducible refine cg1 (spec_l20Rd_pick.D 9 w _ g bs p106 HI.out B.out HC.out (by omega) (by omega)) fun x108 p108 hx108 hp108 w108 hk B HI2=>?_);replace RL28:=rkr RL28 HI (by decide) hk;replace KK:=kkr KK hk;replace HI:=HI2;clear hk;skip;have hj108:=hx108.1;have hi108 : x108 < (z28.length : Int):=(by rw [← hz28];have:=hx108.2.1 (by omega);simpa using this);obtain ⟨ad108,hA108,y108⟩:=Kd.at_int (rc RL28) x108 hj108 hi108;generalize rd z28 x108=v108 at *;cases hA108;have fj108:=eq_true hj108;have fi108:=eq_true hi108))
 all_goals go_ret
 all_goals exact ⟨_,_,rfl,trivial,⟨by omega,by omega⟩,HI.out,B.out,KK.out⟩
theorem spec_l20Text.D (n : Int) (hn : n≤1000000) (w W0 : World) (g : Nat) (bs : List Int) (p : Int) (hI : IsS77 w W0 g bs p) (hB : Below w.heap.size w W0) (hc : Dw.Code bs) (h0 : 0≤p) (h1 : p≤1099511000000) :
  Calls Try.prog 65 #[.pointer (some ⟨g,0,none⟩),.int .i64 n] W0 fun e w'=>∃ x p',e=.returned (.string x)∧(True)∧Left w W0 g bs p 12 p' w':=by
 have B:=Aside0.mk hB
 have HI:=Aside0.mk hI
 have HC:=Aside0.mk hc
 have KK:=Aside0.mk (Kept.refl W0 (RB g))
 clear hB hI hc
 go_enter Try.func65,Try.ntmps65
 go_wp2_with (first
  | (go_at_call 60;(with_reducible refine cg1 (spec_l20Rd_odd.D n (by omega) w _ g bs p HI.out B.out HC.out (by omega) (by omega)) fun x1 p1 hx1 hp1 w1 hk B HI2=>?_);replace KK:=kkr KK hk;replace HI:=HI2;clear hk;skip)
  | (go_at_call 48;(with_reducible refine cg1 (spec_l20Rd_pick.D 9 w _ g bs p1 HI.out B.out HC.out (by omega) (by omega)) fun x251 p251 hx251 hp251 w251 hk B HI2=>?_);replace KK:=kkr KK hk;replace HI:=HI2;clear hk;skip;refine Stop.out ?_))
 all_goals try (go_ret;exact ⟨_,_,rfl,trivial,⟨by omega,by omega⟩,HI.out,B.out,KK.out⟩;done)
 refine ⟨?_⟩
 have hc0:=hx251.1
 have hc1:=hx251.2.1 (by omega)
 obtain ⟨m0,hm0⟩ : ∃ m : Nat,x251=(m : Int):=⟨x251.toNat,by omega⟩
 go_wp2
 go_loopg [5,6] (m0 + 1) (fun kx v5 v6 wr=>∃ (m : Nat) (s : ByteArray) (pp : Int),v5=.string s∧v6=.int .i64 (m : Int)∧m < kx∧m≤8∧s.size + m≤8∧(p≤pp∧pp + (m : Int)≤p + 10)∧Aside0 (IsS77 w wr g bs pp)∧Aside0 (Kept W0 wr (RB g))∧Aside0 (Below w.heap.size w wr))
 case atStart=>exact ⟨m0,_,_,rfl,congrArg (Value.int .i64) (by omega),by omega,by omega,by show 0 + m0≤8;omega,by omega,HI,KK,B⟩
 case round =>
  clear HI KK B hm0
  obtain ⟨m,s,pp,rfl,rfl,hm,hm2,hsz,hpp,HI,KK,B⟩:=hrel
  by_cases hp : 0 < m
  ·obtain ⟨d,rfl⟩ : ∃ d,gk=d + 1:=⟨gk - 1,by omega⟩
   have cj : decide ((0 : Int) < (m : Int))=true:=decide_eq_true (by omega)
   go_wp2_with (first
    | (go_at_call 48;(with_reducible refine cg1 (spec_l20Rd_pick.D 256 w _ g bs pp HI.out B.out HC.out (by omega) (by omega)) fun x301 p301 hx301 hp301 w301 hk B HI2=>?_);replace KK:=kkr KK hk;replace HI:=HI2;clear hk;skip)
    | ((with_reducible refine gate_dst (N:=20) rfl ?_);refine lt (Kd.int .u8) 5 ?hg (N:=20) ?hd ([(x301)] : List Int) [.int .u8 (x301)] ?hr (Reps.one (show Kd.M (Kd.int .u8) _ _ _ (x301) [.int .u8 (x301)] from rfl) (Reps.none _ _)) (by simp) B ?_;(case hd | hg=>rfl);(case hr=>go_simp;first | done | rfl);intro z20 hz20 AL20 kL20 w302 hb B RL20 QL20;have MRL20:=mrf QL20 KK;replace HI:=hib HI hb;replace KK:=kkb KK hb;clear hb QL20;have hcv20:=own_string (P:=Try.prog) Try.underlying41 Try.underlying5 Try.underlying9 (Kd.own_of_R RL20.out);have hsz20 : (strOfNums z20).size=1:=(by rw [← hz20];rw [strOfNums_size];rfl);have hle20 : decide (s.size + (strOfNums z20).size≤9223372036854775807)=true:=decide_eq_true (by omega)))
   go_roundg d
   case measure=>omega
   case rel=>exact ⟨m - 1,_,_,rfl,congrArg (Value.int .i64) (by omega),by omega,by omega,by rw [ByteArray.size_append,hsz20];omega,by omega,HI,KK,B⟩
  ·have cj : decide ((0 : Int) < (m : Int))=false:=decide_eq_false (by omega)
   go_wp2
   go_ret
   exact ⟨_,_,rfl,trivial,⟨by omega,by omega⟩,HI.out,B.out,KK.out⟩
theorem spec_l20Bytes.D (n : Int) (hn : n≤1000000) (w W0 : World) (g : Nat) (bs : List Int) (p : Int) (hI : IsS77 w W0 g bs p) (hB : Below w.heap.size w W0) (hc : Dw.Code bs) (h0 : 0≤p) (h1 : p≤1099500000000) :
  Calls Try.prog 52 #[.pointer (some ⟨g,0,none⟩),.int .i64 n] W0 fun e w'=>∃ v0 xs p',e=.returned (v0)∧(xs.length≤2100)∧Kd.R (Kd.int .i64) 3 w' w.heap.size (fun _=>True) v0 xs∧Fr W0 v0∧Left w W0 g bs p 400 p' w':=by
 have B:=Aside0.mk hB
 have HI:=Aside0.mk hI
 have HC:=Aside0.mk hc
 have KK:=Aside0.mk (Kept.refl W0 (RB g))
 clear hB hI hc
 go_enter Try.func52,Try.ntmps52
 go_wp2_with (first
  | ((with_reducible refine gate_dst (N:=7) rfl ?_);refine lt (Kd.int .i64) 3 ?hg (N:=7) ?hd ([] : List Int) [] ?hr (Reps.none _ _) (by simp) B ?_;(case hd | hg=>rfl);(case hr=>go_simp;first | done | rfl);intro z7 hz7 AL7 kL7 w1 hb B RL7 QL7;have MRL7:=mrf QL7 KK;replace HI:=hib HI hb;replace KK:=kkb KK hb;clear hb QL7;subst hz7)
  | (go_at_call 48;(with_reducible refine cg1 (spec_l20Rd_pick.D 12 w _ g bs p HI.out B.out HC.out (by omega) (by omega)) fun x2 p2 hx2 hp2 w2 hk B HI2=>?_);replace RL7:=rkr RL7 HI (by decide) hk;replace KK:=kkr KK hk;replace HI:=HI2;clear hk;skip))
 have hx1:=hx2.1
 have hx2:=hx2.2.1 (by omega)
 obtain ⟨m0,rfl⟩ : ∃ m : Nat,x2=(m : Int):=⟨x2.toNat,by omega⟩
 go_loopg [5,6] (m0 + 1) (fun kx v5 v6 wr=>∃ (m : Nat) (xs : List Int) (pp : Int),v6=.int .i64 (m : Int)∧m < kx∧m≤11∧xs.length + 13 * m≤143∧(p≤pp∧pp + 20 * (m : Int)≤p + 240)∧Aside0 (IsS77 w wr g bs pp)∧Aside0 (Kept W0 wr (RB g))∧Aside0 (Below w.heap.size w wr)∧Aside0 (Ow (Kd.int .i64) 3 wr w.heap.size v5 xs)∧Aside0 (Fr W0 v5))
 case atStart=>exact ⟨m0,[],_,rfl,by omega,by omega,by simp only [List.length_nil];omega,by omega,HI,KK,B,RL7,MRL7⟩
 case round =>
  clear HI KK B RL7 MRL7
  obtain ⟨m,xs,pp,rfl,hm,hm8,hxl,hpp,HI,KK,B,Rp5,MRp5⟩:=hrel
  obtain ⟨A5,k5,rfl⟩:=Kd.R_slice Rp5.out
  by_cases hm0 : 0 < m
  ·obtain ⟨d,rfl⟩ : ∃ d,gk=d + 1:=⟨gk - 1,by omega⟩
   have cj : decide ((0 : Int) < (m : Int))=true:=decide_eq_true (by omega)
   have hw : wrap64 ((m : Int) - 1)=((m - 1 : Nat) : Int):=by unfold wrap64;omega
   go_wp2_with (first
    | (go_at_call 48;(with_reducible refine cg1 (spec_l20Rd_pick.D 4 w _ g bs pp HI.out B.out HC.out (by omega) (by omega)) fun x301 p301 hx301 hp301 w301 hk B HI2=>?_);replace Rp5:=rkr Rp5 HI (by decide) hk;replace KK:=kkr KK hk;replace HI:=HI2;clear hk;skip)
    | (go_at_call 64;(with_reducible refine cg1 (spec_l20Number.D 0 (by omega) w _ g bs p301 HI.out B.out HC.out (by omega) (by omega)) fun x351 p351 hx351 hp351 w351 hk B HI2=>?_);replace Rp5:=rkr Rp5 HI (by decide) hk;replace KK:=kkr KK hk;replace HI:=HI2;clear hk;skip)
    | (go_at_call 35;with_reducible refine crz (spec_EncodeNumber.M x351 _) B fun zB352 hzB352 AB352 kB352 w352 hb B RB352 QB352=>?_;have Dp5_B352:=fr QB352 Rp5;have MRB352:=mrf QB352 KK;replace Rp5:=rn Rp5 hb;replace HI:=hib HI hb;replace KK:=kkb KK hb;clear QB352;clear hb;have hel352 : zB352.length≤13:=(by rw [← hzB352];have:=Dw.encN_length x351;omega))
    | ((with_reducible refine gate_builtin (b:=.append) (xs:=#[.tmp 23,.tmp 26]) rfl ?_);at_builtin;refine apx (Kd.int .i64) 3 rfl (.tmp 23) (.tmp 26) 27 (.int .i64 0) 8 rfl Try.underlying27 info3 rfl (by decide) (by omega) rfl rfl Rp5 (rc RB352) (fun _ _ h=>h) (by omega) B ?_;intro z27 hz27 AL27 kL27 w353 hg B RL27 hat;replace HI:=hig HI Rp5 (by decide) hg;have MRL27:=mra hat MRp5 KK;replace KK:=kkg KK MRp5 hg;clear hg hat)
    | (go_at_call 65;(with_reducible refine cg1 (spec_l20Text.D 0 (by omega) w _ g bs p301 HI.out B.out HC.out (by omega) (by omega)) fun x401 p401 hx401 hp401 w401 hk B HI2=>?_);replace Rp5:=rkr Rp5 HI (by decide) hk;replace KK:=kkr KK hk;replace HI:=HI2;clear hk;skip)
    | (go_at_call 36;with_reducible refine crz (spec_EncodeText.M x401 _) B fun zB402 hzB402 AB402 kB402 w402 hb B RB402 QB402=>?_;have Dp5_B402:=fr QB402 Rp5;have MRB402:=mrf QB402 KK;replace Rp5:=rn Rp5 hb;replace HI:=hib HI hb;replace KK:=kkb KK hb;clear QB402;clear hb;have hel402 : zB402.length≤13:=(by rw [← hzB402];exact Dw.encT_length _))
    | ((with_reducible refine gate_builtin (b:=.append) (xs:=#[.tmp 30,.tmp 33]) rfl ?_);at_builtin;refine apx (Kd.int .i64) 3 rfl (.tmp 30) (.tmp 33) 27 (.int .i64 0) 8 rfl Try.underlying27 info3 rfl (by decide) (by omega) rfl rfl Rp5 (rc RB402) (fun _ _ h=>h) (by omega) B ?_;intro z34 hz34 AL34 kL34 w403 hg B RL34 hat;replace HI:=hig HI Rp5 (by decide) hg;have MRL34:=mra hat MRp5 KK;replace KK:=kkg KK MRp5 hg;clear hg hat)
    | (go_at_call 48;(with_reducible refine cg1 (spec_l20Rd_pick.D 256 w _ g bs p301 HI.out B.out HC.out (by omega) (by omega)) fun x451 p451 hx451 hp451 w451 hk B HI2=>?_);replace Rp5:=rkr Rp5 HI (by decide) hk;replace KK:=kkr KK hk;replace HI:=HI2;clear hk;skip)
    | ((with_reducible refine gate_dst (N:=19) rfl ?_);refine lt (Kd.int .i64) 3 ?hg (N:=19) ?hd ([(x451)] : List Int) [.int .i64 (x451)] ?hr (Reps.one (show Kd.M (Kd.int .i64) _ _ _ (x451) [.int .i64 (x451)] from rfl) (Reps.none _ _)) (by simp) B ?_;(case hd | hg=>rfl);(case hr=>go_simp;first | done | rfl);intro z19 hz19 AL19 kL19 w452 hb B RL19 QL19;have Dp5_L19:=fr QL19 Rp5;have MRL19:=mrf QL19 KK;replace Rp5:=rn Rp5 hb;replace HI:=hib HI hb;replace KK:=kkb KK hb;clear hb QL19)
    | ((with_reducible refine gate_builtin (b:=.append) (xs:=#[.tmp 16,.tmp 19]) rfl ?_);at_builtin;refine apx (Kd.int .i64) 3 rfl (.tmp 16) (.tmp 19) 27 (.int .i64 0) 8 rfl Try.underlying27 info3 rfl (by decide) (by omega) rfl rfl Rp5 (rc RL19) (fun _ _ h=>h) (by rw [← hz19];simp only [List.length_cons,List.length_nil];omega) B ?_;intro z20 hz20 AL20 kL20 w453 hg B RL20 hat;replace HI:=hig HI Rp5 (by decide) hg;have MRL20:=mra hat MRp5 KK;replace KK:=kkg KK MRp5 hg;clear hg hat))
   all_goals (go_roundg d;(case measure=>omega);first
    | (case rel=>exact ⟨m - 1,z27,_,congrArg (Value.int .i64) (by omega),by omega,by omega,(by rw [← hz27];simp only [List.length_append,List.length_cons,List.length_nil];omega),by omega,HI,KK,B,RL27,MRL27⟩)
    | (case rel=>exact ⟨m - 1,z34,_,congrArg (Value.int .i64) (by omega),by omega,by omega,(by rw [← hz34];simp only [List.length_append,List.length_cons,List.length_nil];omega),by omega,HI,KK,B,RL34,MRL34⟩)
    | (case rel=>exact ⟨m - 1,z20,_,congrArg (Value.int .i64) (by omega),by omega,by omega,(by rw [← hz20,← hz19];simp only [List.length_append,List.length_cons,List.length_nil];omega),by omega,HI,KK,B,RL20,MRL20⟩))
  ·have cj : decide ((0 : Int) < (m : Int))=false:=decide_eq_false (by omega)
   go_wp2_with (first
    | (go_at_call 60;(with_reducible refine cg1 (spec_l20Rd_odd.D n (by omega) w _ g bs pp HI.out B.out HC.out (by omega) (by omega)) fun x701 p701 hx701 hp701 w701 hk B HI2=>?_);replace Rp5:=rkr Rp5 HI (by decide) hk;replace KK:=kkr KK hk;replace HI:=HI2;clear hk;skip)
    | (go_at_call 48;(with_reducible refine cg1 (spec_l20Rd_pick.D 3 w _ g bs p701 HI.out B.out HC.out (by omega) (by omega)) fun x751 p751 hx751 hp751 w751 hk B HI2=>?_);replace Rp5:=rkr Rp5 HI (by decide) hk;replace KK:=kkr KK hk;replace HI:=HI2;clear hk;skip)
    | ((with_reducible refine gate_dst (N:=41) rfl ?_);refine mki 3 rfl (N:=41) rfl 27 (.const (.int .i64 2001)) (.const (.int .i64 2001)) rfl 2001 rfl rfl Try.underlying27 info3 (by omega) B ?_;intro z41 hz41 AL41 kL41 w801 hb B RL41 QL41;have MRL41:=mrf QL41 KK;replace Rp5:=rn Rp5 hb;replace HI:=hib HI hb;replace KK:=kkb KK hb;clear hb QL41)
    | ((with_reducible refine gate_dst (N:=43) rfl ?_);refine lt (Kd.int .i64) 3 ?hg (N:=43) ?hd ([(-1),(256)] : List Int) [.int .i64 (-1),.int .i64 (256)] ?hr (Reps.one (show Kd.M (Kd.int .i64) _ _ _ (-1) [.int .i64 (-1)] from rfl) (Reps.one (show Kd.M (Kd.int .i64) _ _ _ (256) [.int .i64 (256)] from rfl) (Reps.none _ _))) (by simp) B ?_;(case hd | hg=>rfl);(case hr=>go_simp;first | done | rfl);intro z43 hz43 AL43 kL43 w851 hb B RL43 QL43;have Dp5_L43:=fr QL43 Rp5;have MRL43:=mrf QL43 KK;replace Rp5:=rn Rp5 hb;replace HI:=hib HI hb;replace KK:=kkb KK hb;clear hb QL43)
    | (go_at_call 48;(with_reducible refine cg1 (spec_l20Rd_pick.D 2 w _ g bs p751 HI.out B.out HC.out (by omega) (by omega)) fun x852 p852 hx852 hp852 w852 hk B HI2=>?_);replace Rp5:=rkr Rp5 HI (by decide) hk;replace RL43:=rkr RL43 HI (by decide) hk;replace KK:=kkr KK hk;replace HI:=HI2;clear hk;skip;have hj852:=hx852.1;have hi852 : x852 < (z43.length : Int):=(by rw [← hz43];have:=hx852.2.1 (by omega);simpa using this);obtain ⟨ad852,hA852,y852⟩:=Kd.at_int (rc RL43) x852 hj852 hi852;generalize rd z43 x852=v852 at *;cases hA852;have fj852:=eq_true hj852;have fi852:=eq_true hi852)
    | ((with_reducible refine gate_dst (N:=48) rfl ?_);refine lt (Kd.int .i64) 3 ?hg (N:=48) ?hd ([(v852)] : List Int) [.int .i64 (v852)] ?hr (Reps.one (show Kd.M (Kd.int .i64) _ _ _ (v852) [.int .i64 (v852)] from rfl) (Reps.none _ _)) (by simp) B ?_;(case hd | hg=>rfl);(case hr=>go_simp;first | done | rfl);intro z48 hz48 AL48 kL48 w853 hb B RL48 QL48;have Dp5_L48:=fr QL48 Rp5;have DL43_L48:=fr QL48 RL43;have MRL48:=mrf QL48 KK;replace Rp5:=rn Rp5 hb;replace HI:=hib HI hb;replace KK:=kkb KK hb;clear hb QL48)
    | ((with_reducible refine gate_builtin (b:=.append) (xs:=#[.tmp 42,.tmp 48]) rfl ?_);at_builtin;refine apx (Kd.int .i64) 3 rfl (.tmp 42) (.tmp 48) 27 (.int .i64 0) 8 rfl Try.underlying27 info3 rfl (by decide) (by omega) rfl rfl Rp5 (rc RL48) (fun _ _ h=>h) (by rw [← hz48];simp only [List.length_cons,List.length_nil];omega) B ?_;intro z49 hz49 AL49 kL49 w854 hg B RL49 hat;replace HI:=hig HI Rp5 (by decide) hg;have MRL49:=mra hat MRp5 KK;replace KK:=kkg KK MRp5 hg;clear hg hat))
   all_goals go_ret
   all_goals first
    | (exact ⟨_,_,_,rfl,(Nat.le_trans (show xs.length≤143 by omega) (by decide)),Rp5.out,MRp5.out,⟨by omega,by omega⟩,HI.out,B.out,KK.out⟩)
    | (exact ⟨_,_,_,rfl,(by rw [← hz41,List.length_replicate];decide),RL41.out,MRL41.out,⟨by omega,by omega⟩,HI.out,B.out,KK.out⟩)
    | (exact ⟨_,_,_,rfl,(by rw [← hz49,← hz48];simp only [List.length_append,List.length_cons,List.length_nil];omega),RL49.out,MRL49.out,⟨by omega,by omega⟩,HI.out,B.out,KK.out⟩)

theorem cmd_drop {y : ByteArray} (h : Dw.keyB y=true) (k : Int) (hk : k=1 ∨ k=3) : Dw.cmdB k y 0 0=true:=by
 rcases hk with rfl | rfl <;> (unfold Dw.cmdB;rw [h];rfl)
theorem cmd_swap {y : ByteArray} (h : Dw.keyB y=true) {u z : Int} (h0 : 0≤z) (h1 : z < 5) (h2 : 0≤u) (h3 : u < 5) : Dw.cmdB 4 y z (u - 1)=true:=by
 unfold Dw.cmdB Dw.valB
 rw [h,decide_eq_true (show 0≤z∧z≤999 by omega)]
 rcases (show u - 1=-1 ∨ (0≤u - 1∧u - 1≤999) by omega) with h4 | h4
 ·rw [h4];rfl
 ·rw [decide_eq_true h4];simp
theorem cmd_put {y : ByteArray} (h : Dw.keyB y=true) {u : Int} (h0 : Dw.valB u=true) : Dw.cmdB 2 y (Int.tmod u 1000) 0=true:=by
 have h1:=of_decide_eq_true h0
 unfold Dw.cmdB
 rw [h,show Int.tmod u 1000=u by rw [Int.tmod_eq_emod_of_nonneg h1.1];omega,h0]
 rfl
theorem cmd_seal {y : ByteArray} (h : (Dw.keyB y || decide (y.size=0))=true) : Dw.cmdB 5 y 0 0=true:=by
 unfold Dw.cmdB
 rw [show (decide ((5 : Int)=5) && decide (y.size=0))=decide (y.size=0) from by simp,h]
 rfl
theorem spec_l20Cmd.D (n : Int) (hn : n≤1000000) (w W0 : World) (g : Nat) (bs : List Int) (p : Int) (hI : IsS77 w W0 g bs p) (hB : Below w.heap.size w W0) (hc : Dw.Code bs) (h0 : 0≤p) (h1 : p≤1099505000000) :
  Calls Try.prog 67 #[.pointer (some ⟨g,0,none⟩),.int .i64 n] W0 fun e w'=>∃ x y u z p',e=.returned (.agg #[.int .i64 x,.string y,.int .i64 u,.int .i64 z])∧(n≤0→Dw.cmdB x y u z=true)∧Left w W0 g bs p 20 p' w':=by
 have hu:=Try.underlying29
 have B:=Aside0.mk hB
 have HI:=Aside0.mk hI
 have HC:=Aside0.mk hc
 have KK:=Aside0.mk (Kept.refl W0 (RB g))
 clear hB hI hc
 go_enter Try.func67,Try.ntmps67
 go_wp2_with (first
  | ((with_reducible refine gate_dst (N:=4) rfl ?_);refine bxq 4 #[.int .i64 (0),.string (⟨#[]⟩ : ByteArray),.int .i64 (0),.int .i64 (0)] 29 B fun g4 w1 hb B F4 L4 E4=>?_;have M4:=mbx E4 KK;replace HI:=hib HI hb;replace KK:=kkb KK hb;clear hb E4)
  | (go_at_call 60;(with_reducible refine cg1 (spec_l20Rd_odd.D n (by omega) w _ g bs p HI.out B.out HC.out (by omega) (by omega)) fun x2 p2 hx2 hp2 w2 hk B HI2=>?_);replace F4:=bkr F4 HI (by decide) hk;replace KK:=kkr KK hk;replace HI:=HI2;clear hk;skip)
  | ((with_reducible refine gate_dst (N:=19) rfl ?_);refine lt k29 29 ?hg (N:=19) ?hd ([⟨0,(⟨#[]⟩ : ByteArray),0,0⟩,⟨1,(⟨#[]⟩ : ByteArray),0,0⟩,⟨1,(⟨#[98]⟩ : ByteArray),1,0⟩,⟨2,(⟨#[98]⟩ : ByteArray),1000,0⟩,⟨2,(⟨#[98]⟩ : ByteArray),0,1⟩,⟨4,(⟨#[98]⟩ : ByteArray),0,-2⟩,⟨4,(⟨#[98]⟩ : ByteArray),-1,0⟩,⟨6,(⟨#[98]⟩ : ByteArray),0,0⟩,⟨3,(⟨#[65]⟩ : ByteArray),0,0⟩,⟨5,(⟨#[98,49]⟩ : ByteArray),0,0⟩] : List S29) [.int .i64 (0),.string (⟨#[]⟩ : ByteArray),.int .i64 (0),.int .i64 (0),.int .i64 (1),.string (⟨#[]⟩ : ByteArray),.int .i64 (0),.int .i64 (0),.int .i64 (1),.string (⟨#[98]⟩ : ByteArray),.int .i64 (1),.int .i64 (0),.int .i64 (2),.string (⟨#[98]⟩ : ByteArray),.int .i64 (1000),.int .i64 (0),.int .i64 (2),.string (⟨#[98]⟩ : ByteArray),.int .i64 (0),.int .i64 (1),.int .i64 (4),.string (⟨#[98]⟩ : ByteArray),.int .i64 (0),.int .i64 (-2),.int .i64 (4),.string (⟨#[98]⟩ : ByteArray),.int .i64 (-1),.int .i64 (0),.int .i64 (6),.string (⟨#[98]⟩ : ByteArray),.int .i64 (0),.int .i64 (0),.int .i64 (3),.string (⟨#[65]⟩ : ByteArray),.int .i64 (0),.int .i64 (0),.int .i64 (5),.string (⟨#[98,49]⟩ : ByteArray),.int .i64 (0),.int .i64 (0)] ?hr (Reps.c4 (k29_mkM _ _ _ ⟨0,(⟨#[]⟩ : ByteArray),0,0⟩) (Reps.c4 (k29_mkM _ _ _ ⟨1,(⟨#[]⟩ : ByteArray),0,0⟩) (Reps.c4 (k29_mkM _ _ _ ⟨1,(⟨#[98]⟩ : ByteArray),1,0⟩) (Reps.c4 (k29_mkM _ _ _ ⟨2,(⟨#[98]⟩ : ByteArray),1000,0⟩) (Reps.c4 (k29_mkM _ _ _ ⟨2,(⟨#[98]⟩ : ByteArray),0,1⟩) (Reps.c4 (k29_mkM _ _ _ ⟨4,(⟨#[98]⟩ : ByteArray),0,-2⟩) (Reps.c4 (k29_mkM _ _ _ ⟨4,(⟨#[98]⟩ : ByteArray),-1,0⟩) (Reps.c4 (k29_mkM _ _ _ ⟨6,(⟨#[98]⟩ : ByteArray),0,0⟩) (Reps.c4 (k29_mkM _ _ _ ⟨3,(⟨#[65]⟩ : ByteArray),0,0⟩) (Reps.c4 (k29_mkM _ _ _ ⟨5,(⟨#[98,49]⟩ : ByteArray),0,0⟩) (Reps.none _ _))))))))))) (by simp) B ?_;(case hd | hg=>rfl);(case hr=>go_simp;first | done | rfl);intro z19 hz19 AL19 kL19 w51 hb B RL19 QL19;have NB4_L19:=nb QL19 F4;have MRL19:=mrf QL19 KK;replace F4:=bn F4 hb;replace HI:=hib HI hb;replace KK:=kkb KK hb;clear hb QL19)
  | (go_at_call 48;(with_reducible refine cg1 (spec_l20Rd_pick.D 10 w _ g bs p2 HI.out B.out HC.out (by omega) (by omega)) fun x52 p52 hx52 hp52 w52 hk B HI2=>?_);replace F4:=bkr F4 HI (by decide) hk;replace RL19:=rkr RL19 HI (by decide) hk;replace KK:=kkr KK hk;replace HI:=HI2;clear hk;skip;have hi52 : x52 < (z19.length : Int):=(by rw [← hz19];have:=hx52.2.1 (by omega);simpa using this);obtain ⟨ad52,hA52,y52_0,y52_1,y52_2,y52_3⟩:=at_T29 (rc RL19) x52 hx52.1 hi52;have hj52:=hx52.1;generalize rd_T29 z19 x52=y52 at *;cases hA52;have j52:=eq_true hj52;have i52:=eq_true hi52)
  | ((with_reducible refine gate_store (t:=29) (p:=4) rfl ?_);obtain ⟨y0,y1,y2,y3,z0,z1,z2,z3⟩:=cz4 F4;refine sxq 29 29 4 0 [.int .i64 (y52.f0),.string y52.f1,.int .i64 (y52.f2),.int .i64 (y52.f3)] [.int .i64 (y52.f0),.string y52.f1,.int .i64 (y52.f2),.int .i64 (y52.f3)] B F4 L4 fun w53 hk B G=>?_;replace RL19:=rkn RL19 hk NB4_L19;replace HI:=his HI F4 (by decide) hk;replace KK:=kks KK M4 hk;replace F4:=G;clear hk y0 z0 y1 z1 y2 z2 y3 z3)
  | (go_at_call 68;(with_reducible refine cg1 (spec_l20Key.D 0 (by omega) w _ g bs p2 HI.out B.out HC.out (by omega) (by omega)) fun x101 p101 hx101 hp101 w101 hk B HI2=>?_);replace F4:=bkr F4 HI (by decide) hk;replace KK:=kkr KK hk;replace HI:=HI2;clear hk;skip;have HQ:=Aside0.mk (hx101 (by omega)))
  | (go_at_call 48;(with_reducible refine cg1 (spec_l20Rd_pick.D 2 w _ g bs p101 HI.out B.out HC.out (by omega) (by omega)) fun x102 p102 hx102 hp102 w102 hk B HI2=>?_);replace F4:=bkr F4 HI (by decide) hk;replace KK:=kkr KK hk;replace HI:=HI2;clear hk;skip)
  | ((with_reducible refine gate_dst (N:=29) rfl ?_);refine lt Kd.string 9 ?hg (N:=29) ?hd ([((⟨#[98]⟩ : ByteArray)),((⟨#[99]⟩ : ByteArray)),((⟨#[100]⟩ : ByteArray)),((⟨#[109]⟩ : ByteArray))] : List ByteArray) [.string (⟨#[98]⟩ : ByteArray),.string (⟨#[99]⟩ : ByteArray),.string (⟨#[100]⟩ : ByteArray),.string (⟨#[109]⟩ : ByteArray)] ?hr (Reps.one (show Kd.M Kd.string _ _ _ ((⟨#[98]⟩ : ByteArray)) [.string (⟨#[98]⟩ : ByteArray)] from rfl) (Reps.one (show Kd.M Kd.string _ _ _ ((⟨#[99]⟩ : ByteArray)) [.string (⟨#[99]⟩ : ByteArray)] from rfl) (Reps.one (show Kd.M Kd.string _ _ _ ((⟨#[100]⟩ : ByteArray)) [.string (⟨#[100]⟩ : ByteArray)] from rfl) (Reps.one (show Kd.M Kd.string _ _ _ ((⟨#[109]⟩ : ByteArray)) [.string (⟨#[109]⟩ : ByteArray)] from rfl) (Reps.none _ _))))) (by simp) B ?_;(case hd | hg=>rfl);(case hr=>go_simp;first | done | rfl);intro z29 hz29 AL29 kL29 w101 hb B RL29 QL29;have MRL29:=mrf QL29 KK;replace F4:=bn F4 hb;replace HI:=hib HI hb;replace KK:=kkb KK hb;clear hb QL29)
  | (go_at_call 48;(with_reducible refine cg1 (spec_l20Rd_pick.D 4 w _ g bs p102 HI.out B.out HC.out (by omega) (by omega)) fun x102 p102 hx102 hp102 w102 hk B HI2=>?_);replace F4:=bkr F4 HI (by decide) hk;replace RL29:=rkr RL29 HI (by decide) hk;replace KK:=kkr KK hk;replace HI:=HI2;clear hk;skip;have hi102 : x102 < (z29.length : Int):=(by rw [← hz29];have:=hx102.2.1 (by omega);simpa using this);obtain ⟨ad102,hA102,y102⟩:=Kd.at_string (rc RL29) x102 hx102.1 hi102;replace HQ:=Aside0.mk (show Dw.keyB (rdOf ByteArray.empty z29 x102)=true from all_rd (P:=fun y=>Dw.keyB y=true) (by rw [← hz29];decide +kernel) hx102.1 hi102);have hj102:=hx102.1;generalize rdOf ByteArray.empty z29 x102=x101 at *;cases hA102;have j102:=eq_true hj102;have i102:=eq_true hi102)
  | (go_at_call 48;(with_reducible refine cg1 (spec_l20Rd_pick.D 8 w _ g bs p102 HI.out B.out HC.out (by omega) (by omega)) fun x201 p201 hx201 hp201 w201 hk B HI2=>?_);replace F4:=bkr F4 HI (by decide) hk;replace KK:=kkr KK hk;replace HI:=HI2;clear hk;skip)
  | ((with_reducible refine gate_store (t:=29) (p:=4) rfl ?_);obtain ⟨y0,y1,y2,y3,z0,z1,z2,z3⟩:=cz4 F4;refine sxq 29 29 4 0 [.int .i64 (1),.string x101,.int .i64 (0),.int .i64 (0)] [.int .i64 (1),.string x101,.int .i64 (0),.int .i64 (0)] B F4 L4 fun w251 hk B G=>?_;replace HI:=his HI F4 (by decide) hk;replace KK:=kks KK M4 hk;replace F4:=G;clear hk y0 z0 y1 z1 y2 z2 y3 z3)
  | ((with_reducible refine gate_store (t:=29) (p:=4) rfl ?_);obtain ⟨y0,y1,y2,y3,z0,z1,z2,z3⟩:=cz4 F4;refine sxq 29 29 4 0 [.int .i64 (3),.string x101,.int .i64 (0),.int .i64 (0)] [.int .i64 (3),.string x101,.int .i64 (0),.int .i64 (0)] B F4 L4 fun w301 hk B G=>?_;replace HI:=his HI F4 (by decide) hk;replace KK:=kks KK M4 hk;replace F4:=G;clear hk y0 z0 y1 z1 y2 z2 y3 z3)
  | (go_at_call 48;(with_reducible refine cg1 (spec_l20Rd_pick.D 5 w _ g bs p201 HI.out B.out HC.out (by omega) (by omega)) fun x351 p351 hx351 hp351 w351 hk B HI2=>?_);replace F4:=bkr F4 HI (by decide) hk;replace KK:=kkr KK hk;replace HI:=HI2;clear hk;skip)
  | (go_at_call 48;(with_reducible refine cg1 (spec_l20Rd_pick.D 5 w _ g bs p351 HI.out B.out HC.out (by omega) (by omega)) fun x352 p352 hx352 hp352 w352 hk B HI2=>?_);replace F4:=bkr F4 HI (by decide) hk;replace KK:=kkr KK hk;replace HI:=HI2;clear hk;skip)
  | ((with_reducible refine gate_store (t:=29) (p:=4) rfl ?_);obtain ⟨y0,y1,y2,y3,z0,z1,z2,z3⟩:=cz4 F4;refine sxq 29 29 4 0 [.int .i64 (4),.string x101,.int .i64 (x352),.int .i64 (x351 - 1)] [.int .i64 (4),.string x101,.int .i64 (x352),.int .i64 (x351 - 1)] B F4 L4 fun w353 hk B G=>?_;replace HI:=his HI F4 (by decide) hk;replace KK:=kks KK M4 hk;replace F4:=G;clear hk y0 z0 y1 z1 y2 z2 y3 z3)
  | (go_at_call 71;(with_reducible refine cg1 (spec_l20Value.D 0 (by omega) w _ g bs p201 HI.out B.out HC.out (by omega) (by omega)) fun x401 p401 hx401 hp401 w401 hk B HI2=>?_);replace F4:=bkr F4 HI (by decide) hk;replace KK:=kkr KK hk;replace HI:=HI2;clear hk;skip)
  | ((with_reducible refine gate_store (t:=29) (p:=4) rfl ?_);obtain ⟨y0,y1,y2,y3,z0,z1,z2,z3⟩:=cz4 F4;refine sxq 29 29 4 0 [.int .i64 (2),.string x101,.int .i64 (Int.tmod x401 1000),.int .i64 (0)] [.int .i64 (2),.string x101,.int .i64 (Int.tmod x401 1000),.int .i64 (0)] B F4 L4 fun w402 hk B G=>?_;replace HI:=his HI F4 (by decide) hk;replace KK:=kks KK M4 hk;replace F4:=G;clear hk y0 z0 y1 z1 y2 z2 y3 z3))
 all_goals (refine bodyPost_ret (results_single rfl (.cell g4 29 _ (0,0) _ rfl F4.out hu rfl (by kernel_rfl) .nil)) rfl ?_)
 all_goals first
  | exact ⟨_,_,_,_,_,rfl,(fun _=>cmd_drop HQ.out _ (.inl rfl)),⟨by omega,by omega⟩,HI.out,B.out,KK.out⟩
  | exact ⟨_,_,_,_,_,rfl,(fun _=>cmd_drop HQ.out _ (.inr rfl)),⟨by omega,by omega⟩,HI.out,B.out,KK.out⟩
  | exact ⟨_,_,_,_,_,rfl,(fun _=>cmd_swap HQ.out hx352.1 (hx352.2.1 (by omega)) hx351.1 (hx351.2.1 (by omega))),⟨by omega,by omega⟩,HI.out,B.out,KK.out⟩
  | exact ⟨_,_,_,_,_,rfl,(fun _=>cmd_put HQ.out (hx401 (by omega))),⟨by omega,by omega⟩,HI.out,B.out,KK.out⟩
  | exact ⟨_,_,_,_,_,rfl,(fun h=>by have h9:=hx2 h;simp_all),⟨by omega,by omega⟩,HI.out,B.out,KK.out⟩
theorem spec_l20Any.D (n : Int) (hn : n≤1000000) (w W0 : World) (g : Nat) (bs : List Int) (p : Int) (hI : IsS77 w W0 g bs p) (hB : Below w.heap.size w W0) (hc : Dw.Code bs) (h0 : 0≤p) (h1 : p≤1099503000000) :
  Calls Try.prog 59 #[.pointer (some ⟨g,0,none⟩),.int .i64 n] W0 fun e w'=>∃ x y u z p',e=.returned (.agg #[.int .i64 x,.string y,.int .i64 u,.int .i64 z])∧(n≤0→Dw.cmdB x y u z=true)∧Left w W0 g bs p 40 p' w':=by
 have hu:=Try.underlying29
 have B:=Aside0.mk hB
 have HI:=Aside0.mk hI
 have HC:=Aside0.mk hc
 have KK:=Aside0.mk (Kept.refl W0 (RB g))
 clear hB hI hc
 go_enter Try.func59,Try.ntmps59
 go_wp2_with (first
  | ((with_reducible refine gate_dst (N:=4) rfl ?_);refine bxq 4 #[.int .i64 (0),.string (⟨#[]⟩ : ByteArray),.int .i64 (0),.int .i64 (0)] 29 B fun g4 w1 hb B F4 L4 E4=>?_;have M4:=mbx E4 KK;replace HI:=hib HI hb;replace KK:=kkb KK hb;clear hb E4)
  | (go_at_call 67;(with_reducible refine cg4 (spec_l20Cmd.D n (by omega) w _ g bs p HI.out B.out HC.out (by omega) (by omega)) fun ca2 cb2 cc2 cd2 p2 hx2 hp2 w2 hk B HI2=>?_);replace F4:=bkr F4 HI (by decide) hk;replace KK:=kkr KK hk;replace HI:=HI2;clear hk;skip)
  | ((with_reducible refine gate_dst (N:=5) rfl ?_);refine bxq 5 #[.int .i64 (0),.string (⟨#[]⟩ : ByteArray),.int .i64 (0),.int .i64 (0)] 29 B fun g5 w3 hb B F5 L5 E5=>?_;have N4_5:=ne1 E5 F4;have M5:=mbx E5 KK;replace F4:=bn F4 hb;replace HI:=hib HI hb;replace KK:=kkb KK hb;obtain ⟨c5_0,c5_1,c5_2,c5_3⟩:=cs4 F5;clear hb E5)
  | ((with_reducible refine gate_store (t:=29) (p:=5) rfl ?_);obtain ⟨y0,y1,y2,y3,z0,z1,z2,z3⟩:=cz4 F5;refine sxq 29 29 5 0 [.int .i64 (ca2),.string cb2,.int .i64 (cc2),.int .i64 (cd2)] [.int .i64 (ca2),.string cb2,.int .i64 (cc2),.int .i64 (cd2)] B F5 L5 fun w4 hk B G=>?_;replace F4:=bk F4 hk N4_5.out;replace HI:=his HI F5 (by decide) hk;replace KK:=kks KK M5 hk;replace F5:=G;clear c5_0 c5_1 c5_2 c5_3;obtain ⟨c5_0,c5_1,c5_2,c5_3⟩:=cs4 F5;clear hk y0 z0 y1 z1 y2 z2 y3 z3)
  | (go_at_call 48;(with_reducible refine cg1 (spec_l20Rd_pick.D 5 w _ g bs p2 HI.out B.out HC.out (by omega) (by omega)) fun x5 p5 hx5 hp5 w5 hk B HI2=>?_);replace F4:=bkr F4 HI (by decide) hk;replace F5:=bkr F5 HI (by decide) hk;replace KK:=kkr KK hk;replace HI:=HI2;clear hk;clear c5_0 c5_1 c5_2 c5_3;obtain ⟨c5_0,c5_1,c5_2,c5_3⟩:=cs4 F5;skip)
  | (go_at_call 68;(with_reducible refine cg1 (spec_l20Key.D 0 (by omega) w _ g bs p5 HI.out B.out HC.out (by omega) (by omega)) fun x101 p101 hx101 hp101 w101 hk B HI2=>?_);replace F4:=bkr F4 HI (by decide) hk;replace KK:=kkr KK hk;replace HI:=HI2;clear hk;skip)
  | ((with_reducible refine gate_dst (N:=14) rfl ?_);refine lt Kd.string 9 ?hg (N:=14) ?hd ([((⟨#[]⟩ : ByteArray)),((⟨#[98]⟩ : ByteArray)),((⟨#[99]⟩ : ByteArray)),(x101)] : List ByteArray) [.string (⟨#[]⟩ : ByteArray),.string (⟨#[98]⟩ : ByteArray),.string (⟨#[99]⟩ : ByteArray),.string x101] ?hr (Reps.one (show Kd.M Kd.string _ _ _ ((⟨#[]⟩ : ByteArray)) [.string (⟨#[]⟩ : ByteArray)] from rfl) (Reps.one (show Kd.M Kd.string _ _ _ ((⟨#[98]⟩ : ByteArray)) [.string (⟨#[98]⟩ : ByteArray)] from rfl) (Reps.one (show Kd.M Kd.string _ _ _ ((⟨#[99]⟩ : ByteArray)) [.string (⟨#[99]⟩ : ByteArray)] from rfl) (Reps.one (show Kd.M Kd.string _ _ _ (x101) [.string x101] from rfl) (Reps.none _ _))))) (by simp) B ?_;(case hd | hg=>rfl);(case hr=>go_simp;first | done | rfl);intro z14 hz14 AL14 kL14 w102 hb B RL14 QL14;have MRL14:=mrf QL14 KK;replace F4:=bn F4 hb;replace HI:=hib HI hb;replace KK:=kkb KK hb;clear hb QL14)
  | (go_at_call 48;(with_reducible refine cg1 (spec_l20Rd_pick.D 4 w _ g bs p101 HI.out B.out HC.out (by omega) (by omega)) fun x103 p103 hx103 hp103 w103 hk B HI2=>?_);replace F4:=bkr F4 HI (by decide) hk;replace RL14:=rkr RL14 HI (by decide) hk;replace KK:=kkr KK hk;replace HI:=HI2;clear hk;skip;have hi103 : x103 < (z14.length : Int):=(by rw [← hz14];have:=hx103.2.1 (by omega);simpa using this);obtain ⟨ad103,hA103,y103⟩:=Kd.at_string (rc RL14) x103 hx103.1 hi103;have hq103 : (Dw.keyB (rdOf ByteArray.empty z14 x103) || decide ((rdOf ByteArray.empty z14 x103).size=0))=true:=all_rd (P:=fun y=>(Dw.keyB y || decide (y.size=0))=true) (by rw [← hz14];intro s hs;simp only [List.mem_cons,List.not_mem_nil,or_false] at hs;rcases hs with rfl | rfl | rfl | rfl;(decide +kernel);(decide +kernel);(decide +kernel);(rw [hx101 (by omega)];rfl)) hx103.1 hi103;have hj103:=hx103.1;generalize rdOf ByteArray.empty z14 x103=s103 at *;cases hA103;have j103:=eq_true hj103;have i103:=eq_true hi103)
  | ((with_reducible refine gate_store (t:=29) (p:=4) rfl ?_);obtain ⟨y0,y1,y2,y3,z0,z1,z2,z3⟩:=cz4 F4;refine sxq 29 29 4 0 [.int .i64 (5),.string s103,.int .i64 (0),.int .i64 (0)] [.int .i64 (5),.string s103,.int .i64 (0),.int .i64 (0)] B F4 L4 fun w104 hk B G=>?_;replace RL14:=rk RL14 F4 (by decide) hk;replace HI:=his HI F4 (by decide) hk;replace KK:=kks KK M4 hk;replace F4:=G;clear hk y0 z0 y1 z1 y2 z2 y3 z3)
  | ((with_reducible refine gate_store (t:=29) (p:=4) rfl ?_);obtain ⟨y0,y1,y2,y3,z0,z1,z2,z3⟩:=cz4 F4;refine sxq 29 29 4 0 [.int .i64 (ca2),.string cb2,.int .i64 (cc2),.int .i64 (cd2)] [.int .i64 (ca2),.string cb2,.int .i64 (cc2),.int .i64 (cd2)] B F4 L4 fun w151 hk B G=>?_;replace HI:=his HI F4 (by decide) hk;replace KK:=kks KK M4 hk;replace F4:=G;clear hk y0 z0 y1 z1 y2 z2 y3 z3))
 all_goals (refine bodyPost_ret (results_single rfl (.cell g4 29 _ (0,0) _ rfl F4.out hu rfl (by kernel_rfl) .nil)) rfl ?_)
 all_goals first
  | exact ⟨_,_,_,_,_,rfl,(fun _=>cmd_seal hq103),⟨by omega,by omega⟩,HI.out,B.out,KK.out⟩
  | exact ⟨_,_,_,_,_,rfl,hx2,⟨by omega,by omega⟩,HI.out,B.out,KK.out⟩

/-! Operations of a region that draws its order,one by one: a box,a literal,a row put behind a row. -/
section
variable {P : Program} {w W : World} {ops' : Array Oper} {o : Oper} {a : Act} {QE : Exit→Act→World→Prop} {Kc : Act→World→Prop}
variable {α β : Type} {b : Nat} {xs : List α}
theorem lts (d : Kd α) (e : Nat) (hw : Region.wanted o (yielded ops' a.tmps)=true) {N : Tmp} (hd : o.dst=some N) (xs : List α) (inner : List Value) (hrun : (execOp a.eval o).run P W=.ok (.value (.slice (some ⟨W.heap.size,0,none⟩) xs.length xs.length)) (W.alloc (.cells inner.toArray e)))
    (hp : Reps (d.M W W.heap.size (fun _=>True)) d.sz xs inner) (hm : xs.length≤9223372036854775807) (B : Aside0 (Below w.heap.size w W))
    (h : ∀ zs,xs=zs→∀ A kk w1,Below W.heap.size W w1→Aside0 (Below w.heap.size w w1)→Aside0 (Ow d e w1 w.heap.size (.slice A zs.length kk) zs)→Aside0 (Fr W (.slice A zs.length kk))→Kc (a.put (some N) (.slice A zs.length kk)) w1) :
    if Region.wanted o (yielded ops' a.tmps)=true then Oper.wp P o a W Kc QE else Kc (a.put (some N) undef) W:=by
  rw [← hd]
  refine Kd.R_lit_step d (w0:=W) W.heap.size e hw hd hrun hp (fun _ h=>h) trivial (Below.refl _ _) (Nat.le_refl _) hm fun v1 w1 hR hb hg hnew=>?_
  obtain ⟨A,kk,rfl⟩:=Kd.R_slice hR
  rw [hd]
  exact h xs rfl A kk w1 hb ⟨below_step B.out hb⟩ ⟨Kd.R_lower hR (below_size B.out)⟩ ⟨fun k hk=>Kd.R_base hR k hk⟩
end

def spec_l20Entry.T3 : Bool × List (List Nat × List Nat):=(true,[([],[]),([],[]),([1],[1]),([2],[2]),([],[]),([4],[4]),([5],[5]),([],[]),([7],[7]),([8],[8]),([],[]),([10],[10]),([11],[11]),([],[]),([0,3,6,9,12,13],[0,3,6,9,12,13]),([],[]),([15],[15]),([14,16],[14,16]),([17],[17]),([18,16,0,1,2,3,4,5,6,7,8,9,10,11,12,13,14,15,16,17,18],[18])])
def spec_l20Entry.B3 : List Nat:=[0,0,2,6,0,16,48,0,128,384,0,1024,3072,0,16383,0,32768,131071,262143,524287]
theorem spec_l20Entry.tab3 : rtab .any (opsOf Try.f47 3)=spec_l20Entry.T3:=by kernel_rfl
theorem spec_l20Entry.bits3 : waitsOk spec_l20Entry.T3.2 spec_l20Entry.B3=true:=by kernel_rfl
theorem ent_ok {a b k : Int} {y : ByteArray} {u z : Int} (h0 : 0≤a) (h1 : a < 4) (h2 : 0≤b) (h3 : b < 6) (hc : Dw.cmdB k y u z=true) : Dw.entOk (a,1 + b,k,y,u,z)=true:=by
 unfold Dw.entOk Dw.entB
 rw [decide_eq_true (show 0≤a∧a≤3 by omega),decide_eq_true (show 1≤1 + b∧1 + b≤999 by omega)]
 exact hc
theorem spec_l20Entry.D (n : Int) (hn : n≤1000000) (w W0 : World) (g : Nat) (bs : List Int) (p : Int) (hI : IsS77 w W0 g bs p) (hB : Below w.heap.size w W0) (hc : Dw.Code bs) (h0 : 0≤p) (h1 : p≤1099501000000) :
  Calls Try.prog 47 #[.pointer (some ⟨g,0,none⟩),.int .i64 n] W0 fun e w'=>∃ cl sq x y u z p',e=.returned (.agg #[.int .i64 cl,.int .i64 sq,.int .i64 x,.string y,.int .i64 u,.int .i64 z])∧(n≤0→Dw.entOk (cl,sq,x,y,u,z)=true)∧Left w W0 g bs p 50 p' w':=by
 have hu:=Try.underlying31
 have B:=Aside0.mk hB
 have HI:=Aside0.mk hI
 have HC:=Aside0.mk hc
 have KK:=Aside0.mk (Kept.refl W0 (RB g))
 clear hB hI hc
 go_enter Try.func47,Try.ntmps47
 go_wp2_with (first
  | ((with_reducible refine gate_dst (N:=4) rfl ?_);refine bxq 4 #[.int .i64 (0),.int .i64 (0),.int .i64 (0),.string (⟨#[]⟩ : ByteArray),.int .i64 (0),.int .i64 (0)] 31 B fun g4 w1 hb B F4 L4 E4=>?_;have M4:=mbx E4 KK;replace HI:=hib HI hb;replace KK:=kkb KK hb;clear hb E4)
  | (go_at_call 48;(with_reducible refine cg1 (spec_l20Rd_pick.D 4 w _ g bs p HI.out B.out HC.out (by omega) (by omega)) fun x2 p2 hx2 hp2 w2 hk B HI2=>?_);replace F4:=bkr F4 HI (by decide) hk;replace KK:=kkr KK hk;replace HI:=HI2;clear hk;skip)
  | (go_at_call 48;(with_reducible refine cg1 (spec_l20Rd_pick.D 6 w _ g bs p2 HI.out B.out HC.out (by omega) (by omega)) fun x3 p3 hx3 hp3 w3 hk B HI2=>?_);replace F4:=bkr F4 HI (by decide) hk;replace KK:=kkr KK hk;replace HI:=HI2;clear hk;skip)
  | (go_at_call 59;(with_reducible refine cg4 (spec_l20Any.D 0 (by omega) w _ g bs p3 HI.out B.out HC.out (by omega) (by omega)) fun ca4 cb4 cc4 cd4 p4 hx4 hp4 w4 hk B HI2=>?_);replace F4:=bkr F4 HI (by decide) hk;replace KK:=kkr KK hk;replace HI:=HI2;clear hk;skip)
  | ((with_reducible refine gate_dst (N:=5) rfl ?_);refine bxq 5 #[.int .i64 (0),.int .i64 (0),.int .i64 (0),.string (⟨#[]⟩ : ByteArray),.int .i64 (0),.int .i64 (0)] 31 B fun g5 w5 hb B F5 L5 E5=>?_;have N4_5:=ne1 E5 F4;have M5:=mbx E5 KK;replace F4:=bn F4 hb;replace HI:=hib HI hb;replace KK:=kkb KK hb;obtain ⟨c5_0,c5_1,c5_2,c5_3,c5_4,c5_5⟩:=cs6 F5;clear hb E5)
  | ((with_reducible refine gate_store (t:=31) (p:=5) rfl ?_);obtain ⟨y0,y1,y2,y3,y4,y5,z0,z1,z2,z3,z4,z5⟩:=cz6 F5;refine sxq 31 31 5 0 [.int .i64 (x2),.int .i64 ((1 + x3)),.int .i64 (ca4),.string cb4,.int .i64 (cc4),.int .i64 (cd4)] [.int .i64 (x2),.int .i64 ((1 + x3)),.int .i64 (ca4),.string cb4,.int .i64 (cc4),.int .i64 (cd4)] B F5 L5 fun w6 hk B G=>?_;replace F4:=bk F4 hk N4_5.out;replace HI:=his HI F5 (by decide) hk;replace KK:=kks KK M5 hk;replace F5:=G;clear c5_0 c5_1 c5_2 c5_3 c5_4 c5_5;obtain ⟨c5_0,c5_1,c5_2,c5_3,c5_4,c5_5⟩:=cs6 F5;clear hk y0 z0 y1 z1 y2 z2 y3 z3 y4 z4 y5 z5)
  | (go_at_call 60;(with_reducible refine cg1 (spec_l20Rd_odd.D n (by omega) w _ g bs p4 HI.out B.out HC.out (by omega) (by omega)) fun x7 p7 hx7 hp7 w7 hk B HI2=>?_);replace F4:=bkr F4 HI (by decide) hk;replace F5:=bkr F5 HI (by decide) hk;replace KK:=kkr KK hk;replace HI:=HI2;clear hk;clear c5_0 c5_1 c5_2 c5_3 c5_4 c5_5;obtain ⟨c5_0,c5_1,c5_2,c5_3,c5_4,c5_5⟩:=cs6 F5;skip)
  | ((with_reducible refine gate_store (t:=31) (p:=4) rfl ?_);obtain ⟨y0,y1,y2,y3,y4,y5,z0,z1,z2,z3,z4,z5⟩:=cz6 F4;refine sxq 31 31 4 0 [.int .i64 (x2),.int .i64 ((1 + x3)),.int .i64 (ca4),.string cb4,.int .i64 (cc4),.int .i64 (cd4)] [.int .i64 (x2),.int .i64 ((1 + x3)),.int .i64 (ca4),.string cb4,.int .i64 (cc4),.int .i64 (cd4)] B F4 L4 fun w201 hk B G=>?_;replace HI:=his HI F4 (by decide) hk;replace KK:=kks KK M4 hk;replace F4:=G;clear hk y0 z0 y1 z1 y2 z2 y3 z3 y4 z4 y5 z5))
 all_goals try (refine bodyPost_ret (results_single rfl (.cell g4 31 _ (0,0) _ rfl F4.out hu rfl (by kernel_rfl) .nil)) rfl ?_;first | exact ⟨_,_,_,_,_,_,_,rfl,(fun _=>ent_ok hx2.1 (hx2.2.1 (by omega)) hx3.1 (hx3.2.1 (by omega)) (hx4 (by omega))),⟨by omega,by omega⟩,HI.out,B.out,KK.out⟩ | exact ⟨_,_,_,_,_,_,_,rfl,(fun h=>by have h9:=hx7 h;simp_all),⟨by omega,by omega⟩,HI.out,B.out,KK.out⟩)
 all_goals (
  refine rg (n:=20) (S:=fun W=>W.heap[g5]?=some (.cells #[.int .i64 (x2),.int .i64 ((1 + x3)),.int .i64 (ca4),.string cb4,.int .i64 (cc4),.int .i64 (cd4)] 31 (0,0))) (ds:=[]) #[false,false,false,false,false,false,false,false,false,false,false,false,false,false,false,false,false,false,false,false] (by kernel_rfl) rfl rfl F5.out id B (fun w101 hb B hHeld=>?_)
  refine with_tabW spec_l20Entry.tab3 spec_l20Entry.bits3 (fun HT_ HW_=>?_)
  replace F4:=bn F4 hb
  replace F5:=bn F5 hb
  replace HI:=hib HI hb
  replace KK:=kkb KK hb
  clear hb
  refine join_ 3 (bits 20 131071) (σ:=Option Addr × Nat × List S31 × Int × Int) (fun (AL31,kL31,z31,ps33,xs33)=>[(17,.agg #[.int .i64 (0),.int .i64 (0),.int .i64 (0),.string (⟨#[]⟩ : ByteArray),.int .i64 (0),.int .i64 (0)]),(18,.pointer (some ⟨g5,2,none⟩)),(19,.agg #[.int .i64 (ca4),.string cb4,.int .i64 (cc4),.int .i64 (cd4)]),(20,.agg #[.int .i64 (4),.int .i64 (1),.int .i64 (ca4),.string cb4,.int .i64 (cc4),.int .i64 (cd4)]),(21,.pointer (some ⟨g5,2,none⟩)),(22,.agg #[.int .i64 (ca4),.string cb4,.int .i64 (cc4),.int .i64 (cd4)]),(23,.agg #[.int .i64 (-1),.int .i64 (1),.int .i64 (ca4),.string cb4,.int .i64 (cc4),.int .i64 (cd4)]),(24,.pointer (some ⟨g5,2,none⟩)),(25,.agg #[.int .i64 (ca4),.string cb4,.int .i64 (cc4),.int .i64 (cd4)]),(26,.agg #[.int .i64 (1),.int .i64 (0),.int .i64 (ca4),.string cb4,.int .i64 (cc4),.int .i64 (cd4)]),(27,.pointer (some ⟨g5,2,none⟩)),(28,.agg #[.int .i64 (ca4),.string cb4,.int .i64 (cc4),.int .i64 (cd4)]),(29,.agg #[.int .i64 (1),.int .i64 (1000),.int .i64 (ca4),.string cb4,.int .i64 (cc4),.int .i64 (cd4)]),(30,.agg #[.int .i64 (1),.int .i64 (1),.int .i64 (0),.string (⟨#[]⟩ : ByteArray),.int .i64 (0),.int .i64 (0)]),(31,.slice AL31 z31.length kL31),(32,.pointer (some ⟨g,0,none⟩)),(33,.int .i64 (xs33))]) (fun (AL31,kL31,z31,ps33,xs33) W=>Aside0 (Below w.heap.size w W)∧Aside0 (W.heap[g4]?=some (.cells #[.int .i64 (0),.int .i64 (0),.int .i64 (0),.string (⟨#[]⟩ : ByteArray),.int .i64 (0),.int .i64 (0)] 31 (0,0)))∧Aside0 (W.heap[g5]?=some (.cells #[.int .i64 (x2),.int .i64 ((1 + x3)),.int .i64 (ca4),.string cb4,.int .i64 (cc4),.int .i64 (cd4)] 31 (0,0)))∧Aside0 (Ow k31 31 W w.heap.size (.slice AL31 z31.length kL31) z31)∧Aside0 (IsS77 w W g bs ps33)∧Aside0 (Kept W0 W (RB g))∧Aside0 (Fr W0 (.slice AL31 z31.length kL31))∧(p7≤ps33∧ps33≤p7 + 1)∧(0≤xs33∧xs33 < 6)∧z31.length=6∧Aside0 (∀ k_,(.slice AL31 z31.length kL31 : Value).ownBlock=some k_→k_ ≠ g4)∧Aside0 (∀ k_,(.slice AL31 z31.length kL31 : Value).ownBlock=some k_→k_ ≠ g5)) ?_ (fun J=>?_)
  rotate_left
  ·refine pvq 0 (some 17) (bits 20 1) HT_ ?_
   refine pvq 1 (some 18) (bits 20 3) HT_ ?_
   refine tvq 2 (some 19) (bits 20 7) HT_ HW_ rfl hHeld (by intro w' hS;have s0:=hS;obtain ⟨q0,q1,q2,q3,q4,q5⟩:=cs6 (Aside0.mk s0);go_simp;with_reducible rfl) ?_
   refine pvq 3 (some 20) (bits 20 15) HT_ ?_
   refine pvq 4 (some 21) (bits 20 31) HT_ ?_
   refine tvq 5 (some 22) (bits 20 63) HT_ HW_ rfl hHeld (by intro w' hS;have s0:=hS;obtain ⟨q0,q1,q2,q3,q4,q5⟩:=cs6 (Aside0.mk s0);go_simp;with_reducible rfl) ?_
   refine pvq 6 (some 23) (bits 20 127) HT_ ?_
   refine pvq 7 (some 24) (bits 20 255) HT_ ?_
   refine tvq 8 (some 25) (bits 20 511) HT_ HW_ rfl hHeld (by intro w' hS;have s0:=hS;obtain ⟨q0,q1,q2,q3,q4,q5⟩:=cs6 (Aside0.mk s0);go_simp;with_reducible rfl) ?_
   refine pvq 9 (some 26) (bits 20 1023) HT_ ?_
   refine pvq 10 (some 27) (bits 20 2047) HT_ ?_
   refine tvq 11 (some 28) (bits 20 4095) HT_ HW_ rfl hHeld (by intro w' hS;have s0:=hS;obtain ⟨q0,q1,q2,q3,q4,q5⟩:=cs6 (Aside0.mk s0);go_simp;with_reducible rfl) ?_
   refine pvq 12 (some 29) (bits 20 8191) HT_ ?_
   refine pvq 13 (some 30) (bits 20 16383) HT_ ?_
   refine pvq 15 (some 32) (bits 20 49151) HT_ ?_
   refine nmq ?_
   refine two_ (i:=14) (j:=16) (Ni:=some 31) (Nj:=some 33) (bits 20 65535) (bits 20 114687) rfl rfl rfl rfl (two_of HT_.out (by kernel_rfl)) (by decide) (by decide) (fun K hK=>?_) (fun K hK=>?_)
   ·refine lts k31 31 (by rfl) rfl ([⟨0,0,0,(⟨#[]⟩ : ByteArray),0,0⟩,⟨4,1,ca4,cb4,cc4,cd4⟩,⟨-1,1,ca4,cb4,cc4,cd4⟩,⟨1,0,ca4,cb4,cc4,cd4⟩,⟨1,1000,ca4,cb4,cc4,cd4⟩,⟨1,1,0,(⟨#[]⟩ : ByteArray),0,0⟩] : List S31) [.int .i64 (0),.int .i64 (0),.int .i64 (0),.string (⟨#[]⟩ : ByteArray),.int .i64 (0),.int .i64 (0),.int .i64 (4),.int .i64 (1),.int .i64 (ca4),.string cb4,.int .i64 (cc4),.int .i64 (cd4),.int .i64 (-1),.int .i64 (1),.int .i64 (ca4),.string cb4,.int .i64 (cc4),.int .i64 (cd4),.int .i64 (1),.int .i64 (0),.int .i64 (ca4),.string cb4,.int .i64 (cc4),.int .i64 (cd4),.int .i64 (1),.int .i64 (1000),.int .i64 (ca4),.string cb4,.int .i64 (cc4),.int .i64 (cd4),.int .i64 (1),.int .i64 (1),.int .i64 (0),.string (⟨#[]⟩ : ByteArray),.int .i64 (0),.int .i64 (0)] ?hr (Reps.c6 (k31_mkM _ _ _ ⟨0,0,0,(⟨#[]⟩ : ByteArray),0,0⟩) (Reps.c6 (k31_mkM _ _ _ ⟨4,1,ca4,cb4,cc4,cd4⟩) (Reps.c6 (k31_mkM _ _ _ ⟨-1,1,ca4,cb4,cc4,cd4⟩) (Reps.c6 (k31_mkM _ _ _ ⟨1,0,ca4,cb4,cc4,cd4⟩) (Reps.c6 (k31_mkM _ _ _ ⟨1,1000,ca4,cb4,cc4,cd4⟩) (Reps.c6 (k31_mkM _ _ _ ⟨1,1,0,(⟨#[]⟩ : ByteArray),0,0⟩) (Reps.none _ _))))))) (by simp) B (fun z31 hz31 AL31 kL31 w102 hb B RL31 QL31=>?_)
    (case hr=>go_simp;first | done | rfl)
    have NB4_L31:=nb QL31 F4
    have NB5_L31:=nb QL31 F5
    have MRL31:=mrf QL31 KK
    replace F4:=bn F4 hb
    replace F5:=bn F5 hb
    replace HI:=hib HI hb
    replace KK:=kkb KK hb
    clear hb QL31
    refine hK.out _ _ F5.out (fun hHeld=>?_)
    clear hK K
    refine npq (some 31) ?_
    refine one_ (i:=16) (N:=some 33) (bits 20 131071) rfl rfl (one_of HT_.out (by kernel_rfl)) (by decide) (fun K hK=>?_)
    refine gsq Try.func48 #[.pointer (some ⟨g,0,none⟩),.int .i64 (6)] ?_
    (with_reducible refine cg1 (spec_l20Rd_pick.D 6 w _ g bs p7 HI.out B.out HC.out (by omega) (by omega)) fun xs33 ps33 hxs33 hps33 w103 hk B HI2=>?_)
    replace F4:=bkr F4 HI (by decide) hk
    replace F5:=bkr F5 HI (by decide) hk
    replace RL31:=rkr RL31 HI (by decide) hk
    replace KK:=kkr KK hk
    replace HI:=HI2
    clear hk
    refine ⟨_,rfl,?_⟩
    refine hK.out _ _ F5.out (fun hHeld=>?_)
    clear hK K
    refine npq (some 33) ?_
    refine norm_ (a':=_) ?_ (J ⟨AL31,kL31,z31,ps33,xs33⟩ _ ⟨B,F4,F5,RL31,HI,KK,MRL31,(by omega),⟨hxs33.1,hxs33.2.1 (by omega)⟩,(by rw [← hz31];rfl),NB4_L31,NB5_L31⟩)
    simp only [putAll,Act.put,za,zb,zc]
    try rfl
   ·refine gsq Try.func48 #[.pointer (some ⟨g,0,none⟩),.int .i64 (6)] ?_
    (with_reducible refine cg1 (spec_l20Rd_pick.D 6 w _ g bs p7 HI.out B.out HC.out (by omega) (by omega)) fun xs33 ps33 hxs33 hps33 w102 hk B HI2=>?_)
    replace F4:=bkr F4 HI (by decide) hk
    replace F5:=bkr F5 HI (by decide) hk
    replace KK:=kkr KK hk
    replace HI:=HI2
    clear hk
    refine ⟨_,rfl,?_⟩
    refine hK.out _ _ F5.out (fun hHeld=>?_)
    clear hK K
    refine npq (some 33) ?_
    refine one_ (i:=14) (N:=some 31) (bits 20 131071) rfl rfl (one_of HT_.out (by kernel_rfl)) (by decide) (fun K hK=>?_)
    refine lts k31 31 (by rfl) rfl ([⟨0,0,0,(⟨#[]⟩ : ByteArray),0,0⟩,⟨4,1,ca4,cb4,cc4,cd4⟩,⟨-1,1,ca4,cb4,cc4,cd4⟩,⟨1,0,ca4,cb4,cc4,cd4⟩,⟨1,1000,ca4,cb4,cc4,cd4⟩,⟨1,1,0,(⟨#[]⟩ : ByteArray),0,0⟩] : List S31) [.int .i64 (0),.int .i64 (0),.int .i64 (0),.string (⟨#[]⟩ : ByteArray),.int .i64 (0),.int .i64 (0),.int .i64 (4),.int .i64 (1),.int .i64 (ca4),.string cb4,.int .i64 (cc4),.int .i64 (cd4),.int .i64 (-1),.int .i64 (1),.int .i64 (ca4),.string cb4,.int .i64 (cc4),.int .i64 (cd4),.int .i64 (1),.int .i64 (0),.int .i64 (ca4),.string cb4,.int .i64 (cc4),.int .i64 (cd4),.int .i64 (1),.int .i64 (1000),.int .i64 (ca4),.string cb4,.int .i64 (cc4),.int .i64 (cd4),.int .i64 (1),.int .i64 (1),.int .i64 (0),.string (⟨#[]⟩ : ByteArray),.int .i64 (0),.int .i64 (0)] ?hr (Reps.c6 (k31_mkM _ _ _ ⟨0,0,0,(⟨#[]⟩ : ByteArray),0,0⟩) (Reps.c6 (k31_mkM _ _ _ ⟨4,1,ca4,cb4,cc4,cd4⟩) (Reps.c6 (k31_mkM _ _ _ ⟨-1,1,ca4,cb4,cc4,cd4⟩) (Reps.c6 (k31_mkM _ _ _ ⟨1,0,ca4,cb4,cc4,cd4⟩) (Reps.c6 (k31_mkM _ _ _ ⟨1,1000,ca4,cb4,cc4,cd4⟩) (Reps.c6 (k31_mkM _ _ _ ⟨1,1,0,(⟨#[]⟩ : ByteArray),0,0⟩) (Reps.none _ _))))))) (by simp) B (fun z31 hz31 AL31 kL31 w103 hb B RL31 QL31=>?_)
    (case hr=>go_simp;first | done | rfl)
    have NB4_L31:=nb QL31 F4
    have NB5_L31:=nb QL31 F5
    have MRL31:=mrf QL31 KK
    replace F4:=bn F4 hb
    replace F5:=bn F5 hb
    replace HI:=hib HI hb
    replace KK:=kkb KK hb
    clear hb QL31
    refine hK.out _ _ F5.out (fun hHeld=>?_)
    clear hK K
    refine npq (some 31) ?_
    refine norm_ (a':=_) ?_ (J ⟨AL31,kL31,z31,ps33,xs33⟩ _ ⟨B,F4,F5,RL31,HI,KK,MRL31,(by omega),⟨hxs33.1,hxs33.2.1 (by omega)⟩,(by rw [← hz31];rfl),NB4_L31,NB5_L31⟩)
    simp only [putAll,Act.put,za,zb,zc]
    try rfl
  rintro ⟨AL31,kL31,z31,ps33,xs33⟩ w104 ⟨B,F4,F5,RL31,HI,KK,MRL31,hpj3,hb33,hl31,NB4_L31,NB5_L31⟩
  refine norm_ (a':=?_) ?_ ?_
  rotate_left
  ·simp only [putAll,Act.put,za,zb,zc]
   rfl
  have his33 : xs33 < (z31.length : Int):=by omega
  obtain ⟨ads33,hAs33,ys33_0,ys33_1,ys33_2,ys33_3,ys33_4,ys33_5⟩:=at_T31 (rc RL31) xs33 hb33.1 his33
  have hjs33:=hb33.1
  generalize rd_T31 z31 xs33=ys33 at *
  cases hAs33
  have js33:=eq_true hjs33
  have is33:=eq_true his33
  refine pvq 17 (some 34) (bits 20 262143) HT_ ?_
  refine nmq ?_
  refine one_ (i:=18) (N:=some 35) (bits 20 524287) rfl rfl (one_of HT_.out (by kernel_rfl)) (by decide) (fun K hK=>?_)
  refine lds (N:=35) ?_
  refine hK.out _ _ F5.out (fun hHeld=>?_)
  clear hK K
  refine npq (some 35) ?_
  refine one_ (i:=19) (N:=none) (bits 20 1048575) rfl rfl (one_of HT_.out (by kernel_rfl)) (by decide) (fun K hK=>?_)
  obtain ⟨y0,y1,y2,y3,y4,y5,z0,z1,z2,z3,z4,z5⟩:=cz6 F4
  refine sxs (g:=g4) 0 [.int .i64 (ys33.f0),.int .i64 (ys33.f1),.int .i64 (ys33.f2.f0),.string ys33.f2.f1,.int .i64 (ys33.f2.f2),.int .i64 (ys33.f2.f3)] [.int .i64 (ys33.f0),.int .i64 (ys33.f1),.int .i64 (ys33.f2.f0),.string ys33.f2.f1,.int .i64 (ys33.f2.f2),.int .i64 (ys33.f2.f3)] (by rfl) rfl ?hr B F4 L4 rfl (Nat.le_of_ble_eq_true rfl) (fun w105 hk B G=>?_)
  (case hr=>go_simp;first | done | rfl)
  replace F5:=bk F5 hk N4_5.out.symm
  replace RL31:=rkn RL31 hk NB4_L31
  replace HI:=his HI F4 (by decide) hk
  replace KK:=kks KK M4 hk
  replace F4:=G
  clear hk y0 z0 y1 z1 y2 z2 y3 z3 y4 z4 y5 z5
  refine hK.out _ _ F5.out (fun hHeld=>?_)
  clear hK K
  refine done_ (done_of HT_.out (by kernel_rfl)) ?_)
 all_goals try go_wp2
 all_goals try (refine bodyPost_ret (results_single rfl (.cell g4 31 _ (0,0) _ rfl F4.out hu rfl (by kernel_rfl) .nil)) rfl ?_;first | exact ⟨_,_,_,_,_,_,_,rfl,(fun _=>ent_ok hx2.1 (hx2.2.1 (by omega)) hx3.1 (hx3.2.1 (by omega)) (hx4 (by omega))),⟨by omega,by omega⟩,HI.out,B.out,KK.out⟩ | exact ⟨_,_,_,_,_,_,_,rfl,(fun h=>by have h9:=hx7 h;simp_all),⟨by omega,by omega⟩,HI.out,B.out,KK.out⟩)

/-- a number is stored into a row of numbers -/
theorem esi {P : Program} {w W : World} {b e : Nat} {xs : List Int} {ops : Array Oper} {o : Oper} {rest : List Oper} {a : Act} {QE : Exit→Act→World→Prop} {g n c : Nat} {t : TypeId} {p : Tmp} {v : Operand} (hgd : o.guard=none) (ho : o.op=.store t (.tmp p) v) (hN : o.dst=none) (i : Nat) (y : Int) (hrun : (execOp a.eval o).run P W=.ok .skip (W.setCells g i [.int .i64 y]))
    (R : Aside0 (Ow (Kd.int .i64) e W b (.slice (some ⟨g,0,none⟩) n c) xs)) (hi : i < n) (B : Aside0 (Below w.heap.size w W)) (hb : w.heap.size≤g)
    (h : ∀ w',W.grownBy w' (some g)→Aside0 (Below w.heap.size w w')→Aside0 (Ow (Kd.int .i64) e w' b (.slice (some ⟨g,0,none⟩) n c) (xs.set i y))→wpList P ops QE rest a w') : wpList P ops QE (o :: rest) a W:=by
  obtain ⟨cs,hcl,hMM,hcc,hfz⟩:=rcells (0 : Int) R i hi
  refine es hgd ho hN i 0 [.int .i64 y] y ?_ R hi hcl hcc (Nat.le_refl 1) ?_ B hb h
  · rw [show i * (Kd.int .i64).sz + 0=i by show i * 1 + 0=i;omega]
    exact hrun
  · rw [List.take_zero,List.drop_of_length_le (by rw [hcl];exact Nat.le_refl 1)]
    exact (show Kd.M (Kd.int .i64) _ _ _ y [.int .i64 y] from rfl)
/-- what is ahead of it: the row's form,the cell -/
theorem esi_at {W : World} {b e : Nat} {xs : List Int} {g n c : Nat} (R : Aside0 (Ow (Kd.int .i64) e W b (.slice (some ⟨g,0,none⟩) n c) xs)) {i : Nat} (hi : i < n) : ∃ u,W.cell? ⟨g,i,none⟩=some u∧W.frozen? ⟨g,i,none⟩=false:=by
  obtain ⟨cs,hcl,hMM,hcc,hfz⟩:=rcells (0 : Int) R i hi
  obtain ⟨u,hu⟩ : ∃ u,cs[0]?=some u:=⟨_,List.getElem?_eq_getElem (by rw [hcl];decide)⟩
  have q0:=hcc 0 u hu
  have q1:=hfz 0
  rw [show i * (Kd.int .i64).sz + 0=i by show i * 1 + 0=i;omega] at q0 q1
  exact ⟨u,q0,q1⟩


theorem spec_DrawReadFrame.D (A0 : Option Addr) (c0 : Nat) (l : List Int) (w : World) (hr0 : Kd.C (Kd.int .u8) w A0 l.length l) (hc0 : l.length≤c0) (hs : ∀ x ∈ l,(Lit.int .u8 x).wf=true) : Calls Try.prog 32 #[.slice A0 l.length c0] w fun e w'=>∃ v0 xs t n,e=.returned (.tuple #[v0,.int .i64 t,.int .i64 n])∧(xs.length≤3000)∧Kd.R (Kd.int .i64) 3 w' w.heap.size (fun _=>True) v0 xs∧Below w.heap.size w w':=by
 obtain ⟨bs,hc,ho⟩:=Dw.spec_open l hs
 have B:=Aside0.mk (Below.refl w.heap.size w)
 have HR0:=Aside0.mk hr0
 have HC0:=Aside0.mk hc0
 have HC:=Aside0.mk hc
 have HO:=Aside0.mk ho
 clear hr0 hc0 hs hc ho
 have hu:=Try.underlying31
 obtain ⟨i3,hif3,_,_,_⟩:=info_parts info3
 go_enter Try.func32,Try.ntmps32
 go_wp2_with (first
  | (go_at_call 46;(with_reducible refine copen (spec_l20Open.calls _ _ l bs 0 w _ B.out HR0.out HC0.out HO.out) fun g w1 hb B HI=>?_);clear hb)
  | (go_at_call 52;(with_reducible refine cgr (spec_l20Bytes.D 14 (by omega) w _ g bs 0 HI.out B.out HC.out (by omega) (by omega)) fun zD2 AD2 kD2 p2 hx2 hp2 w2 hk B HI2 RD2 QD2=>?_);replace HI:=HI2;clear hk QD2;skip)
  | (go_at_call 48;(with_reducible refine cg1 (spec_l20Rd_pick.D 24 w _ g bs p2 HI.out B.out HC.out (by omega) (by omega)) fun x3 p3 hx3 hp3 w3 hk B HI2=>?_);replace RD2:=rkr RD2 HI (by decide) hk;replace HI:=HI2;clear hk;skip)
  | (go_at_call 47;(with_reducible refine cg6 (spec_l20Entry.D 0 (by omega) w _ g bs p3 HI.out B.out HC.out (by omega) (by omega)) fun ea4 eb4 ec4 ed4 ef4 eg4 p4 hx4 hp4 w4 hk B HI2=>?_);replace RD2:=rkr RD2 HI (by decide) hk;replace HI:=HI2;clear hk;skip)
  | (go_at_call 27;with_reducible refine crz (spec_FrameEntry.M x3 ea4 eb4 ec4 ed4 ef4 eg4 _) B fun zB5 hzB5 AB5 kB5 w5 hb B RB5 QB5=>?_;have DD2_B5:=fr QB5 RD2;replace RD2:=rn RD2 hb;replace HI:=hib HI hb;clear QB5;clear hb;obtain ⟨hf1,hf2⟩:=frm_ok hx3.1 (hx3.2.1 (by omega)) (hx4 (by omega)) hzB5;have hw27 : wrap64 ((zD2.length : Int) + 1)=(zD2.length : Int) + 1:=w64 (by omega) (by omega))
  | (go_at_call 48;(with_reducible refine cg1 (spec_l20Rd_pick.D 9 w _ g bs p4 HI.out B.out HC.out (by omega) (by omega)) fun x6 p6 hx6 hp6 w6 hk B HI2=>?_);replace RD2:=rkr RD2 HI (by decide) hk;replace RB5:=rkr RB5 HI (by decide) hk;replace HI:=HI2;clear hk;skip)
  | (go_at_call 48;(with_reducible refine cg1 (spec_l20Rd_pick.D ((zD2.length : Int) + 1) w _ g bs p6 HI.out B.out HC.out (by omega) (by omega)) fun x101 p101 hx101 hp101 w101 hk B HI2=>?_);replace RD2:=rkr RD2 HI (by decide) hk;replace HI:=HI2;clear hk;skip)
  | (go_at_call 48;(with_reducible refine cg1 (spec_l20Rd_pick.D 3 w _ g bs p101 HI.out B.out HC.out (by omega) (by omega)) fun x102 p102 hx102 hp102 w102 hk B HI2=>?_);replace RD2:=rkr RD2 HI (by decide) hk;replace HI:=HI2;clear hk;skip)
  | (go_at_call 48;(with_reducible refine cg1 (spec_l20Rd_pick.D (zB5.length : Int) w _ g bs p6 HI.out B.out HC.out (by omega) (by omega)) fun x151 p151 hx151 hp151 w151 hk B HI2=>?_);replace RD2:=rkr RD2 HI (by decide) hk;replace RB5:=rkr RB5 HI (by decide) hk;replace HI:=HI2;clear hk;skip;have hr8:=hx151.2.1 (by omega);have hcut1:=cut_to (P:=Try.prog) 27 3 .i64 Try.underlying27 hif3 AB5 zB5.length kB5 x151 hx151.1 (by omega) (rl RB5))
  | (go_at_call 48;(with_reducible refine cg1 (spec_l20Rd_pick.D 256 w _ g bs p151 HI.out B.out HC.out (by omega) (by omega)) fun x152 p152 hx152 hp152 w152 hk B HI2=>?_);replace RD2:=rkr RD2 HI (by decide) hk;replace RB5:=rkr RB5 HI (by decide) hk;replace HI:=HI2;clear hk;skip;obtain ⟨g0,hA0,hg0⟩:=rform RB5 (by omega);subst hA0;have hr9:=hx151.2.1 (by omega);have HLT : x151.toNat < zB5.length:=(by omega);obtain ⟨u9,q8,q9⟩:=esi_at RB5 HLT;have j8:=eq_true hx151.1;have j9:=eq_true hr9)
  | ((with_reducible refine gate_store (t:=3) (p:=43) rfl ?_);refine esi (t:=3) (p:=43) (v:=?vo153) ?hg ?ho ?hn (x151.toNat) (x152) ?hr RB5 HLT B hg0 ?_;(case ho | hg | hn=>rfl);(case hr=>go_simp;first | done | rfl);intro w153 hgr B RZ;have hg9 : World.grownBy _ w153 (Value.slice (some ⟨g0,0,none⟩) zB5.length kB5).ownBlock:=hgr;replace RD2:=rga RD2 rfl hg9 (fun k p q=>DD2_B5.out k q p);replace HI:=hig HI RB5 (by decide) hg9;replace RB5:=RZ;clear hgr hg9)
  | ((with_reducible refine gate_dst (N:=48) rfl ?_);refine lt (Kd.int .i64) 3 ?hg (N:=48) ?hd ([((x3 + 1)),(-1),(24)] : List Int) [.int .i64 ((x3 + 1)),.int .i64 (-1),.int .i64 (24)] ?hr (Reps.one (show Kd.M (Kd.int .i64) _ _ _ ((x3 + 1)) [.int .i64 ((x3 + 1))] from rfl) (Reps.one (show Kd.M (Kd.int .i64) _ _ _ (-1) [.int .i64 (-1)] from rfl) (Reps.one (show Kd.M (Kd.int .i64) _ _ _ (24) [.int .i64 (24)] from rfl) (Reps.none _ _)))) (by simp) B ?_;(case hd | hg=>rfl);(case hr=>go_simp;first | done | rfl);intro z48 hz48 AL48 kL48 w201 hb B RL48 QL48;have DD2_L48:=fr QL48 RD2;have DB5_L48:=fr QL48 RB5;replace RD2:=rn RD2 hb;replace RB5:=rn RB5 hb;replace HI:=hib HI hb;clear hb QL48)
  | (go_at_call 48;(with_reducible refine cg1 (spec_l20Rd_pick.D 3 w _ g bs p6 HI.out B.out HC.out (by omega) (by omega)) fun x202 p202 hx202 hp202 w202 hk B HI2=>?_);replace RD2:=rkr RD2 HI (by decide) hk;replace RB5:=rkr RB5 HI (by decide) hk;replace RL48:=rkr RL48 HI (by decide) hk;replace HI:=HI2;clear hk;skip;have hj202:=hx202.1;have hi202 : x202 < (z48.length : Int):=(by rw [← hz48];have:=hx202.2.1 (by omega);simpa using this);obtain ⟨ad202,hA202,y202⟩:=Kd.at_int (rc RL48) x202 hj202 hi202;generalize rd z48 x202=v202 at *;cases hA202;have fj202:=eq_true hj202;have fi202:=eq_true hi202)
  | ((with_reducible refine gate_builtin (b:=.append) (xs:=#[.tmp 62,.tmp 63]) rfl ?_);at_builtin;refine apx (Kd.int .i64) 3 rfl (.tmp 62) (.tmp 63) 27 (.int .i64 0) 8 rfl Try.underlying27 info3 rfl (by decide) (by omega) rfl rfl RB5 (rc RD2) (fun _ _ h=>h) (by have hzl : zB5.length≤53:=hf2;first | omega | (rw [List.length_set];omega)) B ?_;intro z64 hz64 AL64 kL64 w301 hg B RL64 hat;replace HI:=hig HI RB5 (by decide) hg;clear hg hat))
 all_goals (refine bodyPost_ret (results_list (rs:=[.tmp 2,.tmp 3,.tmp 4]) rfl (by simp) (.tmp (.tmp (.tmp .nil)))) rfl ?_)
 all_goals first
  | exact ⟨_,_,_,_,rfl,(by omega),RD2.out,B.out⟩
  | exact ⟨_,_,_,_,rfl,(by rw [List.length_take];omega),Kd.R_take RB5.out (show x151.toNat≤zB5.length by omega),B.out⟩
  | exact ⟨_,_,_,_,rfl,(by rw [← hz64,List.length_append];first | omega | (rw [List.length_set];omega)),RL64.out,B.out⟩

theorem laws_alive.M (w : World) : Calls Try.prog 25 #[] w fun e w'=>e=.returned (.bool true)∧Below w.heap.size w w':=laws_alive.calls 12 true w (by decide +kernel)

theorem same_command (d : Nat) (w : World) (x0 : Int) (x1 : ByteArray) (x2 x3 : Int) :
  (Op.equalIn (d + 2) 29 (.agg #[.int .i64 x0,.string x1,.int .i64 x2,.int .i64 x3]) (.agg #[.int .i64 x0,.string x1,.int .i64 x2,.int .i64 x3])).run Try.prog w=.ok true w:=by
 have h : (Op.equalIn (d + 2) 29 (.agg #[.int .i64 x0,.string x1,.int .i64 x2,.int .i64 x3]) (.agg #[.int .i64 x0,.string x1,.int .i64 x2,.int .i64 x3])).run Try.prog w=.ok (x0 == x0 && (x1.toList == x1.toList && (x2 == x2 && x3 == x3))) w:=by
  refine eqA_of Try.underlying29 (by kernel_rfl) ?_
  refine eqf_cons (by rfl) (by first | (go_simp;done) | (go_simp;rfl)) (by first | (go_simp;done) | (go_simp;rfl)) (by go_simp) ?_
  refine eqf_cons (by rfl) (by first | (go_simp;done) | (go_simp;rfl)) (by first | (go_simp;done) | (go_simp;rfl)) (by go_simp) ?_
  refine eqf_cons (by rfl) (by first | (go_simp;done) | (go_simp;rfl)) (by first | (go_simp;done) | (go_simp;rfl)) (by go_simp) ?_
  exact eqf_last (by rfl) (by first | (go_simp;done) | (go_simp;rfl)) (by first | (go_simp;done) | (go_simp;rfl)) (by go_simp)
 rwa [show (x0 == x0 && (x1.toList == x1.toList && (x2 == x2 && x3 == x3)))=true by simp] at h
theorem same_entry (d : Nat) (w : World) (c s x0 : Int) (x1 : ByteArray) (x2 x3 : Int) :
  (Op.equalIn (d + 3) 31 (.agg #[.int .i64 c,.int .i64 s,.int .i64 x0,.string x1,.int .i64 x2,.int .i64 x3]) (.agg #[.int .i64 c,.int .i64 s,.int .i64 x0,.string x1,.int .i64 x2,.int .i64 x3])).run Try.prog w=.ok true w:=by
 have h : (Op.equalIn (d + 3) 31 (.agg #[.int .i64 c,.int .i64 s,.int .i64 x0,.string x1,.int .i64 x2,.int .i64 x3]) (.agg #[.int .i64 c,.int .i64 s,.int .i64 x0,.string x1,.int .i64 x2,.int .i64 x3])).run Try.prog w=.ok (c == c && (s == s && true)) w:=by
  refine eqA_of Try.underlying31 (by kernel_rfl) ?_
  refine eqf_cons (by rfl) (by first | (go_simp;done) | (go_simp;rfl)) (by first | (go_simp;done) | (go_simp;rfl)) (by go_simp) ?_
  refine eqf_cons (by rfl) (by first | (go_simp;done) | (go_simp;rfl)) (by first | (go_simp;done) | (go_simp;rfl)) (by go_simp) ?_
  exact eqf_last (by rfl) (by first | (go_simp;done) | (go_simp;rfl)) (by first | (go_simp;done) | (go_simp;rfl)) (same_command d w x0 x1 x2 x3)
 rwa [show (c == c && (s == s && true))=true by simp] at h

theorem sameI_loop (xs : List Int) (hn : xs.length≤2097152) (d : Nat) : ∀ (j : Nat),j + d=xs.length→∀ k,d + 1≤k→laws_sameInts.l0 k xs xs (j : Int)=some true:=by
 induction d with
 | zero =>
  intro j hj k hk
  obtain ⟨k,rfl⟩ : ∃ i,k=i + 1:=⟨k - 1,by omega⟩
  simp only [laws_sameInts.l0]
  rw [if_neg (by omega)]
 | succ d ih =>
  intro j hj k hk
  obtain ⟨k,rfl⟩ : ∃ i,k=i + 1:=⟨k - 1,by omega⟩
  have e:=ih (j + 1) (by omega) k (by omega)
  simp only [laws_sameInts.l0]
  rw [if_pos (by omega),if_pos (by omega),if_pos (by omega),if_pos trivial,w64 (by omega) (by omega)]
  simpa using e
theorem laws_sameInts.M (A0 : Option Addr) (c0 : Nat) (A1 : Option Addr) (c1 : Nat) (l m : List Int) (he : l=m) (W : World) (h0 : Kd.C (Kd.int .i64) W A0 l.length l) (hc0 : l.length≤c0) (h1 : Kd.C (Kd.int .i64) W A1 m.length m) (hc1 : m.length≤c1) (hn : m.length≤2097152) :
  Calls Try.prog 23 #[.slice A0 l.length c0,.slice A1 m.length c1] W fun e w'=>e=.returned (.bool true)∧Below W.heap.size W w':=by
 subst he
 refine (laws_sameInts.calls (l.length + 21) A0 c0 l A1 c1 l true W h0 hc0 h1 hc1 ?_).mono (fun _ _ h=>⟨h.1,h.2.below⟩)
 unfold laws_sameInts.f
 rw [if_pos rfl]
 simpa using sameI_loop l hn l.length 0 (by omega) (l.length + 21) (by omega)
theorem cdrf {P : Program} {F : FuncId} {args : Array Value} {w W : World} {Q : Ending→World→Prop} {d : Kd Int} {e : Nat} {f : Value→Int→Int→Value} {q : List Int→Prop} (c : Calls P F args W fun r w'=>∃ v0 xs t n,r=.returned (f v0 t n)∧q xs∧Kd.R d e w' W.heap.size (fun _=>True) v0 xs∧Below W.heap.size W w') (B : Aside0 (Below w.heap.size w W))
  (h : ∀ t n xs A kk W',q xs→Below W.heap.size W W'→Aside0 (Below w.heap.size w W')→Aside0 (Ow d e W' w.heap.size (.slice A xs.length kk) xs)→Q (.returned (f (.slice A xs.length kk) t n)) W') : Calls P F args W Q :=
 c.mono (by
  rintro r W' ⟨v0,xs,t,n,rfl,hq,ho,hb⟩
  obtain ⟨A,kk,rfl⟩:=Kd.R_slice ho
  exact h t n xs A kk W' hq hb ⟨below_step B.out hb⟩ ⟨Kd.R_lower ho (below_size B.out)⟩)
def laws_FnReadFrame.T12 : Bool × List (List Nat × List Nat):=(true,[([],[]),([],[]),([0,1],[0,1]),([],[]),([],[]),([],[]),([3,4,5],[3,4,5]),([2,6,2],[2,6]),([7,7,0,1,2,3,4,5,6,7],[7])])
def laws_FnReadFrame.B12 : List Nat:=[0,0,3,0,0,0,56,127,255]
theorem laws_FnReadFrame.tab12 : rtab .any (opsOf Try.f10 12)=laws_FnReadFrame.T12:=by kernel_rfl
theorem laws_FnReadFrame.bits12 : waitsOk laws_FnReadFrame.T12.2 laws_FnReadFrame.B12=true:=by kernel_rfl
theorem laws_FnReadFrame.M (A0 : Option Addr) (c0 : Nat) (l : List Int) (w : World) (hr0 : Kd.C (Kd.int .u8) w A0 l.length l) (hc0 : l.length≤c0) (hs : ∀ x ∈ l,(Lit.int .u8 x).wf=true) : Calls Try.prog 10 #[.slice A0 l.length c0] w fun e w'=>e=.returned (.bool true)∧Below w.heap.size w w':=by
 have B:=Aside0.mk (Below.refl w.heap.size w)
 have HR0:=Aside0.mk hr0
 have HC0:=Aside0.mk hc0
 clear hr0 hc0
 have hu:=Try.underlying31
 have HSL:=Aside0.mk hs
 clear hs
 go_enter Try.func10,Try.ntmps10
 go_wp2_with (first
  | (go_at_call 32;(with_reducible refine cdrf (spec_DrawReadFrame.D A0 c0 l w HR0.out HC0.out HSL.out) B fun t n bb AY kY w0 hq hb B RY=>?_);clear hb;refine Stop.out ?_))
 ·go_ret
  exact ⟨rfl,B.out⟩
 refine ⟨?_⟩
 obtain ⟨⟨⟨e1,e2,e3,e4,e5,e6⟩,q⟩,hm⟩ : ∃ r,Dw.rdf bb t n=r:=⟨_,rfl⟩
 rcases Dw.rdf_facts hm with ⟨h1,h2⟩ | ⟨h1,h2,h3,h4⟩
 ·cases h2
  subst h1
  have HM:=Aside0.mk hm
  have heq:=fun (d : Nat) (W : World)=>same_entry d W 0 0 0 (⟨#[]⟩ : ByteArray) 0 0
  clear hm
  go_wp2_with (first
   | (go_at_call 30;with_reducible refine cl (impl_ReadFrame.M _ _ bb t n 0 0 0 (⟨#[]⟩ : ByteArray) 0 0 (-1) HM.out _ (rc RY) (rl RY)) B fun w1 hb B=>?_;replace RY:=rn RY hb;clear hb)
   | ((with_reducible refine gate_dst (N:=6) rfl ?_);refine bxq 6 #[.int .i64 (0),.int .i64 (0),.int .i64 (0),.string (⟨#[]⟩ : ByteArray),.int .i64 (0),.int .i64 (0)] 31 B fun g6 w2 hb B F6 L6 E6=>?_;replace RY:=rn RY hb;obtain ⟨c6_0,c6_1,c6_2,c6_3,c6_4,c6_5⟩:=cs6 F6;clear hb E6)
   | ((with_reducible refine gate_store (t:=31) (p:=6) rfl ?_);obtain ⟨y0,y1,y2,y3,y4,y5,z0,z1,z2,z3,z4,z5⟩:=cz6 F6;refine sxq 31 31 6 0 [.int .i64 (0),.int .i64 (0),.int .i64 (0),.string (⟨#[]⟩ : ByteArray),.int .i64 (0),.int .i64 (0)] [.int .i64 (0),.int .i64 (0),.int .i64 (0),.string (⟨#[]⟩ : ByteArray),.int .i64 (0),.int .i64 (0)] B F6 L6 fun w3 hk B G=>?_;replace RY:=rk RY F6 (by decide) hk;replace F6:=G;clear c6_0 c6_1 c6_2 c6_3 c6_4 c6_5;obtain ⟨c6_0,c6_1,c6_2,c6_3,c6_4,c6_5⟩:=cs6 F6;clear hk y0 z0 y1 z1 y2 z2 y3 z3 y4 z4 y5 z5)
   | (go_at_call 29;with_reducible refine cl (spec_ReadFrame.M _ _ bb t n 0 0 0 (⟨#[]⟩ : ByteArray) 0 0 (-1) HM.out _ (rc RY) (rl RY)) B fun w4 hb B=>?_;replace F6:=bn F6 hb;clear c6_0 c6_1 c6_2 c6_3 c6_4 c6_5;obtain ⟨c6_0,c6_1,c6_2,c6_3,c6_4,c6_5⟩:=cs6 F6;clear hb)
   | ((with_reducible refine gate_dst (N:=8) rfl ?_);refine bxq 8 #[.int .i64 (0),.int .i64 (0),.int .i64 (0),.string (⟨#[]⟩ : ByteArray),.int .i64 (0),.int .i64 (0)] 31 B fun g8 w5 hb B F8 L8 E8=>?_;have N6_8:=ne1 E8 F6;replace F6:=bn F6 hb;clear c6_0 c6_1 c6_2 c6_3 c6_4 c6_5;obtain ⟨c6_0,c6_1,c6_2,c6_3,c6_4,c6_5⟩:=cs6 F6;obtain ⟨c8_0,c8_1,c8_2,c8_3,c8_4,c8_5⟩:=cs6 F8;clear hb E8)
   | ((with_reducible refine gate_store (t:=31) (p:=8) rfl ?_);obtain ⟨y0,y1,y2,y3,y4,y5,z0,z1,z2,z3,z4,z5⟩:=cz6 F8;refine sxq 31 31 8 0 [.int .i64 (0),.int .i64 (0),.int .i64 (0),.string (⟨#[]⟩ : ByteArray),.int .i64 (0),.int .i64 (0)] [.int .i64 (0),.int .i64 (0),.int .i64 (0),.string (⟨#[]⟩ : ByteArray),.int .i64 (0),.int .i64 (0)] B F8 L8 fun w6 hk B G=>?_;replace F6:=bk F6 hk N6_8.out;replace F8:=G;clear c6_0 c6_1 c6_2 c6_3 c6_4 c6_5;obtain ⟨c6_0,c6_1,c6_2,c6_3,c6_4,c6_5⟩:=cs6 F6;clear c8_0 c8_1 c8_2 c8_3 c8_4 c8_5;obtain ⟨c8_0,c8_1,c8_2,c8_3,c8_4,c8_5⟩:=cs6 F8;clear hk y0 z0 y1 z1 y2 z2 y3 z3 y4 z4 y5 z5)
   | (go_at_call 25;with_reducible refine cl (laws_alive.M _) B fun w7 hb B=>?_;clear hb))
  all_goals go_ret
  all_goals exact ⟨by first | rfl | (simp;done) | (simp_all;done),B.out⟩
 ·have HM:=Aside0.mk hm
  have heq:=fun (d : Nat) (W : World)=>same_entry d W e1 e2 e3 e4 e5 e6
  have hfl:=Dw.frmB_length n (e1,e2,e3,e4,e5,e6)
  obtain ⟨i0,hif,_,hsz,_⟩:=info_parts info3
  obtain ⟨A1,hcut,hA,hk3⟩:=print_mid_of (P:=Try.prog) (Value.int .i64) 0 27 3 .i64 .i64 Try.underlying27 hif hsz AY kY bb t q h1 (by omega) h3 (rl RY)
  have CUT:=Aside0.mk (fun {W : World} (hW : Kd.C (Kd.int .i64) W AY bb.length bb)=>(show Kd.C (Kd.int .i64) W A1 _ ((bb.take q.toNat).drop t.toNat) from Kd.C_of_reads (h1:=fun _=>rfl) (hA W (Kd.reads_of_C hW))))
  rw [h4] at hcut hk3 CUT
  obtain ⟨fb,hfb⟩ : ∃ fb,Dw.frmB n (e1,e2,e3,e4,e5,e6)=fb:=⟨_,rfl⟩
  rw [hfb] at hcut hk3 CUT hfl
  have HFB:=Aside0.mk hfb
  have hb5 : fb.length≤2097152:=by omega
  have n0 : decide (q < 0)=false:=decide_eq_false (by omega)
  have n1 : decide (t < 0)=false:=decide_eq_false (by omega)
  have n2 : decide (q≤t)=false:=decide_eq_false (by omega)
  have n3 : decide ((bb.length : Int) < q)=false:=decide_eq_false (by omega)
  clear hm hA h4 hfb hif hsz hfl
  go_wp2_with (first
   | (go_at_call 30;with_reducible refine cl (impl_ReadFrame.M _ _ bb t n e1 e2 e3 e4 e5 e6 q HM.out _ (rc RY) (rl RY)) B fun w501 hb B=>?_;replace RY:=rn RY hb;clear hb)
   | ((with_reducible refine gate_dst (N:=6) rfl ?_);refine bxq 6 #[.int .i64 (0),.int .i64 (0),.int .i64 (0),.string (⟨#[]⟩ : ByteArray),.int .i64 (0),.int .i64 (0)] 31 B fun g6 w502 hb B F6 L6 E6=>?_;replace RY:=rn RY hb;obtain ⟨c6_0,c6_1,c6_2,c6_3,c6_4,c6_5⟩:=cs6 F6;clear hb E6)
   | ((with_reducible refine gate_store (t:=31) (p:=6) rfl ?_);obtain ⟨y0,y1,y2,y3,y4,y5,z0,z1,z2,z3,z4,z5⟩:=cz6 F6;refine sxq 31 31 6 0 [.int .i64 (e1),.int .i64 (e2),.int .i64 (e3),.string e4,.int .i64 (e5),.int .i64 (e6)] [.int .i64 (e1),.int .i64 (e2),.int .i64 (e3),.string e4,.int .i64 (e5),.int .i64 (e6)] B F6 L6 fun w503 hk B G=>?_;replace RY:=rk RY F6 (by decide) hk;replace F6:=G;clear c6_0 c6_1 c6_2 c6_3 c6_4 c6_5;obtain ⟨c6_0,c6_1,c6_2,c6_3,c6_4,c6_5⟩:=cs6 F6;clear hk y0 z0 y1 z1 y2 z2 y3 z3 y4 z4 y5 z5)
   | (go_at_call 29;with_reducible refine cl (spec_ReadFrame.M _ _ bb t n e1 e2 e3 e4 e5 e6 q HM.out _ (rc RY) (rl RY)) B fun w504 hb B=>?_;replace F6:=bn F6 hb;replace RY:=rn RY hb;clear c6_0 c6_1 c6_2 c6_3 c6_4 c6_5;obtain ⟨c6_0,c6_1,c6_2,c6_3,c6_4,c6_5⟩:=cs6 F6;clear hb)
   | ((with_reducible refine gate_dst (N:=8) rfl ?_);refine bxq 8 #[.int .i64 (0),.int .i64 (0),.int .i64 (0),.string (⟨#[]⟩ : ByteArray),.int .i64 (0),.int .i64 (0)] 31 B fun g8 w505 hb B F8 L8 E8=>?_;have N6_8:=ne1 E8 F6;replace F6:=bn F6 hb;replace RY:=rn RY hb;clear c6_0 c6_1 c6_2 c6_3 c6_4 c6_5;obtain ⟨c6_0,c6_1,c6_2,c6_3,c6_4,c6_5⟩:=cs6 F6;obtain ⟨c8_0,c8_1,c8_2,c8_3,c8_4,c8_5⟩:=cs6 F8;clear hb E8)
   | ((with_reducible refine gate_store (t:=31) (p:=8) rfl ?_);obtain ⟨y0,y1,y2,y3,y4,y5,z0,z1,z2,z3,z4,z5⟩:=cz6 F8;refine sxq 31 31 8 0 [.int .i64 (e1),.int .i64 (e2),.int .i64 (e3),.string e4,.int .i64 (e5),.int .i64 (e6)] [.int .i64 (e1),.int .i64 (e2),.int .i64 (e3),.string e4,.int .i64 (e5),.int .i64 (e6)] B F8 L8 fun w506 hk B G=>?_;replace F6:=bk F6 hk N6_8.out;replace RY:=rk RY F8 (by decide) hk;replace F8:=G;clear c6_0 c6_1 c6_2 c6_3 c6_4 c6_5;obtain ⟨c6_0,c6_1,c6_2,c6_3,c6_4,c6_5⟩:=cs6 F6;clear c8_0 c8_1 c8_2 c8_3 c8_4 c8_5;obtain ⟨c8_0,c8_1,c8_2,c8_3,c8_4,c8_5⟩:=cs6 F8;clear hk y0 z0 y1 z1 y2 z2 y3 z3 y4 z4 y5 z5))
  all_goals (
   refine rg (n:=9) (S:=fun W=>W.heap[g6]?=some (.cells #[.int .i64 (e1),.int .i64 (e2),.int .i64 (e3),.string e4,.int .i64 (e5),.int .i64 (e6)] 31 (0,0))) (ds:=[]) #[false,false,false,false,false,false,false,false,false] (by kernel_rfl) rfl rfl F6.out id B (fun w507 hb B hHeld=>?_)
   refine with_tabW laws_FnReadFrame.tab12 laws_FnReadFrame.bits12 (fun HT_ HW_=>?_)
   replace F6:=bn F6 hb
   replace RY:=rn RY hb
   clear hb
   refine pvq 0 (some 66) (bits 9 1) HT_ ?_
   refine tvq 1 (some 67) (bits 9 3) HT_ HW_ rfl hHeld (by intro w' hS;have s0:=hS;obtain ⟨q0,q1,q2,q3,q4,q5⟩:=cs6 (Aside0.mk s0);go_simp;with_reducible rfl) ?_
   refine pvq 3 (some 69) (bits 9 11) HT_ ?_
   refine pvq 4 (some 70) (bits 9 27) HT_ ?_
   refine pvq 5 (some 71) (bits 9 59) HT_ ?_
   refine pvq 6 (some 72) (bits 9 123) HT_ ?_
   refine nmq ?_
   refine one_ (i:=2) (N:=some 68) (bits 9 127) rfl rfl (one_of HT_.out (by kernel_rfl)) (by decide) (fun K hK=>?_)
   refine gsq Try.func28 #[.int .i64 (n),.agg #[.int .i64 (e1),.int .i64 (e2),.int .i64 (e3),.string e4,.int .i64 (e5),.int .i64 (e6)]] ?_
   with_reducible refine crz (impl_FrameEntry.M n e1 e2 e3 e4 e5 e6 w507) B fun zB508 hzB508 AB508 kB508 w508 hb B RB508 QB508=>?_
   have DY_B508:=fr QB508 RY
   replace F6:=bn F6 hb
   replace RY:=rn RY hb
   clear hb
   refine ⟨_,rfl,?_⟩
   refine hK.out _ _ F6.out (fun hHeld=>?_)
   clear hK K
   refine npq (some 68) ?_
   clear QB508
   refine one_ (i:=7) (N:=some 73) (bits 9 255) rfl rfl (one_of HT_.out (by kernel_rfl)) (by decide) (fun K hK=>?_)
   refine gsq Try.func23 #[.slice AB508 zB508.length kB508,.slice A1 fb.length (kY - t.toNat)] ?_
   with_reducible refine cl (laws_sameInts.M _ _ _ _ zB508 fb (hzB508.symm.trans HFB.out) w508 (rc RB508) (rl RB508) (CUT.out (rc RY)) hk3 (by assumption)) B fun w509 hb B=>?_
   replace F6:=bn F6 hb
   replace RY:=rn RY hb
   clear hb
   refine ⟨_,rfl,?_⟩
   refine hK.out _ _ F6.out (fun hHeld=>?_)
   clear hK K
   refine npq (some 73) ?_
   refine pvq 8 (some 2) (bits 9 511) HT_ ?_
   refine nmq ?_
   refine done_ (done_of HT_.out (by kernel_rfl)) ?_)
  all_goals try go_wp2
  all_goals go_ret
  all_goals exact ⟨by first | rfl | (simp;done) | (simp_all;done),B.out⟩
def laws_FnReadFrame.f (k : Nat) (l : List Int) : Option Bool:=if ∀ x ∈ l,(Lit.int .u8 x).wf=true then some true else none
theorem laws_FnReadFrame.calls (k : Nat) (A0 : Option Addr) (c0 : Nat) (l : List Int) (r : Bool) (w : World) (hr0 : Kd.C (Kd.int .u8) w A0 l.length l) (hc0 : l.length≤c0) (h : laws_FnReadFrame.f k l=some r) : Calls Try.prog 10 #[.slice A0 l.length c0] w fun e w'=>e=.returned (.bool r)∧Below w.heap.size w w':=by
 unfold laws_FnReadFrame.f at h
 split at h
 ·rename_i hc
  obtain rfl:=Option.some.inj h
  exact laws_FnReadFrame.M A0 c0 l w hr0 hc0 hc
 ·cases h

end Go.Proofs.Ytlimhkjnnpmpkaa.PFnReadFrame
