/- Walks over models, part 2: rdv rdpairs rdses rdspan spin rdstate rd4 rdcmd rdent rdlog drreplay drae nostE lawFnReplay. -/
import Derived.Test.YthofkheehldioaaPFnReplayx0
import Derived.Deep.RegionHeld3
import Derived.Test.YthofkheehldioaaPFnReplayx84
import Derived.Lib.Strings
import Derived.Laws.BytesArg
import Derived.Test.YthofkheehldioaaPFnReplayx4
import Derived.Test.YthofkheehldioaaPFnReplayx5
import Derived.Test.YthofkheehldioaaPFnReplayx22
import Derived.Test.YthofkheehldioaaPFnReplayx66
import Derived.Test.YthofkheehldioaaPFnReplayx67
import Derived.Test.YthofkheehldioaaPFnReplayx65
import Derived.Test.YthofkheehldioaaPFnReplayx74
import Derived.Test.YthofkheehldioaaPFnReplayx73
import Derived.Test.YthofkheehldioaaMFnReplay0
import Derived.Test.YthofkheehldioaaMFnReplay1
namespace Go.Proofs.Ythofkheehldioaa.PFnReplay
open Go.RowKit Go.Proofs.YthofkheehldioaaW.PrintWords Go.Proofs.YthofkheehldioaaW.PrintLast Go.Proofs.YthofkheehldioaaW.PrintMore
set_option linter.unusedVariables false
set_option linter.unusedSimpArgs false
set_option maxHeartbeats 4000000
set_option maxRecDepth 100000
attribute [local go_sem] leq_str geq_str gtr_str
namespace Dw
/-! Eventually: for all large enough numbers of rounds;small lemmas on numbers and lists. -/
def Evn (P : Nat→Prop) : Prop:=∃ K,∀ k,K≤k→P k
theorem Evn.all {P : Nat→Prop} (h : ∀ k,P k) : Evn P:=⟨0,fun k _=>h k⟩
theorem Evn.mp {P Q : Nat→Prop} (hp : Evn P) (hq : Evn fun k=>P k→Q k) : Evn Q:=by
 obtain ⟨K1,h1⟩:=hp
 obtain ⟨K2,h2⟩:=hq
 exact ⟨max K1 K2,fun k hk=>h2 k (by omega) (h1 k (by omega))⟩
theorem Evn.succ {P : Nat→Prop} (h : Evn fun k=>P (k + 1)) : Evn P:=by
 obtain ⟨K,h⟩:=h
 refine ⟨K + 1,fun k hk=>?_⟩
 obtain ⟨m,rfl⟩ : ∃ m,k=m + 1:=⟨k - 1,by omega⟩
 exact h m (by omega)
theorem Evn.some {P : Nat→Prop} (h : Evn P) : ∃ k,P k:=by
 obtain ⟨K,h⟩:=h
 exact ⟨K,h K (Nat.le_refl K)⟩
theorem w64 {x : Int} (h0 : -9223372036854775808≤x) (h1 : x≤9223372036854775807) : wrap64 x=x:=by
 unfold wrap64
 omega
theorem rd_drop {xs : List Int} {j : Nat} (h : j < xs.length) : xs.drop j=rd xs (j : Int) :: xs.drop (j + 1):=by
 rw [List.drop_eq_getElem_cons h]
 simp [rd,List.getD_eq_getElem?_getD,List.getElem?_eq_getElem h]
/-! The reader of a code: a pick is in its range;the place goes on by one. -/
def Code (b : List Int) : Prop:=b.length≤2000∧∀ x ∈ b,0≤x∧x≤255
theorem rd_code {b : List Int} (h : Code b) (i : Int) : 0≤rd b i∧rd b i≤255:=by
 unfold rd
 rw [List.getD_eq_getElem?_getD]
 by_cases hi : i.toNat < b.length
 ·rw [List.getElem?_eq_getElem hi]
  exact h.2 _ (List.getElem_mem hi)
 ·rw [List.getElem?_eq_none (by omega)]
  simp
theorem xor_pos (a b : Int) (ha0 : 0≤a) (ha1 : a < 4611686018427387904) (hb0 : 0≤b) (hb1 : b < 4611686018427387904) : 0≤Go.bits .xor .i64 a b:=by
 obtain ⟨n,rfl⟩:=Int.eq_ofNat_of_zero_le ha0
 obtain ⟨m,rfl⟩:=Int.eq_ofNat_of_zero_le hb0
 have hn : n < 2 ^ 62:=by omega
 have hm : m < 2 ^ 62:=by omega
 have hx:=Nat.xor_lt_two_pow hn hm
 have n64 : n % 2 ^ 64=n:=Nat.mod_eq_of_lt (by omega)
 have m64 : m % 2 ^ 64=m:=Nat.mod_eq_of_lt (by omega)
 have e : Go.bits .xor .i64 (n : Int) (m : Int)=IntKind.i64.wrap ((n ^^^ m : Nat) : Int):=by
  show IntKind.i64.wrap (((BitVec.ofInt 64 (n : Int) ^^^ BitVec.ofInt 64 (m : Int)).toNat : Nat) : Int)=_
  rw [BitVec.ofInt_natCast,BitVec.ofInt_natCast,BitVec.toNat_xor,BitVec.toNat_ofNat,BitVec.toNat_ofNat,n64,m64]
 rw [e,IntKind.wrap_i64]
 omega
theorem spec_pick (b : List Int) (hb : Code b) (p n : Int) (h0 : 0≤p) (h1 : p≤1099511627776) :
  ∃ r,0≤r∧(1≤n→r < n)∧(n≤1→r=0)∧Evn fun k=>spec_l20Rd_pick.f k b p n=some (r,p + 1):=by
 have hw : wrap64 (p + 1)=p + 1:=w64 (by omega) (by omega)
 by_cases hn : n < 1
 ·refine ⟨0,by omega,by omega,by omega,Evn.succ (Evn.all fun k=>?_)⟩
  unfold spec_l20Rd_pick.f
  rw [if_pos hn,hw]
  simp only [spec_l20Rd_pick.j0]
  rw [if_pos trivial]
 ·by_cases hl : b.length=0
  ·refine ⟨0,by omega,by omega,by omega,Evn.succ (Evn.all fun k=>?_)⟩
   unfold spec_l20Rd_pick.f
   rw [if_neg hn,hw,hl]
   simp only [spec_l20Rd_pick.j0]
   rw [if_pos (by rfl)]
  ·have hl1 : 1≤(b.length : Int):=by omega
   have hle : ((b.length : Int) == 0)=false:=by simpa using hl
   have e1 : wrap64 (p + 1 - 1)=p:=by rw [show p + 1 - 1=p by omega];exact w64 (by omega) (by omega)
   by_cases hp : p < (b.length : Int)
   ·have hr:=rd_code hb p
    refine ⟨Int.tmod (rd b p) n,Int.tmod_nonneg n hr.1,fun h=>Int.tmod_lt_of_pos _ (by omega),fun h=>?_,Evn.succ (Evn.all fun k=>?_)⟩
    ·have : n=1:=by omega
     subst this
     exact Int.tmod_one _
    ·unfold spec_l20Rd_pick.f
     rw [if_neg hn,hw,hle]
     simp only [spec_l20Rd_pick.j0]
     rw [if_neg (by simp),e1,if_pos hp,if_pos h0,if_neg (by omega),w64 (x:=rd b p) (by omega) (by omega)]
   ·have ei : Int.tmod p (b.length : Int)=p % (b.length : Int):=Int.tmod_eq_emod_of_nonneg h0
    have i0 : 0≤p % (b.length : Int):=Int.emod_nonneg _ (by omega)
    have i1 : p % (b.length : Int) < (b.length : Int):=Int.emod_lt_of_pos _ (by omega)
    have e7 : wrap64 (wrap64 (p * 7) + 3)=p * 7 + 3:=by rw [w64 (x:=p * 7) (by omega) (by omega),w64 (by omega) (by omega)]
    have ej : Int.tmod (p * 7 + 3) (b.length : Int)=(p * 7 + 3) % (b.length : Int):=Int.tmod_eq_emod_of_nonneg (by omega)
    have j0 : 0≤(p * 7 + 3) % (b.length : Int):=Int.emod_nonneg _ (by omega)
    have j1 : (p * 7 + 3) % (b.length : Int) < (b.length : Int):=Int.emod_lt_of_pos _ (by omega)
    have eq : Int.tdiv p (b.length : Int)=p / (b.length : Int):=Int.tdiv_eq_ediv_of_nonneg h0
    have q0 : 0≤p / (b.length : Int):=Int.ediv_nonneg h0 (by omega)
    have q1 : p / (b.length : Int)≤p:=Int.ediv_le_self _ h0
    have hu:=rd_code hb (p % (b.length : Int))
    have hv:=rd_code hb ((p * 7 + 3) % (b.length : Int))
    have main : ∀ u v q : Int,0≤u→u≤255→0≤v→v≤255→0≤q→q≤p →
      ∃ x,wrap64 ((wrap64 ((wrap64 ((wrap64 ((wrap64 u) * 131)) + (wrap64 ((wrap64 v) * 1117)))) + (wrap64 (p * 29)))) + (wrap64 ((wrap64 q) * 53)))=x∧0≤x∧x < 4611686018427387904∧0≤wrap64 (Int.tdiv x 64)∧wrap64 (Int.tdiv x 64) < 4611686018427387904:=by
     intro u v q u0 u1 v0 v1 q0 q1
     refine ⟨u * 131 + v * 1117 + p * 29 + q * 53,?_,by omega,by omega,?_,?_⟩
     ·rw [w64 (x:=u) (by omega) (by omega),w64 (x:=v) (by omega) (by omega),w64 (x:=q) (by omega) (by omega),w64 (x:=u * 131) (by omega) (by omega),w64 (x:=v * 1117) (by omega) (by omega),w64 (x:=p * 29) (by omega) (by omega),w64 (x:=q * 53) (by omega) (by omega),w64 (x:=u * 131 + v * 1117) (by omega) (by omega),w64 (x:=u * 131 + v * 1117 + p * 29) (by omega) (by omega),w64 (by omega) (by omega)]
     all_goals
      rw [Int.tdiv_eq_ediv_of_nonneg (by omega),w64 (by omega) (by omega)]
      omega
    obtain ⟨x,hx,x0,x1,y0,y1⟩:=main _ _ _ hu.1 hu.2 hv.1 hv.2 q0 q1
    refine ⟨Int.tmod (Go.bits .xor .i64 x (wrap64 (Int.tdiv x 64))) n,Int.tmod_nonneg n (xor_pos _ _ x0 x1 y0 y1),fun h=>Int.tmod_lt_of_pos _ (by omega),fun h=>?_,Evn.succ (Evn.all fun k=>?_)⟩
    ·have : n=1:=by omega
     subst this
     exact Int.tmod_one _
    ·unfold spec_l20Rd_pick.f
     rw [if_neg hn,hw,hle]
     simp only [spec_l20Rd_pick.j0]
     rw [if_neg (by simp),e1,if_neg hp,if_neg (by omega),ei,if_pos i0,if_pos i1,e7,ej,if_pos j0,if_pos j1,if_neg (by omega),eq,hx]
theorem spec_odd (b : List Int) (hb : Code b) (p n : Int) (h0 : 0≤p) (h1 : p≤1099511627776) (hn : n≤1000000) :
  ∃ r q,p≤q∧q≤p + 1∧(n≤0→r=false)∧Evn fun k=>spec_l20Rd_odd.f k b p n=some (r,q):=by
 by_cases h : n > 0
 ·obtain ⟨r,_,_,_,e⟩:=spec_pick b hb p n h0 h1
  refine ⟨r == wrap64 (n - 1),p + 1,by omega,by omega,by omega,Evn.mp e (Evn.all fun k e=>?_)⟩
  unfold spec_l20Rd_odd.f
  rw [if_pos h,e]
  rfl
 ·refine ⟨false,p,by omega,by omega,fun _=>rfl,Evn.all fun k=>?_⟩
  unfold spec_l20Rd_odd.f
  rw [if_neg h]
theorem spec_open (l : List Int) (hl : ∀ x ∈ l,(Lit.int .u8 x).wf=true) : ∃ b,Code b∧spec_l20Open.f l=some (b,0):=by
 have hx : ∀ x ∈ l,0≤x∧x≤255:=fun x hx=>by
  have h' : (decide (IntKind.u8.min≤x) && decide (x≤IntKind.u8.max))=true:=hl x hx
  rw [Bool.and_eq_true,decide_eq_true_eq,decide_eq_true_eq] at h'
  exact h'
 unfold spec_l20Open.f
 by_cases h : (l.length : Int) > 2000
 ·refine ⟨l.take 2000,⟨by rw [List.length_take];omega,fun x hm=>hx x (List.mem_of_mem_take hm)⟩,?_⟩
  rw [if_pos h,if_pos (by omega)]
 ·exact ⟨l,⟨by omega,hx⟩,by rw [if_neg h]⟩
/-! What a reader draws: a value with what is known of it,and the place behind it,not far. -/
def Dr {α : Type} (g : Nat→Option (α × Int)) (p c : Int) (P : α→Prop) : Prop:=∃ r q,p≤q∧q≤p + c∧P r∧Evn fun k=>g k=some (r,q)
theorem Dr.bind {α β : Type} {g : Nat→Option (α × Int)} {H : Nat→α × Int→Option (β × Int)} {p c C : Int} {P : α→Prop} {Q : β→Prop}
  (h1 : Dr g p c P) (h2 : ∀ bt : α × Int,P bt.1→p≤bt.2→bt.2≤p + c→Dr (fun k=>H k bt) bt.2 (C - c) Q) : Dr (fun k=>(g k).bind (H k)) p C Q:=by
 obtain ⟨r,q,hq0,hq1,hr,e⟩:=h1
 obtain ⟨r',q',h0,h1,hr',e'⟩:=h2 (r,q) hr hq0 hq1
 refine ⟨r',q',by simp only at h0;omega,by simp only at h1;omega,hr',Evn.mp e (Evn.mp e' (Evn.all fun k e' e=>?_))⟩
 dsimp only
 rw [e]
 exact e'
/-- a value that is computed on the way,by a function that draws nothing -/
theorem Dr.run {α β : Type} {g : Nat→Option α} {H : Nat→α→Option (β × Int)} {p c : Int} {Q : β→Prop} {r : α} (h1 : Evn fun k=>g k=some r) (h2 : Dr (fun k=>H k r) p c Q) : Dr (fun k=>(g k).bind (H k)) p c Q:=by
 obtain ⟨r',q',h0,h1',hr',e'⟩:=h2
 refine ⟨r',q',h0,h1',hr',Evn.mp h1 (Evn.mp e' (Evn.all fun k e' e=>?_))⟩
 dsimp only
 rw [e]
 exact e'
theorem Dr.succ {α : Type} {g : Nat→Option (α × Int)} {p c : Int} {P : α→Prop} (h : Dr (fun k=>g (k + 1)) p c P) : Dr g p c P:=by
 obtain ⟨r,q,h0,h1,hr,e⟩:=h
 exact ⟨r,q,h0,h1,hr,Evn.succ e⟩
def InPick (n r : Int) : Prop:=0≤r∧(1≤n→r < n)∧(n≤1→r=0)
theorem dr_pick {b : List Int} (hb : Code b) {p : Int} (n : Int) (h0 : 0≤p) (h1 : p≤1099511627776) : Dr (fun k=>spec_l20Rd_pick.f k b p n) p 1 (InPick n):=by
 obtain ⟨r,a,c,d,e⟩:=spec_pick b hb p n h0 h1
 exact ⟨r,p + 1,by omega,by omega,⟨a,c,d⟩,e⟩
theorem dr_odd {b : List Int} (hb : Code b) {p : Int} (n : Int) (h0 : 0≤p) (h1 : p≤1099511627776) (hn : n≤1000000) : Dr (fun k=>spec_l20Rd_odd.f k b p n) p 1 (fun r=>n≤0→r=false):=by
 obtain ⟨r,q,a,c,d,e⟩:=spec_odd b hb p n h0 h1 hn
 exact ⟨r,q,a,c,d,e⟩
/-- What is drawn at the end: no place behind it. -/
def Drw {α : Type} (g : Nat→Option α) (P : α→Prop) : Prop:=∃ r,P r∧Evn fun k=>g k=some r
theorem Drw.bind {α β : Type} {g : Nat→Option (α × Int)} {H : Nat→α × Int→Option β} {p c : Int} {P : α→Prop} {Q : β→Prop}
  (h1 : Dr g p c P) (h2 : ∀ bt : α × Int,P bt.1→p≤bt.2→bt.2≤p + c→Drw (fun k=>H k bt) Q) : Drw (fun k=>(g k).bind (H k)) Q:=by
 obtain ⟨r,q,hq0,hq1,hr,e⟩:=h1
 obtain ⟨r',hr',e'⟩:=h2 (r,q) hr hq0 hq1
 refine ⟨r',hr',Evn.mp e (Evn.mp e' (Evn.all fun k e' e=>?_))⟩
 dsimp only
 rw [e]
 exact e'
theorem Drw.run {α β : Type} {g : Nat→Option α} {H : Nat→α→Option β} {Q : β→Prop} {r : α} (h1 : Evn fun k=>g k=some r) (h2 : Drw (fun k=>H k r) Q) : Drw (fun k=>(g k).bind (H k)) Q:=by
 obtain ⟨r',hr',e'⟩:=h2
 refine ⟨r',hr',Evn.mp h1 (Evn.mp e' (Evn.all fun k e' e=>?_))⟩
 dsimp only
 rw [e]
 exact e'
end Dw
theorem Dw.weight (j : Nat) : ∃ t : Int,spec_l1Weight.f (j : Int)=some t∧t ≠ 0:=by
 unfold spec_l1Weight.f
 split
 ·exact ⟨_,rfl,by decide⟩
 ·split
  ·exact ⟨_,rfl,by decide⟩
  ·split
   ·exact ⟨_,rfl,by decide⟩
   ·exact ⟨_,rfl,by decide⟩
theorem Dw.keyat_loop (d : Nat) : ∀ (j : Nat) (x : Int) (y : ByteArray),j + d=4→y.size≤j→∃ s,∀ k,d + 1≤k→spec_KeyAt.l0 k x y (j : Int)=some s:=by
 induction d with
 | zero =>
  intro j x y hj hy
  refine ⟨y,fun k hk=>?_⟩
  obtain ⟨k,rfl⟩ : ∃ i,k=i + 1:=⟨k - 1,by omega⟩
  rw [spec_KeyAt.l0,if_neg (by omega)]
 | succ d ih =>
  intro j x y hj hy
  obtain ⟨t,ht,h0⟩:=Dw.weight j
  have hz : (strOfNums [wrap64 (97 + wrap64 (Int.tdiv x t)) % 256]).size=1:=by rw [strOfNums_size];rfl
  by_cases hm : Int.tmod x t=0
  ·refine ⟨y ++ strOfNums [wrap64 (97 + wrap64 (Int.tdiv x t)) % 256],fun k hk=>?_⟩
   obtain ⟨k,rfl⟩ : ∃ i,k=i + 1:=⟨k - 1,by omega⟩
   rw [spec_KeyAt.l0,if_pos (by omega),ht]
   simp only [Option.bind_some]
   rw [if_neg h0,if_pos (by omega),if_neg h0,if_pos hm]
  ·obtain ⟨s,hs⟩:=ih (j + 1) (wrap64 (Int.tmod x t - 1)) (y ++ strOfNums [wrap64 (97 + wrap64 (Int.tdiv x t)) % 256]) (by omega) (by rw [ByteArray.size_append];omega)
   refine ⟨s,fun k hk=>?_⟩
   obtain ⟨k,rfl⟩ : ∃ i,k=i + 1:=⟨k - 1,by omega⟩
   rw [spec_KeyAt.l0,if_pos (by omega),ht]
   simp only [Option.bind_some]
   rw [if_neg h0,if_pos (by omega),if_neg h0,if_neg hm,w64 (x:=(j : Int) + 1) (by omega) (by omega),show (j : Int) + 1=((j + 1 : Nat) : Int) by omega]
   exact hs k (by omega)
theorem Dw.keyat (n : Int) : ∃ s,Dw.Evn fun k=>spec_KeyAt.f k n=some s:=by
 have e : ∃ b,spec_l1In.f n 0 475253=some b:=by
  unfold spec_l1In.f
  split
  ·exact ⟨_,rfl⟩
  ·exact ⟨_,rfl⟩
 obtain ⟨b,hb⟩:=e
 unfold spec_KeyAt.f
 rw [hb]
 simp only [Option.bind_some]
 cases b with
 | true =>
  obtain ⟨s,hs⟩:=Dw.keyat_loop 4 0 n (⟨#[]⟩ : ByteArray) (by omega) (by show 0≤0;omega)
  exact ⟨s,5,fun k hk=>(if_pos rfl).trans (hs k hk)⟩
 | false=>exact ⟨_,Dw.Evn.all fun k=>if_neg (by simp)⟩
theorem spec_l20Rd_pick.D (n : Int) (w W0 : World) (g : Nat) (bs : List Int) (p : Int) (hI : IsS133 w W0 g bs p) (hB : Below w.heap.size w W0) (hc : Dw.Code bs) (h0 : 0≤p) (h1 : p≤1099511627776) :
  Calls Try.prog 104 #[.pointer (some ⟨g,0,none⟩),.int .i64 n] W0 fun e w'=>∃ x p',e=.returned (.int .i64 x)∧(0≤x∧(1≤n→x < n)∧(n≤1→x=0))∧Left w W0 g bs p 1 p' w':=by
 obtain ⟨r,q,h2,h3,hr,k,e⟩:=Dw.dr_pick hc n h0 h1
 refine (spec_l20Rd_pick.calls k g bs p n r q w W0 hI hB (e k (Nat.le_refl k))).mono ?_
 rintro e w' ⟨rfl,hi,hb,hk⟩
 exact ⟨r,q,rfl,hr,⟨h2,h3⟩,hi,hb,kept_keep hk⟩
theorem spec_l20Rd_odd.D (n : Int) (hn : n≤1000000) (w W0 : World) (g : Nat) (bs : List Int) (p : Int) (hI : IsS133 w W0 g bs p) (hB : Below w.heap.size w W0) (hc : Dw.Code bs) (h0 : 0≤p) (h1 : p≤1099511627776) :
  Calls Try.prog 108 #[.pointer (some ⟨g,0,none⟩),.int .i64 n] W0 fun e w'=>∃ x p',e=.returned (.bool x)∧(n≤0→x=false)∧Left w W0 g bs p 1 p' w':=by
 obtain ⟨r,q,h2,h3,hr,k,e⟩:=Dw.dr_odd hc n h0 h1 hn
 refine (spec_l20Rd_odd.calls k g bs p n r q w W0 hI hB (e k (Nat.le_refl k))).mono ?_
 rintro e w' ⟨rfl,hi,hb,hk⟩
 exact ⟨r,q,rfl,hr,⟨h2,h3⟩,hi,hb,kept_keep hk⟩
theorem spec_KeyAt.D (n : Int) (w : World) : Calls Try.prog 123 #[.int .i64 n] w fun e w'=>∃ x,e=.returned (.string x)∧x=x∧Below w.heap.size w w':=by
 obtain ⟨r,k,e⟩:=Dw.keyat n
 refine (spec_KeyAt.calls k n r w (e k (Nat.le_refl k))).mono ?_
 rintro e w' ⟨rfl,h⟩
 exact ⟨r,rfl,rfl,h⟩
theorem tdiv8 {x : Int} (h0 : 0≤x) (h1 : x < 9) : 0≤Int.tdiv x 8∧Int.tdiv x 8 < 2:=by
 rw [Int.tdiv_eq_ediv_of_nonneg h0]
 omega
theorem spec_l20Value.D (n : Int) (hn : n≤1000000) (w W0 : World) (g : Nat) (bs : List Int) (p : Int) (hI : IsS133 w W0 g bs p) (hB : Below w.heap.size w W0) (hc : Dw.Code bs) (h0 : 0≤p) (h1 : p≤1099511000000) :
  Calls Try.prog 122 #[.pointer (some ⟨g,0,none⟩),.int .i64 n] W0 fun e w'=>∃ x p',e=.returned (.int .i64 x)∧(True)∧Left w W0 g bs p 3 p' w':=by
 have B:=Aside0.mk hB
 have HI:=Aside0.mk hI
 have HC:=Aside0.mk hc
 have KK:=Aside0.mk (Kept.refl W0 (RB g))
 clear hB hI hc
 go_enter Try.func122,Try.ntmps122
 go_wp2_with (first
  | (go_at_call 108;(with_reducible refine cg1 (spec_l20Rd_odd.D n (by omega) w _ g bs p HI.out B.out HC.out (by omega) (by omega)) fun x1 p1 hx1 hp1 w1 hk B HI2=>?_);replace KK:=kkr KK hk;replace HI:=HI2;clear hk;skip)
  | ((with_reducible refine gate_dst (N:=8) rfl ?_);refine lt (Kd.int .i64) 3 ?hg (N:=8) ?hd ([(-1),(1000)] : List Int) [.int .i64 (-1),.int .i64 (1000)] ?hr (Reps.one (show Kd.M (Kd.int .i64) _ _ _ (-1) [.int .i64 (-1)] from rfl) (Reps.one (show Kd.M (Kd.int .i64) _ _ _ (1000) [.int .i64 (1000)] from rfl) (Reps.none _ _))) (by simp) B ?_;(case hd | hg=>rfl);(case hr=>go_simp;first | done | rfl);intro z8 hz8 AL8 kL8 w51 hb B RL8 QL8;have MRL8:=mrf QL8 KK;replace HI:=hib HI hb;replace KK:=kkb KK hb;clear hb QL8)
  | (go_at_call 104;(with_reducible refine cg1 (spec_l20Rd_pick.D 2 w _ g bs p1 HI.out B.out HC.out (by omega) (by omega)) fun x52 p52 hx52 hp52 w52 hk B HI2=>?_);replace RL8:=rkr RL8 HI (by decide) hk;replace KK:=kkr KK hk;replace HI:=HI2;clear hk;skip;have hj52:=hx52.1;have hi52 : x52 < (z8.length : Int):=(by rw [← hz8];have:=hx52.2.1 (by omega);simpa using this);obtain ⟨ad52,hA52,y52⟩:=Kd.at_int (rc RL8) x52 hj52 hi52;generalize rd z8 x52=v52 at *;cases hA52;have fj52:=eq_true hj52;have fi52:=eq_true hi52)
  | (go_at_call 104;(with_reducible refine cg1 (spec_l20Rd_pick.D 20 w _ g bs p1 HI.out B.out HC.out (by omega) (by omega)) fun x101 p101 hx101 hp101 w101 hk B HI2=>?_);replace KK:=kkr KK hk;replace HI:=HI2;clear hk;skip)
  | ((with_reducible refine gate_dst (N:=15) rfl ?_);refine lt (Kd.int .i64) 3 ?hg (N:=15) ?hd ([(x101),(999)] : List Int) [.int .i64 (x101),.int .i64 (999)] ?hr (Reps.one (show Kd.M (Kd.int .i64) _ _ _ (x101) [.int .i64 (x101)] from rfl) (Reps.one (show Kd.M (Kd.int .i64) _ _ _ (999) [.int .i64 (999)] from rfl) (Reps.none _ _))) (by simp) B ?_;(case hd | hg=>rfl);(case hr=>go_simp;first | done | rfl);intro z15 hz15 AL15 kL15 w102 hb B RL15 QL15;have MRL15:=mrf QL15 KK;replace HI:=hib HI hb;replace KK:=kkb KK hb;clear hb QL15)
  | (go_at_call 104;(with_reducible refine cg1 (spec_l20Rd_pick.D 9 w _ g bs p101 HI.out B.out HC.out (by omega) (by omega)) fun x103 p103 hx103 hp103 w103 hk B HI2=>?_);replace RL15:=rkr RL15 HI (by decide) hk;replace KK:=kkr KK hk;replace HI:=HI2;clear hk;skip;obtain ⟨i17,hi17⟩ : ∃ i : Int,Int.tdiv x103 8=i:=⟨_,rfl⟩;have hb17:=tdiv8 hx103.1 (hx103.2.1 (by omega));rw [hi17] at hb17;have hv17 : IntKind.i64.wrap i17=i17:=(i64_w _).trans (w64 (by omega) (by omega));have hv18 : wrap64 i17=i17:=(w64 (by omega) (by omega));have hj17:=hb17.1;have hi17 : i17 < (z15.length : Int):=(by rw [← hz15];have:=hb17.2;simpa using this);obtain ⟨ad17,hA17,y17⟩:=Kd.at_int (rc RL15) i17 hj17 hi17;generalize rd z15 i17=v17 at *;cases hA17;have fj17:=eq_true hj17;have fi17:=eq_true hi17))
 all_goals go_ret
 all_goals exact ⟨_,_,rfl,trivial,⟨by omega,by omega⟩,HI.out,B.out,KK.out⟩
theorem spec_l20Key.D (n : Int) (hn : n≤1000000) (w W0 : World) (g : Nat) (bs : List Int) (p : Int) (hI : IsS133 w W0 g bs p) (hB : Below w.heap.size w W0) (hc : Dw.Code bs) (h0 : 0≤p) (h1 : p≤1099511000000) :
  Calls Try.prog 120 #[.pointer (some ⟨g,0,none⟩),.int .i64 n] W0 fun e w'=>∃ x p',e=.returned (.string x)∧(True)∧Left w W0 g bs p 6 p' w':=by
 have B:=Aside0.mk hB
 have HI:=Aside0.mk hI
 have HC:=Aside0.mk hc
 have KK:=Aside0.mk (Kept.refl W0 (RB g))
 clear hB hI hc
 go_enter Try.func120,Try.ntmps120
 go_wp2_with (first
  | (go_at_call 108;(with_reducible refine cg1 (spec_l20Rd_odd.D n (by omega) w _ g bs p HI.out B.out HC.out (by omega) (by omega)) fun x1 p1 hx1 hp1 w1 hk B HI2=>?_);replace KK:=kkr KK hk;replace HI:=HI2;clear hk;skip)
  | ((with_reducible refine gate_dst (N:=10) rfl ?_);refine lt Kd.string 9 ?hg (N:=10) ?hd ([((⟨#[]⟩ : ByteArray)),((⟨#[65]⟩ : ByteArray)),((⟨#[97,49]⟩ : ByteArray)),((⟨#[97,98,99,100,101]⟩ : ByteArray)),((⟨#[98,123]⟩ : ByteArray)),((⟨#[97,32,98]⟩ : ByteArray))] : List ByteArray) [.string (⟨#[]⟩ : ByteArray),.string (⟨#[65]⟩ : ByteArray),.string (⟨#[97,49]⟩ : ByteArray),.string (⟨#[97,98,99,100,101]⟩ : ByteArray),.string (⟨#[98,123]⟩ : ByteArray),.string (⟨#[97,32,98]⟩ : ByteArray)] ?hr (Reps.one (show Kd.M Kd.string _ _ _ ((⟨#[]⟩ : ByteArray)) [.string (⟨#[]⟩ : ByteArray)] from rfl) (Reps.one (show Kd.M Kd.string _ _ _ ((⟨#[65]⟩ : ByteArray)) [.string (⟨#[65]⟩ : ByteArray)] from rfl) (Reps.one (show Kd.M Kd.string _ _ _ ((⟨#[97,49]⟩ : ByteArray)) [.string (⟨#[97,49]⟩ : ByteArray)] from rfl) (Reps.one (show Kd.M Kd.string _ _ _ ((⟨#[97,98,99,100,101]⟩ : ByteArray)) [.string (⟨#[97,98,99,100,101]⟩ : ByteArray)] from rfl) (Reps.one (show Kd.M Kd.string _ _ _ ((⟨#[98,123]⟩ : ByteArray)) [.string (⟨#[98,123]⟩ : ByteArray)] from rfl) (Reps.one (show Kd.M Kd.string _ _ _ ((⟨#[97,32,98]⟩ : ByteArray)) [.string (⟨#[97,32,98]⟩ : ByteArray)] from rfl) (Reps.none _ _))))))) (by simp) B ?_;(case hd | hg=>rfl);(case hr=>go_simp;first | done | rfl);intro z10 hz10 AL10 kL10 w51 hb B RL10 QL10;have MRL10:=mrf QL10 KK;replace HI:=hib HI hb;replace KK:=kkb KK hb;clear hb QL10)
  | (go_at_call 104;(with_reducible refine cg1 (spec_l20Rd_pick.D 6 w _ g bs p1 HI.out B.out HC.out (by omega) (by omega)) fun x52 p52 hx52 hp52 w52 hk B HI2=>?_);replace RL10:=rkr RL10 HI (by decide) hk;replace KK:=kkr KK hk;replace HI:=HI2;clear hk;skip;have hi52 : x52 < (z10.length : Int):=(by rw [← hz10];have:=hx52.2.1 (by omega);simpa using this);obtain ⟨ad52,hA52,y52⟩:=Kd.at_string (rc RL10) x52 hx52.1 hi52;have hj52:=hx52.1;generalize rdOf ByteArray.empty z10 x52=s52 at *;cases hA52;have j52:=eq_true hj52;have i52:=eq_true hi52)
  | (go_at_call 104;(with_reducible refine cg1 (spec_l20Rd_pick.D 12 w _ g bs p1 HI.out B.out HC.out (by omega) (by omega)) fun x101 p101 hx101 hp101 w101 hk B HI2=>?_);replace KK:=kkr KK hk;replace HI:=HI2;clear hk;skip)
  | ((with_reducible refine gate_dst (N:=18) rfl ?_);refine lt Kd.string 9 ?hg (N:=18) ?hd ([((⟨#[122,122,122,122]⟩ : ByteArray)),((⟨#[122,122,122]⟩ : ByteArray)),((⟨#[97,122,122,122]⟩ : ByteArray)),((⟨#[122]⟩ : ByteArray)),((⟨#[97,97,97,97]⟩ : ByteArray))] : List ByteArray) [.string (⟨#[122,122,122,122]⟩ : ByteArray),.string (⟨#[122,122,122]⟩ : ByteArray),.string (⟨#[97,122,122,122]⟩ : ByteArray),.string (⟨#[122]⟩ : ByteArray),.string (⟨#[97,97,97,97]⟩ : ByteArray)] ?hr (Reps.one (show Kd.M Kd.string _ _ _ ((⟨#[122,122,122,122]⟩ : ByteArray)) [.string (⟨#[122,122,122,122]⟩ : ByteArray)] from rfl) (Reps.one (show Kd.M Kd.string _ _ _ ((⟨#[122,122,122]⟩ : ByteArray)) [.string (⟨#[122,122,122]⟩ : ByteArray)] from rfl) (Reps.one (show Kd.M Kd.string _ _ _ ((⟨#[97,122,122,122]⟩ : ByteArray)) [.string (⟨#[97,122,122,122]⟩ : ByteArray)] from rfl) (Reps.one (show Kd.M Kd.string _ _ _ ((⟨#[122]⟩ : ByteArray)) [.string (⟨#[122]⟩ : ByteArray)] from rfl) (Reps.one (show Kd.M Kd.string _ _ _ ((⟨#[97,97,97,97]⟩ : ByteArray)) [.string (⟨#[97,97,97,97]⟩ : ByteArray)] from rfl) (Reps.none _ _)))))) (by simp) B ?_;(case hd | hg=>rfl);(case hr=>go_simp;first | done | rfl);intro z18 hz18 AL18 kL18 w201 hb B RL18 QL18;have MRL18:=mrf QL18 KK;replace HI:=hib HI hb;replace KK:=kkb KK hb;clear hb QL18)
  | (go_at_call 104;(with_reducible refine cg1 (spec_l20Rd_pick.D 5 w _ g bs p101 HI.out B.out HC.out (by omega) (by omega)) fun x202 p202 hx202 hp202 w202 hk B HI2=>?_);replace RL18:=rkr RL18 HI (by decide) hk;replace KK:=kkr KK hk;replace HI:=HI2;clear hk;skip;have hi202 : x202 < (z18.length : Int):=(by rw [← hz18];have:=hx202.2.1 (by omega);simpa using this);obtain ⟨ad202,hA202,y202⟩:=Kd.at_string (rc RL18) x202 hx202.1 hi202;have hj202:=hx202.1;generalize rdOf ByteArray.empty z18 x202=s202 at *;cases hA202;have j202:=eq_true hj202;have i202:=eq_true hi202)
  | (go_at_call 104;(with_reducible refine cg1 (spec_l20Rd_pick.D 2 w _ g bs p101 HI.out B.out HC.out (by omega) (by omega)) fun x251 p251 hx251 hp251 w251 hk B HI2=>?_);replace KK:=kkr KK hk;replace HI:=HI2;clear hk;skip;refine Stop.out ?_))
 all_goals try (go_ret;exact ⟨_,_,rfl,trivial,⟨by omega,by omega⟩,HI.out,B.out,KK.out⟩;done)
 refine ⟨?_⟩
 have hc0:=hx251.1
 have hc1:=hx251.2.1 (by omega)
 obtain ⟨m0,hm0⟩ : ∃ m : Nat,1 + x251=(m : Int):=⟨(1 + x251).toNat,by omega⟩
 go_wp2
 go_loopg [5,6] (m0 + 1) (fun kx v5 v6 wr=>∃ (m : Nat) (s : ByteArray) (pp : Int),v5=.string s∧v6=.int .i64 (m : Int)∧m < kx∧m≤2∧s.size + m≤4∧(p≤pp∧pp + (m : Int)≤p + 6)∧Aside0 (IsS133 w wr g bs pp)∧Aside0 (Kept W0 wr (RB g))∧Aside0 (Below w.heap.size w wr))
 case atStart=>exact ⟨m0,_,_,rfl,congrArg (Value.int .i64) (by omega),by omega,by omega,by show 0 + m0≤4;omega,by omega,HI,KK,B⟩
 case round =>
  clear HI KK B hm0
  obtain ⟨m,s,pp,rfl,rfl,hm,hm2,hsz,hpp,HI,KK,B⟩:=hrel
  by_cases hp : 0 < m
  ·obtain ⟨d,rfl⟩ : ∃ d,gk=d + 1:=⟨gk - 1,by omega⟩
   have cj : decide ((0 : Int) < (m : Int))=true:=decide_eq_true (by omega)
   go_wp2_with (first
    | (go_at_call 104;(with_reducible refine cg1 (spec_l20Rd_pick.D 4 w _ g bs pp HI.out B.out HC.out (by omega) (by omega)) fun x301 p301 hx301 hp301 w301 hk B HI2=>?_);replace KK:=kkr KK hk;replace HI:=HI2;clear hk;skip)
    | ((with_reducible refine gate_dst (N:=35) rfl ?_);refine lt (Kd.int .u8) 5 ?hg (N:=35) ?hd ([((97 + x301))] : List Int) [.int .u8 ((97 + x301))] ?hr (Reps.one (show Kd.M (Kd.int .u8) _ _ _ ((97 + x301)) [.int .u8 ((97 + x301))] from rfl) (Reps.none _ _)) (by simp) B ?_;(case hd | hg=>rfl);(case hr=>go_simp;first | done | rfl);intro z35 hz35 AL35 kL35 w302 hb B RL35 QL35;have MRL35:=mrf QL35 KK;replace HI:=hib HI hb;replace KK:=kkb KK hb;clear hb QL35;have hcv35:=own_string (P:=Try.prog) Try.underlying49 Try.underlying5 Try.underlying9 (Kd.own_of_R RL35.out);have hsz35 : (strOfNums z35).size=1:=(by rw [← hz35];rw [strOfNums_size];rfl);have hle35 : decide (s.size + (strOfNums z35).size≤9223372036854775807)=true:=decide_eq_true (by omega)))
   go_roundg d
   case measure=>omega
   case rel=>exact ⟨m - 1,_,_,rfl,congrArg (Value.int .i64) (by omega),by omega,by omega,by rw [ByteArray.size_append,hsz35];omega,by omega,HI,KK,B⟩
  ·have cj : decide ((0 : Int) < (m : Int))=false:=decide_eq_false (by omega)
   go_wp2
   go_ret
   exact ⟨_,_,rfl,trivial,⟨by omega,by omega⟩,HI.out,B.out,KK.out⟩

theorem spec_l20Pairs.D (n : Int) (hn : n≤1000000) (w W0 : World) (g : Nat) (bs : List Int) (p : Int) (hI : IsS133 w W0 g bs p) (hB : Below w.heap.size w W0) (hc : Dw.Code bs) (h0 : 0≤p) (h1 : p≤1099500000000) :
  Calls Try.prog 106 #[.pointer (some ⟨g,0,none⟩),.int .i64 n] W0 fun e w'=>∃ v0 xs p',e=.returned (v0)∧(xs.length≤300)∧Kd.R k105 105 w' w.heap.size (fun _=>True) v0 xs∧Fr W0 v0∧Left w W0 g bs p 90 p' w':=by
 have hu:=Try.underlying105
 have B:=Aside0.mk hB
 have HI:=Aside0.mk hI
 have HC:=Aside0.mk hc
 have KK:=Aside0.mk (Kept.refl W0 (RB g))
 clear hB hI hc
 go_enter Try.func106,Try.ntmps106
 go_wp2_with (first
  | ((with_reducible refine gate_dst (N:=12) rfl ?_);refine lt k105 105 ?hg (N:=12) ?hd ([] : List S105) [] ?hr (Reps.none _ _) (by simp) B ?_;(case hd | hg=>rfl);(case hr=>go_simp;first | done | rfl);intro z12 hz12 AL12 kL12 w1 hb B RL12 QL12;have MRL12:=mrf QL12 KK;replace HI:=hib HI hb;replace KK:=kkb KK hb;clear hb QL12;subst hz12)
  | (go_at_call 104;(with_reducible refine cg1 (spec_l20Rd_pick.D 9 w _ g bs p HI.out B.out HC.out (by omega) (by omega)) fun x2 p2 hx2 hp2 w2 hk B HI2=>?_);replace RL12:=rkr RL12 HI (by decide) hk;replace KK:=kkr KK hk;replace HI:=HI2;clear hk;skip))
 have hx1:=hx2.1
 have hx2:=hx2.2.1 (by omega)
 obtain ⟨m0,rfl⟩ : ∃ m : Nat,x2=(m : Int):=⟨x2.toNat,by omega⟩
 go_loopg [5,6] (m0 + 1) (fun kx v5 v6 wr=>∃ (m : Nat) (xs : List S105) (pp : Int),v6=.int .i64 (m : Int)∧m < kx∧m≤8∧xs.length + m≤8∧(p≤pp∧pp + 9 * (m : Int)≤p + 80)∧Aside0 (IsS133 w wr g bs pp)∧Aside0 (Kept W0 wr (RB g))∧Aside0 (Below w.heap.size w wr)∧Aside0 (Ow k105 105 wr w.heap.size v5 xs)∧Aside0 (Fr W0 v5))
 case atStart=>exact ⟨m0,[],_,rfl,by omega,by omega,by simp only [List.length_nil];omega,by omega,HI,KK,B,RL12,MRL12⟩
 case round =>
  clear HI KK B RL12 MRL12
  obtain ⟨m,xs,pp,rfl,hm,hm8,hxl,hpp,HI,KK,B,Rp5,MRp5⟩:=hrel
  obtain ⟨A5,k5,rfl⟩:=Kd.R_slice Rp5.out
  by_cases hm0 : 0 < m
  ·obtain ⟨d,rfl⟩ : ∃ d,gk=d + 1:=⟨gk - 1,by omega⟩
   have cj : decide ((0 : Int) < (m : Int))=true:=decide_eq_true (by omega)
   have hw : wrap64 ((m : Int) - 1)=((m - 1 : Nat) : Int):=by unfold wrap64;omega
   go_wp2_with (first
    | (go_at_call 120;(with_reducible refine cg1 (spec_l20Key.D 0 (by omega) w _ g bs pp HI.out B.out HC.out (by omega) (by omega)) fun x301 p301 hx301 hp301 w301 hk B HI2=>?_);replace Rp5:=rkr Rp5 HI (by decide) hk;replace KK:=kkr KK hk;replace HI:=HI2;clear hk;skip)
    | (go_at_call 122;(with_reducible refine cg1 (spec_l20Value.D 0 (by omega) w _ g bs p301 HI.out B.out HC.out (by omega) (by omega)) fun x302 p302 hx302 hp302 w302 hk B HI2=>?_);replace Rp5:=rkr Rp5 HI (by decide) hk;replace KK:=kkr KK hk;replace HI:=HI2;clear hk;skip)
    | (go_at_call 88;with_reducible refine crz (spec_PairPut.M _ _ xs x301 x302 _ (rc Rp5) (rl Rp5)) B fun zC303 hzC303 AC303 kC303 w303 hb B RC303 QC303=>?_;have MRC303:=mrf QC303 KK;replace Rp5:=rn Rp5 hb;replace HI:=hib HI hb;replace KK:=kkb KK hb;clear QC303;clear hb))
   go_roundg d
   case measure=>omega
   case rel=>exact ⟨m - 1,zC303,_,congrArg (Value.int .i64) (by omega),by omega,by omega,by rw [← hzC303];have:=putM_len xs x301 x302;omega,by omega,HI,KK,B,RC303,MRC303⟩
  ·have cj : decide ((0 : Int) < (m : Int))=false:=decide_eq_false (by omega)
   go_wp2_with (first
    | (go_at_call 104;(with_reducible refine cg1 (spec_l20Rd_pick.D 16 w _ g bs pp HI.out B.out HC.out (by omega) (by omega)) fun x501 p501 hx501 hp501 w501 hk B HI2=>?_);replace Rp5:=rkr Rp5 HI (by decide) hk;replace KK:=kkr KK hk;replace HI:=HI2;clear hk;skip))
   ·rename_i hb7
    clear hb7 hx501
    go_loopg [5,9] 201 (fun kx v5 v9 wr=>∃ (i : Nat) (xs : List S105) (pp : Int),v9=.int .i64 (i : Int)∧i≤200∧200 < i + kx∧xs.length≤48∧(p≤pp∧pp≤p + 81)∧Aside0 (IsS133 w wr g bs pp)∧Aside0 (Kept W0 wr (RB g))∧Aside0 (Below w.heap.size w wr)∧Aside0 (Ow k105 105 wr w.heap.size v5 xs)∧Aside0 (Fr W0 v5))
    case atStart=>exact ⟨0,xs,_,rfl,by omega,by omega,by omega,by omega,HI,KK,B,Rp5,MRp5⟩
    case round =>
     clear HI KK B Rp5 MRp5 hxl hpp hp501
     obtain ⟨i,xs,pp,rfl,hi,hk2,hxl,hpp,HI,KK,B,Rp5,MRp5⟩:=hrel
     obtain ⟨A5,k5,rfl⟩:=Kd.R_slice Rp5.out
     by_cases hgo : xs.length < 48∧i < 200
     ·obtain ⟨d,rfl⟩ : ∃ d,gk=d + 1:=⟨gk - 1,by omega⟩
      have c1 : decide ((xs.length : Int) < 48)=true:=decide_eq_true (by omega)
      have c2 : decide ((i : Int) < 200)=true:=decide_eq_true (by omega)
      go_wp2_with (first
       | (go_at_call 123;with_reducible refine cx (spec_KeyAt.D _ _) B fun x701 hx701 w701 hb B=>?_;replace Rp5:=rn Rp5 hb;replace HI:=hib HI hb;replace KK:=kkb KK hb;clear hb)
       | (go_at_call 88;with_reducible refine crz (spec_PairPut.M _ _ xs x701 (i : Int) _ (rc Rp5) (rl Rp5)) B fun zC702 hzC702 AC702 kC702 w702 hb B RC702 QC702=>?_;have MRC702:=mrf QC702 KK;replace Rp5:=rn Rp5 hb;replace HI:=hib HI hb;replace KK:=kkb KK hb;clear QC702;clear hb))
      go_roundg d
      case measure=>omega
      case rel=>exact ⟨i + 1,zC702,_,congrArg (Value.int .i64) (by omega),by omega,by omega,by rw [← hzC702];have:=putM_len xs x701 (i : Int);omega,by omega,HI,KK,B,RC702,MRC702⟩
     ·have cc : (decide ((xs.length : Int) < 48) && decide ((i : Int) < 200))=false:=by simp only [Bool.and_eq_false_iff,decide_eq_false_iff_not];omega
      by_cases hl : xs.length < 48
      ·have c1 : decide ((xs.length : Int) < 48)=true:=decide_eq_true (by omega)
       have c2 : decide ((i : Int) < 200)=false:=decide_eq_false (by omega)
       go_wp2_with (first
        | (go_at_call 108;(with_reducible refine cg1 (spec_l20Rd_odd.D n (by omega) w _ g bs pp HI.out B.out HC.out (by omega) (by omega)) fun x901 p901 hx901 hp901 w901 hk B HI2=>?_);replace Rp5:=rkr Rp5 HI (by decide) hk;replace KK:=kkr KK hk;replace HI:=HI2;clear hk;skip)
        | ((with_reducible refine gate_dst (N:=60) rfl ?_);refine lt k105 105 ?hg (N:=60) ?hd ([⟨(⟨#[]⟩ : ByteArray),0⟩,⟨(⟨#[122,122,122,122]⟩ : ByteArray),-1⟩,⟨(⟨#[122,122,122,122]⟩ : ByteArray),1000⟩,⟨(⟨#[97]⟩ : ByteArray),1⟩,⟨(⟨#[65]⟩ : ByteArray),0⟩] : List S105) [.string (⟨#[]⟩ : ByteArray),.int .i64 (0),.string (⟨#[122,122,122,122]⟩ : ByteArray),.int .i64 (-1),.string (⟨#[122,122,122,122]⟩ : ByteArray),.int .i64 (1000),.string (⟨#[97]⟩ : ByteArray),.int .i64 (1),.string (⟨#[65]⟩ : ByteArray),.int .i64 (0)] ?hr (Reps.c2 (k105_mkM _ _ _ ⟨(⟨#[]⟩ : ByteArray),0⟩) (Reps.c2 (k105_mkM _ _ _ ⟨(⟨#[122,122,122,122]⟩ : ByteArray),-1⟩) (Reps.c2 (k105_mkM _ _ _ ⟨(⟨#[122,122,122,122]⟩ : ByteArray),1000⟩) (Reps.c2 (k105_mkM _ _ _ ⟨(⟨#[97]⟩ : ByteArray),1⟩) (Reps.c2 (k105_mkM _ _ _ ⟨(⟨#[65]⟩ : ByteArray),0⟩) (Reps.none _ _)))))) (by simp) B ?_;(case hd | hg=>rfl);(case hr=>go_simp;first | done | rfl);intro z60 hz60 AL60 kL60 w951 hb B RL60 QL60;have MRL60:=mrf QL60 KK;replace Rp5:=rn Rp5 hb;replace HI:=hib HI hb;replace KK:=kkb KK hb;clear hb QL60)
        | (go_at_call 104;(with_reducible refine cg1 (spec_l20Rd_pick.D 5 w _ g bs p901 HI.out B.out HC.out (by omega) (by omega)) fun x952 p952 hx952 hp952 w952 hk B HI2=>?_);replace Rp5:=rkr Rp5 HI (by decide) hk;replace RL60:=rkr RL60 HI (by decide) hk;replace KK:=kkr KK hk;replace HI:=HI2;clear hk;skip;have hi952 : x952 < (z60.length : Int):=(by rw [← hz60];have:=hx952.2.1 (by omega);simpa using this);obtain ⟨ad952,hA952,y952_0,y952_1⟩:=at_T105 (rc RL60) x952 hx952.1 hi952;have hj952:=hx952.1;generalize rd_T105 z60 x952=y952 at *;cases hA952;have j952:=eq_true hj952;have i952:=eq_true hi952)
        | ((with_reducible refine gate_dst (N:=65) rfl ?_);refine lt k105 105 ?hg (N:=65) ?hd ([⟨y952.f0,y952.f1⟩] : List S105) [.string y952.f0,.int .i64 (y952.f1)] ?hr (Reps.c2 (k105_mkM _ _ _ ⟨y952.f0,y952.f1⟩) (Reps.none _ _)) (by simp) B ?_;(case hd | hg=>rfl);(case hr=>go_simp;first | done | rfl);intro z65 hz65 AL65 kL65 w953 hb B RL65 QL65;have MRL65:=mrf QL65 KK;replace Rp5:=rn Rp5 hb;replace HI:=hib HI hb;replace KK:=kkb KK hb;clear hb QL65)
        | ((with_reducible refine gate_builtin (b:=.append) (xs:=#[.tmp 54,.tmp 65]) rfl ?_);at_builtin;refine apx k105 105 rfl (.tmp 54) (.tmp 65) 35 (.agg #[.string (⟨#[]⟩ : ByteArray),.int .i64 (0)]) 24 rfl Try.underlying35 info105 rfl (by decide) (by omega) rfl rfl Rp5 (rc RL65) (fun x cs h=>by rw [k105_open h];exact k105_mkM _ _ _ x) (by rw [← hz65];simp only [List.length_cons,List.length_nil];omega) B ?_;intro z66 hz66 AL66 kL66 w954 hg B RL66 hat;replace HI:=hig HI Rp5 (by decide) hg;have MRL66:=mra hat MRp5 KK;replace KK:=kkg KK MRp5 hg;clear hg hat))
       all_goals go_ret
       all_goals first
        | exact ⟨_,_,_,rfl,by omega,Rp5.out,MRp5.out,⟨by omega,by omega⟩,HI.out,B.out,KK.out⟩
        | exact ⟨_,_,_,rfl,by rw [← hz66,← hz65];simp only [List.length_append,List.length_cons,List.length_nil];omega,RL66.out,MRL66.out,⟨by omega,by omega⟩,HI.out,B.out,KK.out⟩
      ·have c1 : decide ((xs.length : Int) < 48)=false:=decide_eq_false (by omega)
       go_wp2_with (first
        | (go_at_call 108;(with_reducible refine cg1 (spec_l20Rd_odd.D n (by omega) w _ g bs pp HI.out B.out HC.out (by omega) (by omega)) fun x1001 p1001 hx1001 hp1001 w1001 hk B HI2=>?_);replace Rp5:=rkr Rp5 HI (by decide) hk;replace KK:=kkr KK hk;replace HI:=HI2;clear hk;skip)
        | ((with_reducible refine gate_dst (N:=60) rfl ?_);refine lt k105 105 ?hg (N:=60) ?hd ([⟨(⟨#[]⟩ : ByteArray),0⟩,⟨(⟨#[122,122,122,122]⟩ : ByteArray),-1⟩,⟨(⟨#[122,122,122,122]⟩ : ByteArray),1000⟩,⟨(⟨#[97]⟩ : ByteArray),1⟩,⟨(⟨#[65]⟩ : ByteArray),0⟩] : List S105) [.string (⟨#[]⟩ : ByteArray),.int .i64 (0),.string (⟨#[122,122,122,122]⟩ : ByteArray),.int .i64 (-1),.string (⟨#[122,122,122,122]⟩ : ByteArray),.int .i64 (1000),.string (⟨#[97]⟩ : ByteArray),.int .i64 (1),.string (⟨#[65]⟩ : ByteArray),.int .i64 (0)] ?hr (Reps.c2 (k105_mkM _ _ _ ⟨(⟨#[]⟩ : ByteArray),0⟩) (Reps.c2 (k105_mkM _ _ _ ⟨(⟨#[122,122,122,122]⟩ : ByteArray),-1⟩) (Reps.c2 (k105_mkM _ _ _ ⟨(⟨#[122,122,122,122]⟩ : ByteArray),1000⟩) (Reps.c2 (k105_mkM _ _ _ ⟨(⟨#[97]⟩ : ByteArray),1⟩) (Reps.c2 (k105_mkM _ _ _ ⟨(⟨#[65]⟩ : ByteArray),0⟩) (Reps.none _ _)))))) (by simp) B ?_;(case hd | hg=>rfl);(case hr=>go_simp;first | done | rfl);intro z60 hz60 AL60 kL60 w1051 hb B RL60 QL60;have MRL60:=mrf QL60 KK;replace Rp5:=rn Rp5 hb;replace HI:=hib HI hb;replace KK:=kkb KK hb;clear hb QL60)
        | (go_at_call 104;(with_reducible refine cg1 (spec_l20Rd_pick.D 5 w _ g bs p1001 HI.out B.out HC.out (by omega) (by omega)) fun x1052 p1052 hx1052 hp1052 w1052 hk B HI2=>?_);replace Rp5:=rkr Rp5 HI (by decide) hk;replace RL60:=rkr RL60 HI (by decide) hk;replace KK:=kkr KK hk;replace HI:=HI2;clear hk;skip;have hi1052 : x1052 < (z60.length : Int):=(by rw [← hz60];have:=hx1052.2.1 (by omega);simpa using this);obtain ⟨ad1052,hA1052,y1052_0,y1052_1⟩:=at_T105 (rc RL60) x1052 hx1052.1 hi1052;have hj1052:=hx1052.1;generalize rd_T105 z60 x1052=y1052 at *;cases hA1052;have j1052:=eq_true hj1052;have i1052:=eq_true hi1052)
        | ((with_reducible refine gate_dst (N:=65) rfl ?_);refine lt k105 105 ?hg (N:=65) ?hd ([⟨y1052.f0,y1052.f1⟩] : List S105) [.string y1052.f0,.int .i64 (y1052.f1)] ?hr (Reps.c2 (k105_mkM _ _ _ ⟨y1052.f0,y1052.f1⟩) (Reps.none _ _)) (by simp) B ?_;(case hd | hg=>rfl);(case hr=>go_simp;first | done | rfl);intro z65 hz65 AL65 kL65 w1053 hb B RL65 QL65;have MRL65:=mrf QL65 KK;replace Rp5:=rn Rp5 hb;replace HI:=hib HI hb;replace KK:=kkb KK hb;clear hb QL65)
        | ((with_reducible refine gate_builtin (b:=.append) (xs:=#[.tmp 54,.tmp 65]) rfl ?_);at_builtin;refine apx k105 105 rfl (.tmp 54) (.tmp 65) 35 (.agg #[.string (⟨#[]⟩ : ByteArray),.int .i64 (0)]) 24 rfl Try.underlying35 info105 rfl (by decide) (by omega) rfl rfl Rp5 (rc RL65) (fun x cs h=>by rw [k105_open h];exact k105_mkM _ _ _ x) (by rw [← hz65];simp only [List.length_cons,List.length_nil];omega) B ?_;intro z66 hz66 AL66 kL66 w1054 hg B RL66 hat;replace HI:=hig HI Rp5 (by decide) hg;have MRL66:=mra hat MRp5 KK;replace KK:=kkg KK MRp5 hg;clear hg hat))
       all_goals go_ret
       all_goals first
        | exact ⟨_,_,_,rfl,by omega,Rp5.out,MRp5.out,⟨by omega,by omega⟩,HI.out,B.out,KK.out⟩
        | exact ⟨_,_,_,rfl,by rw [← hz66,← hz65];simp only [List.length_append,List.length_cons,List.length_nil];omega,RL66.out,MRL66.out,⟨by omega,by omega⟩,HI.out,B.out,KK.out⟩
   ·go_wp2_with (first
     | (go_at_call 108;(with_reducible refine cg1 (spec_l20Rd_odd.D n (by omega) w _ g bs p501 HI.out B.out HC.out (by omega) (by omega)) fun x1101 p1101 hx1101 hp1101 w1101 hk B HI2=>?_);replace Rp5:=rkr Rp5 HI (by decide) hk;replace KK:=kkr KK hk;replace HI:=HI2;clear hk;skip)
     | ((with_reducible refine gate_dst (N:=60) rfl ?_);refine lt k105 105 ?hg (N:=60) ?hd ([⟨(⟨#[]⟩ : ByteArray),0⟩,⟨(⟨#[122,122,122,122]⟩ : ByteArray),-1⟩,⟨(⟨#[122,122,122,122]⟩ : ByteArray),1000⟩,⟨(⟨#[97]⟩ : ByteArray),1⟩,⟨(⟨#[65]⟩ : ByteArray),0⟩] : List S105) [.string (⟨#[]⟩ : ByteArray),.int .i64 (0),.string (⟨#[122,122,122,122]⟩ : ByteArray),.int .i64 (-1),.string (⟨#[122,122,122,122]⟩ : ByteArray),.int .i64 (1000),.string (⟨#[97]⟩ : ByteArray),.int .i64 (1),.string (⟨#[65]⟩ : ByteArray),.int .i64 (0)] ?hr (Reps.c2 (k105_mkM _ _ _ ⟨(⟨#[]⟩ : ByteArray),0⟩) (Reps.c2 (k105_mkM _ _ _ ⟨(⟨#[122,122,122,122]⟩ : ByteArray),-1⟩) (Reps.c2 (k105_mkM _ _ _ ⟨(⟨#[122,122,122,122]⟩ : ByteArray),1000⟩) (Reps.c2 (k105_mkM _ _ _ ⟨(⟨#[97]⟩ : ByteArray),1⟩) (Reps.c2 (k105_mkM _ _ _ ⟨(⟨#[65]⟩ : ByteArray),0⟩) (Reps.none _ _)))))) (by simp) B ?_;(case hd | hg=>rfl);(case hr=>go_simp;first | done | rfl);intro z60 hz60 AL60 kL60 w1151 hb B RL60 QL60;have MRL60:=mrf QL60 KK;replace Rp5:=rn Rp5 hb;replace HI:=hib HI hb;replace KK:=kkb KK hb;clear hb QL60)
     | (go_at_call 104;(with_reducible refine cg1 (spec_l20Rd_pick.D 5 w _ g bs p1101 HI.out B.out HC.out (by omega) (by omega)) fun x1152 p1152 hx1152 hp1152 w1152 hk B HI2=>?_);replace Rp5:=rkr Rp5 HI (by decide) hk;replace RL60:=rkr RL60 HI (by decide) hk;replace KK:=kkr KK hk;replace HI:=HI2;clear hk;skip;have hi1152 : x1152 < (z60.length : Int):=(by rw [← hz60];have:=hx1152.2.1 (by omega);simpa using this);obtain ⟨ad1152,hA1152,y1152_0,y1152_1⟩:=at_T105 (rc RL60) x1152 hx1152.1 hi1152;have hj1152:=hx1152.1;generalize rd_T105 z60 x1152=y1152 at *;cases hA1152;have j1152:=eq_true hj1152;have i1152:=eq_true hi1152)
     | ((with_reducible refine gate_dst (N:=65) rfl ?_);refine lt k105 105 ?hg (N:=65) ?hd ([⟨y1152.f0,y1152.f1⟩] : List S105) [.string y1152.f0,.int .i64 (y1152.f1)] ?hr (Reps.c2 (k105_mkM _ _ _ ⟨y1152.f0,y1152.f1⟩) (Reps.none _ _)) (by simp) B ?_;(case hd | hg=>rfl);(case hr=>go_simp;first | done | rfl);intro z65 hz65 AL65 kL65 w1153 hb B RL65 QL65;have MRL65:=mrf QL65 KK;replace Rp5:=rn Rp5 hb;replace HI:=hib HI hb;replace KK:=kkb KK hb;clear hb QL65)
     | ((with_reducible refine gate_builtin (b:=.append) (xs:=#[.tmp 54,.tmp 65]) rfl ?_);at_builtin;refine apx k105 105 rfl (.tmp 54) (.tmp 65) 35 (.agg #[.string (⟨#[]⟩ : ByteArray),.int .i64 (0)]) 24 rfl Try.underlying35 info105 rfl (by decide) (by omega) rfl rfl Rp5 (rc RL65) (fun x cs h=>by rw [k105_open h];exact k105_mkM _ _ _ x) (by rw [← hz65];simp only [List.length_cons,List.length_nil];omega) B ?_;intro z66 hz66 AL66 kL66 w1154 hg B RL66 hat;replace HI:=hig HI Rp5 (by decide) hg;have MRL66:=mra hat MRp5 KK;replace KK:=kkg KK MRp5 hg;clear hg hat))
    all_goals go_ret
    all_goals first
     | exact ⟨_,_,_,rfl,by omega,Rp5.out,MRp5.out,⟨by omega,by omega⟩,HI.out,B.out,KK.out⟩
     | exact ⟨_,_,_,rfl,by rw [← hz66,← hz65];simp only [List.length_append,List.length_cons,List.length_nil];omega,RL66.out,MRL66.out,⟨by omega,by omega⟩,HI.out,B.out,KK.out⟩

theorem spec_l20Session.D (n : Int) (hn : n≤1000000) (w W0 : World) (g : Nat) (bs : List Int) (p : Int) (hI : IsS133 w W0 g bs p) (hB : Below w.heap.size w W0) (hc : Dw.Code bs) (h0 : 0≤p) (h1 : p≤1099505000000) :
  Calls Try.prog 124 #[.pointer (some ⟨g,0,none⟩),.int .i64 n] W0 fun e w'=>∃ x y u p',e=.returned (.agg #[.int .i64 x,.int .i64 y,.int .i64 u])∧(True)∧Left w W0 g bs p 5 p' w':=by
 have hu:=Try.underlying76
 have B:=Aside0.mk hB
 have HI:=Aside0.mk hI
 have HC:=Aside0.mk hc
 have KK:=Aside0.mk (Kept.refl W0 (RB g))
 clear hB hI hc
 go_enter Try.func124,Try.ntmps124
 go_wp2_with (first
  | ((with_reducible refine gate_dst (N:=4) rfl ?_);refine bxq 4 #[.int .i64 (0),.int .i64 (0),.int .i64 (0)] 76 B fun g4 w1 hb B F4 L4 E4=>?_;have M4:=mbx E4 KK;replace HI:=hib HI hb;replace KK:=kkb KK hb;clear hb E4)
  | (go_at_call 108;(with_reducible refine cg1 (spec_l20Rd_odd.D n (by omega) w _ g bs p HI.out B.out HC.out (by omega) (by omega)) fun x2 p2 hx2 hp2 w2 hk B HI2=>?_);replace F4:=bkr F4 HI (by decide) hk;replace KK:=kkr KK hk;replace HI:=HI2;clear hk;skip)
  | ((with_reducible refine gate_dst (N:=14) rfl ?_);refine lt k76 76 ?hg (N:=14) ?hd ([⟨-1,1,0⟩,⟨4,1,0⟩,⟨1,0,0⟩,⟨1,1000,0⟩,⟨1,1,-3⟩,⟨1,1,1000⟩] : List S76) [.int .i64 (-1),.int .i64 (1),.int .i64 (0),.int .i64 (4),.int .i64 (1),.int .i64 (0),.int .i64 (1),.int .i64 (0),.int .i64 (0),.int .i64 (1),.int .i64 (1000),.int .i64 (0),.int .i64 (1),.int .i64 (1),.int .i64 (-3),.int .i64 (1),.int .i64 (1),.int .i64 (1000)] ?hr (Reps.c3 (k76_mkM _ _ _ ⟨-1,1,0⟩) (Reps.c3 (k76_mkM _ _ _ ⟨4,1,0⟩) (Reps.c3 (k76_mkM _ _ _ ⟨1,0,0⟩) (Reps.c3 (k76_mkM _ _ _ ⟨1,1000,0⟩) (Reps.c3 (k76_mkM _ _ _ ⟨1,1,-3⟩) (Reps.c3 (k76_mkM _ _ _ ⟨1,1,1000⟩) (Reps.none _ _))))))) (by simp) B ?_;(case hd | hg=>rfl);(case hr=>go_simp;first | done | rfl);intro z14 hz14 AL14 kL14 w51 hb B RL14 QL14;have NB4_L14:=nb QL14 F4;have MRL14:=mrf QL14 KK;replace F4:=bn F4 hb;replace HI:=hib HI hb;replace KK:=kkb KK hb;clear hb QL14)
  | (go_at_call 104;(with_reducible refine cg1 (spec_l20Rd_pick.D 6 w _ g bs p2 HI.out B.out HC.out (by omega) (by omega)) fun x52 p52 hx52 hp52 w52 hk B HI2=>?_);replace F4:=bkr F4 HI (by decide) hk;replace RL14:=rkr RL14 HI (by decide) hk;replace KK:=kkr KK hk;replace HI:=HI2;clear hk;skip;have hi52 : x52 < (z14.length : Int):=(by rw [← hz14];have:=hx52.2.1 (by omega);simpa using this);obtain ⟨ad52,hA52,y52_0,y52_1,y52_2⟩:=at_T76 (rc RL14) x52 hx52.1 hi52;have hj52:=hx52.1;generalize rd_T76 z14 x52=y52 at *;cases hA52;have j52:=eq_true hj52;have i52:=eq_true hi52)
  | ((with_reducible refine gate_store (t:=76) (p:=4) rfl ?_);obtain ⟨y0,y1,y2,z0,z1,z2⟩:=cz3 F4;refine sxq 76 76 4 0 [.int .i64 (y52.f0),.int .i64 (y52.f1),.int .i64 (y52.f2)] [.int .i64 (y52.f0),.int .i64 (y52.f1),.int .i64 (y52.f2)] B F4 L4 fun w53 hk B G=>?_;replace RL14:=rkn RL14 hk NB4_L14;replace HI:=his HI F4 (by decide) hk;replace KK:=kks KK M4 hk;replace F4:=G;clear hk y0 z0 y1 z1 y2 z2)
  | (go_at_call 104;(with_reducible refine cg1 (spec_l20Rd_pick.D 4 w _ g bs p2 HI.out B.out HC.out (by omega) (by omega)) fun x101 p101 hx101 hp101 w101 hk B HI2=>?_);replace F4:=bkr F4 HI (by decide) hk;replace KK:=kkr KK hk;replace HI:=HI2;clear hk;skip)
  | (go_at_call 104;(with_reducible refine cg1 (spec_l20Rd_pick.D 6 w _ g bs p101 HI.out B.out HC.out (by omega) (by omega)) fun x102 p102 hx102 hp102 w102 hk B HI2=>?_);replace F4:=bkr F4 HI (by decide) hk;replace KK:=kkr KK hk;replace HI:=HI2;clear hk;skip)
  | (go_at_call 104;(with_reducible refine cg1 (spec_l20Rd_pick.D 9 w _ g bs p102 HI.out B.out HC.out (by omega) (by omega)) fun x103 p103 hx103 hp103 w103 hk B HI2=>?_);replace F4:=bkr F4 HI (by decide) hk;replace KK:=kkr KK hk;replace HI:=HI2;clear hk;skip)
  | ((with_reducible refine gate_store (t:=76) (p:=4) rfl ?_);obtain ⟨y0,y1,y2,z0,z1,z2⟩:=cz3 F4;refine sxq 76 76 4 0 [.int .i64 (x101),.int .i64 (1 + x102),.int .i64 (x103 + -2)] [.int .i64 (x101),.int .i64 (1 + x102),.int .i64 (x103 + -2)] B F4 L4 fun w104 hk B G=>?_;replace HI:=his HI F4 (by decide) hk;replace KK:=kks KK M4 hk;replace F4:=G;clear hk y0 z0 y1 z1 y2 z2))
 all_goals (refine bodyPost_ret (results_single rfl (.cell g4 76 _ (0,0) _ rfl F4.out hu rfl (by kernel_rfl) .nil)) rfl ?_)
 all_goals exact ⟨_,_,_,_,rfl,trivial,⟨by omega,by omega⟩,HI.out,B.out,KK.out⟩
theorem spec_l20Sessions.D (n : Int) (hn : n≤1000000) (w W0 : World) (g : Nat) (bs : List Int) (p : Int) (hI : IsS133 w W0 g bs p) (hB : Below w.heap.size w W0) (hc : Dw.Code bs) (h0 : 0≤p) (h1 : p≤1099500000000) :
  Calls Try.prog 107 #[.pointer (some ⟨g,0,none⟩),.int .i64 n] W0 fun e w'=>∃ v0 xs p',e=.returned (v0)∧(xs.length≤300)∧Kd.R k76 76 w' w.heap.size (fun _=>True) v0 xs∧Fr W0 v0∧Left w W0 g bs p 70 p' w':=by
 have hu:=Try.underlying76
 have B:=Aside0.mk hB
 have HI:=Aside0.mk hI
 have HC:=Aside0.mk hc
 have KK:=Aside0.mk (Kept.refl W0 (RB g))
 clear hB hI hc
 go_enter Try.func107,Try.ntmps107
 go_wp2_with (first
  | ((with_reducible refine gate_dst (N:=9) rfl ?_);refine lt k76 76 ?hg (N:=9) ?hd ([] : List S76) [] ?hr (Reps.none _ _) (by simp) B ?_;(case hd | hg=>rfl);(case hr=>go_simp;first | done | rfl);intro z9 hz9 AL9 kL9 w1 hb B RL9 QL9;have MRL9:=mrf QL9 KK;replace HI:=hib HI hb;replace KK:=kkb KK hb;clear hb QL9;subst hz9)
  | (go_at_call 104;(with_reducible refine cg1 (spec_l20Rd_pick.D 5 w _ g bs p HI.out B.out HC.out (by omega) (by omega)) fun x2 p2 hx2 hp2 w2 hk B HI2=>?_);replace RL9:=rkr RL9 HI (by decide) hk;replace KK:=kkr KK hk;replace HI:=HI2;clear hk;skip))
 have hx1:=hx2.1
 have hx2:=hx2.2.1 (by omega)
 obtain ⟨m0,rfl⟩ : ∃ m : Nat,x2=(m : Int):=⟨x2.toNat,by omega⟩
 go_loopg [5,6] (m0 + 1) (fun kx v5 v6 wr=>∃ (m : Nat) (xs : List S76) (pp : Int),v6=.int .i64 (m : Int)∧m < kx∧m≤4∧xs.length + m≤4∧(p≤pp∧pp + 5 * (m : Int)≤p + 30)∧Aside0 (IsS133 w wr g bs pp)∧Aside0 (Kept W0 wr (RB g))∧Aside0 (Below w.heap.size w wr)∧Aside0 (Ow k76 76 wr w.heap.size v5 xs)∧Aside0 (Fr W0 v5))
 case atStart=>exact ⟨m0,[],_,rfl,by omega,by omega,by simp only [List.length_nil];omega,by omega,HI,KK,B,RL9,MRL9⟩
 case round =>
  clear HI KK B RL9 MRL9
  obtain ⟨m,xs,pp,rfl,hm,hm8,hxl,hpp,HI,KK,B,Rp5,MRp5⟩:=hrel
  obtain ⟨A5,k5,rfl⟩:=Kd.R_slice Rp5.out
  by_cases hm0 : 0 < m
  ·obtain ⟨d,rfl⟩ : ∃ d,gk=d + 1:=⟨gk - 1,by omega⟩
   have cj : decide ((0 : Int) < (m : Int))=true:=decide_eq_true (by omega)
   go_wp2_with (first
    | (go_at_call 124;(with_reducible refine cg3 (spec_l20Session.D 0 (by omega) w _ g bs pp HI.out B.out HC.out (by omega) (by omega)) fun x301 y301 u301 p301 hx301 hp301 w301 hk B HI2=>?_);replace Rp5:=rkr Rp5 HI (by decide) hk;replace KK:=kkr KK hk;replace HI:=HI2;clear hk;skip)
    | (go_at_call 44;with_reducible refine crz (spec_SessionPut.M _ _ xs x301 y301 u301 _ (rc Rp5) (rl Rp5)) B fun zU302 hzU302 AU302 kU302 w302 hb B RU302 QU302=>?_;have MRU302:=mrf QU302 KK;replace Rp5:=rn Rp5 hb;replace HI:=hib HI hb;replace KK:=kkb KK hb;clear QU302;clear hb))
   go_roundg d
   case measure=>omega
   case rel=>exact ⟨m - 1,zU302,_,congrArg (Value.int .i64) (by omega),by omega,by omega,by rw [← hzU302];have:=putB_length xs ⟨x301,y301,u301⟩;omega,by omega,HI,KK,B,RU302,MRU302⟩
  ·have cj : decide ((0 : Int) < (m : Int))=false:=decide_eq_false (by omega)
   go_wp2_with (first
    | (go_at_call 108;(with_reducible refine cg1 (spec_l20Rd_odd.D n (by omega) w _ g bs pp HI.out B.out HC.out (by omega) (by omega)) fun x501 p501 hx501 hp501 w501 hk B HI2=>?_);replace Rp5:=rkr Rp5 HI (by decide) hk;replace KK:=kkr KK hk;replace HI:=HI2;clear hk;skip)
    | (go_at_call 104;(with_reducible refine cg1 (spec_l20Rd_pick.D 2 w _ g bs p501 HI.out B.out HC.out (by omega) (by omega)) fun x601 p601 hx601 hp601 w601 hk B HI2=>?_);replace Rp5:=rkr Rp5 HI (by decide) hk;replace KK:=kkr KK hk;replace HI:=HI2;clear hk;skip)
    | ((with_reducible refine gate_builtin (b:=.append) (xs:=#[.tmp 30,.tmp 31]) rfl ?_);at_builtin;refine apx k76 76 rfl (.tmp 30) (.tmp 31) 36 (.agg #[.int .i64 (0),.int .i64 (0),.int .i64 (0)]) 24 rfl Try.underlying36 info76 rfl (by decide) (by omega) rfl rfl Rp5 (rc Rp5) (fun x cs h=>by rw [k76_open h];exact k76_mkM _ _ _ x) (by omega) B ?_;intro z32 hz32 AL32 kL32 w701 hg B RL32 hat;replace HI:=hig HI Rp5 (by decide) hg;have MRL32:=mra hat MRp5 KK;replace KK:=kkg KK MRp5 hg;clear hg hat)
    | (go_at_call 124;(with_reducible refine cg3 (spec_l20Session.D 1 (by omega) w _ g bs p601 HI.out B.out HC.out (by omega) (by omega)) fun x801 y801 u801 p801 hx801 hp801 w801 hk B HI2=>?_);replace Rp5:=rkr Rp5 HI (by decide) hk;replace KK:=kkr KK hk;replace HI:=HI2;clear hk;skip)
    | ((with_reducible refine gate_dst (N:=36) rfl ?_);refine lt k76 76 ?hg (N:=36) ?hd ([⟨x801,y801,u801⟩] : List S76) [.int .i64 (x801),.int .i64 (y801),.int .i64 (u801)] ?hr (Reps.c3 (k76_mkM _ _ _ ⟨x801,y801,u801⟩) (Reps.none _ _)) (by simp) B ?_;(case hd | hg=>rfl);(case hr=>go_simp;first | done | rfl);intro z36 hz36 AL36 kL36 w802 hb B RL36 QL36;have MRL36:=mrf QL36 KK;replace Rp5:=rn Rp5 hb;replace HI:=hib HI hb;replace KK:=kkb KK hb;clear hb QL36)
    | ((with_reducible refine gate_builtin (b:=.append) (xs:=#[.tmp 33,.tmp 36]) rfl ?_);at_builtin;refine apx k76 76 rfl (.tmp 33) (.tmp 36) 36 (.agg #[.int .i64 (0),.int .i64 (0),.int .i64 (0)]) 24 rfl Try.underlying36 info76 rfl (by decide) (by omega) rfl rfl Rp5 (rc RL36) (fun x cs h=>by rw [k76_open h];exact k76_mkM _ _ _ x) (by rw [← hz36];simp only [List.length_cons,List.length_nil];omega) B ?_;intro z37 hz37 AL37 kL37 w803 hg B RL37 hat;replace HI:=hig HI Rp5 (by decide) hg;have MRL37:=mra hat MRp5 KK;replace KK:=kkg KK MRp5 hg;clear hg hat))
   all_goals go_ret
   all_goals first
    | exact ⟨_,_,_,rfl,by omega,Rp5.out,MRp5.out,⟨by omega,by omega⟩,HI.out,B.out,KK.out⟩
    | exact ⟨_,_,_,rfl,by rw [← hz32];simp only [List.length_append];omega,RL32.out,MRL32.out,⟨by omega,by omega⟩,HI.out,B.out,KK.out⟩
    | exact ⟨_,_,_,rfl,by rw [← hz37,← hz36];simp only [List.length_append,List.length_cons,List.length_nil];omega,RL37.out,MRL37.out,⟨by omega,by omega⟩,HI.out,B.out,KK.out⟩

theorem spec_l20Span.D (n : Int) (hn : n≤1000000) (w W0 : World) (g : Nat) (bs : List Int) (p : Int) (hI : IsS133 w W0 g bs p) (hB : Below w.heap.size w W0) (hc : Dw.Code bs) (h0 : 0≤p) (h1 : p≤1099505000000) :
  Calls Try.prog 103 #[.pointer (some ⟨g,0,none⟩),.int .i64 n] W0 fun e w'=>∃ x y p',e=.returned (.agg #[.string x,.string y])∧(True)∧Left w W0 g bs p 20 p' w':=by
 have hu:=Try.underlying34
 have B:=Aside0.mk hB
 have HI:=Aside0.mk hI
 have HC:=Aside0.mk hc
 have KK:=Aside0.mk (Kept.refl W0 (RB g))
 clear hB hI hc
 go_enter Try.func103,Try.ntmps103
 go_wp2_with (first
  | ((with_reducible refine gate_dst (N:=4) rfl ?_);refine bxq 4 #[.string (⟨#[]⟩ : ByteArray),.string (⟨#[]⟩ : ByteArray)] 34 B fun g4 w1 hb B F4 L4 E4=>?_;have M4:=mbx E4 KK;replace HI:=hib HI hb;replace KK:=kkb KK hb;clear hb E4)
  | (go_at_call 108;(with_reducible refine cg1 (spec_l20Rd_odd.D n (by omega) w _ g bs p HI.out B.out HC.out (by omega) (by omega)) fun x2 p2 hx2 hp2 w2 hk B HI2=>?_);replace F4:=bkr F4 HI (by decide) hk;replace KK:=kkr KK hk;replace HI:=HI2;clear hk;skip)
  | ((with_reducible refine gate_dst (N:=15) rfl ?_);refine lt k34 34 ?hg (N:=15) ?hd ([⟨(⟨#[98]⟩ : ByteArray),(⟨#[98]⟩ : ByteArray)⟩,⟨(⟨#[99]⟩ : ByteArray),(⟨#[98]⟩ : ByteArray)⟩,⟨(⟨#[]⟩ : ByteArray),(⟨#[97]⟩ : ByteArray)⟩,⟨(⟨#[65]⟩ : ByteArray),(⟨#[]⟩ : ByteArray)⟩,⟨(⟨#[]⟩ : ByteArray),(⟨#[97,98,99,100,101]⟩ : ByteArray)⟩] : List S34) [.string (⟨#[98]⟩ : ByteArray),.string (⟨#[98]⟩ : ByteArray),.string (⟨#[99]⟩ : ByteArray),.string (⟨#[98]⟩ : ByteArray),.string (⟨#[]⟩ : ByteArray),.string (⟨#[97]⟩ : ByteArray),.string (⟨#[65]⟩ : ByteArray),.string (⟨#[]⟩ : ByteArray),.string (⟨#[]⟩ : ByteArray),.string (⟨#[97,98,99,100,101]⟩ : ByteArray)] ?hr (Reps.c2 (k34_mkM _ _ _ ⟨(⟨#[98]⟩ : ByteArray),(⟨#[98]⟩ : ByteArray)⟩) (Reps.c2 (k34_mkM _ _ _ ⟨(⟨#[99]⟩ : ByteArray),(⟨#[98]⟩ : ByteArray)⟩) (Reps.c2 (k34_mkM _ _ _ ⟨(⟨#[]⟩ : ByteArray),(⟨#[97]⟩ : ByteArray)⟩) (Reps.c2 (k34_mkM _ _ _ ⟨(⟨#[65]⟩ : ByteArray),(⟨#[]⟩ : ByteArray)⟩) (Reps.c2 (k34_mkM _ _ _ ⟨(⟨#[]⟩ : ByteArray),(⟨#[97,98,99,100,101]⟩ : ByteArray)⟩) (Reps.none _ _)))))) (by simp) B ?_;(case hd | hg=>rfl);(case hr=>go_simp;first | done | rfl);intro z15 hz15 AL15 kL15 w51 hb B RL15 QL15;have NB4_L15:=nb QL15 F4;have MRL15:=mrf QL15 KK;replace F4:=bn F4 hb;replace HI:=hib HI hb;replace KK:=kkb KK hb;clear hb QL15)
  | (go_at_call 104;(with_reducible refine cg1 (spec_l20Rd_pick.D 5 w _ g bs p2 HI.out B.out HC.out (by omega) (by omega)) fun x52 p52 hx52 hp52 w52 hk B HI2=>?_);replace F4:=bkr F4 HI (by decide) hk;replace RL15:=rkr RL15 HI (by decide) hk;replace KK:=kkr KK hk;replace HI:=HI2;clear hk;skip;have hi52 : x52 < (z15.length : Int):=(by rw [← hz15];have:=hx52.2.1 (by omega);simpa using this);obtain ⟨ad52,hA52,y52_0,y52_1⟩:=at_T34 (rc RL15) x52 hx52.1 hi52;have hj52:=hx52.1;generalize rd_T34 z15 x52=y52 at *;cases hA52;have j52:=eq_true hj52;have i52:=eq_true hi52)
  | ((with_reducible refine gate_store (t:=34) (p:=4) rfl ?_);obtain ⟨y0,y1,z0,z1⟩:=cz2 F4;refine sxq 34 34 4 0 [.string y52.f0,.string y52.f1] [.string y52.f0,.string y52.f1] B F4 L4 fun w53 hk B G=>?_;replace RL15:=rkn RL15 hk NB4_L15;replace HI:=his HI F4 (by decide) hk;replace KK:=kks KK M4 hk;replace F4:=G;clear hk y0 z0 y1 z1)
  | (go_at_call 120;(with_reducible refine cg1 (spec_l20Key.D 0 (by omega) w _ g bs p2 HI.out B.out HC.out (by omega) (by omega)) fun x101 p101 hx101 hp101 w101 hk B HI2=>?_);replace F4:=bkr F4 HI (by decide) hk;replace KK:=kkr KK hk;replace HI:=HI2;clear hk;skip)
  | (go_at_call 120;(with_reducible refine cg1 (spec_l20Key.D 0 (by omega) w _ g bs p101 HI.out B.out HC.out (by omega) (by omega)) fun x102 p102 hx102 hp102 w102 hk B HI2=>?_);replace F4:=bkr F4 HI (by decide) hk;replace KK:=kkr KK hk;replace HI:=HI2;clear hk;skip)
  | (go_at_call 104;(with_reducible refine cg1 (spec_l20Rd_pick.D 6 w _ g bs p102 HI.out B.out HC.out (by omega) (by omega)) fun x103 p103 hx103 hp103 w103 hk B HI2=>?_);replace F4:=bkr F4 HI (by decide) hk;replace KK:=kkr KK hk;replace HI:=HI2;clear hk;skip)
  | ((with_reducible refine gate_store (t:=34) (p:=4) rfl ?_);obtain ⟨y0,y1,z0,z1⟩:=cz2 F4;refine sxq 34 34 4 0 [.string (⟨#[]⟩ : ByteArray),.string (⟨#[]⟩ : ByteArray)] [.string (⟨#[]⟩ : ByteArray),.string (⟨#[]⟩ : ByteArray)] B F4 L4 fun w201 hk B G=>?_;replace HI:=his HI F4 (by decide) hk;replace KK:=kks KK M4 hk;replace F4:=G;clear hk y0 z0 y1 z1)
  | ((with_reducible refine gate_store (t:=34) (p:=4) rfl ?_);obtain ⟨y0,y1,z0,z1⟩:=cz2 F4;refine sxq 34 34 4 0 [.string x101,.string (⟨#[]⟩ : ByteArray)] [.string x101,.string (⟨#[]⟩ : ByteArray)] B F4 L4 fun w251 hk B G=>?_;replace HI:=his HI F4 (by decide) hk;replace KK:=kks KK M4 hk;replace F4:=G;clear hk y0 z0 y1 z1)
  | ((with_reducible refine gate_store (t:=34) (p:=4) rfl ?_);obtain ⟨y0,y1,z0,z1⟩:=cz2 F4;refine sxq 34 34 4 0 [.string (⟨#[]⟩ : ByteArray),.string x102] [.string (⟨#[]⟩ : ByteArray),.string x102] B F4 L4 fun w301 hk B G=>?_;replace HI:=his HI F4 (by decide) hk;replace KK:=kks KK M4 hk;replace F4:=G;clear hk y0 z0 y1 z1)
  | ((with_reducible refine gate_store (t:=34) (p:=4) rfl ?_);obtain ⟨y0,y1,z0,z1⟩:=cz2 F4;refine sxq 34 34 4 0 [.string x101,.string x102] [.string x101,.string x102] B F4 L4 fun w351 hk B G=>?_;replace HI:=his HI F4 (by decide) hk;replace KK:=kks KK M4 hk;replace F4:=G;clear hk y0 z0 y1 z1)
  | ((with_reducible refine gate_store (t:=34) (p:=4) rfl ?_);obtain ⟨y0,y1,z0,z1⟩:=cz2 F4;refine sxq 34 34 4 0 [.string x102,.string x101] [.string x102,.string x101] B F4 L4 fun w401 hk B G=>?_;replace HI:=his HI F4 (by decide) hk;replace KK:=kks KK M4 hk;replace F4:=G;clear hk y0 z0 y1 z1)
  | ((with_reducible refine gate_store (t:=34) (p:=4) rfl ?_);obtain ⟨y0,y1,z0,z1⟩:=cz2 F4;refine sxq 34 34 4 0 [.string x101,.string (⟨#[]⟩ : ByteArray)] [.string x101,.string (⟨#[]⟩ : ByteArray)] B F4 L4 fun w451 hk B G=>?_;replace HI:=his HI F4 (by decide) hk;replace KK:=kks KK M4 hk;replace F4:=G;clear hk y0 z0 y1 z1))
 all_goals (refine bodyPost_ret (results_single rfl (.cell g4 34 _ (0,0) _ rfl F4.out hu rfl (by kernel_rfl) .nil)) rfl ?_)
 all_goals exact ⟨_,_,_,rfl,trivial,⟨by omega,by omega⟩,HI.out,B.out,KK.out⟩

def spec_PairScan.T7 : Bool × List (List Nat × List Nat):=(true,[([],[]),([],[]),([],[]),([1,2],[1,2]),([3],[3]),([4],[4]),([0,5],[0,5])])
def spec_PairScan.B7 : List Nat:=[0,0,0,6,14,30,63]
theorem spec_PairScan.tab7 : rtab .any (opsOf Try.f121 7)=spec_PairScan.T7:=by kernel_rfl
theorem spec_PairScan.bits7 : waitsOk spec_PairScan.T7.2 spec_PairScan.B7=true:=by kernel_rfl
theorem spec_PairScan.M (A0 : Option Addr) (c0 : Nat) (l : List S105) (a b : ByteArray) (w : World) (hr0 : Kd.C k105 w A0 l.length l) (hc0 : l.length≤c0) : Calls Try.prog 121 #[.slice A0 l.length c0,.agg #[.string a,.string b],.int .i64 48] w fun e w'=>∃ v0,e=.returned v0∧Kd.R k105 105 w' w.heap.size (fun _=>True) v0 (inM l a b)∧Below w.heap.size w w':=by
 have B:=Aside0.mk (Below.refl w.heap.size w)
 have hu:=Try.underlying34
 have HR0:=Aside0.mk hr0
 have HC0:=Aside0.mk hc0
 have L63:=Aside0.mk hr0.2.1
 clear hr0 hc0
 obtain ⟨r,hr⟩ : ∃ r,inM l a b=r:=⟨_,rfl⟩
 rw [hr]
 have l148 : l1B 48 0 48=true:=by decide
 go_enter Try.func121,Try.ntmps121
 go_wp2_with (first
  | ((with_reducible refine gate_dst (N:=4) rfl ?_);refine bxq 4 #[.string a,.string b] 34 B fun g4 w1 hb B F4 L4 E4=>?_;obtain ⟨c4_0,c4_1⟩:=cs2 F4;clear hb E4)
  | ((with_reducible refine gate_dst (N:=9) rfl ?_);refine lt k105 105 ?hg (N:=9) ?hd ([] : List S105) [] ?hr (Reps.none _ _) (by simp) B ?_;(case hd | hg=>rfl);(case hr=>go_simp;first | done | rfl);intro z9 hz9 AL9 kL9 w2 hb B RL9 QL9;replace F4:=bn F4 hb;clear c4_0 c4_1;obtain ⟨c4_0,c4_1⟩:=cs2 F4;clear hb QL9)
  | (go_at_call 81;with_reducible refine cl (spec_PairsValid.M _ _ l _ (cb HR0 B)) B fun w3 hb B=>?_;replace F4:=bn F4 hb;replace RL9:=rn RL9 hb;clear c4_0 c4_1;obtain ⟨c4_0,c4_1⟩:=cs2 F4;clear hb)
  | (go_at_call 80;with_reducible refine cl (spec_IntervalValid.M a b _) B fun w4 hb B=>?_;replace F4:=bn F4 hb;replace RL9:=rn RL9 hb;clear hb)
  | (go_at_call 83;with_reducible refine cl (spec_l1In.M 48 0 48 _) B fun w5 hb B=>?_;replace F4:=bn F4 hb;replace RL9:=rn RL9 hb;clear hb))
 all_goals try (refine useEq (a:=r) (b:=([] : List S105)) ?_ (fun hM=>?_);(rw [← hr];unfold inM;grind);subst hM;subst hz9;go_ret;exact ⟨_,rfl,RL9.out,B.out⟩)
 have hv : prB l=true∧ivB a b=true:=by grind
 have hrq : l.filter (fun p=>insB a b p.f0)=r:=by rw [← hr];unfold inM;simp [hv.1,hv.2]
 subst hz9
 have h48:=prB_len hv.1
 have HV:=Aside0.mk hv
 have H:=Aside0.mk (show ([] : List S105) ++ (l.drop 0).filter (fun p=>insB a b p.f0)=r from hrq)
 clear hr hrq hv c4_0 c4_1
 go_loopg [7,8] (l.length + 1) (fun kx v7 v8 wr=>∃ (j : Nat) (p : List S105),v8=.int .i64 (j : Int)∧j≤l.length∧l.length < j + kx∧p.length≤j∧Aside0 (Below w.heap.size w wr)∧Aside0 (wr.heap[g4]?=some (.cells #[.string a,.string b] 34 (0,0)))∧Aside0 (Ow k105 105 wr w.heap.size v7 p)∧Aside0 (p ++ (l.drop j).filter (fun p=>insB a b p.f0)=r))
 case atStart=>exact ⟨0,[],rfl,by omega,by omega,by simp,B,F4,RL9,H⟩
 case round =>
  clear H B F4 RL9
  obtain ⟨j,p,rfl,hj,hk,hpl,B,F4,Rp7,H⟩:=hrel
  obtain ⟨A7,k7,rfl⟩:=Kd.R_slice Rp7.out
  obtain ⟨c4_0,c4_1⟩:=cs2 F4
  by_cases hlt : j < l.length
  ·have HS:=H.out
   rw [pr_drop hlt,List.filter_cons] at HS
   have hhi:=has_ins HV.out.1 HV.out.2 hlt
   clear H
   obtain ⟨d,rfl⟩ : ∃ d,gk=d + 1:=⟨gk - 1,by omega⟩
   have cj : decide ((j : Int) < (l.length : Int))=true:=decide_eq_true (by omega)
   have cp : decide ((p.length : Int) < 48)=true:=decide_eq_true (by omega)
   obtain ⟨ad,hA,y0,y1⟩:=at_T105 (cb HR0 B) (j : Int) (by omega) (by omega)
   cases hA
   rw [Int.toNat_natCast] at y0 y1
   have j1:=eq_true (show (j : Int) < (l.length : Int) by omega)
   have j2:=eq_true hlt
   generalize hy : rd_T105 l (j : Int)=y at *
   have HT:=Aside0.mk HS
   have HH:=Aside0.mk hhi
   clear HS hhi
   try go_wp2
   all_goals (
    refine rg (n:=7) (S:=fun W=>W.heap[g4]?=some (.cells #[.string a,.string b] 34 (0,0))∧Kd.C k105 W (some ad) l.length l) (ds:=[]) #[false,false,false,false,false,false,false] (by kernel_rfl) rfl rfl ⟨F4.out,(cb HR0 B)⟩ id B (fun w101 hb B hHeld=>?_)
    refine with_tabW spec_PairScan.tab7 spec_PairScan.bits7 (fun HT_ HW_=>?_)
    replace F4:=bn F4 hb
    replace Rp7:=rn Rp7 hb
    clear hb
    refine tvq 0 (some 36) (bits 7 1) HT_ HW_ rfl hHeld (by intro w' hS;obtain ⟨s0,s1⟩:=hS;obtain ⟨q0,q1⟩:=cs2 (Aside0.mk s0);go_simp;with_reducible rfl) ?_
    refine pvq 1 (some 37) (bits 7 3) HT_ ?_
    refine pvq 2 (some 38) (bits 7 7) HT_ ?_
    refine pvq 3 (some 39) (bits 7 15) HT_ ?_
    refine pvq 4 (some 40) (bits 7 31) HT_ ?_
    refine tvq 5 (some 41) (bits 7 63) HT_ HW_ rfl hHeld (by intro w' hS;obtain ⟨s0,s1⟩:=hS;obtain ⟨_,hA,q0,q1⟩:=at_T105 s1 (j : Int) (by omega) (by omega);cases hA;rw [Int.toNat_natCast] at q0 q1;rw [hy] at q0 q1;go_simp;with_reducible rfl) ?_
    refine nmq ?_
    refine one_ (i:=6) (N:=some 42) (bits 7 127) rfl rfl (one_of HT_.out (by kernel_rfl)) (by decide) (fun K hK=>?_)
    refine gsq Try.func42 #[.agg #[.string a,.string b],.string y.f0] ?_
    with_reducible refine cl (spec_IntervalHas.M a b y.f0 _) B fun w102 hb B=>?_
    replace F4:=bn F4 hb
    replace Rp7:=rn Rp7 hb
    clear hb
    refine ⟨_,rfl,?_⟩
    refine hK.out _ _ ⟨F4.out,(cb HR0 B)⟩ (fun hHeld=>?_)
    clear hK K
    refine npq (some 42) ?_
    refine done_ (done_of HT_.out (by kernel_rfl)) ?_
    clear y0 y1
    obtain ⟨ad2,hA,y0,y1⟩:=at_T105 (cb HR0 B) (j : Int) (by omega) (by omega)
    cases hA
    rw [Int.toNat_natCast,hy] at y0 y1)
   all_goals go_wp2_with (first
    | ((with_reducible refine gate_dst (N:=48) rfl ?_);refine lt k105 105 ?hg (N:=48) ?hd ([⟨y.f0,y.f1⟩] : List S105) [.string y.f0,.int .i64 (y.f1)] ?hr (Reps.c2 (k105_mkM _ _ _ ⟨y.f0,y.f1⟩) (Reps.none _ _)) (by simp) B ?_;(case hd | hg=>rfl);(case hr=>go_simp;first | done | rfl);intro z48 hz48 AL48 kL48 w103 hb B RL48 QL48;replace F4:=bn F4 hb;replace Rp7:=rn Rp7 hb;clear hb QL48)
    | ((with_reducible refine gate_builtin (b:=.append) (xs:=#[.tmp 43,.tmp 48]) rfl ?_);at_builtin;refine apx k105 105 rfl (.tmp 43) (.tmp 48) 35 (.agg #[.string (⟨#[]⟩ : ByteArray),.int .i64 (0)]) 24 rfl Try.underlying35 info105 rfl (by decide) (by omega) rfl rfl Rp7 (rc RL48) (fun x cs h=>by rw [k105_open h];exact k105_mkM _ _ _ x) (by rw [← hz48];simp only [List.length_cons,List.length_nil];omega) B ?_;intro z49 hz49 AL49 kL49 w104 hg B RL49 hat;replace F4:=bga F4 hg Rp7 (by decide);clear hg hat))
   all_goals first
    | (refine useEq (a:=hasB a b y.f0) (b:=true) ?_ (fun hK=>?_);(first | assumption | (simp_all;done));have HS:=HT.out;rw [← HH.out,hK,if_pos rfl] at HS;go_roundg d;(case measure=>omega);(case rel=>exact ⟨j + 1,z49,congrArg (Value.int .i64) (Int.natCast_succ _).symm,by omega,by omega,(by rw [← hz49,← hz48];simp only [List.length_append,List.length_cons,List.length_nil];omega),B,F4,RL49,⟨by rw [← hz49,← hz48,List.append_assoc];exact HS⟩⟩))
    | (refine useEq (a:=hasB a b y.f0) (b:=false) ?_ (fun hK=>?_);(first | assumption | (simp_all;done));have HS:=HT.out;rw [← HH.out,hK,if_neg (by simp)] at HS;go_roundg d;(case measure=>omega);(case rel=>exact ⟨j + 1,p,congrArg (Value.int .i64) (Int.natCast_succ _).symm,by omega,by omega,by omega,B,F4,Rp7,⟨HS⟩⟩))
  ·have cj : decide ((j : Int) < (l.length : Int))=false:=decide_eq_false (by omega)
   have hr:=H.out
   rw [List.drop_of_length_le (by omega),List.filter_nil,List.append_nil] at hr
   subst hr
   clear H
   go_wp2
   go_ret
   exact ⟨_,rfl,Rp7.out,B.out⟩
theorem spec_PairsIn.M (A0 : Option Addr) (c0 : Nat) (l : List S105) (a b : ByteArray) (w : World) (hr0 : Kd.C k105 w A0 l.length l) (hc0 : l.length≤c0) : Calls Try.prog 105 #[.slice A0 l.length c0,.agg #[.string a,.string b]] w fun e w'=>∃ v0,e=.returned v0∧Kd.R k105 105 w' w.heap.size (fun _=>True) v0 (inM l a b)∧Below w.heap.size w w':=by
 have B:=Aside0.mk (Below.refl w.heap.size w)
 have hu:=Try.underlying34
 have HR0:=Aside0.mk hr0
 have HC0:=Aside0.mk hc0
 have L63:=Aside0.mk hr0.2.1
 clear hr0 hc0
 go_enter Try.func105,Try.ntmps105
 go_wp2_with (first
  | ((with_reducible refine gate_dst (N:=3) rfl ?_);refine bxq 3 #[.string a,.string b] 34 B fun g3 w1 hb B F3 L3 E3=>?_;obtain ⟨c3_0,c3_1⟩:=cs2 F3;clear hb E3)
  | (go_at_call 121;with_reducible refine cr (spec_PairScan.M _ _ l a b _ (cb HR0 B) HC0.out) B fun AI2 kI2 w2 hb B RI2 QI2=>?_;clear QI2;clear hb))
 go_ret
 exact ⟨_,rfl,RI2.out,B.out⟩

def spec_l20State.T4 : Bool × List (List Nat × List Nat):=(true,[([],[]),([],[]),([1],[1]),([],[]),([2,3,2],[2,3]),([],[]),([5,4],[5]),([0,4,6],[0,4,6]),([],[]),([8,7,6,0,1,2,3,4,5,6,7,8],[7,8])])
def spec_l20State.B4 : List Nat:=[0,0,2,0,14,0,62,127,0,511]
theorem spec_l20State.tab4 : rtab .any (opsOf Try.f62 4)=spec_l20State.T4:=by kernel_rfl
theorem spec_l20State.bits4 : waitsOk spec_l20State.T4.2 spec_l20State.B4=true:=by kernel_rfl
theorem spec_l20State.D (n : Int) (hn : n≤1000000) (w W0 : World) (g : Nat) (bs : List Int) (p : Int) (hI : IsS133 w W0 g bs p) (hB : Below w.heap.size w W0) (hc : Dw.Code bs) (h0 : 0≤p) (h1 : p≤1099498000000) :
  Calls Try.prog 62 #[.pointer (some ⟨g,0,none⟩),.int .i64 n] W0 fun e w'=>∃ a b v0 v1 t c xs ys p',e=.returned (.agg #[.string a,.string b,v0,v1,.bool t,.string c])∧(xs.length≤300∧ys.length≤300)∧(Kd.R k105 105 w' w.heap.size (fun _=>True) v0 xs∧Fr W0 v0)∧(Kd.R k76 76 w' w.heap.size (fun _=>True) v1 ys∧Fr W0 v1)∧Left w W0 g bs p 1000 p' w':=by
 have hu:=Try.underlying38
 have hu2:=Try.underlying34
 have B:=Aside0.mk hB
 have HI:=Aside0.mk hI
 have HC:=Aside0.mk hc
 have KK:=Aside0.mk (Kept.refl W0 (RB g))
 clear hB hI hc
 go_enter Try.func62,Try.ntmps62
 go_upto_if 14 with (first
  | ((with_reducible refine gate_dst (N:=4) rfl ?_);refine bxq 4 #[.string (⟨#[]⟩ : ByteArray),.string (⟨#[]⟩ : ByteArray),.slice none 0 0,.slice none 0 0,.bool false,.string (⟨#[]⟩ : ByteArray)] 38 B fun g4 w1 hb B F4 L4 E4=>?_;have M4:=mbx E4 KK;replace HI:=hib HI hb;replace KK:=kkb KK hb;clear hb E4)
  | (go_at_call 103;(with_reducible refine cg2 (spec_l20Span.D 0 (by omega) w _ g bs p HI.out B.out HC.out (by omega) (by omega)) fun x2 y2 p2 hx2 hp2 w2 hk B HI2=>?_);replace F4:=bkr F4 HI (by decide) hk;replace KK:=kkr KK hk;replace HI:=HI2;clear hk;skip)
  | ((with_reducible refine gate_dst (N:=5) rfl ?_);refine bxq 5 #[.string (⟨#[]⟩ : ByteArray),.string (⟨#[]⟩ : ByteArray)] 34 B fun g5 w3 hb B F5 L5 E5=>?_;have N4_5:=ne1 E5 F4;have M5:=mbx E5 KK;replace F4:=bn F4 hb;replace HI:=hib HI hb;replace KK:=kkb KK hb;clear hb E5)
  | ((with_reducible refine gate_store (t:=34) (p:=5) rfl ?_);obtain ⟨y0,y1,z0,z1⟩:=cz2 F5;refine sxq 34 34 5 0 [.string x2,.string y2] [.string x2,.string y2] B F5 L5 fun w4 hk B G=>?_;replace F4:=bk F4 hk N4_5.out;replace HI:=his HI F5 (by decide) hk;replace KK:=kks KK M5 hk;replace F5:=G;clear hk y0 z0 y1 z1)
  | (go_at_call 104;(with_reducible refine cg1 (spec_l20Rd_pick.D 2 w _ g bs p2 HI.out B.out HC.out (by omega) (by omega)) fun x5 p5 hx5 hp5 w5 hk B HI2=>?_);replace F4:=bkr F4 HI (by decide) hk;replace F5:=bkr F5 HI (by decide) hk;replace KK:=kkr KK hk;replace HI:=HI2;clear hk;skip))
 go_cut [5] (fun v5 wc=>∃ (va vb : ByteArray),v5=.pointer (some ⟨g5,0,none⟩)∧Aside0 (wc.heap[g5]?=some (.cells #[.string va,.string vb] 34 (0,0)))∧Aside0 (wc.heap[g4]?=some (.cells #[.string (⟨#[]⟩ : ByteArray),.string (⟨#[]⟩ : ByteArray),.slice none 0 0,.slice none 0 0,.bool false,.string (⟨#[]⟩ : ByteArray)] 38 (0,0)))∧Aside0 (IsS133 w wc g bs p5)∧Aside0 (Kept W0 wc (RB g))∧Aside0 (Below w.heap.size w wc))
 case first =>
  go_wp2_with (first
   | ((with_reducible refine gate_store (t:=34) (p:=5) rfl ?_);obtain ⟨y0,y1,z0,z1⟩:=cz2 F5;refine sxq 34 34 5 0 [.string (⟨#[]⟩ : ByteArray),.string (⟨#[]⟩ : ByteArray)] [.string (⟨#[]⟩ : ByteArray),.string (⟨#[]⟩ : ByteArray)] B F5 L5 fun w51 hk B G=>?_;replace F4:=bk F4 hk N4_5.out;replace HI:=his HI F5 (by decide) hk;replace KK:=kks KK M5 hk;replace F5:=G;clear hk y0 z0 y1 z1))
  all_goals (go_meet;(case rel=>exact ⟨_,_,rfl,F5,F4,HI,KK,B⟩))
 case rest =>
  clear B HI KK F4 F5
  obtain ⟨va,vb,rfl,F5,F4,HI,KK,B⟩:=hcut
  obtain ⟨c4_0,c4_1,c4_2,c4_3,c4_4,c4_5⟩:=cs6 F4
  obtain ⟨c5_0,c5_1⟩:=cs2 F5
  try go_wp2
  all_goals (
   refine rg (n:=10) (S:=fun W=>W.heap[g5]?=some (.cells #[.string va,.string vb] 34 (0,0))) (ds:=[]) #[false,false,false,false,false,false,false,false,false,false] (by kernel_rfl) rfl rfl F5.out id B (fun w101 hb B hHeld=>?_)
   refine with_tabW spec_l20State.tab4 spec_l20State.bits4 (fun HT_ HW_=>?_)
   replace F4:=bn F4 hb
   replace F5:=bn F5 hb
   replace HI:=hib HI hb
   replace KK:=kkb KK hb
   clear hb
   refine join_ 1 (bits 10 511) (σ:=Option Addr × Nat × List S105 × Option Addr × Nat × List S105 × Option Addr × Nat × List S76 × Nat × Int) (fun (ADs18,kDs18,zDs18,AIs20,kIs20,zIs20,ADs22,kDs22,zDs22,g6,ps22)=>[(16,.agg #[.string va,.string vb]),(17,.pointer (some ⟨g,0,none⟩)),(18,.slice ADs18 zDs18.length kDs18),(19,.agg #[.string va,.string vb]),(20,.slice AIs20 zIs20.length kIs20),(21,.pointer (some ⟨g,0,none⟩)),(22,.slice ADs22 zDs22.length kDs22),(23,.agg #[.string va,.string vb,.slice AIs20 zIs20.length kIs20,.slice ADs22 zDs22.length kDs22,.bool false,.string (⟨#[]⟩ : ByteArray)]),(6,.pointer (some ⟨g6,0,none⟩))]) (fun (ADs18,kDs18,zDs18,AIs20,kIs20,zIs20,ADs22,kDs22,zDs22,g6,ps22) W=>Aside0 (Below w.heap.size w W)∧Aside0 (W.heap[g4]?=some (.cells #[.string (⟨#[]⟩ : ByteArray),.string (⟨#[]⟩ : ByteArray),.slice none 0 0,.slice none 0 0,.bool false,.string (⟨#[]⟩ : ByteArray)] 38 (0,0)))∧Aside0 (W.heap[g5]?=some (.cells #[.string va,.string vb] 34 (0,0)))∧Aside0 (W.heap[g6]?=some (.cells #[.string (⟨#[]⟩ : ByteArray),.string (⟨#[]⟩ : ByteArray),.slice none 0 0,.slice none 0 0,.bool false,.string (⟨#[]⟩ : ByteArray)] 38 (0,0)))∧Aside0 (w.heap.size≤g6)∧Aside0 (g4 ≠ g6)∧Aside0 (g5 ≠ g6)∧Aside0 (Ow k105 105 W w.heap.size (.slice AIs20 zIs20.length kIs20) zIs20)∧Aside0 (Ow k76 76 W w.heap.size (.slice ADs22 zDs22.length kDs22) zDs22)∧Aside0 (IsS133 w W g bs ps22)∧Aside0 (Kept W0 W (RB g))∧Aside0 (W0.heap.size≤g6)∧Aside0 (Fr W0 (.slice AIs20 zIs20.length kIs20))∧Aside0 (Fr W0 (.slice ADs22 zDs22.length kDs22))∧(p5≤ps22∧ps22≤p5 + 160)∧zIs20.length≤300∧zDs22.length≤300) ?_ (fun J=>?_)
   rotate_left
   ·refine tvq 0 (some 16) (bits 10 1) HT_ HW_ rfl hHeld (by intro w' hS;have s0:=hS;obtain ⟨q0,q1⟩:=cs2 (Aside0.mk s0);go_simp;with_reducible rfl) ?_
    refine pvq 1 (some 17) (bits 10 3) HT_ ?_
    refine tvq 3 (some 19) (bits 10 11) HT_ HW_ rfl hHeld (by intro w' hS;have s0:=hS;obtain ⟨q0,q1⟩:=cs2 (Aside0.mk s0);go_simp;with_reducible rfl) ?_
    refine pvq 5 (some 21) (bits 10 43) HT_ ?_
    refine nmq ?_
    refine two_ (i:=2) (j:=8) (Ni:=some 18) (Nj:=some 6) (bits 10 47) (bits 10 299) rfl rfl rfl rfl (two_of HT_.out (by kernel_rfl)) (by decide) (by decide) (fun K hK=>?_) (fun K hK=>?_)
    ·refine gsq Try.func106 #[.pointer (some ⟨g,0,none⟩),.int .i64 (0)] ?_
     (with_reducible refine cgr (spec_l20Pairs.D 0 (by omega) w _ g bs p5 HI.out B.out HC.out (by omega) (by omega)) fun zDs18 ADs18 kDs18 ps18 hxs18 hps18 w102 hk B HI2 RDs18 QDs18=>?_)
     have MRDs18:=mrf QDs18 KK
     replace F4:=bkr F4 HI (by decide) hk
     replace F5:=bkr F5 HI (by decide) hk
     replace KK:=kkr KK hk
     replace HI:=HI2
     clear hk QDs18
     refine ⟨_,rfl,?_⟩
     refine hK.out _ _ F5.out (fun hHeld=>?_)
     clear hK K
     refine npq (some 18) ?_
     refine two_ (i:=4) (j:=8) (Ni:=some 20) (Nj:=some 6) (bits 10 63) (bits 10 303) rfl rfl rfl rfl (two_of HT_.out (by kernel_rfl)) (by decide) (by decide) (fun K hK=>?_) (fun K hK=>?_)
     ·refine gsq Try.func105 #[.slice ADs18 zDs18.length kDs18,.agg #[.string va,.string vb]] ?_
      with_reducible refine crz (spec_PairsIn.M _ _ zDs18 va vb _ (rc RDs18) (rl RDs18)) B fun zIs20 hzIs20 AIs20 kIs20 w103 hb B RIs20 QIs20=>?_
      have MRIs20:=mrf QIs20 KK
      replace F4:=bn F4 hb
      replace F5:=bn F5 hb
      replace HI:=hib HI hb
      replace KK:=kkb KK hb
      clear hb
      refine ⟨_,rfl,?_⟩
      refine hK.out _ _ F5.out (fun hHeld=>?_)
      clear hK K
      refine npq (some 20) ?_
      clear QIs20
      refine two_ (i:=6) (j:=8) (Ni:=some 22) (Nj:=some 6) (bits 10 127) (bits 10 319) rfl rfl rfl rfl (two_of HT_.out (by kernel_rfl)) (by decide) (by decide) (fun K hK=>?_) (fun K hK=>?_)
      ·refine gsq Try.func107 #[.pointer (some ⟨g,0,none⟩),.int .i64 (0)] ?_
       (with_reducible refine cgr (spec_l20Sessions.D 0 (by omega) w _ g bs ps18 HI.out B.out HC.out (by omega) (by omega)) fun zDs22 ADs22 kDs22 ps22 hxs22 hps22 w104 hk B HI2 RDs22 QDs22=>?_)
       have DIs20_Ds22:=fr QDs22 RIs20
       have MRDs22:=mrf QDs22 KK
       replace F4:=bkr F4 HI (by decide) hk
       replace F5:=bkr F5 HI (by decide) hk
       replace RIs20:=rkr RIs20 HI (by decide) hk
       replace KK:=kkr KK hk
       replace HI:=HI2
       clear hk QDs22
       refine ⟨_,rfl,?_⟩
       refine hK.out _ _ F5.out (fun hHeld=>?_)
       clear hK K
       refine npq (some 22) ?_
       refine pvq 7 (some 23) (bits 10 255) HT_ ?_
       refine nmq ?_
       refine one_ (i:=8) (N:=some 6) (bits 10 511) rfl rfl (one_of HT_.out (by kernel_rfl)) (by decide) (fun K hK=>?_)
       refine bxs (cs:=#[.string (⟨#[]⟩ : ByteArray),.string (⟨#[]⟩ : ByteArray),.slice none 0 0,.slice none 0 0,.bool false,.string (⟨#[]⟩ : ByteArray)]) (t:=38) (by rfl) rfl ?hr B (fun g6 w105 hb B F6 L6 E6=>?_)
       (case hr=>go_simp;first | done | rfl)
       have N4_6:=ne1 E6 F4
       have N5_6:=ne1 E6 F5
       have M6:=mbx E6 KK
       replace F4:=bn F4 hb
       replace F5:=bn F5 hb
       replace RIs20:=rn RIs20 hb
       replace RDs22:=rn RDs22 hb
       replace HI:=hib HI hb
       replace KK:=kkb KK hb
       clear hb E6
       refine hK.out _ _ F5.out (fun hHeld=>?_)
       clear hK K
       refine npq (some 6) ?_
       refine norm_ (a':=_) ?_ (J ⟨ADs18,kDs18,zDs18,AIs20,kIs20,zIs20,ADs22,kDs22,zDs22,g6,ps22⟩ _ ⟨B,F4,F5,F6,L6,N4_6,N5_6,RIs20,RDs22,HI,KK,M6,MRIs20,MRDs22,(by omega),(by rw [← hzIs20];exact Nat.le_trans (inM_len _ _ _) hxs18),hxs22⟩)
       simp only [putAll,Act.put,za,zb,zc]
       try rfl
      ·refine bxs (cs:=#[.string (⟨#[]⟩ : ByteArray),.string (⟨#[]⟩ : ByteArray),.slice none 0 0,.slice none 0 0,.bool false,.string (⟨#[]⟩ : ByteArray)]) (t:=38) (by rfl) rfl ?hr B (fun g6 w104 hb B F6 L6 E6=>?_)
       (case hr=>go_simp;first | done | rfl)
       have N4_6:=ne1 E6 F4
       have N5_6:=ne1 E6 F5
       have M6:=mbx E6 KK
       replace F4:=bn F4 hb
       replace F5:=bn F5 hb
       replace RIs20:=rn RIs20 hb
       replace HI:=hib HI hb
       replace KK:=kkb KK hb
       clear hb E6
       refine hK.out _ _ F5.out (fun hHeld=>?_)
       clear hK K
       refine npq (some 6) ?_
       refine one_ (i:=6) (N:=some 22) (bits 10 383) rfl rfl (one_of HT_.out (by kernel_rfl)) (by decide) (fun K hK=>?_)
       refine gsq Try.func107 #[.pointer (some ⟨g,0,none⟩),.int .i64 (0)] ?_
       (with_reducible refine cgr (spec_l20Sessions.D 0 (by omega) w _ g bs ps18 HI.out B.out HC.out (by omega) (by omega)) fun zDs22 ADs22 kDs22 ps22 hxs22 hps22 w105 hk B HI2 RDs22 QDs22=>?_)
       have DIs20_Ds22:=fr QDs22 RIs20
       have MRDs22:=mrf QDs22 KK
       replace F4:=bkr F4 HI (by decide) hk
       replace F5:=bkr F5 HI (by decide) hk
       replace F6:=bkr F6 HI (by decide) hk
       replace RIs20:=rkr RIs20 HI (by decide) hk
       replace KK:=kkr KK hk
       replace HI:=HI2
       clear hk QDs22
       refine ⟨_,rfl,?_⟩
       refine hK.out _ _ F5.out (fun hHeld=>?_)
       clear hK K
       refine npq (some 22) ?_
       refine pvq 7 (some 23) (bits 10 511) HT_ ?_
       refine nmq ?_
       refine norm_ (a':=_) ?_ (J ⟨ADs18,kDs18,zDs18,AIs20,kIs20,zIs20,ADs22,kDs22,zDs22,g6,ps22⟩ _ ⟨B,F4,F5,F6,L6,N4_6,N5_6,RIs20,RDs22,HI,KK,M6,MRIs20,MRDs22,(by omega),(by rw [← hzIs20];exact Nat.le_trans (inM_len _ _ _) hxs18),hxs22⟩)
       simp only [putAll,Act.put,za,zb,zc]
       try rfl
     ·refine bxs (cs:=#[.string (⟨#[]⟩ : ByteArray),.string (⟨#[]⟩ : ByteArray),.slice none 0 0,.slice none 0 0,.bool false,.string (⟨#[]⟩ : ByteArray)]) (t:=38) (by rfl) rfl ?hr B (fun g6 w103 hb B F6 L6 E6=>?_)
      (case hr=>go_simp;first | done | rfl)
      have N4_6:=ne1 E6 F4
      have N5_6:=ne1 E6 F5
      have M6:=mbx E6 KK
      replace F4:=bn F4 hb
      replace F5:=bn F5 hb
      replace RDs18:=rn RDs18 hb
      replace HI:=hib HI hb
      replace KK:=kkb KK hb
      clear hb E6
      refine hK.out _ _ F5.out (fun hHeld=>?_)
      clear hK K
      refine npq (some 6) ?_
      refine one_ (i:=4) (N:=some 20) (bits 10 319) rfl rfl (one_of HT_.out (by kernel_rfl)) (by decide) (fun K hK=>?_)
      refine gsq Try.func105 #[.slice ADs18 zDs18.length kDs18,.agg #[.string va,.string vb]] ?_
      with_reducible refine crz (spec_PairsIn.M _ _ zDs18 va vb _ (rc RDs18) (rl RDs18)) B fun zIs20 hzIs20 AIs20 kIs20 w104 hb B RIs20 QIs20=>?_
      have MRIs20:=mrf QIs20 KK
      replace F4:=bn F4 hb
      replace F5:=bn F5 hb
      replace F6:=bn F6 hb
      replace HI:=hib HI hb
      replace KK:=kkb KK hb
      clear hb
      refine ⟨_,rfl,?_⟩
      refine hK.out _ _ F5.out (fun hHeld=>?_)
      clear hK K
      refine npq (some 20) ?_
      clear QIs20
      refine one_ (i:=6) (N:=some 22) (bits 10 383) rfl rfl (one_of HT_.out (by kernel_rfl)) (by decide) (fun K hK=>?_)
      refine gsq Try.func107 #[.pointer (some ⟨g,0,none⟩),.int .i64 (0)] ?_
      (with_reducible refine cgr (spec_l20Sessions.D 0 (by omega) w _ g bs ps18 HI.out B.out HC.out (by omega) (by omega)) fun zDs22 ADs22 kDs22 ps22 hxs22 hps22 w105 hk B HI2 RDs22 QDs22=>?_)
      have DIs20_Ds22:=fr QDs22 RIs20
      have MRDs22:=mrf QDs22 KK
      replace F4:=bkr F4 HI (by decide) hk
      replace F5:=bkr F5 HI (by decide) hk
      replace F6:=bkr F6 HI (by decide) hk
      replace RIs20:=rkr RIs20 HI (by decide) hk
      replace KK:=kkr KK hk
      replace HI:=HI2
      clear hk QDs22
      refine ⟨_,rfl,?_⟩
      refine hK.out _ _ F5.out (fun hHeld=>?_)
      clear hK K
      refine npq (some 22) ?_
      refine pvq 7 (some 23) (bits 10 511) HT_ ?_
      refine nmq ?_
      refine norm_ (a':=_) ?_ (J ⟨ADs18,kDs18,zDs18,AIs20,kIs20,zIs20,ADs22,kDs22,zDs22,g6,ps22⟩ _ ⟨B,F4,F5,F6,L6,N4_6,N5_6,RIs20,RDs22,HI,KK,M6,MRIs20,MRDs22,(by omega),(by rw [← hzIs20];exact Nat.le_trans (inM_len _ _ _) hxs18),hxs22⟩)
      simp only [putAll,Act.put,za,zb,zc]
      try rfl
    ·refine bxs (cs:=#[.string (⟨#[]⟩ : ByteArray),.string (⟨#[]⟩ : ByteArray),.slice none 0 0,.slice none 0 0,.bool false,.string (⟨#[]⟩ : ByteArray)]) (t:=38) (by rfl) rfl ?hr B (fun g6 w102 hb B F6 L6 E6=>?_)
     (case hr=>go_simp;first | done | rfl)
     have N4_6:=ne1 E6 F4
     have N5_6:=ne1 E6 F5
     have M6:=mbx E6 KK
     replace F4:=bn F4 hb
     replace F5:=bn F5 hb
     replace HI:=hib HI hb
     replace KK:=kkb KK hb
     clear hb E6
     refine hK.out _ _ F5.out (fun hHeld=>?_)
     clear hK K
     refine npq (some 6) ?_
     refine one_ (i:=2) (N:=some 18) (bits 10 303) rfl rfl (one_of HT_.out (by kernel_rfl)) (by decide) (fun K hK=>?_)
     refine gsq Try.func106 #[.pointer (some ⟨g,0,none⟩),.int .i64 (0)] ?_
     (with_reducible refine cgr (spec_l20Pairs.D 0 (by omega) w _ g bs p5 HI.out B.out HC.out (by omega) (by omega)) fun zDs18 ADs18 kDs18 ps18 hxs18 hps18 w103 hk B HI2 RDs18 QDs18=>?_)
     have MRDs18:=mrf QDs18 KK
     replace F4:=bkr F4 HI (by decide) hk
     replace F5:=bkr F5 HI (by decide) hk
     replace F6:=bkr F6 HI (by decide) hk
     replace KK:=kkr KK hk
     replace HI:=HI2
     clear hk QDs18
     refine ⟨_,rfl,?_⟩
     refine hK.out _ _ F5.out (fun hHeld=>?_)
     clear hK K
     refine npq (some 18) ?_
     refine one_ (i:=4) (N:=some 20) (bits 10 319) rfl rfl (one_of HT_.out (by kernel_rfl)) (by decide) (fun K hK=>?_)
     refine gsq Try.func105 #[.slice ADs18 zDs18.length kDs18,.agg #[.string va,.string vb]] ?_
     with_reducible refine crz (spec_PairsIn.M _ _ zDs18 va vb _ (rc RDs18) (rl RDs18)) B fun zIs20 hzIs20 AIs20 kIs20 w104 hb B RIs20 QIs20=>?_
     have MRIs20:=mrf QIs20 KK
     replace F4:=bn F4 hb
     replace F5:=bn F5 hb
     replace F6:=bn F6 hb
     replace HI:=hib HI hb
     replace KK:=kkb KK hb
     clear hb
     refine ⟨_,rfl,?_⟩
     refine hK.out _ _ F5.out (fun hHeld=>?_)
     clear hK K
     refine npq (some 20) ?_
     clear QIs20
     refine one_ (i:=6) (N:=some 22) (bits 10 383) rfl rfl (one_of HT_.out (by kernel_rfl)) (by decide) (fun K hK=>?_)
     refine gsq Try.func107 #[.pointer (some ⟨g,0,none⟩),.int .i64 (0)] ?_
     (with_reducible refine cgr (spec_l20Sessions.D 0 (by omega) w _ g bs ps18 HI.out B.out HC.out (by omega) (by omega)) fun zDs22 ADs22 kDs22 ps22 hxs22 hps22 w105 hk B HI2 RDs22 QDs22=>?_)
     have DIs20_Ds22:=fr QDs22 RIs20
     have MRDs22:=mrf QDs22 KK
     replace F4:=bkr F4 HI (by decide) hk
     replace F5:=bkr F5 HI (by decide) hk
     replace F6:=bkr F6 HI (by decide) hk
     replace RIs20:=rkr RIs20 HI (by decide) hk
     replace KK:=kkr KK hk
     replace HI:=HI2
     clear hk QDs22
     refine ⟨_,rfl,?_⟩
     refine hK.out _ _ F5.out (fun hHeld=>?_)
     clear hK K
     refine npq (some 22) ?_
     refine pvq 7 (some 23) (bits 10 511) HT_ ?_
     refine nmq ?_
     refine norm_ (a':=_) ?_ (J ⟨ADs18,kDs18,zDs18,AIs20,kIs20,zIs20,ADs22,kDs22,zDs22,g6,ps22⟩ _ ⟨B,F4,F5,F6,L6,N4_6,N5_6,RIs20,RDs22,HI,KK,M6,MRIs20,MRDs22,(by omega),(by rw [← hzIs20];exact Nat.le_trans (inM_len _ _ _) hxs18),hxs22⟩)
     simp only [putAll,Act.put,za,zb,zc]
     try rfl
   rintro ⟨ADs18,kDs18,zDs18,AIs20,kIs20,zIs20,ADs22,kDs22,zDs22,g6,ps22⟩ w106 ⟨B,F4,F5,F6,L6,N4_6,N5_6,RIs20,RDs22,HI,KK,M6,MRIs20,MRDs22,hpj4,hlIs20,hlDs22⟩
   refine norm_ (a':=?_) ?_ ?_
   rotate_left
   ·simp only [putAll,Act.put,za,zb,zc]
    rfl
   refine one_ (i:=9) (N:=none) (bits 10 1023) rfl rfl (one_of HT_.out (by kernel_rfl)) (by decide) (fun K hK=>?_)
   obtain ⟨y0,y1,y2,y3,y4,y5,z0,z1,z2,z3,z4,z5⟩:=cz6 F6
   refine sxs (g:=g6) 0 [.string va,.string vb,.slice AIs20 zIs20.length kIs20,.slice ADs22 zDs22.length kDs22,.bool false,.string (⟨#[]⟩ : ByteArray)] [.string va,.string vb,.slice AIs20 zIs20.length kIs20,.slice ADs22 zDs22.length kDs22,.bool false,.string (⟨#[]⟩ : ByteArray)] (by rfl) rfl ?hr B F6 L6 rfl (Nat.le_of_ble_eq_true rfl) (fun w107 hk B G=>?_)
   (case hr=>go_simp;first | done | rfl)
   replace F4:=bk F4 hk N4_6.out
   replace F5:=bk F5 hk N5_6.out
   replace RIs20:=rk RIs20 F6 (by decide) hk
   replace RDs22:=rk RDs22 F6 (by decide) hk
   replace HI:=his HI F6 (by decide) hk
   replace KK:=kks KK M6 hk
   replace F6:=G
   clear hk y0 z0 y1 z1 y2 z2 y3 z3 y4 z4 y5 z5
   refine hK.out _ _ F5.out (fun hHeld=>?_)
   clear hK K
   refine done_ (done_of HT_.out (by kernel_rfl)) ?_
   clear c5_0 c5_1
   obtain ⟨c5_0,c5_1⟩:=cs2 F5
   obtain ⟨c6_0,c6_1,c6_2,c6_3,c6_4,c6_5⟩:=cs6 F6)
  go_upto_if 26 with (first
   | (go_at_call 104;(with_reducible refine cg1 (spec_l20Rd_pick.D 5 w _ g bs ps22 HI.out B.out HC.out (by omega) (by omega)) fun x151 p151 hx151 hp151 w151 hk B HI2=>?_);replace F4:=bkr F4 HI (by decide) hk;replace F5:=bkr F5 HI (by decide) hk;replace F6:=bkr F6 HI (by decide) hk;replace RIs20:=rkr RIs20 HI (by decide) hk;replace RDs22:=rkr RDs22 HI (by decide) hk;replace KK:=kkr KK hk;replace HI:=HI2;clear hk;clear c5_0 c5_1;obtain ⟨c5_0,c5_1⟩:=cs2 F5;clear c6_0 c6_1 c6_2 c6_3 c6_4 c6_5;obtain ⟨c6_0,c6_1,c6_2,c6_3,c6_4,c6_5⟩:=cs6 F6;skip))
  go_cut [6] (fun v6 wc=>∃ (tb : Bool) (ct : ByteArray) (pp : Int),v6=.pointer (some ⟨g6,0,none⟩)∧(p≤pp∧pp≤p + 300)∧Aside0 (wc.heap[g6]?=some (.cells #[.string va,.string vb,.slice AIs20 zIs20.length kIs20,.slice ADs22 zDs22.length kDs22,.bool tb,.string ct] 38 (0,0)))∧Aside0 (wc.heap[g4]?=some (.cells #[.string (⟨#[]⟩ : ByteArray),.string (⟨#[]⟩ : ByteArray),.slice none 0 0,.slice none 0 0,.bool false,.string (⟨#[]⟩ : ByteArray)] 38 (0,0)))∧Aside0 (Ow k105 105 wc w.heap.size (.slice AIs20 zIs20.length kIs20) zIs20)∧Aside0 (Ow k76 76 wc w.heap.size (.slice ADs22 zDs22.length kDs22) zDs22)∧Aside0 (IsS133 w wc g bs pp)∧Aside0 (Kept W0 wc (RB g))∧Aside0 (Below w.heap.size w wc))
  case first =>
   go_wp2_with (first
    | ((with_reducible refine gate_store (t:=4) (p:=27) rfl ?_);obtain ⟨y0,y1,y2,y3,y4,y5,z0,z1,z2,z3,z4,z5⟩:=cz6 F6;refine sxq 38 4 27 4 [.bool true] [.string va,.string vb,.slice AIs20 zIs20.length kIs20,.slice ADs22 zDs22.length kDs22,.bool true,.string (⟨#[]⟩ : ByteArray)] B F6 L6 fun w201 hk B G=>?_;replace F4:=bk F4 hk N4_6.out;replace F5:=bk F5 hk N5_6.out;replace RIs20:=rk RIs20 F6 (by decide) hk;replace RDs22:=rk RDs22 F6 (by decide) hk;replace HI:=his HI F6 (by decide) hk;replace KK:=kks KK M6 hk;replace F6:=G;clear c5_0 c5_1;obtain ⟨c5_0,c5_1⟩:=cs2 F5;clear c6_0 c6_1 c6_2 c6_3 c6_4 c6_5;obtain ⟨c6_0,c6_1,c6_2,c6_3,c6_4,c6_5⟩:=cs6 F6;clear hk y0 z0 y1 z1 y2 z2 y3 z3 y4 z4 y5 z5)
    | (go_at_call 41;with_reducible refine cl (spec_IntervalCut.M va vb (⟨#[99]⟩ : ByteArray) _) B fun w202 hb B=>?_;replace F4:=bn F4 hb;replace F5:=bn F5 hb;replace F6:=bn F6 hb;replace RIs20:=rn RIs20 hb;replace RDs22:=rn RDs22 hb;replace HI:=hib HI hb;replace KK:=kkb KK hb;clear c6_0 c6_1 c6_2 c6_3 c6_4 c6_5;obtain ⟨c6_0,c6_1,c6_2,c6_3,c6_4,c6_5⟩:=cs6 F6;clear hb)
    | ((with_reducible refine gate_dst (N:=7) rfl ?_);refine bxq 7 #[.string (⟨#[]⟩ : ByteArray),.string (⟨#[]⟩ : ByteArray)] 34 B fun g7 w203 hb B F7 L7 E7=>?_;have N4_7:=ne1 E7 F4;have N5_7:=ne1 E7 F5;have N6_7:=ne1 E7 F6;have M7:=mbx E7 KK;replace F4:=bn F4 hb;replace F5:=bn F5 hb;replace F6:=bn F6 hb;replace RIs20:=rn RIs20 hb;replace RDs22:=rn RDs22 hb;replace HI:=hib HI hb;replace KK:=kkb KK hb;clear c6_0 c6_1 c6_2 c6_3 c6_4 c6_5;obtain ⟨c6_0,c6_1,c6_2,c6_3,c6_4,c6_5⟩:=cs6 F6;clear hb E7)
    | ((with_reducible refine gate_dst (N:=8) rfl ?_);refine bxq 8 #[.string (⟨#[]⟩ : ByteArray),.string (⟨#[]⟩ : ByteArray)] 34 B fun g8 w204 hb B F8 L8 E8=>?_;have N4_8:=ne1 E8 F4;have N5_8:=ne1 E8 F5;have N6_8:=ne1 E8 F6;have N7_8:=ne1 E8 F7;have M8:=mbx E8 KK;replace F4:=bn F4 hb;replace F5:=bn F5 hb;replace F6:=bn F6 hb;replace F7:=bn F7 hb;replace RIs20:=rn RIs20 hb;replace RDs22:=rn RDs22 hb;replace HI:=hib HI hb;replace KK:=kkb KK hb;clear c6_0 c6_1 c6_2 c6_3 c6_4 c6_5;obtain ⟨c6_0,c6_1,c6_2,c6_3,c6_4,c6_5⟩:=cs6 F6;clear hb E8)
    | ((with_reducible refine gate_store (t:=34) (p:=7) rfl ?_);obtain ⟨y0,y1,z0,z1⟩:=cz2 F7;refine sxq 34 34 7 0 [.string (cutV va vb (⟨#[99]⟩ : ByteArray)).1,.string (cutV va vb (⟨#[99]⟩ : ByteArray)).2.1] [.string (cutV va vb (⟨#[99]⟩ : ByteArray)).1,.string (cutV va vb (⟨#[99]⟩ : ByteArray)).2.1] B F7 L7 fun w205 hk B G=>?_;replace F4:=bk F4 hk N4_7.out;replace F5:=bk F5 hk N5_7.out;replace F6:=bk F6 hk N6_7.out;replace F8:=bk F8 hk N7_8.out.symm;replace RIs20:=rk RIs20 F7 (by decide) hk;replace RDs22:=rk RDs22 F7 (by decide) hk;replace HI:=his HI F7 (by decide) hk;replace KK:=kks KK M7 hk;replace F7:=G;clear c6_0 c6_1 c6_2 c6_3 c6_4 c6_5;obtain ⟨c6_0,c6_1,c6_2,c6_3,c6_4,c6_5⟩:=cs6 F6;clear hk y0 z0 y1 z1)
    | ((with_reducible refine gate_store (t:=34) (p:=8) rfl ?_);obtain ⟨y0,y1,z0,z1⟩:=cz2 F8;refine sxq 34 34 8 0 [.string (cutV va vb (⟨#[99]⟩ : ByteArray)).2.2.1,.string (cutV va vb (⟨#[99]⟩ : ByteArray)).2.2.2.1] [.string (cutV va vb (⟨#[99]⟩ : ByteArray)).2.2.1,.string (cutV va vb (⟨#[99]⟩ : ByteArray)).2.2.2.1] B F8 L8 fun w206 hk B G=>?_;replace F4:=bk F4 hk N4_8.out;replace F5:=bk F5 hk N5_8.out;replace F6:=bk F6 hk N6_8.out;replace RIs20:=rk RIs20 F8 (by decide) hk;replace RDs22:=rk RDs22 F8 (by decide) hk;replace HI:=his HI F8 (by decide) hk;replace KK:=kks KK M8 hk;replace F8:=G;clear c6_0 c6_1 c6_2 c6_3 c6_4 c6_5;obtain ⟨c6_0,c6_1,c6_2,c6_3,c6_4,c6_5⟩:=cs6 F6;clear hk y0 z0 y1 z1)
    | (go_at_call 104;(with_reducible refine cg1 (spec_l20Rd_pick.D 2 w _ g bs p151 HI.out B.out HC.out (by omega) (by omega)) fun x207 p207 hx207 hp207 w207 hk B HI2=>?_);replace F4:=bkr F4 HI (by decide) hk;replace F5:=bkr F5 HI (by decide) hk;replace F6:=bkr F6 HI (by decide) hk;replace RIs20:=rkr RIs20 HI (by decide) hk;replace RDs22:=rkr RDs22 HI (by decide) hk;replace KK:=kkr KK hk;replace HI:=HI2;clear hk;clear c6_0 c6_1 c6_2 c6_3 c6_4 c6_5;obtain ⟨c6_0,c6_1,c6_2,c6_3,c6_4,c6_5⟩:=cs6 F6;skip)
    | ((with_reducible refine gate_store (t:=9) (p:=40) rfl ?_);obtain ⟨y0,y1,y2,y3,y4,y5,z0,z1,z2,z3,z4,z5⟩:=cz6 F6;refine sxq 38 9 40 5 [.string (⟨#[99]⟩ : ByteArray)] [.string va,.string vb,.slice AIs20 zIs20.length kIs20,.slice ADs22 zDs22.length kDs22,.bool true,.string (⟨#[99]⟩ : ByteArray)] B F6 L6 fun w208 hk B G=>?_;replace F4:=bk F4 hk N4_6.out;replace F5:=bk F5 hk N5_6.out;replace RIs20:=rk RIs20 F6 (by decide) hk;replace RDs22:=rk RDs22 F6 (by decide) hk;replace HI:=his HI F6 (by decide) hk;replace KK:=kks KK M6 hk;replace F6:=G;clear c6_0 c6_1 c6_2 c6_3 c6_4 c6_5;obtain ⟨c6_0,c6_1,c6_2,c6_3,c6_4,c6_5⟩:=cs6 F6;clear hk y0 z0 y1 z1 y2 z2 y3 z3 y4 z4 y5 z5))
   all_goals (go_meet;(case rel=>exact ⟨_,_,_,rfl,by omega,F6,F4,RIs20,RDs22,HI,KK,B⟩))
  case rest =>
   clear B HI KK F4 F5 F6 RIs20 RDs22
   obtain ⟨tb,ct,pp,rfl,hpp,F6,F4,RIs20,RDs22,HI,KK,B⟩:=hcut
   obtain ⟨c4_0,c4_1,c4_2,c4_3,c4_4,c4_5⟩:=cs6 F4
   obtain ⟨c6_0,c6_1,c6_2,c6_3,c6_4,c6_5⟩:=cs6 F6
   go_upto_if 43 with (first
    | (go_at_call 108;(with_reducible refine cg1 (spec_l20Rd_odd.D n (by omega) w _ g bs pp HI.out B.out HC.out (by omega) (by omega)) fun x301 p301 hx301 hp301 w301 hk B HI2=>?_);replace F4:=bkr F4 HI (by decide) hk;replace F6:=bkr F6 HI (by decide) hk;replace RIs20:=rkr RIs20 HI (by decide) hk;replace RDs22:=rkr RDs22 HI (by decide) hk;replace KK:=kkr KK hk;replace HI:=HI2;clear hk;clear c6_0 c6_1 c6_2 c6_3 c6_4 c6_5;obtain ⟨c6_0,c6_1,c6_2,c6_3,c6_4,c6_5⟩:=cs6 F6;skip))
   go_cut [6] (fun v6 wc=>∃ (x0 x1 : ByteArray) (v2 v3 : Value) (x4 : Bool) (x5 : ByteArray) (xs : List S105) (ys : List S76) (pq : Int),v6=.pointer (some ⟨g6,0,none⟩)∧(p≤pq∧pq≤p + 900)∧(xs.length≤300∧ys.length≤300)∧Aside0 (wc.heap[g6]?=some (.cells #[.string x0,.string x1,v2,v3,.bool x4,.string x5] 38 (0,0)))∧Aside0 (wc.heap[g4]?=some (.cells #[.string (⟨#[]⟩ : ByteArray),.string (⟨#[]⟩ : ByteArray),.slice none 0 0,.slice none 0 0,.bool false,.string (⟨#[]⟩ : ByteArray)] 38 (0,0)))∧(Aside0 (Ow k105 105 wc w.heap.size (v2) xs)∧Aside0 (Fr W0 v2))∧(Aside0 (Ow k76 76 wc w.heap.size (v3) ys)∧Aside0 (Fr W0 v3))∧Aside0 (IsS133 w wc g bs pq)∧Aside0 (Kept W0 wc (RB g))∧Aside0 (Below w.heap.size w wc))
   case first =>
    go_wp2_with (first
     | (go_at_call 104;(with_reducible refine cg1 (spec_l20Rd_pick.D 5 w _ g bs p301 HI.out B.out HC.out (by omega) (by omega)) fun x351 p351 hx351 hp351 w351 hk B HI2=>?_);replace F4:=bkr F4 HI (by decide) hk;replace F6:=bkr F6 HI (by decide) hk;replace RIs20:=rkr RIs20 HI (by decide) hk;replace RDs22:=rkr RDs22 HI (by decide) hk;replace KK:=kkr KK hk;replace HI:=HI2;clear hk;clear c6_0 c6_1 c6_2 c6_3 c6_4 c6_5;obtain ⟨c6_0,c6_1,c6_2,c6_3,c6_4,c6_5⟩:=cs6 F6;skip)
     | (go_at_call 103;(with_reducible refine cg2 (spec_l20Span.D 1 (by omega) w _ g bs p351 HI.out B.out HC.out (by omega) (by omega)) fun x401 y401 p401 hx401 hp401 w401 hk B HI2=>?_);replace F4:=bkr F4 HI (by decide) hk;replace F6:=bkr F6 HI (by decide) hk;replace RIs20:=rkr RIs20 HI (by decide) hk;replace RDs22:=rkr RDs22 HI (by decide) hk;replace KK:=kkr KK hk;replace HI:=HI2;clear hk;clear c6_0 c6_1 c6_2 c6_3 c6_4 c6_5;obtain ⟨c6_0,c6_1,c6_2,c6_3,c6_4,c6_5⟩:=cs6 F6;skip)
     | ((with_reducible refine gate_store (t:=34) (p:=55) rfl ?_);obtain ⟨y0,y1,y2,y3,y4,y5,z0,z1,z2,z3,z4,z5⟩:=cz6 F6;refine sxq 38 34 55 0 [.string x401,.string y401] [.string x401,.string y401,.slice AIs20 zIs20.length kIs20,.slice ADs22 zDs22.length kDs22,.bool tb,.string ct] B F6 L6 fun w402 hk B G=>?_;replace F4:=bk F4 hk N4_6.out;replace RIs20:=rk RIs20 F6 (by decide) hk;replace RDs22:=rk RDs22 F6 (by decide) hk;replace HI:=his HI F6 (by decide) hk;replace KK:=kks KK M6 hk;replace F6:=G;clear c6_0 c6_1 c6_2 c6_3 c6_4 c6_5;obtain ⟨c6_0,c6_1,c6_2,c6_3,c6_4,c6_5⟩:=cs6 F6;clear hk y0 z0 y1 z1 y2 z2 y3 z3 y4 z4 y5 z5)
     | (go_at_call 106;(with_reducible refine cgr (spec_l20Pairs.D 1 (by omega) w _ g bs p351 HI.out B.out HC.out (by omega) (by omega)) fun zD451 AD451 kD451 p451 hx451 hp451 w451 hk B HI2 RD451 QD451=>?_);have DIs20_D451:=fr QD451 RIs20;have DDs22_D451:=fr QD451 RDs22;have MRD451:=mrf QD451 KK;replace F4:=bkr F4 HI (by decide) hk;replace F6:=bkr F6 HI (by decide) hk;replace RIs20:=rkr RIs20 HI (by decide) hk;replace RDs22:=rkr RDs22 HI (by decide) hk;replace KK:=kkr KK hk;replace HI:=HI2;clear hk QD451;clear c6_0 c6_1 c6_2 c6_3 c6_4 c6_5;obtain ⟨c6_0,c6_1,c6_2,c6_3,c6_4,c6_5⟩:=cs6 F6;skip)
     | ((with_reducible refine gate_store (t:=35) (p:=60) rfl ?_);obtain ⟨y0,y1,y2,y3,y4,y5,z0,z1,z2,z3,z4,z5⟩:=cz6 F6;refine sxq 38 35 60 2 [.slice AD451 zD451.length kD451] [.string va,.string vb,.slice AD451 zD451.length kD451,.slice ADs22 zDs22.length kDs22,.bool tb,.string ct] B F6 L6 fun w452 hk B G=>?_;replace F4:=bk F4 hk N4_6.out;replace RIs20:=rk RIs20 F6 (by decide) hk;replace RDs22:=rk RDs22 F6 (by decide) hk;replace RD451:=rk RD451 F6 (by decide) hk;replace HI:=his HI F6 (by decide) hk;replace KK:=kks KK M6 hk;replace F6:=G;clear c6_0 c6_1 c6_2 c6_3 c6_4 c6_5;obtain ⟨c6_0,c6_1,c6_2,c6_3,c6_4,c6_5⟩:=cs6 F6;clear hk y0 z0 y1 z1 y2 z2 y3 z3 y4 z4 y5 z5)
     | (go_at_call 107;(with_reducible refine cgr (spec_l20Sessions.D 1 (by omega) w _ g bs p351 HI.out B.out HC.out (by omega) (by omega)) fun zD501 AD501 kD501 p501 hx501 hp501 w501 hk B HI2 RD501 QD501=>?_);have DIs20_D501:=fr QD501 RIs20;have DDs22_D501:=fr QD501 RDs22;have MRD501:=mrf QD501 KK;replace F4:=bkr F4 HI (by decide) hk;replace F6:=bkr F6 HI (by decide) hk;replace RIs20:=rkr RIs20 HI (by decide) hk;replace RDs22:=rkr RDs22 HI (by decide) hk;replace KK:=kkr KK hk;replace HI:=HI2;clear hk QD501;clear c6_0 c6_1 c6_2 c6_3 c6_4 c6_5;obtain ⟨c6_0,c6_1,c6_2,c6_3,c6_4,c6_5⟩:=cs6 F6;skip)
     | ((with_reducible refine gate_store (t:=36) (p:=65) rfl ?_);obtain ⟨y0,y1,y2,y3,y4,y5,z0,z1,z2,z3,z4,z5⟩:=cz6 F6;refine sxq 38 36 65 3 [.slice AD501 zD501.length kD501] [.string va,.string vb,.slice AIs20 zIs20.length kIs20,.slice AD501 zD501.length kD501,.bool tb,.string ct] B F6 L6 fun w502 hk B G=>?_;replace F4:=bk F4 hk N4_6.out;replace RIs20:=rk RIs20 F6 (by decide) hk;replace RDs22:=rk RDs22 F6 (by decide) hk;replace RD501:=rk RD501 F6 (by decide) hk;replace HI:=his HI F6 (by decide) hk;replace KK:=kks KK M6 hk;replace F6:=G;clear c6_0 c6_1 c6_2 c6_3 c6_4 c6_5;obtain ⟨c6_0,c6_1,c6_2,c6_3,c6_4,c6_5⟩:=cs6 F6;clear hk y0 z0 y1 z1 y2 z2 y3 z3 y4 z4 y5 z5)
     | ((with_reducible refine gate_store (t:=9) (p:=68) rfl ?_);obtain ⟨y0,y1,y2,y3,y4,y5,z0,z1,z2,z3,z4,z5⟩:=cz6 F6;refine sxq 38 9 68 5 [.string (⟨#[98]⟩ : ByteArray)] [.string va,.string vb,.slice AIs20 zIs20.length kIs20,.slice ADs22 zDs22.length kDs22,.bool tb,.string (⟨#[98]⟩ : ByteArray)] B F6 L6 fun w551 hk B G=>?_;replace F4:=bk F4 hk N4_6.out;replace RIs20:=rk RIs20 F6 (by decide) hk;replace RDs22:=rk RDs22 F6 (by decide) hk;replace HI:=his HI F6 (by decide) hk;replace KK:=kks KK M6 hk;replace F6:=G;clear c6_0 c6_1 c6_2 c6_3 c6_4 c6_5;obtain ⟨c6_0,c6_1,c6_2,c6_3,c6_4,c6_5⟩:=cs6 F6;clear hk y0 z0 y1 z1 y2 z2 y3 z3 y4 z4 y5 z5)
     | ((with_reducible refine gate_store (t:=4) (p:=69) rfl ?_);obtain ⟨y0,y1,y2,y3,y4,y5,z0,z1,z2,z3,z4,z5⟩:=cz6 F6;refine sxq 38 4 69 4 [.bool false] [.string va,.string vb,.slice AIs20 zIs20.length kIs20,.slice ADs22 zDs22.length kDs22,.bool false,.string (⟨#[98]⟩ : ByteArray)] B F6 L6 fun w552 hk B G=>?_;replace F4:=bk F4 hk N4_6.out;replace RIs20:=rk RIs20 F6 (by decide) hk;replace RDs22:=rk RDs22 F6 (by decide) hk;replace HI:=his HI F6 (by decide) hk;replace KK:=kks KK M6 hk;replace F6:=G;clear c6_0 c6_1 c6_2 c6_3 c6_4 c6_5;obtain ⟨c6_0,c6_1,c6_2,c6_3,c6_4,c6_5⟩:=cs6 F6;clear hk y0 z0 y1 z1 y2 z2 y3 z3 y4 z4 y5 z5)
     | ((with_reducible refine gate_store (t:=34) (p:=47) rfl ?_);obtain ⟨y0,y1,y2,y3,y4,y5,z0,z1,z2,z3,z4,z5⟩:=cz6 F6;refine sxq 38 34 47 0 [.string (⟨#[109]⟩ : ByteArray),.string (⟨#[110]⟩ : ByteArray)] [.string (⟨#[109]⟩ : ByteArray),.string (⟨#[110]⟩ : ByteArray),.slice AIs20 zIs20.length kIs20,.slice ADs22 zDs22.length kDs22,.bool tb,.string ct] B F6 L6 fun w601 hk B G=>?_;replace F4:=bk F4 hk N4_6.out;replace RIs20:=rk RIs20 F6 (by decide) hk;replace RDs22:=rk RDs22 F6 (by decide) hk;replace HI:=his HI F6 (by decide) hk;replace KK:=kks KK M6 hk;replace F6:=G;clear c6_0 c6_1 c6_2 c6_3 c6_4 c6_5;obtain ⟨c6_0,c6_1,c6_2,c6_3,c6_4,c6_5⟩:=cs6 F6;clear hk y0 z0 y1 z1 y2 z2 y3 z3 y4 z4 y5 z5)
     | ((with_reducible refine gate_dst (N:=49) rfl ?_);refine lt k105 105 ?hg (N:=49) ?hd ([⟨(⟨#[110]⟩ : ByteArray),1⟩] : List S105) [.string (⟨#[110]⟩ : ByteArray),.int .i64 (1)] ?hr (Reps.c2 (k105_mkM _ _ _ ⟨(⟨#[110]⟩ : ByteArray),1⟩) (Reps.none _ _)) (by simp) B ?_;(case hd | hg=>rfl);(case hr=>go_simp;first | done | rfl);intro z49 hz49 AL49 kL49 w602 hb B RL49 QL49;have DIs20_L49:=fr QL49 RIs20;have DDs22_L49:=fr QL49 RDs22;have MRL49:=mrf QL49 KK;replace F4:=bn F4 hb;replace F6:=bn F6 hb;replace RIs20:=rn RIs20 hb;replace RDs22:=rn RDs22 hb;replace HI:=hib HI hb;replace KK:=kkb KK hb;clear c6_0 c6_1 c6_2 c6_3 c6_4 c6_5;obtain ⟨c6_0,c6_1,c6_2,c6_3,c6_4,c6_5⟩:=cs6 F6;clear hb QL49)
     | ((with_reducible refine gate_store (t:=35) (p:=50) rfl ?_);obtain ⟨y0,y1,y2,y3,y4,y5,z0,z1,z2,z3,z4,z5⟩:=cz6 F6;refine sxq 38 35 50 2 [.slice AL49 z49.length kL49] [.string (⟨#[109]⟩ : ByteArray),.string (⟨#[110]⟩ : ByteArray),.slice AL49 z49.length kL49,.slice ADs22 zDs22.length kDs22,.bool tb,.string ct] B F6 L6 fun w603 hk B G=>?_;replace F4:=bk F4 hk N4_6.out;replace RIs20:=rk RIs20 F6 (by decide) hk;replace RDs22:=rk RDs22 F6 (by decide) hk;replace RL49:=rk RL49 F6 (by decide) hk;replace HI:=his HI F6 (by decide) hk;replace KK:=kks KK M6 hk;replace F6:=G;clear c6_0 c6_1 c6_2 c6_3 c6_4 c6_5;obtain ⟨c6_0,c6_1,c6_2,c6_3,c6_4,c6_5⟩:=cs6 F6;clear hk y0 z0 y1 z1 y2 z2 y3 z3 y4 z4 y5 z5))
    all_goals (go_meet;(case rel=>first
     | exact ⟨_,_,_,_,_,_,_,_,_,rfl,by omega,⟨hlIs20,hlDs22⟩,F6,F4,⟨RIs20,MRIs20⟩,⟨RDs22,MRDs22⟩,HI,KK,B⟩
     | exact ⟨_,_,_,_,_,_,_,_,_,rfl,by omega,⟨hx451,hlDs22⟩,F6,F4,⟨RD451,MRD451⟩,⟨RDs22,MRDs22⟩,HI,KK,B⟩
     | exact ⟨_,_,_,_,_,_,_,_,_,rfl,by omega,⟨hlIs20,hx501⟩,F6,F4,⟨RIs20,MRIs20⟩,⟨RD501,MRD501⟩,HI,KK,B⟩
     | exact ⟨_,_,_,_,_,_,_,_,_,rfl,by omega,⟨(by rw [← hz49];simp),hlDs22⟩,F6,F4,⟨RL49,MRL49⟩,⟨RDs22,MRDs22⟩,HI,KK,B⟩))
   case rest =>
    clear B HI KK F4 F6
    obtain ⟨x0,x1,v2,v3,x4,x5,xs,ys,pq,rfl,hpq,⟨hl1,hl2⟩,F6,F4,⟨RX,MRX⟩,⟨RY,MRY⟩,HI,KK,B⟩:=hcut
    obtain ⟨AX,kX,rfl⟩:=Kd.R_slice RX.out
    obtain ⟨AY,kY,rfl⟩:=Kd.R_slice RY.out
    obtain ⟨c6_0,c6_1,c6_2,c6_3,c6_4,c6_5⟩:=cs6 F6
    go_wp2_with (first
     | ((with_reducible refine gate_store (t:=38) (p:=4) rfl ?_);obtain ⟨y0,y1,y2,y3,y4,y5,z0,z1,z2,z3,z4,z5⟩:=cz6 F4;refine sxq 38 38 4 0 [.string x0,.string x1,.slice AX xs.length kX,.slice AY ys.length kY,.bool x4,.string x5] [.string x0,.string x1,.slice AX xs.length kX,.slice AY ys.length kY,.bool x4,.string x5] B F4 L4 fun w701 hk B G=>?_;replace F6:=bk F6 hk N4_6.out.symm;replace RX:=rk RX F4 (by decide) hk;replace RY:=rk RY F4 (by decide) hk;replace HI:=his HI F4 (by decide) hk;replace KK:=kks KK M4 hk;replace F4:=G;clear hk y0 z0 y1 z1 y2 z2 y3 z3 y4 z4 y5 z5))
    try (refine bodyPost_ret (results_single rfl (.cell g4 38 _ (0,0) _ rfl F4.out hu rfl (by kernel_rfl) .nil)) rfl ?_)
    exact ⟨_,_,_,_,_,_,_,_,_,rfl,⟨hl1,hl2⟩,⟨RX.out,MRX.out⟩,⟨RY.out,MRY.out⟩,⟨by omega,by omega⟩,HI.out,B.out,KK.out⟩

/-! Calls with the reader that give commands and entries. -/
section
variable {P : Program} {F : FuncId} {args : Array Value} {w W : World} {g : Nat} {bs : List Int} {p N : Int} {Q : Ending→World→Prop} {α β τ σ μ ν : Type}
theorem cg4 {f : α→β→τ→σ→Value} {q : α→β→τ→σ→Prop} (c : Calls P F args W fun e w'=>∃ x y z u p',e=.returned (f x y z u)∧q x y z u∧Left w W g bs p N p' w')
    (h : ∀ x y z u p',q x y z u→(p≤p'∧p'≤p + N)→∀ W',Kept W W' (RB g)→Aside0 (Below w.heap.size w W')→Aside0 (IsS133 w W' g bs p')→Q (.returned (f x y z u)) W') : Calls P F args W Q :=
  c.mono (by rintro e W' ⟨x,y,z,u,p',rfl,hq,hp,hi,hb,hk⟩;exact h x y z u p' hq hp W' hk ⟨hb⟩ ⟨hi⟩)
theorem cg6 {f : α→β→τ→σ→μ→ν→Value} {q : α→β→τ→σ→μ→ν→Prop} (c : Calls P F args W fun e w'=>∃ x y z u v o p',e=.returned (f x y z u v o)∧q x y z u v o∧Left w W g bs p N p' w')
    (h : ∀ x y z u v o p',q x y z u v o→(p≤p'∧p'≤p + N)→∀ W',Kept W W' (RB g)→Aside0 (Below w.heap.size w W')→Aside0 (IsS133 w W' g bs p')→Q (.returned (f x y z u v o)) W') : Calls P F args W Q :=
  c.mono (by rintro e W' ⟨x,y,z,u,v,o,p',rfl,hq,hp,hi,hb,hk⟩;exact h x y z u v o p' hq hp W' hk ⟨hb⟩ ⟨hi⟩)
variable {ops' : Array Oper} {o : Oper} {a : Act} {QE : Exit→Act→World→Prop} {Kc : Act→World→Prop}
/-- an element that is read in a region that draws its order -/
theorem lds {N : Tmp} {v : Value} (h : Kc (a.put (some N) v) W) (hw : Region.wanted o (yielded ops' a.tmps)=true:=by rfl) (hd : o.dst=some N:=by exact rfl) (hrun : (execOp a.eval o).run P W=.ok (.value v) W:=by go_simp;first | done | rfl) :
    if Region.wanted o (yielded ops' a.tmps)=true then Oper.wp P o a W Kc QE else Kc (a.put (some N) undef) W:=value_ hw hd hrun h
end

theorem spec_l20Cmd.D (n : Int) (hn : n≤1000000) (w W0 : World) (g : Nat) (bs : List Int) (p : Int) (hI : IsS133 w W0 g bs p) (hB : Below w.heap.size w W0) (hc : Dw.Code bs) (h0 : 0≤p) (h1 : p≤1099505000000) :
  Calls Try.prog 115 #[.pointer (some ⟨g,0,none⟩),.int .i64 n] W0 fun e w'=>∃ x y u z p',e=.returned (.agg #[.int .i64 x,.string y,.int .i64 u,.int .i64 z])∧(True)∧Left w W0 g bs p 20 p' w':=by
 have hu:=Try.underlying42
 have B:=Aside0.mk hB
 have HI:=Aside0.mk hI
 have HC:=Aside0.mk hc
 have KK:=Aside0.mk (Kept.refl W0 (RB g))
 clear hB hI hc
 go_enter Try.func115,Try.ntmps115
 go_wp2_with (first
  | ((with_reducible refine gate_dst (N:=4) rfl ?_);refine bxq 4 #[.int .i64 (0),.string (⟨#[]⟩ : ByteArray),.int .i64 (0),.int .i64 (0)] 42 B fun g4 w1 hb B F4 L4 E4=>?_;have M4:=mbx E4 KK;replace HI:=hib HI hb;replace KK:=kkb KK hb;clear hb E4)
  | (go_at_call 108;(with_reducible refine cg1 (spec_l20Rd_odd.D n (by omega) w _ g bs p HI.out B.out HC.out (by omega) (by omega)) fun x2 p2 hx2 hp2 w2 hk B HI2=>?_);replace F4:=bkr F4 HI (by decide) hk;replace KK:=kkr KK hk;replace HI:=HI2;clear hk;skip)
  | ((with_reducible refine gate_dst (N:=19) rfl ?_);refine lt k42 42 ?hg (N:=19) ?hd ([⟨0,(⟨#[]⟩ : ByteArray),0,0⟩,⟨1,(⟨#[]⟩ : ByteArray),0,0⟩,⟨1,(⟨#[98]⟩ : ByteArray),1,0⟩,⟨2,(⟨#[98]⟩ : ByteArray),1000,0⟩,⟨2,(⟨#[98]⟩ : ByteArray),0,1⟩,⟨4,(⟨#[98]⟩ : ByteArray),0,-2⟩,⟨4,(⟨#[98]⟩ : ByteArray),-1,0⟩,⟨6,(⟨#[98]⟩ : ByteArray),0,0⟩,⟨3,(⟨#[65]⟩ : ByteArray),0,0⟩,⟨5,(⟨#[98,49]⟩ : ByteArray),0,0⟩] : List S42) [.int .i64 (0),.string (⟨#[]⟩ : ByteArray),.int .i64 (0),.int .i64 (0),.int .i64 (1),.string (⟨#[]⟩ : ByteArray),.int .i64 (0),.int .i64 (0),.int .i64 (1),.string (⟨#[98]⟩ : ByteArray),.int .i64 (1),.int .i64 (0),.int .i64 (2),.string (⟨#[98]⟩ : ByteArray),.int .i64 (1000),.int .i64 (0),.int .i64 (2),.string (⟨#[98]⟩ : ByteArray),.int .i64 (0),.int .i64 (1),.int .i64 (4),.string (⟨#[98]⟩ : ByteArray),.int .i64 (0),.int .i64 (-2),.int .i64 (4),.string (⟨#[98]⟩ : ByteArray),.int .i64 (-1),.int .i64 (0),.int .i64 (6),.string (⟨#[98]⟩ : ByteArray),.int .i64 (0),.int .i64 (0),.int .i64 (3),.string (⟨#[65]⟩ : ByteArray),.int .i64 (0),.int .i64 (0),.int .i64 (5),.string (⟨#[98,49]⟩ : ByteArray),.int .i64 (0),.int .i64 (0)] ?hr (Reps.c4 (k42_mkM _ _ _ ⟨0,(⟨#[]⟩ : ByteArray),0,0⟩) (Reps.c4 (k42_mkM _ _ _ ⟨1,(⟨#[]⟩ : ByteArray),0,0⟩) (Reps.c4 (k42_mkM _ _ _ ⟨1,(⟨#[98]⟩ : ByteArray),1,0⟩) (Reps.c4 (k42_mkM _ _ _ ⟨2,(⟨#[98]⟩ : ByteArray),1000,0⟩) (Reps.c4 (k42_mkM _ _ _ ⟨2,(⟨#[98]⟩ : ByteArray),0,1⟩) (Reps.c4 (k42_mkM _ _ _ ⟨4,(⟨#[98]⟩ : ByteArray),0,-2⟩) (Reps.c4 (k42_mkM _ _ _ ⟨4,(⟨#[98]⟩ : ByteArray),-1,0⟩) (Reps.c4 (k42_mkM _ _ _ ⟨6,(⟨#[98]⟩ : ByteArray),0,0⟩) (Reps.c4 (k42_mkM _ _ _ ⟨3,(⟨#[65]⟩ : ByteArray),0,0⟩) (Reps.c4 (k42_mkM _ _ _ ⟨5,(⟨#[98,49]⟩ : ByteArray),0,0⟩) (Reps.none _ _))))))))))) (by simp) B ?_;(case hd | hg=>rfl);(case hr=>go_simp;first | done | rfl);intro z19 hz19 AL19 kL19 w51 hb B RL19 QL19;have NB4_L19:=nb QL19 F4;have MRL19:=mrf QL19 KK;replace F4:=bn F4 hb;replace HI:=hib HI hb;replace KK:=kkb KK hb;clear hb QL19)
  | (go_at_call 104;(with_reducible refine cg1 (spec_l20Rd_pick.D 10 w _ g bs p2 HI.out B.out HC.out (by omega) (by omega)) fun x52 p52 hx52 hp52 w52 hk B HI2=>?_);replace F4:=bkr F4 HI (by decide) hk;replace RL19:=rkr RL19 HI (by decide) hk;replace KK:=kkr KK hk;replace HI:=HI2;clear hk;skip;have hi52 : x52 < (z19.length : Int):=(by rw [← hz19];have:=hx52.2.1 (by omega);simpa using this);obtain ⟨ad52,hA52,y52_0,y52_1,y52_2,y52_3⟩:=at_T42 (rc RL19) x52 hx52.1 hi52;have hj52:=hx52.1;generalize rd_T42 z19 x52=y52 at *;cases hA52;have j52:=eq_true hj52;have i52:=eq_true hi52)
  | ((with_reducible refine gate_store (t:=42) (p:=4) rfl ?_);obtain ⟨y0,y1,y2,y3,z0,z1,z2,z3⟩:=cz4 F4;refine sxq 42 42 4 0 [.int .i64 (y52.f0),.string y52.f1,.int .i64 (y52.f2),.int .i64 (y52.f3)] [.int .i64 (y52.f0),.string y52.f1,.int .i64 (y52.f2),.int .i64 (y52.f3)] B F4 L4 fun w53 hk B G=>?_;replace RL19:=rkn RL19 hk NB4_L19;replace HI:=his HI F4 (by decide) hk;replace KK:=kks KK M4 hk;replace F4:=G;clear hk y0 z0 y1 z1 y2 z2 y3 z3)
  | (go_at_call 120;(with_reducible refine cg1 (spec_l20Key.D 0 (by omega) w _ g bs p2 HI.out B.out HC.out (by omega) (by omega)) fun x101 p101 hx101 hp101 w101 hk B HI2=>?_);replace F4:=bkr F4 HI (by decide) hk;replace KK:=kkr KK hk;replace HI:=HI2;clear hk;skip)
  | (go_at_call 104;(with_reducible refine cg1 (spec_l20Rd_pick.D 2 w _ g bs p101 HI.out B.out HC.out (by omega) (by omega)) fun x102 p102 hx102 hp102 w102 hk B HI2=>?_);replace F4:=bkr F4 HI (by decide) hk;replace KK:=kkr KK hk;replace HI:=HI2;clear hk;skip)
  | ((with_reducible refine gate_dst (N:=29) rfl ?_);refine lt Kd.string 9 ?hg (N:=29) ?hd ([((⟨#[98]⟩ : ByteArray)),((⟨#[99]⟩ : ByteArray)),((⟨#[100]⟩ : ByteArray)),((⟨#[109]⟩ : ByteArray))] : List ByteArray) [.string (⟨#[98]⟩ : ByteArray),.string (⟨#[99]⟩ : ByteArray),.string (⟨#[100]⟩ : ByteArray),.string (⟨#[109]⟩ : ByteArray)] ?hr (Reps.one (show Kd.M Kd.string _ _ _ ((⟨#[98]⟩ : ByteArray)) [.string (⟨#[98]⟩ : ByteArray)] from rfl) (Reps.one (show Kd.M Kd.string _ _ _ ((⟨#[99]⟩ : ByteArray)) [.string (⟨#[99]⟩ : ByteArray)] from rfl) (Reps.one (show Kd.M Kd.string _ _ _ ((⟨#[100]⟩ : ByteArray)) [.string (⟨#[100]⟩ : ByteArray)] from rfl) (Reps.one (show Kd.M Kd.string _ _ _ ((⟨#[109]⟩ : ByteArray)) [.string (⟨#[109]⟩ : ByteArray)] from rfl) (Reps.none _ _))))) (by simp) B ?_;(case hd | hg=>rfl);(case hr=>go_simp;first | done | rfl);intro z29 hz29 AL29 kL29 w101 hb B RL29 QL29;have MRL29:=mrf QL29 KK;replace F4:=bn F4 hb;replace HI:=hib HI hb;replace KK:=kkb KK hb;clear hb QL29)
  | (go_at_call 104;(with_reducible refine cg1 (spec_l20Rd_pick.D 4 w _ g bs p102 HI.out B.out HC.out (by omega) (by omega)) fun x102 p102 hx102 hp102 w102 hk B HI2=>?_);replace F4:=bkr F4 HI (by decide) hk;replace RL29:=rkr RL29 HI (by decide) hk;replace KK:=kkr KK hk;replace HI:=HI2;clear hk;skip;have hi102 : x102 < (z29.length : Int):=(by rw [← hz29];have:=hx102.2.1 (by omega);simpa using this);obtain ⟨ad102,hA102,y102⟩:=Kd.at_string (rc RL29) x102 hx102.1 hi102;have hj102:=hx102.1;generalize rdOf ByteArray.empty z29 x102=x101 at *;cases hA102;have j102:=eq_true hj102;have i102:=eq_true hi102)
  | (go_at_call 104;(with_reducible refine cg1 (spec_l20Rd_pick.D 8 w _ g bs p102 HI.out B.out HC.out (by omega) (by omega)) fun x201 p201 hx201 hp201 w201 hk B HI2=>?_);replace F4:=bkr F4 HI (by decide) hk;replace KK:=kkr KK hk;replace HI:=HI2;clear hk;skip)
  | ((with_reducible refine gate_store (t:=42) (p:=4) rfl ?_);obtain ⟨y0,y1,y2,y3,z0,z1,z2,z3⟩:=cz4 F4;refine sxq 42 42 4 0 [.int .i64 (1),.string x101,.int .i64 (0),.int .i64 (0)] [.int .i64 (1),.string x101,.int .i64 (0),.int .i64 (0)] B F4 L4 fun w251 hk B G=>?_;replace HI:=his HI F4 (by decide) hk;replace KK:=kks KK M4 hk;replace F4:=G;clear hk y0 z0 y1 z1 y2 z2 y3 z3)
  | ((with_reducible refine gate_store (t:=42) (p:=4) rfl ?_);obtain ⟨y0,y1,y2,y3,z0,z1,z2,z3⟩:=cz4 F4;refine sxq 42 42 4 0 [.int .i64 (3),.string x101,.int .i64 (0),.int .i64 (0)] [.int .i64 (3),.string x101,.int .i64 (0),.int .i64 (0)] B F4 L4 fun w301 hk B G=>?_;replace HI:=his HI F4 (by decide) hk;replace KK:=kks KK M4 hk;replace F4:=G;clear hk y0 z0 y1 z1 y2 z2 y3 z3)
  | (go_at_call 104;(with_reducible refine cg1 (spec_l20Rd_pick.D 5 w _ g bs p201 HI.out B.out HC.out (by omega) (by omega)) fun x351 p351 hx351 hp351 w351 hk B HI2=>?_);replace F4:=bkr F4 HI (by decide) hk;replace KK:=kkr KK hk;replace HI:=HI2;clear hk;skip)
  | (go_at_call 104;(with_reducible refine cg1 (spec_l20Rd_pick.D 5 w _ g bs p351 HI.out B.out HC.out (by omega) (by omega)) fun x352 p352 hx352 hp352 w352 hk B HI2=>?_);replace F4:=bkr F4 HI (by decide) hk;replace KK:=kkr KK hk;replace HI:=HI2;clear hk;skip)
  | ((with_reducible refine gate_store (t:=42) (p:=4) rfl ?_);obtain ⟨y0,y1,y2,y3,z0,z1,z2,z3⟩:=cz4 F4;refine sxq 42 42 4 0 [.int .i64 (4),.string x101,.int .i64 (x352),.int .i64 (x351 - 1)] [.int .i64 (4),.string x101,.int .i64 (x352),.int .i64 (x351 - 1)] B F4 L4 fun w353 hk B G=>?_;replace HI:=his HI F4 (by decide) hk;replace KK:=kks KK M4 hk;replace F4:=G;clear hk y0 z0 y1 z1 y2 z2 y3 z3)
  | (go_at_call 122;(with_reducible refine cg1 (spec_l20Value.D 0 (by omega) w _ g bs p201 HI.out B.out HC.out (by omega) (by omega)) fun x401 p401 hx401 hp401 w401 hk B HI2=>?_);replace F4:=bkr F4 HI (by decide) hk;replace KK:=kkr KK hk;replace HI:=HI2;clear hk;skip)
  | ((with_reducible refine gate_store (t:=42) (p:=4) rfl ?_);obtain ⟨y0,y1,y2,y3,z0,z1,z2,z3⟩:=cz4 F4;refine sxq 42 42 4 0 [.int .i64 (2),.string x101,.int .i64 (Int.tmod x401 1000),.int .i64 (0)] [.int .i64 (2),.string x101,.int .i64 (Int.tmod x401 1000),.int .i64 (0)] B F4 L4 fun w402 hk B G=>?_;replace HI:=his HI F4 (by decide) hk;replace KK:=kks KK M4 hk;replace F4:=G;clear hk y0 z0 y1 z1 y2 z2 y3 z3))
 all_goals (refine bodyPost_ret (results_single rfl (.cell g4 42 _ (0,0) _ rfl F4.out hu rfl (by kernel_rfl) .nil)) rfl ?_)
 all_goals exact ⟨_,_,_,_,_,rfl,trivial,⟨by omega,by omega⟩,HI.out,B.out,KK.out⟩
theorem spec_l20Any.D (n : Int) (hn : n≤1000000) (w W0 : World) (g : Nat) (bs : List Int) (p : Int) (hI : IsS133 w W0 g bs p) (hB : Below w.heap.size w W0) (hc : Dw.Code bs) (h0 : 0≤p) (h1 : p≤1099503000000) :
  Calls Try.prog 109 #[.pointer (some ⟨g,0,none⟩),.int .i64 n] W0 fun e w'=>∃ x y u z p',e=.returned (.agg #[.int .i64 x,.string y,.int .i64 u,.int .i64 z])∧(True)∧Left w W0 g bs p 40 p' w':=by
 have hu:=Try.underlying42
 have B:=Aside0.mk hB
 have HI:=Aside0.mk hI
 have HC:=Aside0.mk hc
 have KK:=Aside0.mk (Kept.refl W0 (RB g))
 clear hB hI hc
 go_enter Try.func109,Try.ntmps109
 go_wp2_with (first
  | ((with_reducible refine gate_dst (N:=4) rfl ?_);refine bxq 4 #[.int .i64 (0),.string (⟨#[]⟩ : ByteArray),.int .i64 (0),.int .i64 (0)] 42 B fun g4 w1 hb B F4 L4 E4=>?_;have M4:=mbx E4 KK;replace HI:=hib HI hb;replace KK:=kkb KK hb;clear hb E4)
  | (go_at_call 115;(with_reducible refine cg4 (spec_l20Cmd.D n (by omega) w _ g bs p HI.out B.out HC.out (by omega) (by omega)) fun ca2 cb2 cc2 cd2 p2 hx2 hp2 w2 hk B HI2=>?_);replace F4:=bkr F4 HI (by decide) hk;replace KK:=kkr KK hk;replace HI:=HI2;clear hk;skip)
  | ((with_reducible refine gate_dst (N:=5) rfl ?_);refine bxq 5 #[.int .i64 (0),.string (⟨#[]⟩ : ByteArray),.int .i64 (0),.int .i64 (0)] 42 B fun g5 w3 hb B F5 L5 E5=>?_;have N4_5:=ne1 E5 F4;have M5:=mbx E5 KK;replace F4:=bn F4 hb;replace HI:=hib HI hb;replace KK:=kkb KK hb;obtain ⟨c5_0,c5_1,c5_2,c5_3⟩:=cs4 F5;clear hb E5)
  | ((with_reducible refine gate_store (t:=42) (p:=5) rfl ?_);obtain ⟨y0,y1,y2,y3,z0,z1,z2,z3⟩:=cz4 F5;refine sxq 42 42 5 0 [.int .i64 (ca2),.string cb2,.int .i64 (cc2),.int .i64 (cd2)] [.int .i64 (ca2),.string cb2,.int .i64 (cc2),.int .i64 (cd2)] B F5 L5 fun w4 hk B G=>?_;replace F4:=bk F4 hk N4_5.out;replace HI:=his HI F5 (by decide) hk;replace KK:=kks KK M5 hk;replace F5:=G;clear c5_0 c5_1 c5_2 c5_3;obtain ⟨c5_0,c5_1,c5_2,c5_3⟩:=cs4 F5;clear hk y0 z0 y1 z1 y2 z2 y3 z3)
  | (go_at_call 104;(with_reducible refine cg1 (spec_l20Rd_pick.D 5 w _ g bs p2 HI.out B.out HC.out (by omega) (by omega)) fun x5 p5 hx5 hp5 w5 hk B HI2=>?_);replace F4:=bkr F4 HI (by decide) hk;replace F5:=bkr F5 HI (by decide) hk;replace KK:=kkr KK hk;replace HI:=HI2;clear hk;clear c5_0 c5_1 c5_2 c5_3;obtain ⟨c5_0,c5_1,c5_2,c5_3⟩:=cs4 F5;skip)
  | (go_at_call 120;(with_reducible refine cg1 (spec_l20Key.D 0 (by omega) w _ g bs p5 HI.out B.out HC.out (by omega) (by omega)) fun x101 p101 hx101 hp101 w101 hk B HI2=>?_);replace F4:=bkr F4 HI (by decide) hk;replace KK:=kkr KK hk;replace HI:=HI2;clear hk;skip)
  | ((with_reducible refine gate_dst (N:=14) rfl ?_);refine lt Kd.string 9 ?hg (N:=14) ?hd ([((⟨#[]⟩ : ByteArray)),((⟨#[98]⟩ : ByteArray)),((⟨#[99]⟩ : ByteArray)),(x101)] : List ByteArray) [.string (⟨#[]⟩ : ByteArray),.string (⟨#[98]⟩ : ByteArray),.string (⟨#[99]⟩ : ByteArray),.string x101] ?hr (Reps.one (show Kd.M Kd.string _ _ _ ((⟨#[]⟩ : ByteArray)) [.string (⟨#[]⟩ : ByteArray)] from rfl) (Reps.one (show Kd.M Kd.string _ _ _ ((⟨#[98]⟩ : ByteArray)) [.string (⟨#[98]⟩ : ByteArray)] from rfl) (Reps.one (show Kd.M Kd.string _ _ _ ((⟨#[99]⟩ : ByteArray)) [.string (⟨#[99]⟩ : ByteArray)] from rfl) (Reps.one (show Kd.M Kd.string _ _ _ (x101) [.string x101] from rfl) (Reps.none _ _))))) (by simp) B ?_;(case hd | hg=>rfl);(case hr=>go_simp;first | done | rfl);intro z14 hz14 AL14 kL14 w102 hb B RL14 QL14;have MRL14:=mrf QL14 KK;replace F4:=bn F4 hb;replace HI:=hib HI hb;replace KK:=kkb KK hb;clear hb QL14)
  | (go_at_call 104;(with_reducible refine cg1 (spec_l20Rd_pick.D 4 w _ g bs p101 HI.out B.out HC.out (by omega) (by omega)) fun x103 p103 hx103 hp103 w103 hk B HI2=>?_);replace F4:=bkr F4 HI (by decide) hk;replace RL14:=rkr RL14 HI (by decide) hk;replace KK:=kkr KK hk;replace HI:=HI2;clear hk;skip;have hi103 : x103 < (z14.length : Int):=(by rw [← hz14];have:=hx103.2.1 (by omega);simpa using this);obtain ⟨ad103,hA103,y103⟩:=Kd.at_string (rc RL14) x103 hx103.1 hi103;have hj103:=hx103.1;generalize rdOf ByteArray.empty z14 x103=s103 at *;cases hA103;have j103:=eq_true hj103;have i103:=eq_true hi103)
  | ((with_reducible refine gate_store (t:=42) (p:=4) rfl ?_);obtain ⟨y0,y1,y2,y3,z0,z1,z2,z3⟩:=cz4 F4;refine sxq 42 42 4 0 [.int .i64 (5),.string s103,.int .i64 (0),.int .i64 (0)] [.int .i64 (5),.string s103,.int .i64 (0),.int .i64 (0)] B F4 L4 fun w104 hk B G=>?_;replace RL14:=rk RL14 F4 (by decide) hk;replace HI:=his HI F4 (by decide) hk;replace KK:=kks KK M4 hk;replace F4:=G;clear hk y0 z0 y1 z1 y2 z2 y3 z3)
  | ((with_reducible refine gate_store (t:=42) (p:=4) rfl ?_);obtain ⟨y0,y1,y2,y3,z0,z1,z2,z3⟩:=cz4 F4;refine sxq 42 42 4 0 [.int .i64 (ca2),.string cb2,.int .i64 (cc2),.int .i64 (cd2)] [.int .i64 (ca2),.string cb2,.int .i64 (cc2),.int .i64 (cd2)] B F4 L4 fun w151 hk B G=>?_;replace HI:=his HI F4 (by decide) hk;replace KK:=kks KK M4 hk;replace F4:=G;clear hk y0 z0 y1 z1 y2 z2 y3 z3))
 all_goals (refine bodyPost_ret (results_single rfl (.cell g4 42 _ (0,0) _ rfl F4.out hu rfl (by kernel_rfl) .nil)) rfl ?_)
 all_goals exact ⟨_,_,_,_,_,rfl,trivial,⟨by omega,by omega⟩,HI.out,B.out,KK.out⟩

def spec_l20Entry.T3 : Bool × List (List Nat × List Nat):=(true,[([],[]),([],[]),([1],[1]),([2],[2]),([],[]),([4],[4]),([5],[5]),([],[]),([7],[7]),([8],[8]),([],[]),([10],[10]),([11],[11]),([],[]),([0,3,6,9,12,13],[0,3,6,9,12,13]),([],[]),([15],[15]),([14,16],[14,16]),([17],[17]),([18,16,0,1,2,3,4,5,6,7,8,9,10,11,12,13,14,15,16,17,18],[18])])
def spec_l20Entry.B3 : List Nat:=[0,0,2,6,0,16,48,0,128,384,0,1024,3072,0,16383,0,32768,131071,262143,524287]
theorem spec_l20Entry.tab3 : rtab .any (opsOf Try.f63 3)=spec_l20Entry.T3:=by kernel_rfl
theorem spec_l20Entry.bits3 : waitsOk spec_l20Entry.T3.2 spec_l20Entry.B3=true:=by kernel_rfl
theorem spec_l20Entry.D (n : Int) (hn : n≤1000000) (w W0 : World) (g : Nat) (bs : List Int) (p : Int) (hI : IsS133 w W0 g bs p) (hB : Below w.heap.size w W0) (hc : Dw.Code bs) (h0 : 0≤p) (h1 : p≤1099501000000) :
  Calls Try.prog 63 #[.pointer (some ⟨g,0,none⟩),.int .i64 n] W0 fun e w'=>∃ cl sq x y u z p',e=.returned (.agg #[.int .i64 cl,.int .i64 sq,.int .i64 x,.string y,.int .i64 u,.int .i64 z])∧(True)∧Left w W0 g bs p 50 p' w':=by
 have hu:=Try.underlying44
 have B:=Aside0.mk hB
 have HI:=Aside0.mk hI
 have HC:=Aside0.mk hc
 have KK:=Aside0.mk (Kept.refl W0 (RB g))
 clear hB hI hc
 go_enter Try.func63,Try.ntmps63
 go_wp2_with (first
  | ((with_reducible refine gate_dst (N:=4) rfl ?_);refine bxq 4 #[.int .i64 (0),.int .i64 (0),.int .i64 (0),.string (⟨#[]⟩ : ByteArray),.int .i64 (0),.int .i64 (0)] 44 B fun g4 w1 hb B F4 L4 E4=>?_;have M4:=mbx E4 KK;replace HI:=hib HI hb;replace KK:=kkb KK hb;clear hb E4)
  | (go_at_call 104;(with_reducible refine cg1 (spec_l20Rd_pick.D 4 w _ g bs p HI.out B.out HC.out (by omega) (by omega)) fun x2 p2 hx2 hp2 w2 hk B HI2=>?_);replace F4:=bkr F4 HI (by decide) hk;replace KK:=kkr KK hk;replace HI:=HI2;clear hk;skip)
  | (go_at_call 104;(with_reducible refine cg1 (spec_l20Rd_pick.D 6 w _ g bs p2 HI.out B.out HC.out (by omega) (by omega)) fun x3 p3 hx3 hp3 w3 hk B HI2=>?_);replace F4:=bkr F4 HI (by decide) hk;replace KK:=kkr KK hk;replace HI:=HI2;clear hk;skip)
  | (go_at_call 109;(with_reducible refine cg4 (spec_l20Any.D 0 (by omega) w _ g bs p3 HI.out B.out HC.out (by omega) (by omega)) fun ca4 cb4 cc4 cd4 p4 hx4 hp4 w4 hk B HI2=>?_);replace F4:=bkr F4 HI (by decide) hk;replace KK:=kkr KK hk;replace HI:=HI2;clear hk;skip)
  | ((with_reducible refine gate_dst (N:=5) rfl ?_);refine bxq 5 #[.int .i64 (0),.int .i64 (0),.int .i64 (0),.string (⟨#[]⟩ : ByteArray),.int .i64 (0),.int .i64 (0)] 44 B fun g5 w5 hb B F5 L5 E5=>?_;have N4_5:=ne1 E5 F4;have M5:=mbx E5 KK;replace F4:=bn F4 hb;replace HI:=hib HI hb;replace KK:=kkb KK hb;obtain ⟨c5_0,c5_1,c5_2,c5_3,c5_4,c5_5⟩:=cs6 F5;clear hb E5)
  | ((with_reducible refine gate_store (t:=44) (p:=5) rfl ?_);obtain ⟨y0,y1,y2,y3,y4,y5,z0,z1,z2,z3,z4,z5⟩:=cz6 F5;refine sxq 44 44 5 0 [.int .i64 (x2),.int .i64 ((1 + x3)),.int .i64 (ca4),.string cb4,.int .i64 (cc4),.int .i64 (cd4)] [.int .i64 (x2),.int .i64 ((1 + x3)),.int .i64 (ca4),.string cb4,.int .i64 (cc4),.int .i64 (cd4)] B F5 L5 fun w6 hk B G=>?_;replace F4:=bk F4 hk N4_5.out;replace HI:=his HI F5 (by decide) hk;replace KK:=kks KK M5 hk;replace F5:=G;clear c5_0 c5_1 c5_2 c5_3 c5_4 c5_5;obtain ⟨c5_0,c5_1,c5_2,c5_3,c5_4,c5_5⟩:=cs6 F5;clear hk y0 z0 y1 z1 y2 z2 y3 z3 y4 z4 y5 z5)
  | (go_at_call 108;(with_reducible refine cg1 (spec_l20Rd_odd.D n (by omega) w _ g bs p4 HI.out B.out HC.out (by omega) (by omega)) fun x7 p7 hx7 hp7 w7 hk B HI2=>?_);replace F4:=bkr F4 HI (by decide) hk;replace F5:=bkr F5 HI (by decide) hk;replace KK:=kkr KK hk;replace HI:=HI2;clear hk;clear c5_0 c5_1 c5_2 c5_3 c5_4 c5_5;obtain ⟨c5_0,c5_1,c5_2,c5_3,c5_4,c5_5⟩:=cs6 F5;skip)
  | ((with_reducible refine gate_store (t:=44) (p:=4) rfl ?_);obtain ⟨y0,y1,y2,y3,y4,y5,z0,z1,z2,z3,z4,z5⟩:=cz6 F4;refine sxq 44 44 4 0 [.int .i64 (x2),.int .i64 ((1 + x3)),.int .i64 (ca4),.string cb4,.int .i64 (cc4),.int .i64 (cd4)] [.int .i64 (x2),.int .i64 ((1 + x3)),.int .i64 (ca4),.string cb4,.int .i64 (cc4),.int .i64 (cd4)] B F4 L4 fun w201 hk B G=>?_;replace HI:=his HI F4 (by decide) hk;replace KK:=kks KK M4 hk;replace F4:=G;clear hk y0 z0 y1 z1 y2 z2 y3 z3 y4 z4 y5 z5))
 all_goals try (refine bodyPost_ret (results_single rfl (.cell g4 44 _ (0,0) _ rfl F4.out hu rfl (by kernel_rfl) .nil)) rfl ?_;exact ⟨_,_,_,_,_,_,_,rfl,trivial,⟨by omega,by omega⟩,HI.out,B.out,KK.out⟩)
 all_goals (
  refine rg (n:=20) (S:=fun W=>W.heap[g5]?=some (.cells #[.int .i64 (x2),.int .i64 ((1 + x3)),.int .i64 (ca4),.string cb4,.int .i64 (cc4),.int .i64 (cd4)] 44 (0,0))) (ds:=[]) #[false,false,false,false,false,false,false,false,false,false,false,false,false,false,false,false,false,false,false,false] (by kernel_rfl) rfl rfl F5.out id B (fun w101 hb B hHeld=>?_)
  refine with_tabW spec_l20Entry.tab3 spec_l20Entry.bits3 (fun HT_ HW_=>?_)
  replace F4:=bn F4 hb
  replace F5:=bn F5 hb
  replace HI:=hib HI hb
  replace KK:=kkb KK hb
  clear hb
  refine join_ 3 (bits 20 131071) (σ:=Option Addr × Nat × List S44 × Int × Int) (fun (AL31,kL31,z31,ps33,xs33)=>[(17,.agg #[.int .i64 (0),.int .i64 (0),.int .i64 (0),.string (⟨#[]⟩ : ByteArray),.int .i64 (0),.int .i64 (0)]),(18,.pointer (some ⟨g5,2,none⟩)),(19,.agg #[.int .i64 (ca4),.string cb4,.int .i64 (cc4),.int .i64 (cd4)]),(20,.agg #[.int .i64 (4),.int .i64 (1),.int .i64 (ca4),.string cb4,.int .i64 (cc4),.int .i64 (cd4)]),(21,.pointer (some ⟨g5,2,none⟩)),(22,.agg #[.int .i64 (ca4),.string cb4,.int .i64 (cc4),.int .i64 (cd4)]),(23,.agg #[.int .i64 (-1),.int .i64 (1),.int .i64 (ca4),.string cb4,.int .i64 (cc4),.int .i64 (cd4)]),(24,.pointer (some ⟨g5,2,none⟩)),(25,.agg #[.int .i64 (ca4),.string cb4,.int .i64 (cc4),.int .i64 (cd4)]),(26,.agg #[.int .i64 (1),.int .i64 (0),.int .i64 (ca4),.string cb4,.int .i64 (cc4),.int .i64 (cd4)]),(27,.pointer (some ⟨g5,2,none⟩)),(28,.agg #[.int .i64 (ca4),.string cb4,.int .i64 (cc4),.int .i64 (cd4)]),(29,.agg #[.int .i64 (1),.int .i64 (1000),.int .i64 (ca4),.string cb4,.int .i64 (cc4),.int .i64 (cd4)]),(30,.agg #[.int .i64 (1),.int .i64 (1),.int .i64 (0),.string (⟨#[]⟩ : ByteArray),.int .i64 (0),.int .i64 (0)]),(31,.slice AL31 z31.length kL31),(32,.pointer (some ⟨g,0,none⟩)),(33,.int .i64 (xs33))]) (fun (AL31,kL31,z31,ps33,xs33) W=>Aside0 (Below w.heap.size w W)∧Aside0 (W.heap[g4]?=some (.cells #[.int .i64 (0),.int .i64 (0),.int .i64 (0),.string (⟨#[]⟩ : ByteArray),.int .i64 (0),.int .i64 (0)] 44 (0,0)))∧Aside0 (W.heap[g5]?=some (.cells #[.int .i64 (x2),.int .i64 ((1 + x3)),.int .i64 (ca4),.string cb4,.int .i64 (cc4),.int .i64 (cd4)] 44 (0,0)))∧Aside0 (Ow k44 44 W w.heap.size (.slice AL31 z31.length kL31) z31)∧Aside0 (IsS133 w W g bs ps33)∧Aside0 (Kept W0 W (RB g))∧Aside0 (Fr W0 (.slice AL31 z31.length kL31))∧(p7≤ps33∧ps33≤p7 + 1)∧(0≤xs33∧xs33 < 6)∧z31.length=6∧Aside0 (∀ k_,(.slice AL31 z31.length kL31 : Value).ownBlock=some k_→k_ ≠ g4)∧Aside0 (∀ k_,(.slice AL31 z31.length kL31 : Value).ownBlock=some k_→k_ ≠ g5)) ?_ (fun J=>?_)
  rotate_left
  ·refine pvq 0 (some 17) (bits 20 1) HT_ ?_
   refine pvq 1 (some 18) (bits 20 3) HT_ ?_
   refine tvq 2 (some 19) (bits 20 7) HT_ HW_ rfl hHeld (by intro w' hS;have s0:=hS;obtain ⟨q0,q1,q2,q3,q4,q5⟩:=cs6 (Aside0.mk s0);go_simp;with_reducible rfl) ?_
   refine pvq 3 (some 20) (bits 20 15) HT_ ?_
   refine pvq 4 (some 21) (bits 20 31) HT_ ?_
   refine tvq 5 (some 22) (bits 20 63) HT_ HW_ rfl hHeld (by intro w' hS;have s0:=hS;obtain ⟨q0,q1,q2,q3,q4,q5⟩:=cs6 (Aside0.mk s0);go_simp;with_reducible rfl) ?_
   refine pvq 6 (some 23) (bits 20 127) HT_ ?_
   refine pvq 7 (some 24) (bits 20 255) HT_ ?_
   refine tvq 8 (some 25) (bits 20 511) HT_ HW_ rfl hHeld (by intro w' hS;have s0:=hS;obtain ⟨q0,q1,q2,q3,q4,q5⟩:=cs6 (Aside0.mk s0);go_simp;with_reducible rfl) ?_
   refine pvq 9 (some 26) (bits 20 1023) HT_ ?_
   refine pvq 10 (some 27) (bits 20 2047) HT_ ?_
   refine tvq 11 (some 28) (bits 20 4095) HT_ HW_ rfl hHeld (by intro w' hS;have s0:=hS;obtain ⟨q0,q1,q2,q3,q4,q5⟩:=cs6 (Aside0.mk s0);go_simp;with_reducible rfl) ?_
   refine pvq 12 (some 29) (bits 20 8191) HT_ ?_
   refine pvq 13 (some 30) (bits 20 16383) HT_ ?_
   refine pvq 15 (some 32) (bits 20 49151) HT_ ?_
   refine nmq ?_
   refine two_ (i:=14) (j:=16) (Ni:=some 31) (Nj:=some 33) (bits 20 65535) (bits 20 114687) rfl rfl rfl rfl (two_of HT_.out (by kernel_rfl)) (by decide) (by decide) (fun K hK=>?_) (fun K hK=>?_)
   ·refine lts k44 44 (by rfl) rfl ([⟨0,0,0,(⟨#[]⟩ : ByteArray),0,0⟩,⟨4,1,ca4,cb4,cc4,cd4⟩,⟨-1,1,ca4,cb4,cc4,cd4⟩,⟨1,0,ca4,cb4,cc4,cd4⟩,⟨1,1000,ca4,cb4,cc4,cd4⟩,⟨1,1,0,(⟨#[]⟩ : ByteArray),0,0⟩] : List S44) [.int .i64 (0),.int .i64 (0),.int .i64 (0),.string (⟨#[]⟩ : ByteArray),.int .i64 (0),.int .i64 (0),.int .i64 (4),.int .i64 (1),.int .i64 (ca4),.string cb4,.int .i64 (cc4),.int .i64 (cd4),.int .i64 (-1),.int .i64 (1),.int .i64 (ca4),.string cb4,.int .i64 (cc4),.int .i64 (cd4),.int .i64 (1),.int .i64 (0),.int .i64 (ca4),.string cb4,.int .i64 (cc4),.int .i64 (cd4),.int .i64 (1),.int .i64 (1000),.int .i64 (ca4),.string cb4,.int .i64 (cc4),.int .i64 (cd4),.int .i64 (1),.int .i64 (1),.int .i64 (0),.string (⟨#[]⟩ : ByteArray),.int .i64 (0),.int .i64 (0)] ?hr (Reps.c6 (k44_mkM _ _ _ ⟨0,0,0,(⟨#[]⟩ : ByteArray),0,0⟩) (Reps.c6 (k44_mkM _ _ _ ⟨4,1,ca4,cb4,cc4,cd4⟩) (Reps.c6 (k44_mkM _ _ _ ⟨-1,1,ca4,cb4,cc4,cd4⟩) (Reps.c6 (k44_mkM _ _ _ ⟨1,0,ca4,cb4,cc4,cd4⟩) (Reps.c6 (k44_mkM _ _ _ ⟨1,1000,ca4,cb4,cc4,cd4⟩) (Reps.c6 (k44_mkM _ _ _ ⟨1,1,0,(⟨#[]⟩ : ByteArray),0,0⟩) (Reps.none _ _))))))) (by simp) B (fun z31 hz31 AL31 kL31 w102 hb B RL31 QL31=>?_)
    (case hr=>go_simp;first | done | rfl)
    have NB4_L31:=nb QL31 F4
    have NB5_L31:=nb QL31 F5
    have MRL31:=mrf QL31 KK
    replace F4:=bn F4 hb
    replace F5:=bn F5 hb
    replace HI:=hib HI hb
    replace KK:=kkb KK hb
    clear hb QL31
    refine hK.out _ _ F5.out (fun hHeld=>?_)
    clear hK K
    refine npq (some 31) ?_
    refine one_ (i:=16) (N:=some 33) (bits 20 131071) rfl rfl (one_of HT_.out (by kernel_rfl)) (by decide) (fun K hK=>?_)
    refine gsq Try.func104 #[.pointer (some ⟨g,0,none⟩),.int .i64 (6)] ?_
    (with_reducible refine cg1 (spec_l20Rd_pick.D 6 w _ g bs p7 HI.out B.out HC.out (by omega) (by omega)) fun xs33 ps33 hxs33 hps33 w103 hk B HI2=>?_)
    replace F4:=bkr F4 HI (by decide) hk
    replace F5:=bkr F5 HI (by decide) hk
    replace RL31:=rkr RL31 HI (by decide) hk
    replace KK:=kkr KK hk
    replace HI:=HI2
    clear hk
    refine ⟨_,rfl,?_⟩
    refine hK.out _ _ F5.out (fun hHeld=>?_)
    clear hK K
    refine npq (some 33) ?_
    refine norm_ (a':=_) ?_ (J ⟨AL31,kL31,z31,ps33,xs33⟩ _ ⟨B,F4,F5,RL31,HI,KK,MRL31,(by omega),⟨hxs33.1,hxs33.2.1 (by omega)⟩,(by rw [← hz31];rfl),NB4_L31,NB5_L31⟩)
    simp only [putAll,Act.put,za,zb,zc]
    try rfl
   ·refine gsq Try.func104 #[.pointer (some ⟨g,0,none⟩),.int .i64 (6)] ?_
    (with_reducible refine cg1 (spec_l20Rd_pick.D 6 w _ g bs p7 HI.out B.out HC.out (by omega) (by omega)) fun xs33 ps33 hxs33 hps33 w102 hk B HI2=>?_)
    replace F4:=bkr F4 HI (by decide) hk
    replace F5:=bkr F5 HI (by decide) hk
    replace KK:=kkr KK hk
    replace HI:=HI2
    clear hk
    refine ⟨_,rfl,?_⟩
    refine hK.out _ _ F5.out (fun hHeld=>?_)
    clear hK K
    refine npq (some 33) ?_
    refine one_ (i:=14) (N:=some 31) (bits 20 131071) rfl rfl (one_of HT_.out (by kernel_rfl)) (by decide) (fun K hK=>?_)
    refine lts k44 44 (by rfl) rfl ([⟨0,0,0,(⟨#[]⟩ : ByteArray),0,0⟩,⟨4,1,ca4,cb4,cc4,cd4⟩,⟨-1,1,ca4,cb4,cc4,cd4⟩,⟨1,0,ca4,cb4,cc4,cd4⟩,⟨1,1000,ca4,cb4,cc4,cd4⟩,⟨1,1,0,(⟨#[]⟩ : ByteArray),0,0⟩] : List S44) [.int .i64 (0),.int .i64 (0),.int .i64 (0),.string (⟨#[]⟩ : ByteArray),.int .i64 (0),.int .i64 (0),.int .i64 (4),.int .i64 (1),.int .i64 (ca4),.string cb4,.int .i64 (cc4),.int .i64 (cd4),.int .i64 (-1),.int .i64 (1),.int .i64 (ca4),.string cb4,.int .i64 (cc4),.int .i64 (cd4),.int .i64 (1),.int .i64 (0),.int .i64 (ca4),.string cb4,.int .i64 (cc4),.int .i64 (cd4),.int .i64 (1),.int .i64 (1000),.int .i64 (ca4),.string cb4,.int .i64 (cc4),.int .i64 (cd4),.int .i64 (1),.int .i64 (1),.int .i64 (0),.string (⟨#[]⟩ : ByteArray),.int .i64 (0),.int .i64 (0)] ?hr (Reps.c6 (k44_mkM _ _ _ ⟨0,0,0,(⟨#[]⟩ : ByteArray),0,0⟩) (Reps.c6 (k44_mkM _ _ _ ⟨4,1,ca4,cb4,cc4,cd4⟩) (Reps.c6 (k44_mkM _ _ _ ⟨-1,1,ca4,cb4,cc4,cd4⟩) (Reps.c6 (k44_mkM _ _ _ ⟨1,0,ca4,cb4,cc4,cd4⟩) (Reps.c6 (k44_mkM _ _ _ ⟨1,1000,ca4,cb4,cc4,cd4⟩) (Reps.c6 (k44_mkM _ _ _ ⟨1,1,0,(⟨#[]⟩ : ByteArray),0,0⟩) (Reps.none _ _))))))) (by simp) B (fun z31 hz31 AL31 kL31 w103 hb B RL31 QL31=>?_)
    (case hr=>go_simp;first | done | rfl)
    have NB4_L31:=nb QL31 F4
    have NB5_L31:=nb QL31 F5
    have MRL31:=mrf QL31 KK
    replace F4:=bn F4 hb
    replace F5:=bn F5 hb
    replace HI:=hib HI hb
    replace KK:=kkb KK hb
    clear hb QL31
    refine hK.out _ _ F5.out (fun hHeld=>?_)
    clear hK K
    refine npq (some 31) ?_
    refine norm_ (a':=_) ?_ (J ⟨AL31,kL31,z31,ps33,xs33⟩ _ ⟨B,F4,F5,RL31,HI,KK,MRL31,(by omega),⟨hxs33.1,hxs33.2.1 (by omega)⟩,(by rw [← hz31];rfl),NB4_L31,NB5_L31⟩)
    simp only [putAll,Act.put,za,zb,zc]
    try rfl
  rintro ⟨AL31,kL31,z31,ps33,xs33⟩ w104 ⟨B,F4,F5,RL31,HI,KK,MRL31,hpj3,hb33,hl31,NB4_L31,NB5_L31⟩
  refine norm_ (a':=?_) ?_ ?_
  rotate_left
  ·simp only [putAll,Act.put,za,zb,zc]
   rfl
  have his33 : xs33 < (z31.length : Int):=by omega
  obtain ⟨ads33,hAs33,ys33_0,ys33_1,ys33_2,ys33_3,ys33_4,ys33_5⟩:=at_T44 (rc RL31) xs33 hb33.1 his33
  have hjs33:=hb33.1
  generalize rd_T44 z31 xs33=ys33 at *
  cases hAs33
  have js33:=eq_true hjs33
  have is33:=eq_true his33
  refine pvq 17 (some 34) (bits 20 262143) HT_ ?_
  refine nmq ?_
  refine one_ (i:=18) (N:=some 35) (bits 20 524287) rfl rfl (one_of HT_.out (by kernel_rfl)) (by decide) (fun K hK=>?_)
  refine lds (N:=35) ?_
  refine hK.out _ _ F5.out (fun hHeld=>?_)
  clear hK K
  refine npq (some 35) ?_
  refine one_ (i:=19) (N:=none) (bits 20 1048575) rfl rfl (one_of HT_.out (by kernel_rfl)) (by decide) (fun K hK=>?_)
  obtain ⟨y0,y1,y2,y3,y4,y5,z0,z1,z2,z3,z4,z5⟩:=cz6 F4
  refine sxs (g:=g4) 0 [.int .i64 (ys33.f0),.int .i64 (ys33.f1),.int .i64 (ys33.f2.f0),.string ys33.f2.f1,.int .i64 (ys33.f2.f2),.int .i64 (ys33.f2.f3)] [.int .i64 (ys33.f0),.int .i64 (ys33.f1),.int .i64 (ys33.f2.f0),.string ys33.f2.f1,.int .i64 (ys33.f2.f2),.int .i64 (ys33.f2.f3)] (by rfl) rfl ?hr B F4 L4 rfl (Nat.le_of_ble_eq_true rfl) (fun w105 hk B G=>?_)
  (case hr=>go_simp;first | done | rfl)
  replace F5:=bk F5 hk N4_5.out.symm
  replace RL31:=rkn RL31 hk NB4_L31
  replace HI:=his HI F4 (by decide) hk
  replace KK:=kks KK M4 hk
  replace F4:=G
  clear hk y0 z0 y1 z1 y2 z2 y3 z3 y4 z4 y5 z5
  refine hK.out _ _ F5.out (fun hHeld=>?_)
  clear hK K
  refine done_ (done_of HT_.out (by kernel_rfl)) ?_)
 all_goals try go_wp2
 all_goals try (refine bodyPost_ret (results_single rfl (.cell g4 44 _ (0,0) _ rfl F4.out hu rfl (by kernel_rfl) .nil)) rfl ?_;exact ⟨_,_,_,_,_,_,_,rfl,trivial,⟨by omega,by omega⟩,HI.out,B.out,KK.out⟩)


theorem spec_l20Log.D (n : Int) (hn : n≤1000000) (w W0 : World) (g : Nat) (bs : List Int) (p : Int) (hI : IsS133 w W0 g bs p) (hB : Below w.heap.size w W0) (hc : Dw.Code bs) (h0 : 0≤p) (h1 : p≤1099490000000) :
  Calls Try.prog 78 #[.pointer (some ⟨g,0,none⟩),.int .i64 n] W0 fun e w'=>∃ v0 xs p',e=.returned (v0)∧(xs.length≤300)∧Kd.R k44 44 w' w.heap.size (fun _=>True) v0 xs∧Fr W0 v0∧Left w W0 g bs p 2500 p' w':=by
 have hu:=Try.underlying44
 have B:=Aside0.mk hB
 have HI:=Aside0.mk hI
 have HC:=Aside0.mk hc
 have KK:=Aside0.mk (Kept.refl W0 (RB g))
 clear hB hI hc
 go_enter Try.func78,Try.ntmps78
 go_wp2_with (first
  | ((with_reducible refine gate_dst (N:=8) rfl ?_);refine lt k44 44 ?hg (N:=8) ?hd ([] : List S44) [] ?hr (Reps.none _ _) (by simp) B ?_;(case hd | hg=>rfl);(case hr=>go_simp;first | done | rfl);intro z8 hz8 AL8 kL8 w1 hb B RL8 QL8;have MRL8:=mrf QL8 KK;replace HI:=hib HI hb;replace KK:=kkb KK hb;clear hb QL8;subst hz8)
  | (go_at_call 104;(with_reducible refine cg1 (spec_l20Rd_pick.D 9 w _ g bs p HI.out B.out HC.out (by omega) (by omega)) fun x2 p2 hx2 hp2 w2 hk B HI2=>?_);replace RL8:=rkr RL8 HI (by decide) hk;replace KK:=kkr KK hk;replace HI:=HI2;clear hk;skip))
 have hx1:=hx2.1
 have hx2:=hx2.2.1 (by omega)
 obtain ⟨m0,rfl⟩ : ∃ m : Nat,x2=(m : Int):=⟨x2.toNat,by omega⟩
 go_loopg [5,6] (m0 + 1) (fun kx v5 v6 wr=>∃ (m : Nat) (xs : List S44) (pp : Int),v6=.int .i64 (m : Int)∧m < kx∧m≤8∧xs.length + m≤8∧(p≤pp∧pp + 100 * (m : Int)≤p + 900)∧Aside0 (IsS133 w wr g bs pp)∧Aside0 (Kept W0 wr (RB g))∧Aside0 (Below w.heap.size w wr)∧Aside0 (Ow k44 44 wr w.heap.size v5 xs)∧Aside0 (Fr W0 v5))
 case atStart=>exact ⟨m0,[],_,rfl,by omega,by omega,by simp only [List.length_nil];omega,by omega,HI,KK,B,RL8,MRL8⟩
 case round =>
  clear HI KK B RL8 MRL8
  obtain ⟨m,xs,pp,rfl,hm,hm8,hxl,hpp,HI,KK,B,Rp5,MRp5⟩:=hrel
  obtain ⟨A5,k5,rfl⟩:=Kd.R_slice Rp5.out
  by_cases hm0 : 0 < m
  ·obtain ⟨d,rfl⟩ : ∃ d,gk=d + 1:=⟨gk - 1,by omega⟩
   have cj : decide ((0 : Int) < (m : Int))=true:=decide_eq_true (by omega)
   have hw : wrap64 ((m : Int) - 1)=((m - 1 : Nat) : Int):=by unfold wrap64;omega
   have hcc : (decide ((0 : Int) < (xs.length : Int))=false∧(0 < xs.length)=False∧True) ∨ (decide ((0 : Int) < (xs.length : Int))=true∧(0 < xs.length)=True∧0 < xs.length):=by
    rcases Nat.eq_zero_or_pos xs.length with h9 | h9
    ·exact .inl ⟨decide_eq_false (by omega),eq_false (by omega),trivial⟩
    ·exact .inr ⟨decide_eq_true (by omega),eq_true h9,h9⟩
   rcases hcc with ⟨hc0,hc1,hc2⟩ | ⟨hc0,hc1,hc2⟩
   all_goals go_wp2_with (first
    | (go_at_call 104;(with_reducible refine cg1 (spec_l20Rd_pick.D (xs.length : Int) w _ g bs pz HI.out B.out HC.out (by omega) (by omega)) fun x451 pz hx451 hp451 w451 hk B HI2=>?_);replace F7:=bkr F7 HI (by decide) hk;replace Rp5:=rkr Rp5 HI (by decide) hk;replace KK:=kkr KK hk;replace HI:=HI2;clear hk;clear c7_0 c7_1 c7_2 c7_3 c7_4 c7_5;obtain ⟨c7_0,c7_1,c7_2,c7_3,c7_4,c7_5⟩:=cs6 F7;skip;have hi451 : x451 < (xs.length : Int):=(by have h9:=of_decide_eq_true hc0;exact hx451.2.1 (by omega));obtain ⟨ad451,hA451,y451_0,y451_1,y451_2,y451_3,y451_4,y451_5⟩:=at_T44 (rc Rp5) x451 hx451.1 hi451;have hj451:=hx451.1;generalize rd_T44 xs x451=y451 at *;cases hA451;have j451:=eq_true hj451;have i451:=eq_true hi451;obtain ⟨ea301,e9,ec301,ed301,ef301,eg301⟩:=y451;dsimp only at y451_0 y451_1 y451_2 y451_3 y451_4 y451_5;obtain ⟨x401,hx9⟩ : ∃ q : Int,1 + q=e9:=⟨e9 - 1,by omega⟩;subst hx9)
    | ((with_reducible refine gate_store (t:=44) (p:=7) rfl ?_);obtain ⟨y0,y1,y2,y3,y4,y5,z0,z1,z2,z3,z4,z5⟩:=cz6 F7;refine sxq 44 44 7 0 [.int .i64 (ea301),.int .i64 ((1 + x401)),.int .i64 (ec301),.string ed301,.int .i64 (ef301),.int .i64 (eg301)] [.int .i64 (ea301),.int .i64 ((1 + x401)),.int .i64 (ec301),.string ed301,.int .i64 (ef301),.int .i64 (eg301)] B F7 L7 fun w452 hk B G=>?_;replace Rp5:=rkn Rp5 hk NB7_p5;replace HI:=his HI F7 (by decide) hk;replace KK:=kks KK M7 hk;replace F7:=G;clear c7_0 c7_1 c7_2 c7_3 c7_4 c7_5;obtain ⟨c7_0,c7_1,c7_2,c7_3,c7_4,c7_5⟩:=cs6 F7;clear hk y0 z0 y1 z1 y2 z2 y3 z3 y4 z4 y5 z5)
    | (go_at_call 63;(with_reducible refine cg6 (spec_l20Entry.D 0 (by omega) w _ g bs pp HI.out B.out HC.out (by omega) (by omega)) fun ea301 eb301 ec301 ed301 ef301 eg301 pz hx301 hp301 w301 hk B HI2=>?_);replace Rp5:=rkr Rp5 HI (by decide) hk;replace KK:=kkr KK hk;replace HI:=HI2;clear hk;skip)
    | ((with_reducible refine gate_dst (N:=7) rfl ?_);refine bxq 7 #[.int .i64 (0),.int .i64 (0),.int .i64 (0),.string (⟨#[]⟩ : ByteArray),.int .i64 (0),.int .i64 (0)] 44 B fun g7 w302 hb B F7 L7 E7=>?_;have NB7_p5:=nbx E7 Rp5;have M7:=mbx E7 KK;replace Rp5:=rn Rp5 hb;replace HI:=hib HI hb;replace KK:=kkb KK hb;obtain ⟨c7_0,c7_1,c7_2,c7_3,c7_4,c7_5⟩:=cs6 F7;clear hb E7)
    | ((with_reducible refine gate_store (t:=44) (p:=7) rfl ?_);obtain ⟨y0,y1,y2,y3,y4,y5,z0,z1,z2,z3,z4,z5⟩:=cz6 F7;refine sxq 44 44 7 0 [.int .i64 (ea301),.int .i64 (eb301),.int .i64 (ec301),.string ed301,.int .i64 (ef301),.int .i64 (eg301)] [.int .i64 (ea301),.int .i64 (eb301),.int .i64 (ec301),.string ed301,.int .i64 (ef301),.int .i64 (eg301)] B F7 L7 fun w303 hk B G=>?_;replace Rp5:=rkn Rp5 hk NB7_p5;replace HI:=his HI F7 (by decide) hk;replace KK:=kks KK M7 hk;replace F7:=G;clear c7_0 c7_1 c7_2 c7_3 c7_4 c7_5;obtain ⟨c7_0,c7_1,c7_2,c7_3,c7_4,c7_5⟩:=cs6 F7;clear hk y0 z0 y1 z1 y2 z2 y3 z3 y4 z4 y5 z5)
    | (go_at_call 104;(with_reducible refine cg1 (spec_l20Rd_pick.D 3 w _ g bs pz HI.out B.out HC.out (by omega) (by omega)) fun x304 pz hx304 hp304 w304 hk B HI2=>?_);replace F7:=bkr F7 HI (by decide) hk;replace Rp5:=rkr Rp5 HI (by decide) hk;replace KK:=kkr KK hk;replace HI:=HI2;clear hk;clear c7_0 c7_1 c7_2 c7_3 c7_4 c7_5;obtain ⟨c7_0,c7_1,c7_2,c7_3,c7_4,c7_5⟩:=cs6 F7;skip)
    | (go_at_call 115;(with_reducible refine cg4 (spec_l20Cmd.D 0 (by omega) w _ g bs pz HI.out B.out HC.out (by omega) (by omega)) fun ec301 ed301 ef301 eg301 pz hx351 hp351 w351 hk B HI2=>?_);replace F7:=bkr F7 HI (by decide) hk;replace Rp5:=rkr Rp5 HI (by decide) hk;replace KK:=kkr KK hk;replace HI:=HI2;clear hk;clear c7_0 c7_1 c7_2 c7_3 c7_4 c7_5;obtain ⟨c7_0,c7_1,c7_2,c7_3,c7_4,c7_5⟩:=cs6 F7;skip)
    | ((with_reducible refine gate_store (t:=42) (p:=28) rfl ?_);obtain ⟨y0,y1,y2,y3,y4,y5,z0,z1,z2,z3,z4,z5⟩:=cz6 F7;refine sxq 44 42 28 2 [.int .i64 (ec301),.string ed301,.int .i64 (ef301),.int .i64 (eg301)] [.int .i64 (ea301),.int .i64 (eb301),.int .i64 (ec301),.string ed301,.int .i64 (ef301),.int .i64 (eg301)] B F7 L7 fun w352 hk B G=>?_;replace Rp5:=rkn Rp5 hk NB7_p5;replace HI:=his HI F7 (by decide) hk;replace KK:=kks KK M7 hk;replace F7:=G;clear c7_0 c7_1 c7_2 c7_3 c7_4 c7_5;obtain ⟨c7_0,c7_1,c7_2,c7_3,c7_4,c7_5⟩:=cs6 F7;clear hk y0 z0 y1 z1 y2 z2 y3 z3 y4 z4 y5 z5)
    | (go_at_call 104;(with_reducible refine cg1 (spec_l20Rd_pick.D 8 w _ g bs pz HI.out B.out HC.out (by omega) (by omega)) fun x401 pz hx401 hp401 w401 hk B HI2=>?_);replace F7:=bkr F7 HI (by decide) hk;replace Rp5:=rkr Rp5 HI (by decide) hk;replace KK:=kkr KK hk;replace HI:=HI2;clear hk;clear c7_0 c7_1 c7_2 c7_3 c7_4 c7_5;obtain ⟨c7_0,c7_1,c7_2,c7_3,c7_4,c7_5⟩:=cs6 F7;skip)
    | ((with_reducible refine gate_store (t:=3) (p:=32) rfl ?_);obtain ⟨y0,y1,y2,y3,y4,y5,z0,z1,z2,z3,z4,z5⟩:=cz6 F7;refine sxq 44 3 32 1 [.int .i64 ((1 + x401))] [.int .i64 (ea301),.int .i64 ((1 + x401)),.int .i64 (ec301),.string ed301,.int .i64 (ef301),.int .i64 (eg301)] B F7 L7 fun w402 hk B G=>?_;replace Rp5:=rkn Rp5 hk NB7_p5;replace HI:=his HI F7 (by decide) hk;replace KK:=kks KK M7 hk;replace F7:=G;clear c7_0 c7_1 c7_2 c7_3 c7_4 c7_5;obtain ⟨c7_0,c7_1,c7_2,c7_3,c7_4,c7_5⟩:=cs6 F7;clear hk y0 z0 y1 z1 y2 z2 y3 z3 y4 z4 y5 z5)
    | (go_at_call 104;(with_reducible refine cg1 (spec_l20Rd_pick.D 6 w _ g bs pz HI.out B.out HC.out (by omega) (by omega)) fun x403 pz hx403 hp403 w403 hk B HI2=>?_);replace F7:=bkr F7 HI (by decide) hk;replace Rp5:=rkr Rp5 HI (by decide) hk;replace KK:=kkr KK hk;replace HI:=HI2;clear hk;clear c7_0 c7_1 c7_2 c7_3 c7_4 c7_5;obtain ⟨c7_0,c7_1,c7_2,c7_3,c7_4,c7_5⟩:=cs6 F7;skip)
    | ((with_reducible refine gate_dst (N:=50) rfl ?_);refine lt k44 44 ?hg (N:=50) ?hd ([⟨ea301,(1 + x401),ec301,ed301,ef301,eg301⟩] : List S44) [.int .i64 (ea301),.int .i64 ((1 + x401)),.int .i64 (ec301),.string ed301,.int .i64 (ef301),.int .i64 (eg301)] ?hr (Reps.c6 (k44_mkM _ _ _ ⟨ea301,(1 + x401),ec301,ed301,ef301,eg301⟩) (Reps.none _ _)) (by simp) B ?_;(case hd | hg=>rfl);(case hr=>go_simp;first | done | rfl);intro z50 hz50 AL50 kL50 w501 hb B RL50 QL50;have Dp5_L50:=fr QL50 Rp5;have MRL50:=mrf QL50 KK;replace Rp5:=rn Rp5 hb;replace HI:=hib HI hb;replace KK:=kkb KK hb;clear hb QL50)
    | ((with_reducible refine gate_builtin (b:=.append) (xs:=#[.tmp 48,.tmp 50]) rfl ?_);at_builtin;refine apx k44 44 rfl (.tmp 48) (.tmp 50) 61 (.agg #[.int .i64 (0),.int .i64 (0),.int .i64 (0),.string (⟨#[]⟩ : ByteArray),.int .i64 (0),.int .i64 (0)]) 56 rfl Try.underlying61 info44 rfl (by decide) (by omega) rfl rfl Rp5 (rc RL50) (fun x cs h=>by rw [k44_open h];exact k44_mkM _ _ _ x) (by rw [← hz50];simp only [List.length_cons,List.length_nil];omega) B ?_;intro z51 hz51 AL51 kL51 w502 hg B RL51 hat;replace HI:=hig HI Rp5 (by decide) hg;have MRL51:=mra hat MRp5 KK;replace KK:=kkg KK MRp5 hg;clear hg hat))
   all_goals (go_roundg d;(case measure=>omega);(case rel=>exact ⟨m - 1,z51,_,congrArg (Value.int .i64) (by omega),by omega,by omega,by rw [← hz51,← hz50];simp only [List.length_append,List.length_cons,List.length_nil];omega,by omega,HI,KK,B,RL51,MRL51⟩))
  ·have cj : decide ((0 : Int) < (m : Int))=false:=decide_eq_false (by omega)
   go_wp2_with (first
    | (go_at_call 108;(with_reducible refine cg1 (spec_l20Rd_odd.D n (by omega) w _ g bs pp HI.out B.out HC.out (by omega) (by omega)) fun x701 p701 hx701 hp701 w701 hk B HI2=>?_);replace Rp5:=rkr Rp5 HI (by decide) hk;replace KK:=kkr KK hk;replace HI:=HI2;clear hk;skip)
    | (go_at_call 104;(with_reducible refine cg1 (spec_l20Rd_pick.D 2 w _ g bs p701 HI.out B.out HC.out (by omega) (by omega)) fun x751 p751 hx751 hp751 w751 hk B HI2=>?_);replace Rp5:=rkr Rp5 HI (by decide) hk;replace KK:=kkr KK hk;replace HI:=HI2;clear hk;skip)
    | (go_at_call 63;(with_reducible refine cg6 (spec_l20Entry.D 1 (by omega) w _ g bs p751 HI.out B.out HC.out (by omega) (by omega)) fun ea801 eb801 ec801 ed801 ef801 eg801 p801 hx801 hp801 w801 hk B HI2=>?_);replace Rp5:=rkr Rp5 HI (by decide) hk;replace KK:=kkr KK hk;replace HI:=HI2;clear hk;skip)
    | ((with_reducible refine gate_dst (N:=61) rfl ?_);refine lt k44 44 ?hg (N:=61) ?hd ([⟨ea801,eb801,ec801,ed801,ef801,eg801⟩] : List S44) [.int .i64 (ea801),.int .i64 (eb801),.int .i64 (ec801),.string ed801,.int .i64 (ef801),.int .i64 (eg801)] ?hr (Reps.c6 (k44_mkM _ _ _ ⟨ea801,eb801,ec801,ed801,ef801,eg801⟩) (Reps.none _ _)) (by simp) B ?_;(case hd | hg=>rfl);(case hr=>go_simp;first | done | rfl);intro z61 hz61 AL61 kL61 w802 hb B RL61 QL61;have Dp5_L61:=fr QL61 Rp5;have MRL61:=mrf QL61 KK;replace Rp5:=rn Rp5 hb;replace HI:=hib HI hb;replace KK:=kkb KK hb;clear hb QL61)
    | ((with_reducible refine gate_builtin (b:=.append) (xs:=#[.tmp 58,.tmp 61]) rfl ?_);at_builtin;refine apx k44 44 rfl (.tmp 58) (.tmp 61) 61 (.agg #[.int .i64 (0),.int .i64 (0),.int .i64 (0),.string (⟨#[]⟩ : ByteArray),.int .i64 (0),.int .i64 (0)]) 56 rfl Try.underlying61 info44 rfl (by decide) (by omega) rfl rfl Rp5 (rc RL61) (fun x cs h=>by rw [k44_open h];exact k44_mkM _ _ _ x) (by rw [← hz61];simp only [List.length_cons,List.length_nil];omega) B ?_;intro z62 hz62 AL62 kL62 w803 hg B RL62 hat;replace HI:=hig HI Rp5 (by decide) hg;have MRL62:=mra hat MRp5 KK;replace KK:=kkg KK MRp5 hg;clear hg hat))
   all_goals try (go_ret;first | (exact ⟨_,_,_,rfl,by omega,Rp5.out,MRp5.out,⟨by omega,by omega⟩,HI.out,B.out,KK.out⟩) | (exact ⟨_,_,_,rfl,by rw [← hz62,← hz61];simp only [List.length_append,List.length_cons,List.length_nil];omega,RL62.out,MRL62.out,⟨by omega,by omega⟩,HI.out,B.out,KK.out⟩))
   rename_i hb7
   clear hb7 hx751
   go_loopg [5] 26 (fun kx v5 wr=>∃ (xs : List S44) (pp : Int),xs.length≤25∧25 < xs.length + kx∧(p≤pp∧pp + 50 * (25 - (xs.length : Int))≤p + 2400)∧Aside0 (IsS133 w wr g bs pp)∧Aside0 (Kept W0 wr (RB g))∧Aside0 (Below w.heap.size w wr)∧Aside0 (Ow k44 44 wr w.heap.size v5 xs)∧Aside0 (Fr W0 v5))
   case atStart=>exact ⟨xs,_,by omega,by omega,by omega,HI,KK,B,Rp5,MRp5⟩
   case round =>
    clear HI KK B Rp5 MRp5 hxl
    obtain ⟨xs,pp,hxl,hxk,hpp,HI,KK,B,Rp5,MRp5⟩:=hrel
    obtain ⟨A5,k5,rfl⟩:=Kd.R_slice Rp5.out
    by_cases hgo : xs.length≤24
    ·obtain ⟨d,rfl⟩ : ∃ d,gk=d + 1:=⟨gk - 1,by omega⟩
     have c1 : decide ((xs.length : Int)≤24)=true:=decide_eq_true (by omega)
     have c2 : xs.length≤24 ↔ True:=iff_true_intro hgo
     go_wp2_with (first
      | (go_at_call 63;(with_reducible refine cg6 (spec_l20Entry.D 0 (by omega) w _ g bs pp HI.out B.out HC.out (by omega) (by omega)) fun ea901 eb901 ec901 ed901 ef901 eg901 p901 hx901 hp901 w901 hk B HI2=>?_);replace Rp5:=rkr Rp5 HI (by decide) hk;replace KK:=kkr KK hk;replace HI:=HI2;clear hk;skip)
      | ((with_reducible refine gate_dst (N:=69) rfl ?_);refine lt k44 44 ?hg (N:=69) ?hd ([⟨ea901,eb901,ec901,ed901,ef901,eg901⟩] : List S44) [.int .i64 (ea901),.int .i64 (eb901),.int .i64 (ec901),.string ed901,.int .i64 (ef901),.int .i64 (eg901)] ?hr (Reps.c6 (k44_mkM _ _ _ ⟨ea901,eb901,ec901,ed901,ef901,eg901⟩) (Reps.none _ _)) (by simp) B ?_;(case hd | hg=>rfl);(case hr=>go_simp;first | done | rfl);intro z69 hz69 AL69 kL69 w902 hb B RL69 QL69;have Dp5_L69:=fr QL69 Rp5;have MRL69:=mrf QL69 KK;replace Rp5:=rn Rp5 hb;replace HI:=hib HI hb;replace KK:=kkb KK hb;clear hb QL69)
      | ((with_reducible refine gate_builtin (b:=.append) (xs:=#[.tmp 66,.tmp 69]) rfl ?_);at_builtin;refine apx k44 44 rfl (.tmp 66) (.tmp 69) 61 (.agg #[.int .i64 (0),.int .i64 (0),.int .i64 (0),.string (⟨#[]⟩ : ByteArray),.int .i64 (0),.int .i64 (0)]) 56 rfl Try.underlying61 info44 rfl (by decide) (by omega) rfl rfl Rp5 (rc RL69) (fun x cs h=>by rw [k44_open h];exact k44_mkM _ _ _ x) (by rw [← hz69];simp only [List.length_cons,List.length_nil];omega) B ?_;intro z70 hz70 AL70 kL70 w903 hg B RL70 hat;replace HI:=hig HI Rp5 (by decide) hg;have MRL70:=mra hat MRp5 KK;replace KK:=kkg KK MRp5 hg;clear hg hat))
     go_roundg d
     case measure=>omega
     case rel=>exact ⟨z70,_,by rw [← hz70,← hz69];simp only [List.length_append,List.length_cons,List.length_nil];omega,by rw [← hz70,← hz69];simp only [List.length_append,List.length_cons,List.length_nil];omega,by rw [← hz70,← hz69];simp only [List.length_append,List.length_cons,List.length_nil];omega,HI,KK,B,RL70,MRL70⟩
    ·have c1 : decide ((xs.length : Int)≤24)=false:=decide_eq_false (by omega)
     go_wp2
     go_ret
     exact ⟨_,_,_,rfl,by omega,Rp5.out,MRp5.out,⟨by omega,by omega⟩,HI.out,B.out,KK.out⟩

def spec_DrawReplay.T3 : Bool × List (List Nat × List Nat):=(true,[([],[]),([],[]),([1],[1]),([0,2,0],[0]),([2,3,0,1,2,3],[2])])
def spec_DrawReplay.B3 : List Nat:=[0,0,2,7,15]
theorem spec_DrawReplay.tab3 : rtab .any (opsOf Try.f31 3)=spec_DrawReplay.T3:=by kernel_rfl
theorem spec_DrawReplay.bits3 : waitsOk spec_DrawReplay.T3.2 spec_DrawReplay.B3=true:=by kernel_rfl
theorem spec_DrawReplay.D (A0 : Option Addr) (c0 : Nat) (l : List Int) (w : World) (hr0 : Kd.C (Kd.int .u8) w A0 l.length l) (hc0 : l.length≤c0) (hs : ∀ x ∈ l,(Lit.int .u8 x).wf=true) : Calls Try.prog 31 #[.slice A0 l.length c0] w fun e w'=>∃ a b v0 v1 t c v2 xs ys zs,e=.returned (.tuple #[.agg #[.string a,.string b,v0,v1,.bool t,.string c],v2])∧(xs.length≤300∧ys.length≤300∧zs.length≤300)∧Kd.R k105 105 w' w.heap.size (fun _=>True) v0 xs∧Kd.R k76 76 w' w.heap.size (fun _=>True) v1 ys∧Kd.R k44 44 w' w.heap.size (fun _=>True) v2 zs∧Below w.heap.size w w':=by
 obtain ⟨bs,hc,ho⟩:=Dw.spec_open l hs
 have B:=Aside0.mk (Below.refl w.heap.size w)
 have HR0:=Aside0.mk hr0
 have HC0:=Aside0.mk hc0
 have HC:=Aside0.mk hc
 have HO:=Aside0.mk ho
 clear hr0 hc0 hs hc ho
 have hu:=Try.underlying38
 go_enter Try.func31,Try.ntmps31
 go_wp2_with (first
  | ((with_reducible refine gate_dst (N:=2) rfl ?_);refine bxq 2 #[.string (⟨#[]⟩ : ByteArray),.string (⟨#[]⟩ : ByteArray),.slice none 0 0,.slice none 0 0,.bool false,.string (⟨#[]⟩ : ByteArray)] 38 B fun g2 w1 hb B F2 L2 E2=>?_;clear hb E2)
  | (go_at_call 61;(with_reducible refine copen (spec_l20Open.calls _ _ l bs 0 w _ B.out HR0.out HC0.out HO.out) fun g w2 hb B HI=>?_);replace F2:=bn F2 hb;clear hb)
  | (go_at_call 62;(with_reducible refine cgs (spec_l20State.D 14 (by omega) w _ g bs 0 HI.out B.out HC.out (by omega) (by omega)) fun a3 b3 t3 c3 zP3 zS3 AP3 kP3 AS3 kS3 p3 hx3 hp3 w3 hk B HI2 RP3 QP3 RS3 QS3=>?_);have DP3_S3:=Aside0.mk (dty RP3 RS3 (by decide));replace F2:=bkr F2 HI (by decide) hk;replace HI:=HI2;clear hk QP3 QS3;skip)
  | ((with_reducible refine gate_dst (N:=5) rfl ?_);refine bxq 5 #[.string (⟨#[]⟩ : ByteArray),.string (⟨#[]⟩ : ByteArray),.slice none 0 0,.slice none 0 0,.bool false,.string (⟨#[]⟩ : ByteArray)] 38 B fun g5 w4 hb B F5 L5 E5=>?_;have N2_5:=ne1 E5 F2;replace F2:=bn F2 hb;replace RP3:=rn RP3 hb;replace RS3:=rn RS3 hb;replace HI:=hib HI hb;obtain ⟨c5_0,c5_1,c5_2,c5_3,c5_4,c5_5⟩:=cs6 F5;clear hb E5)
  | ((with_reducible refine gate_store (t:=38) (p:=5) rfl ?_);obtain ⟨y0,y1,y2,y3,y4,y5,z0,z1,z2,z3,z4,z5⟩:=cz6 F5;refine sxq 38 38 5 0 [.string a3,.string b3,.slice AP3 zP3.length kP3,.slice AS3 zS3.length kS3,.bool t3,.string c3] [.string a3,.string b3,.slice AP3 zP3.length kP3,.slice AS3 zS3.length kS3,.bool t3,.string c3] B F5 L5 fun w5 hk B G=>?_;replace F2:=bk F2 hk N2_5.out;replace RP3:=rk RP3 F5 (by decide) hk;replace RS3:=rk RS3 F5 (by decide) hk;replace HI:=his HI F5 (by decide) hk;replace F5:=G;clear c5_0 c5_1 c5_2 c5_3 c5_4 c5_5;obtain ⟨c5_0,c5_1,c5_2,c5_3,c5_4,c5_5⟩:=cs6 F5;clear hk y0 z0 y1 z1 y2 z2 y3 z3 y4 z4 y5 z5))
 all_goals (
  refine rg (n:=5) (S:=fun W=>W.heap[g5]?=some (.cells #[.string a3,.string b3,.slice AP3 zP3.length kP3,.slice AS3 zS3.length kS3,.bool t3,.string c3] 38 (0,0))) (ds:=[]) #[false,false,false,false,false] (by kernel_rfl) rfl rfl F5.out id B (fun w6 hb B hHeld=>?_)
  refine with_tabW spec_DrawReplay.tab3 spec_DrawReplay.bits3 (fun HT_ HW_=>?_)
  replace F2:=bn F2 hb
  replace F5:=bn F5 hb
  replace RP3:=rn RP3 hb
  replace RS3:=rn RS3 hb
  replace HI:=hib HI hb
  clear hb
  refine tvq 0 (some 10) (bits 5 1) HT_ HW_ rfl hHeld (by intro w' hS;have s0:=hS;obtain ⟨q0,q1,q2,q3,q4,q5⟩:=cs6 (Aside0.mk s0);go_simp;with_reducible rfl) ?_
  refine pvq 1 (some 11) (bits 5 3) HT_ ?_
  refine nmq ?_
  refine one_ (i:=2) (N:=some 12) (bits 5 7) rfl rfl (one_of HT_.out (by kernel_rfl)) (by decide) (fun K hK=>?_)
  refine gsq Try.func78 #[.pointer (some ⟨g,0,none⟩),.int .i64 (14)] ?_
  (with_reducible refine cgr (spec_l20Log.D 14 (by omega) w _ g bs p3 HI.out B.out HC.out (by omega) (by omega)) fun zD7 AD7 kD7 p7 hx7 hp7 w7 hk B HI2 RD7 QD7=>?_)
  have DP3_D7:=fr QD7 RP3
  have DS3_D7:=fr QD7 RS3
  replace F2:=bkr F2 HI (by decide) hk
  replace F5:=bkr F5 HI (by decide) hk
  replace RP3:=rkr RP3 HI (by decide) hk
  replace RS3:=rkr RS3 HI (by decide) hk
  replace HI:=HI2
  clear hk QD7
  refine ⟨_,rfl,?_⟩
  refine hK.out _ _ F5.out (fun hHeld=>?_)
  clear hK K
  refine npq (some 12) ?_
  refine one_ (i:=3) (N:=none) (bits 5 15) rfl rfl (one_of HT_.out (by kernel_rfl)) (by decide) (fun K hK=>?_)
  obtain ⟨y0,y1,y2,y3,y4,y5,z0,z1,z2,z3,z4,z5⟩:=cz6 F2
  refine sxs (g:=g2) 0 [.string a3,.string b3,.slice AP3 zP3.length kP3,.slice AS3 zS3.length kS3,.bool t3,.string c3] [.string a3,.string b3,.slice AP3 zP3.length kP3,.slice AS3 zS3.length kS3,.bool t3,.string c3] (by rfl) rfl ?hr B F2 L2 rfl (Nat.le_of_ble_eq_true rfl) (fun w8 hk B G=>?_)
  (case hr=>go_simp;first | done | rfl)
  replace F5:=bk F5 hk N2_5.out.symm
  replace RP3:=rk RP3 F2 (by decide) hk
  replace RS3:=rk RS3 F2 (by decide) hk
  replace RD7:=rk RD7 F2 (by decide) hk
  replace HI:=his HI F2 (by decide) hk
  replace F2:=G
  clear hk y0 z0 y1 z1 y2 z2 y3 z3 y4 z4 y5 z5
  refine hK.out _ _ F5.out (fun hHeld=>?_)
  clear hK K
  refine pvq 4 (some 3) (bits 5 31) HT_ ?_
  refine nmq ?_
  refine done_ (done_of HT_.out (by kernel_rfl)) ?_)
 all_goals try go_wp2
 all_goals (refine bodyPost_ret (results_list (rs:=[.cell 2 38,.tmp 3]) rfl (by simp) (.cell g2 38 _ (0,0) _ rfl F2.out hu rfl (by kernel_rfl) (.tmp .nil))) rfl ?_)
 all_goals exact ⟨_,_,_,_,_,_,_,_,_,_,rfl,⟨hx3.1,hx3.2,hx7⟩,RP3.out,RS3.out,RD7.out,B.out⟩

/-! What the draws for entries and logs give. -/
section
variable {P : Program} {F : FuncId} {args : Array Value} {w W : World} {Q : Ending→World→Prop} {α β γ : Type} {d : Kd α} {d' : Kd β} {d2 : Kd γ} {e e' e2 : Nat}
theorem cdrp {f : ByteArray→ByteArray→Value→Value→Bool→ByteArray→Value→Value} {q : List α→List β→List γ→Prop} (c : Calls P F args W fun r w'=>∃ a b v0 v1 t c v2 xs ys zs,r=.returned (f a b v0 v1 t c v2)∧q xs ys zs∧Kd.R d e w' W.heap.size (fun _=>True) v0 xs∧Kd.R d' e' w' W.heap.size (fun _=>True) v1 ys∧Kd.R d2 e2 w' W.heap.size (fun _=>True) v2 zs∧Below W.heap.size W w') (B : Aside0 (Below w.heap.size w W))
    (h : ∀ a b t c xs ys zs A kk A' kk' A2 kk2 W',q xs ys zs→Below W.heap.size W W'→Aside0 (Below w.heap.size w W')→Aside0 (Ow d e W' w.heap.size (.slice A xs.length kk) xs)→Aside0 (Ow d' e' W' w.heap.size (.slice A' ys.length kk') ys)→Aside0 (Ow d2 e2 W' w.heap.size (.slice A2 zs.length kk2) zs)→Q (.returned (f a b (.slice A xs.length kk) (.slice A' ys.length kk') t c (.slice A2 zs.length kk2))) W') : Calls P F args W Q :=
  c.mono (by
    rintro r W' ⟨a,b,v0,v1,t,c,v2,xs,ys,zs,rfl,hq,ho,ho',ho2,hb⟩
    obtain ⟨A,kk,rfl⟩:=Kd.R_slice ho
    obtain ⟨A',kk',rfl⟩:=Kd.R_slice ho'
    obtain ⟨A2,kk2,rfl⟩:=Kd.R_slice ho2
    exact h a b t c xs ys zs A kk A' kk' A2 kk2 W' hq hb ⟨below_step B.out hb⟩ ⟨Kd.R_lower ho (below_size B.out)⟩ ⟨Kd.R_lower ho' (below_size B.out)⟩ ⟨Kd.R_lower ho2 (below_size B.out)⟩)
end

theorem laws_noState.E (AP : Option Addr) (cP : Nat) (ps : List S105) (AS : Option Addr) (cS : Nat) (ss : List S76) (hp : ps=[]) (hs : ss=[]) (w : World) (hrp : Kd.C k105 w AP ps.length ps) (hrs : Kd.C k76 w AS ss.length ss) :
  Calls Try.prog 20 #[.agg #[.string (⟨#[]⟩ : ByteArray),.string (⟨#[]⟩ : ByteArray),.slice AP ps.length cP,.slice AS ss.length cS,.bool false,.string (⟨#[]⟩ : ByteArray)]] w fun e w'=>e=.returned (.bool true)∧Below w.heap.size w w':=by
 subst hp hs
 exact laws_noState.M AP cP AS cS w hrp hrs

theorem sameI_loop (xs : List Int) (hn : xs.length≤2097152) (d : Nat) : ∀ (j : Nat),j + d=xs.length→∀ k,d + 1≤k→laws_sameInts.l0 k xs xs (j : Int)=some true:=by
 induction d with
 | zero =>
  intro j hj k hk
  obtain ⟨k,rfl⟩ : ∃ i,k=i + 1:=⟨k - 1,by omega⟩
  simp only [laws_sameInts.l0]
  rw [if_neg (by omega)]
 | succ d ih =>
  intro j hj k hk
  obtain ⟨k,rfl⟩ : ∃ i,k=i + 1:=⟨k - 1,by omega⟩
  have e:=ih (j + 1) (by omega) k (by omega)
  simp only [laws_sameInts.l0]
  rw [if_pos (by omega),if_pos (by omega),if_pos (by omega),if_pos trivial,w64 (by omega) (by omega)]
  simpa using e
theorem laws_sameInts.M (A0 : Option Addr) (c0 : Nat) (A1 : Option Addr) (c1 : Nat) (l m : List Int) (he : l=m) (W : World) (h0 : Kd.C (Kd.int .i64) W A0 l.length l) (hc0 : l.length≤c0) (h1 : Kd.C (Kd.int .i64) W A1 m.length m) (hc1 : m.length≤c1) (hn : m.length≤2097152) :
  Calls Try.prog 32 #[.slice A0 l.length c0,.slice A1 m.length c1] W fun e w'=>e=.returned (.bool true)∧Below W.heap.size W w':=by
 subst he
 refine (laws_sameInts.calls (l.length + 21) A0 c0 l A1 c1 l true W h0 hc0 h1 hc1 ?_).mono (fun _ _ h=>⟨h.1,h.2.below⟩)
 unfold laws_sameInts.f
 rw [if_pos rfl]
 simpa using sameI_loop l hn l.length 0 (by omega) (l.length + 21) (by omega)
theorem cuts_en (A : Option Addr) (k : Nat) (us : List S44) (m : Nat) (t1 t2 : List S44) (hm : m≤us.length) (hn : us.length≤30) (hk : us.length≤k) (ht1 : us.take m=t1) (ht2 : us.drop m=t2) :
  ∃ A2,(∀ W : World,(Instr.slice 61 (.slice A us.length k) none (some (.int .i64 ((m : Nat) : Int))) none).run Try.prog W=.ok (.slice A t1.length k) W)∧(∀ W : World,(Instr.slice 61 (.slice A us.length k) (some (.int .i64 ((m : Nat) : Int))) none none).run Try.prog W=.ok (.slice A2 t2.length (k - m)) W) ∧
   Aside0 (∀ {W : World},Kd.C k44 W A us.length us→Kd.C k44 W A t1.length t1)∧Aside0 (∀ {W : World},Kd.C k44 W A us.length us→Kd.C k44 W A2 t2.length t2)∧t1.length≤k∧t2.length≤k - m:=by
 have hl1 : t1.length=m:=by rw [← ht1,List.length_take];omega
 have hl2 : t2.length=us.length - m:=by rw [← ht2,List.length_drop]
 obtain ⟨i0,hif,_,hsz0,_⟩:=info_parts info44
 have hcut1:=cut_to (P:=Try.prog) 61 44 .i64 Try.underlying61 hif A us.length k ((m : Nat) : Int) (by omega) (by omega) hk
 rw [show (((m : Nat) : Int)).toNat=t1.length by omega] at hcut1
 have hcut2:=cut_from (P:=Try.prog) 61 44 .i64 Try.underlying61 hif 6 hsz0 A us.length k ((m : Nat) : Int) (by omega) (by omega)
 rw [show us.length - (((m : Nat) : Int)).toNat=t2.length by omega,Int.toNat_natCast] at hcut2
 refine ⟨_,hcut1,hcut2,⟨fun {W} h=>?_⟩,⟨fun {W} h=>?_⟩,by omega,by omega⟩
 ·have:=Kd.C_take h (m:=m) (by omega)
  rw [ht1] at this
  exact this
 ·have:=Kd.C_drop h (m:=m) (c:=k) (by omega) hk
  rw [show k44.sz=6 from rfl,ht2] at this
  exact this
theorem add0 (ad : Addr) : ad.add 0=ad:=by rw [Addr.add,if_pos rfl]
def laws_FnReplay.T11 : Bool × List (List Nat × List Nat):=(true,[([],[]),([],[]),([],[]),([1,2],[1,2]),([0,3],[0,3]),([4],[4]),([5],[5]),([5],[5]),([],[]),([8,6,4,0,1,2,3,4,5,6,8],[6,8]),([7,9,0,1,2,3,4,5,6,7,8,9],[7])])
def laws_FnReplay.B11 : List Nat:=[0,0,0,6,15,31,63,63,0,383,1023]
theorem laws_FnReplay.tab11 : rtab .any (opsOf Try.f6 11)=laws_FnReplay.T11:=by kernel_rfl
theorem laws_FnReplay.bits11 : waitsOk laws_FnReplay.T11.2 laws_FnReplay.B11=true:=by kernel_rfl
def laws_FnReplay.T12 : Bool × List (List Nat × List Nat):=(true,[([],[]),([],[]),([],[]),([1,2],[1,2]),([0,3],[0,3]),([4],[4]),([5],[5]),([5],[5]),([],[]),([8,6,4,0,1,2,3,4,5,6,8],[6,8]),([7,9,0,1,2,3,4,5,6,7,8,9],[7])])
def laws_FnReplay.B12 : List Nat:=[0,0,0,6,15,31,63,63,0,383,1023]
theorem laws_FnReplay.tab12 : rtab .any (opsOf Try.f6 12)=laws_FnReplay.T12:=by kernel_rfl
theorem laws_FnReplay.bits12 : waitsOk laws_FnReplay.T12.2 laws_FnReplay.B12=true:=by kernel_rfl
def laws_FnReplay.T19 : Bool × List (List Nat × List Nat):=(true,[([],[]),([],[]),([0,1],[0,1]),([],[]),([3],[3]),([4],[4]),([5],[5]),([2,6,2],[2,6]),([7,7,0,1,2,3,4,5,6,7],[7])])
def laws_FnReplay.B19 : List Nat:=[0,0,3,0,8,24,56,127,255]
theorem laws_FnReplay.tab19 : rtab .any (opsOf Try.f6 19)=laws_FnReplay.T19:=by kernel_rfl
theorem laws_FnReplay.bits19 : waitsOk laws_FnReplay.T19.2 laws_FnReplay.B19=true:=by kernel_rfl
theorem laws_FnReplay.M (A0 : Option Addr) (c0 : Nat) (l : List Int) (w : World) (hr0 : Kd.C (Kd.int .u8) w A0 l.length l) (hc0 : l.length≤c0) (hs : ∀ x ∈ l,(Lit.int .u8 x).wf=true) : Calls Try.prog 6 #[.slice A0 l.length c0] w fun e w'=>e=.returned (.bool true)∧Below w.heap.size w w':=by
 have B:=Aside0.mk (Below.refl w.heap.size w)
 have HR0:=Aside0.mk hr0
 have HC0:=Aside0.mk hc0
 clear hr0 hc0
 have hu:=Try.underlying38
 have HSL:=Aside0.mk hs
 clear hs
 go_enter Try.func6,Try.ntmps6
 go_wp2_with (first
  | (go_at_call 31;(with_reducible refine cdrp (spec_DrawReplay.D A0 c0 l w HR0.out HC0.out HSL.out) B fun a b t c ps ss es AP kP AS kS AE kE w0 hq hb B RP RS RE=>?_);clear hb;refine Stop.out ?_))
 ·go_ret
  exact ⟨rfl,B.out⟩
 refine ⟨?_⟩
 obtain ⟨hl1,hl2,hl3⟩:=hq
 have hb1 : ps.length≤2097152:=by omega
 have hb2 : ss.length≤2097152:=by omega
 clear hl1 hl2
 cases hj : stB a b ps ss t c with
 | false =>
  obtain ⟨zp,hzp⟩ : ∃ z : List S105,z=[]:=⟨[],rfl⟩
  obtain ⟨zs,hzs⟩ : ∃ z : List S76,z=[]:=⟨[],rfl⟩
  obtain ⟨zr,hzr⟩ : ∃ z : List Int,z=[]:=⟨[],rfl⟩
  have HM:=Aside0.mk (show rpM ⟨a,b,ps,ss,t,c⟩ es=(⟨⟨#[]⟩,⟨#[]⟩,zp,zs,false,⟨#[]⟩⟩,zr) by rw [hzp,hzs,hzr];exact rpM_bad (by rw [show (SM.mk a b ps ss t c).ok=false from hj];simp))
  have hb5 : zp.length≤2097152:=by rw [hzp];exact Nat.zero_le _
  have hb6 : zs.length≤2097152:=by rw [hzs];exact Nat.zero_le _
  have hb7 : zr.length≤2097152:=by rw [hzr];exact Nat.zero_le _
  have e4 : ((zr.length : Int) == 0)=true:=by rw [hzr];rfl
  have HZP:=Aside0.mk hzp
  have HZS:=Aside0.mk hzs
  clear hzp hzs hzr
  clear hl3
  go_wp2_with (first
   | ((with_reducible refine gate_dst (N:=3) rfl ?_);refine bxq 3 #[.string (⟨#[]⟩ : ByteArray),.string (⟨#[]⟩ : ByteArray),.slice none 0 0,.slice none 0 0,.bool false,.string (⟨#[]⟩ : ByteArray)] 38 B fun g3 w1 hb B F3 L3 E3=>?_;replace RP:=rn RP hb;replace RS:=rn RS hb;replace RE:=rn RE hb;obtain ⟨c3_0,c3_1,c3_2,c3_3,c3_4,c3_5⟩:=cs6 F3;clear hb E3)
   | ((with_reducible refine gate_store (t:=38) (p:=3) rfl ?_);obtain ⟨y0,y1,y2,y3,y4,y5,z0,z1,z2,z3,z4,z5⟩:=cz6 F3;refine sxq 38 38 3 0 [.string a,.string b,.slice AP ps.length kP,.slice AS ss.length kS,.bool t,.string c] [.string a,.string b,.slice AP ps.length kP,.slice AS ss.length kS,.bool t,.string c] B F3 L3 fun w2 hk B G=>?_;replace RP:=rk RP F3 (by decide) hk;replace RS:=rk RS F3 (by decide) hk;replace RE:=rk RE F3 (by decide) hk;replace F3:=G;clear c3_0 c3_1 c3_2 c3_3 c3_4 c3_5;obtain ⟨c3_0,c3_1,c3_2,c3_3,c3_4,c3_5⟩:=cs6 F3;clear hk y0 z0 y1 z1 y2 z2 y3 z3 y4 z4 y5 z5)
   | (go_at_call 25;with_reducible refine c3r (impl_Replay.Mr a b _ _ ps _ _ ss t c _ _ es (⟨#[]⟩ : ByteArray) (⟨#[]⟩ : ByteArray) zp zs false (⟨#[]⟩ : ByteArray) zr HM.out _ (rc RP) (rc RS) (rl RP) (rl RS) (rc RE)) B fun AP3 kP3 AS3 kS3 AN3 kN3 w3 hb B RP3 QP3 RS3 QS3 RN3 QN3=>?_;have DP_P3:=fr QP3 RP;have DS_P3:=fr QP3 RS;have DE_P3:=fr QP3 RE;have DP_S3:=fr QS3 RP;have DS_S3:=fr QS3 RS;have DE_S3:=fr QS3 RE;have DP_N3:=fr QN3 RP;have DS_N3:=fr QN3 RS;have DE_N3:=fr QN3 RE;replace F3:=bn F3 hb;replace RP:=rn RP hb;replace RS:=rn RS hb;replace RE:=rn RE hb;clear QP3 QS3 QN3;clear c3_0 c3_1 c3_2 c3_3 c3_4 c3_5;obtain ⟨c3_0,c3_1,c3_2,c3_3,c3_4,c3_5⟩:=cs6 F3;clear hb)
   | ((with_reducible refine gate_dst (N:=5) rfl ?_);refine bxq 5 #[.string (⟨#[]⟩ : ByteArray),.string (⟨#[]⟩ : ByteArray),.slice none 0 0,.slice none 0 0,.bool false,.string (⟨#[]⟩ : ByteArray)] 38 B fun g5 w4 hb B F5 L5 E5=>?_;have N3_5:=ne1 E5 F3;replace F3:=bn F3 hb;replace RP:=rn RP hb;replace RS:=rn RS hb;replace RE:=rn RE hb;replace RP3:=rn RP3 hb;replace RS3:=rn RS3 hb;replace RN3:=rn RN3 hb;clear c3_0 c3_1 c3_2 c3_3 c3_4 c3_5;obtain ⟨c3_0,c3_1,c3_2,c3_3,c3_4,c3_5⟩:=cs6 F3;obtain ⟨c5_0,c5_1,c5_2,c5_3,c5_4,c5_5⟩:=cs6 F5;clear hb E5)
   | ((with_reducible refine gate_store (t:=38) (p:=5) rfl ?_);obtain ⟨y0,y1,y2,y3,y4,y5,z0,z1,z2,z3,z4,z5⟩:=cz6 F5;refine sxq 38 38 5 0 [.string (⟨#[]⟩ : ByteArray),.string (⟨#[]⟩ : ByteArray),.slice AP3 zp.length kP3,.slice AS3 zs.length kS3,.bool false,.string (⟨#[]⟩ : ByteArray)] [.string (⟨#[]⟩ : ByteArray),.string (⟨#[]⟩ : ByteArray),.slice AP3 zp.length kP3,.slice AS3 zs.length kS3,.bool false,.string (⟨#[]⟩ : ByteArray)] B F5 L5 fun w5 hk B G=>?_;replace F3:=bk F3 hk N3_5.out;replace RP:=rk RP F5 (by decide) hk;replace RS:=rk RS F5 (by decide) hk;replace RE:=rk RE F5 (by decide) hk;replace RP3:=rk RP3 F5 (by decide) hk;replace RS3:=rk RS3 F5 (by decide) hk;replace RN3:=rk RN3 F5 (by decide) hk;replace F5:=G;clear c3_0 c3_1 c3_2 c3_3 c3_4 c3_5;obtain ⟨c3_0,c3_1,c3_2,c3_3,c3_4,c3_5⟩:=cs6 F3;clear c5_0 c5_1 c5_2 c5_3 c5_4 c5_5;obtain ⟨c5_0,c5_1,c5_2,c5_3,c5_4,c5_5⟩:=cs6 F5;clear hk y0 z0 y1 z1 y2 z2 y3 z3 y4 z4 y5 z5)
   | (go_at_call 23;with_reducible refine c3r (spec_Replay.Mr a b _ _ ps _ _ ss t c _ _ es (⟨#[]⟩ : ByteArray) (⟨#[]⟩ : ByteArray) zp zs false (⟨#[]⟩ : ByteArray) zr HM.out _ (rc RP) (rc RS) (rl RP) (rl RS) (rc RE)) B fun AP6 kP6 AS6 kS6 AN6 kN6 w6 hb B RP6 QP6 RS6 QS6 RN6 QN6=>?_;have DP_P6:=fr QP6 RP;have DS_P6:=fr QP6 RS;have DE_P6:=fr QP6 RE;have DP3_P6:=fr QP6 RP3;have DS3_P6:=fr QP6 RS3;have DN3_P6:=fr QP6 RN3;have DP_S6:=fr QS6 RP;have DS_S6:=fr QS6 RS;have DE_S6:=fr QS6 RE;have DP3_S6:=fr QS6 RP3;have DS3_S6:=fr QS6 RS3;have DN3_S6:=fr QS6 RN3;have DP_N6:=fr QN6 RP;have DS_N6:=fr QN6 RS;have DE_N6:=fr QN6 RE;have DP3_N6:=fr QN6 RP3;have DS3_N6:=fr QN6 RS3;have DN3_N6:=fr QN6 RN3;replace F3:=bn F3 hb;replace F5:=bn F5 hb;replace RP:=rn RP hb;replace RS:=rn RS hb;replace RE:=rn RE hb;replace RP3:=rn RP3 hb;replace RS3:=rn RS3 hb;replace RN3:=rn RN3 hb;clear QP6 QS6 QN6;clear c3_0 c3_1 c3_2 c3_3 c3_4 c3_5;obtain ⟨c3_0,c3_1,c3_2,c3_3,c3_4,c3_5⟩:=cs6 F3;clear c5_0 c5_1 c5_2 c5_3 c5_4 c5_5;obtain ⟨c5_0,c5_1,c5_2,c5_3,c5_4,c5_5⟩:=cs6 F5;clear hb)
   | ((with_reducible refine gate_dst (N:=7) rfl ?_);refine bxq 7 #[.string (⟨#[]⟩ : ByteArray),.string (⟨#[]⟩ : ByteArray),.slice none 0 0,.slice none 0 0,.bool false,.string (⟨#[]⟩ : ByteArray)] 38 B fun g7 w7 hb B F7 L7 E7=>?_;have N3_7:=ne1 E7 F3;have N5_7:=ne1 E7 F5;replace F3:=bn F3 hb;replace F5:=bn F5 hb;replace RP:=rn RP hb;replace RS:=rn RS hb;replace RE:=rn RE hb;replace RP3:=rn RP3 hb;replace RS3:=rn RS3 hb;replace RN3:=rn RN3 hb;replace RP6:=rn RP6 hb;replace RS6:=rn RS6 hb;replace RN6:=rn RN6 hb;clear c3_0 c3_1 c3_2 c3_3 c3_4 c3_5;obtain ⟨c3_0,c3_1,c3_2,c3_3,c3_4,c3_5⟩:=cs6 F3;clear c5_0 c5_1 c5_2 c5_3 c5_4 c5_5;obtain ⟨c5_0,c5_1,c5_2,c5_3,c5_4,c5_5⟩:=cs6 F5;obtain ⟨c7_0,c7_1,c7_2,c7_3,c7_4,c7_5⟩:=cs6 F7;clear hb E7)
   | ((with_reducible refine gate_store (t:=38) (p:=7) rfl ?_);obtain ⟨y0,y1,y2,y3,y4,y5,z0,z1,z2,z3,z4,z5⟩:=cz6 F7;refine sxq 38 38 7 0 [.string (⟨#[]⟩ : ByteArray),.string (⟨#[]⟩ : ByteArray),.slice AP6 zp.length kP6,.slice AS6 zs.length kS6,.bool false,.string (⟨#[]⟩ : ByteArray)] [.string (⟨#[]⟩ : ByteArray),.string (⟨#[]⟩ : ByteArray),.slice AP6 zp.length kP6,.slice AS6 zs.length kS6,.bool false,.string (⟨#[]⟩ : ByteArray)] B F7 L7 fun w8 hk B G=>?_;replace F3:=bk F3 hk N3_7.out;replace F5:=bk F5 hk N5_7.out;replace RP:=rk RP F7 (by decide) hk;replace RS:=rk RS F7 (by decide) hk;replace RE:=rk RE F7 (by decide) hk;replace RP3:=rk RP3 F7 (by decide) hk;replace RS3:=rk RS3 F7 (by decide) hk;replace RN3:=rk RN3 F7 (by decide) hk;replace RP6:=rk RP6 F7 (by decide) hk;replace RS6:=rk RS6 F7 (by decide) hk;replace RN6:=rk RN6 F7 (by decide) hk;replace F7:=G;clear c3_0 c3_1 c3_2 c3_3 c3_4 c3_5;obtain ⟨c3_0,c3_1,c3_2,c3_3,c3_4,c3_5⟩:=cs6 F3;clear c5_0 c5_1 c5_2 c5_3 c5_4 c5_5;obtain ⟨c5_0,c5_1,c5_2,c5_3,c5_4,c5_5⟩:=cs6 F5;clear c7_0 c7_1 c7_2 c7_3 c7_4 c7_5;obtain ⟨c7_0,c7_1,c7_2,c7_3,c7_4,c7_5⟩:=cs6 F7;clear hk y0 z0 y1 z1 y2 z2 y3 z3 y4 z4 y5 z5)
   | (go_at_call 17;with_reducible refine cl (laws_sameState.M (⟨#[]⟩ : ByteArray) (⟨#[]⟩ : ByteArray) _ _ _ _ zp _ _ _ _ zs false (⟨#[]⟩ : ByteArray) _ (rc RP3) (rc RP6) (rc RS3) (rc RS6) (rl RP3) (rl RP6) (rl RS3) (rl RS6) (by assumption) (by assumption)) B fun w9 hb B=>?_;replace F3:=bn F3 hb;replace F5:=bn F5 hb;replace RP:=rn RP hb;replace RS:=rn RS hb;replace RE:=rn RE hb;replace RP3:=rn RP3 hb;replace RS3:=rn RS3 hb;replace RN3:=rn RN3 hb;replace RN6:=rn RN6 hb;clear c3_0 c3_1 c3_2 c3_3 c3_4 c3_5;obtain ⟨c3_0,c3_1,c3_2,c3_3,c3_4,c3_5⟩:=cs6 F3;clear c5_0 c5_1 c5_2 c5_3 c5_4 c5_5;obtain ⟨c5_0,c5_1,c5_2,c5_3,c5_4,c5_5⟩:=cs6 F5;clear hb)
   | (go_at_call 32;with_reducible refine cl (laws_sameInts.M _ _ _ _ zr zr rfl _ (rc RN3) (rl RN3) (rc RN6) (rl RN6) (by assumption)) B fun w10 hb B=>?_;replace F3:=bn F3 hb;replace F5:=bn F5 hb;replace RP:=rn RP hb;replace RS:=rn RS hb;replace RE:=rn RE hb;replace RP3:=rn RP3 hb;replace RS3:=rn RS3 hb;replace RN3:=rn RN3 hb;clear c3_0 c3_1 c3_2 c3_3 c3_4 c3_5;obtain ⟨c3_0,c3_1,c3_2,c3_3,c3_4,c3_5⟩:=cs6 F3;clear c5_0 c5_1 c5_2 c5_3 c5_4 c5_5;obtain ⟨c5_0,c5_1,c5_2,c5_3,c5_4,c5_5⟩:=cs6 F5;clear hb)
   | (go_at_call 18;with_reducible refine cl (impl_StateValid.M a b _ _ ps _ _ ss t c _ (rc RP) (rc RS)) B fun w11 hb B=>?_;replace F5:=bn F5 hb;replace RE:=rn RE hb;replace RP3:=rn RP3 hb;replace RS3:=rn RS3 hb;replace RN3:=rn RN3 hb;clear c5_0 c5_1 c5_2 c5_3 c5_4 c5_5;obtain ⟨c5_0,c5_1,c5_2,c5_3,c5_4,c5_5⟩:=cs6 F5;clear hb)
   | (go_at_call 20;with_reducible refine cl (laws_noState.E _ _ _ _ _ _ HZP.out HZS.out _ (rc RP3) (rc RS3)) B fun w12 hb B=>?_;replace RN3:=rn RN3 hb;clear hb)
   | (go_at_call 21;with_reducible refine cl (laws_alive.M _) B fun w13 hb B=>?_;clear hb))
  all_goals go_ret
  all_goals exact ⟨by first | rfl | (simp;done) | (simp_all;done),B.out⟩
 | true =>
  cases he : logB es with
  | false =>
   have hn0 : 0 < es.length:=by
    rcases es with _ | ⟨e,l⟩
    ·exact absurd he (by decide)
    ·exact Nat.succ_pos _
   obtain ⟨zp,hzp⟩ : ∃ z : List S105,z=[]:=⟨[],rfl⟩
   obtain ⟨zs,hzs⟩ : ∃ z : List S76,z=[]:=⟨[],rfl⟩
   obtain ⟨zr,hzr⟩ : ∃ z : List Int,z=[]:=⟨[],rfl⟩
   have HM:=Aside0.mk (show rpM ⟨a,b,ps,ss,t,c⟩ es=(⟨⟨#[]⟩,⟨#[]⟩,zp,zs,false,⟨#[]⟩⟩,zr) by rw [hzp,hzs,hzr];exact rpM_bad (by rw [he];simp))
   have hb5 : zp.length≤2097152:=by rw [hzp];exact Nat.zero_le _
   have hb6 : zs.length≤2097152:=by rw [hzs];exact Nat.zero_le _
   have hb7 : zr.length≤2097152:=by rw [hzr];exact Nat.zero_le _
   have e4 : ((zr.length : Int) == 0)=true:=by rw [hzr];rfl
   have e2 : ((zr.length : Int) != (es.length : Int))=true:=bne_iff_ne.mpr (by rw [hzr];show ((0 : Nat) : Int) ≠ _;omega)
   have HZP:=Aside0.mk hzp
   have HZS:=Aside0.mk hzs
   clear hzp hzs hzr
   clear hn0
   go_wp2_with (first
    | ((with_reducible refine gate_dst (N:=3) rfl ?_);refine bxq 3 #[.string (⟨#[]⟩ : ByteArray),.string (⟨#[]⟩ : ByteArray),.slice none 0 0,.slice none 0 0,.bool false,.string (⟨#[]⟩ : ByteArray)] 38 B fun g3 w501 hb B F3 L3 E3=>?_;replace RP:=rn RP hb;replace RS:=rn RS hb;replace RE:=rn RE hb;obtain ⟨c3_0,c3_1,c3_2,c3_3,c3_4,c3_5⟩:=cs6 F3;clear hb E3)
    | ((with_reducible refine gate_store (t:=38) (p:=3) rfl ?_);obtain ⟨y0,y1,y2,y3,y4,y5,z0,z1,z2,z3,z4,z5⟩:=cz6 F3;refine sxq 38 38 3 0 [.string a,.string b,.slice AP ps.length kP,.slice AS ss.length kS,.bool t,.string c] [.string a,.string b,.slice AP ps.length kP,.slice AS ss.length kS,.bool t,.string c] B F3 L3 fun w502 hk B G=>?_;replace RP:=rk RP F3 (by decide) hk;replace RS:=rk RS F3 (by decide) hk;replace RE:=rk RE F3 (by decide) hk;replace F3:=G;clear c3_0 c3_1 c3_2 c3_3 c3_4 c3_5;obtain ⟨c3_0,c3_1,c3_2,c3_3,c3_4,c3_5⟩:=cs6 F3;clear hk y0 z0 y1 z1 y2 z2 y3 z3 y4 z4 y5 z5)
    | (go_at_call 25;with_reducible refine c3r (impl_Replay.Mr a b _ _ ps _ _ ss t c _ _ es (⟨#[]⟩ : ByteArray) (⟨#[]⟩ : ByteArray) zp zs false (⟨#[]⟩ : ByteArray) zr HM.out _ (rc RP) (rc RS) (rl RP) (rl RS) (rc RE)) B fun AP503 kP503 AS503 kS503 AN503 kN503 w503 hb B RP503 QP503 RS503 QS503 RN503 QN503=>?_;have DP_P503:=fr QP503 RP;have DS_P503:=fr QP503 RS;have DE_P503:=fr QP503 RE;have DP_S503:=fr QS503 RP;have DS_S503:=fr QS503 RS;have DE_S503:=fr QS503 RE;have DP_N503:=fr QN503 RP;have DS_N503:=fr QN503 RS;have DE_N503:=fr QN503 RE;replace F3:=bn F3 hb;replace RP:=rn RP hb;replace RS:=rn RS hb;replace RE:=rn RE hb;clear QP503 QS503 QN503;clear c3_0 c3_1 c3_2 c3_3 c3_4 c3_5;obtain ⟨c3_0,c3_1,c3_2,c3_3,c3_4,c3_5⟩:=cs6 F3;clear hb)
    | ((with_reducible refine gate_dst (N:=5) rfl ?_);refine bxq 5 #[.string (⟨#[]⟩ : ByteArray),.string (⟨#[]⟩ : ByteArray),.slice none 0 0,.slice none 0 0,.bool false,.string (⟨#[]⟩ : ByteArray)] 38 B fun g5 w504 hb B F5 L5 E5=>?_;have N3_5:=ne1 E5 F3;replace F3:=bn F3 hb;replace RP:=rn RP hb;replace RS:=rn RS hb;replace RE:=rn RE hb;replace RP503:=rn RP503 hb;replace RS503:=rn RS503 hb;replace RN503:=rn RN503 hb;clear c3_0 c3_1 c3_2 c3_3 c3_4 c3_5;obtain ⟨c3_0,c3_1,c3_2,c3_3,c3_4,c3_5⟩:=cs6 F3;obtain ⟨c5_0,c5_1,c5_2,c5_3,c5_4,c5_5⟩:=cs6 F5;clear hb E5)
    | ((with_reducible refine gate_store (t:=38) (p:=5) rfl ?_);obtain ⟨y0,y1,y2,y3,y4,y5,z0,z1,z2,z3,z4,z5⟩:=cz6 F5;refine sxq 38 38 5 0 [.string (⟨#[]⟩ : ByteArray),.string (⟨#[]⟩ : ByteArray),.slice AP503 zp.length kP503,.slice AS503 zs.length kS503,.bool false,.string (⟨#[]⟩ : ByteArray)] [.string (⟨#[]⟩ : ByteArray),.string (⟨#[]⟩ : ByteArray),.slice AP503 zp.length kP503,.slice AS503 zs.length kS503,.bool false,.string (⟨#[]⟩ : ByteArray)] B F5 L5 fun w505 hk B G=>?_;replace F3:=bk F3 hk N3_5.out;replace RP:=rk RP F5 (by decide) hk;replace RS:=rk RS F5 (by decide) hk;replace RE:=rk RE F5 (by decide) hk;replace RP503:=rk RP503 F5 (by decide) hk;replace RS503:=rk RS503 F5 (by decide) hk;replace RN503:=rk RN503 F5 (by decide) hk;replace F5:=G;clear c3_0 c3_1 c3_2 c3_3 c3_4 c3_5;obtain ⟨c3_0,c3_1,c3_2,c3_3,c3_4,c3_5⟩:=cs6 F3;clear c5_0 c5_1 c5_2 c5_3 c5_4 c5_5;obtain ⟨c5_0,c5_1,c5_2,c5_3,c5_4,c5_5⟩:=cs6 F5;clear hk y0 z0 y1 z1 y2 z2 y3 z3 y4 z4 y5 z5)
    | (go_at_call 23;with_reducible refine c3r (spec_Replay.Mr a b _ _ ps _ _ ss t c _ _ es (⟨#[]⟩ : ByteArray) (⟨#[]⟩ : ByteArray) zp zs false (⟨#[]⟩ : ByteArray) zr HM.out _ (rc RP) (rc RS) (rl RP) (rl RS) (rc RE)) B fun AP506 kP506 AS506 kS506 AN506 kN506 w506 hb B RP506 QP506 RS506 QS506 RN506 QN506=>?_;have DP_P506:=fr QP506 RP;have DS_P506:=fr QP506 RS;have DE_P506:=fr QP506 RE;have DP503_P506:=fr QP506 RP503;have DS503_P506:=fr QP506 RS503;have DN503_P506:=fr QP506 RN503;have DP_S506:=fr QS506 RP;have DS_S506:=fr QS506 RS;have DE_S506:=fr QS506 RE;have DP503_S506:=fr QS506 RP503;have DS503_S506:=fr QS506 RS503;have DN503_S506:=fr QS506 RN503;have DP_N506:=fr QN506 RP;have DS_N506:=fr QN506 RS;have DE_N506:=fr QN506 RE;have DP503_N506:=fr QN506 RP503;have DS503_N506:=fr QN506 RS503;have DN503_N506:=fr QN506 RN503;replace F3:=bn F3 hb;replace F5:=bn F5 hb;replace RP:=rn RP hb;replace RS:=rn RS hb;replace RE:=rn RE hb;replace RP503:=rn RP503 hb;replace RS503:=rn RS503 hb;replace RN503:=rn RN503 hb;clear QP506 QS506 QN506;clear c3_0 c3_1 c3_2 c3_3 c3_4 c3_5;obtain ⟨c3_0,c3_1,c3_2,c3_3,c3_4,c3_5⟩:=cs6 F3;clear c5_0 c5_1 c5_2 c5_3 c5_4 c5_5;obtain ⟨c5_0,c5_1,c5_2,c5_3,c5_4,c5_5⟩:=cs6 F5;clear hb)
    | ((with_reducible refine gate_dst (N:=7) rfl ?_);refine bxq 7 #[.string (⟨#[]⟩ : ByteArray),.string (⟨#[]⟩ : ByteArray),.slice none 0 0,.slice none 0 0,.bool false,.string (⟨#[]⟩ : ByteArray)] 38 B fun g7 w507 hb B F7 L7 E7=>?_;have N3_7:=ne1 E7 F3;have N5_7:=ne1 E7 F5;replace F3:=bn F3 hb;replace F5:=bn F5 hb;replace RP:=rn RP hb;replace RS:=rn RS hb;replace RE:=rn RE hb;replace RP503:=rn RP503 hb;replace RS503:=rn RS503 hb;replace RN503:=rn RN503 hb;replace RP506:=rn RP506 hb;replace RS506:=rn RS506 hb;replace RN506:=rn RN506 hb;clear c3_0 c3_1 c3_2 c3_3 c3_4 c3_5;obtain ⟨c3_0,c3_1,c3_2,c3_3,c3_4,c3_5⟩:=cs6 F3;clear c5_0 c5_1 c5_2 c5_3 c5_4 c5_5;obtain ⟨c5_0,c5_1,c5_2,c5_3,c5_4,c5_5⟩:=cs6 F5;obtain ⟨c7_0,c7_1,c7_2,c7_3,c7_4,c7_5⟩:=cs6 F7;clear hb E7)
    | ((with_reducible refine gate_store (t:=38) (p:=7) rfl ?_);obtain ⟨y0,y1,y2,y3,y4,y5,z0,z1,z2,z3,z4,z5⟩:=cz6 F7;refine sxq 38 38 7 0 [.string (⟨#[]⟩ : ByteArray),.string (⟨#[]⟩ : ByteArray),.slice AP506 zp.length kP506,.slice AS506 zs.length kS506,.bool false,.string (⟨#[]⟩ : ByteArray)] [.string (⟨#[]⟩ : ByteArray),.string (⟨#[]⟩ : ByteArray),.slice AP506 zp.length kP506,.slice AS506 zs.length kS506,.bool false,.string (⟨#[]⟩ : ByteArray)] B F7 L7 fun w508 hk B G=>?_;replace F3:=bk F3 hk N3_7.out;replace F5:=bk F5 hk N5_7.out;replace RP:=rk RP F7 (by decide) hk;replace RS:=rk RS F7 (by decide) hk;replace RE:=rk RE F7 (by decide) hk;replace RP503:=rk RP503 F7 (by decide) hk;replace RS503:=rk RS503 F7 (by decide) hk;replace RN503:=rk RN503 F7 (by decide) hk;replace RP506:=rk RP506 F7 (by decide) hk;replace RS506:=rk RS506 F7 (by decide) hk;replace RN506:=rk RN506 F7 (by decide) hk;replace F7:=G;clear c3_0 c3_1 c3_2 c3_3 c3_4 c3_5;obtain ⟨c3_0,c3_1,c3_2,c3_3,c3_4,c3_5⟩:=cs6 F3;clear c5_0 c5_1 c5_2 c5_3 c5_4 c5_5;obtain ⟨c5_0,c5_1,c5_2,c5_3,c5_4,c5_5⟩:=cs6 F5;clear c7_0 c7_1 c7_2 c7_3 c7_4 c7_5;obtain ⟨c7_0,c7_1,c7_2,c7_3,c7_4,c7_5⟩:=cs6 F7;clear hk y0 z0 y1 z1 y2 z2 y3 z3 y4 z4 y5 z5)
    | (go_at_call 17;with_reducible refine cl (laws_sameState.M (⟨#[]⟩ : ByteArray) (⟨#[]⟩ : ByteArray) _ _ _ _ zp _ _ _ _ zs false (⟨#[]⟩ : ByteArray) _ (rc RP503) (rc RP506) (rc RS503) (rc RS506) (rl RP503) (rl RP506) (rl RS503) (rl RS506) (by assumption) (by assumption)) B fun w509 hb B=>?_;replace F3:=bn F3 hb;replace F5:=bn F5 hb;replace RP:=rn RP hb;replace RS:=rn RS hb;replace RE:=rn RE hb;replace RP503:=rn RP503 hb;replace RS503:=rn RS503 hb;replace RN503:=rn RN503 hb;replace RN506:=rn RN506 hb;clear c3_0 c3_1 c3_2 c3_3 c3_4 c3_5;obtain ⟨c3_0,c3_1,c3_2,c3_3,c3_4,c3_5⟩:=cs6 F3;clear c5_0 c5_1 c5_2 c5_3 c5_4 c5_5;obtain ⟨c5_0,c5_1,c5_2,c5_3,c5_4,c5_5⟩:=cs6 F5;clear hb)
    | (go_at_call 32;with_reducible refine cl (laws_sameInts.M _ _ _ _ zr zr rfl _ (rc RN503) (rl RN503) (rc RN506) (rl RN506) (by assumption)) B fun w510 hb B=>?_;replace F3:=bn F3 hb;replace F5:=bn F5 hb;replace RP:=rn RP hb;replace RS:=rn RS hb;replace RE:=rn RE hb;replace RP503:=rn RP503 hb;replace RS503:=rn RS503 hb;replace RN503:=rn RN503 hb;clear c3_0 c3_1 c3_2 c3_3 c3_4 c3_5;obtain ⟨c3_0,c3_1,c3_2,c3_3,c3_4,c3_5⟩:=cs6 F3;clear c5_0 c5_1 c5_2 c5_3 c5_4 c5_5;obtain ⟨c5_0,c5_1,c5_2,c5_3,c5_4,c5_5⟩:=cs6 F5;clear hb)
    | (go_at_call 18;with_reducible refine cl (impl_StateValid.M a b _ _ ps _ _ ss t c _ (rc RP) (rc RS)) B fun w511 hb B=>?_;replace F5:=bn F5 hb;replace RE:=rn RE hb;replace RP503:=rn RP503 hb;replace RS503:=rn RS503 hb;replace RN503:=rn RN503 hb;clear c5_0 c5_1 c5_2 c5_3 c5_4 c5_5;obtain ⟨c5_0,c5_1,c5_2,c5_3,c5_4,c5_5⟩:=cs6 F5;clear hb)
    | (go_at_call 20;with_reducible refine cl (laws_noState.E _ _ _ _ _ _ HZP.out HZS.out _ (rc RP503) (rc RS503)) B fun w512 hb B=>?_;replace RN503:=rn RN503 hb;clear hb)
    | (go_at_call 21;with_reducible refine cl (laws_alive.M _) B fun w513 hb B=>?_;clear hb))
   all_goals go_ret
   all_goals exact ⟨by first | rfl | (simp;done) | (simp_all;done),B.out⟩
  | true =>
   have hok : (SM.mk a b ps ss t c).ok=true:=hj
   obtain ⟨hus0,-⟩:=logB_parts he
   have hus : es.length≤30:=by omega
   obtain ⟨m,hm⟩ : ∃ m,es.length / 2=m:=⟨_,rfl⟩
   have hmu : m≤es.length:=by omega
   obtain ⟨t1,ht1⟩ : ∃ t1,es.take m=t1:=⟨_,rfl⟩
   obtain ⟨t2,ht2⟩ : ∃ t2,es.drop m=t2:=⟨_,rfl⟩
   have T1:=Aside0.mk ht1
   have T2:=Aside0.mk ht2
   have htt : t1 ++ t2=es:=by rw [← ht1,← ht2,List.take_append_drop]
   have hpa:=rpM_parts hok he htt
   obtain ⟨hv,hrl,-⟩:=rpM_ok hok he
   obtain ⟨hx1,hx2,hx3⟩:=rpM_len ⟨a,b,ps,ss,t,c⟩ t1
   obtain ⟨hx4,hx5,hx6⟩:=rpM_len (rpM ⟨a,b,ps,ss,t,c⟩ t1).1 t2
   have hone:=fun h0 hl=>rpM_once (es:=es) hok he h0 hl
   have hnil : es=[]→rpM ⟨a,b,ps,ss,t,c⟩ es=(⟨a,b,ps,ss,t,c⟩,[]):=fun h=>by rw [rpM_go hok he,h];rfl
   obtain ⟨⟨⟨ya,yb,yp,ys,yt,yc⟩,r1⟩,h1⟩ : ∃ r,rpM ⟨a,b,ps,ss,t,c⟩ t1=r:=⟨_,rfl⟩
   rw [h1] at hpa hx1 hx2 hx3 hx4 hx5 hx6
   obtain ⟨⟨⟨xa,xb,xp,xs,xt,xc⟩,r2⟩,h2⟩ : ∃ r,rpM ⟨ya,yb,yp,ys,yt,yc⟩ t2=r:=⟨_,rfl⟩
   replace hpa : rpM ⟨a,b,ps,ss,t,c⟩ es=(⟨xa,xb,xp,xs,xt,xc⟩,r1 ++ r2):=by rw [hpa];show ((rpM ⟨ya,yb,yp,ys,yt,yc⟩ t2).1,r1 ++ (rpM ⟨ya,yb,yp,ys,yt,yc⟩ t2).2)=_;rw [h2]
   replace hx4 : (rpM ⟨ya,yb,yp,ys,yt,yc⟩ t2).1.ps.length≤48:=hx4
   replace hx5 : (rpM ⟨ya,yb,yp,ys,yt,yc⟩ t2).1.ss.length≤4:=hx5
   replace hx6 : (rpM ⟨ya,yb,yp,ys,yt,yc⟩ t2).2.length≤24:=hx6
   rw [h2] at hx4 hx5 hx6
   obtain ⟨rr,h12⟩ : ∃ r,r1 ++ r2=r:=⟨_,rfl⟩
   rw [h12] at hpa
   rw [hpa] at hv hrl hone hnil
   replace hx1 : yp.length≤48:=hx1
   replace hx2 : ys.length≤4:=hx2
   replace hx3 : r1.length≤24:=hx3
   replace hx4 : xp.length≤48:=hx4
   replace hx5 : xs.length≤4:=hx5
   replace hx6 : r2.length≤24:=hx6
   replace hrl : rr.length=es.length:=hrl
   have HM:=Aside0.mk hpa
   have H1:=Aside0.mk h1
   have H2:=Aside0.mk h2
   have hb3 : xp.length≤2097152:=by omega
   have hb4 : xs.length≤2097152:=by omega
   have hb5 : rr.length≤2097152:=by omega
   have hB3 : (0 + r1.length) * 8≤140737488355328:=by omega
   have hB4 : (r1.length + r2.length) * 8≤140737488355328:=by omega
   have HON:=Aside0.mk hone
   have HNI:=Aside0.mk hnil
   have HRL:=Aside0.mk hrl
   replace h12:=Aside0.mk h12
   have hvv : stB xa xb xp xs xt xc=true:=hv
   have e2 : ((rr.length : Int) != (es.length : Int))=false:=by rw [hrl];simp
   have hdv : Int.tdiv (es.length : Int) 2=(m : Int):=by rw [Int.tdiv_eq_ediv_of_nonneg (by omega)];omega
   have hwm : wrap64 (m : Int)=(m : Int):=w64 (by omega) (by omega)
   have hwm2 : IntKind.i64.wrap (m : Int)=(m : Int):=(i64_w _).trans hwm
   obtain ⟨A2,hcut1,hcut2,C1,C2,hk1,hk2⟩:=cuts_en AE kE es m t1 t2 hmu hus (rl RE) T1.out T2.out
   clear ht1 ht2 htt h1 h2 hpa hv hone hnil hrl hx1 hx2 hx3 hx4 hx5 hx6 hm hok
   go_wp2_with (first
    | ((with_reducible refine gate_dst (N:=3) rfl ?_);refine bxq 3 #[.string (⟨#[]⟩ : ByteArray),.string (⟨#[]⟩ : ByteArray),.slice none 0 0,.slice none 0 0,.bool false,.string (⟨#[]⟩ : ByteArray)] 38 B fun g3 w1001 hb B F3 L3 E3=>?_;replace RP:=rn RP hb;replace RS:=rn RS hb;replace RE:=rn RE hb;obtain ⟨c3_0,c3_1,c3_2,c3_3,c3_4,c3_5⟩:=cs6 F3;clear hb E3)
    | ((with_reducible refine gate_store (t:=38) (p:=3) rfl ?_);obtain ⟨y0,y1,y2,y3,y4,y5,z0,z1,z2,z3,z4,z5⟩:=cz6 F3;refine sxq 38 38 3 0 [.string a,.string b,.slice AP ps.length kP,.slice AS ss.length kS,.bool t,.string c] [.string a,.string b,.slice AP ps.length kP,.slice AS ss.length kS,.bool t,.string c] B F3 L3 fun w1002 hk B G=>?_;replace RP:=rk RP F3 (by decide) hk;replace RS:=rk RS F3 (by decide) hk;replace RE:=rk RE F3 (by decide) hk;replace F3:=G;clear c3_0 c3_1 c3_2 c3_3 c3_4 c3_5;obtain ⟨c3_0,c3_1,c3_2,c3_3,c3_4,c3_5⟩:=cs6 F3;clear hk y0 z0 y1 z1 y2 z2 y3 z3 y4 z4 y5 z5)
    | (go_at_call 25;with_reducible refine c3r (impl_Replay.Mr a b _ _ ps _ _ ss t c _ _ es xa xb xp xs xt xc rr HM.out w1002 (rc RP) (rc RS) (rl RP) (rl RS) (rc RE)) B fun AP1003 kP1003 AS1003 kS1003 AN1003 kN1003 w1003 hb B RP1003 QP1003 RS1003 QS1003 RN1003 QN1003=>?_;have DP_P1003:=fr QP1003 RP;have DS_P1003:=fr QP1003 RS;have DE_P1003:=fr QP1003 RE;have DP_S1003:=fr QS1003 RP;have DS_S1003:=fr QS1003 RS;have DE_S1003:=fr QS1003 RE;have DP_N1003:=fr QN1003 RP;have DS_N1003:=fr QN1003 RS;have DE_N1003:=fr QN1003 RE;replace F3:=bn F3 hb;replace RP:=rn RP hb;replace RS:=rn RS hb;replace RE:=rn RE hb;clear QP1003 QS1003 QN1003;clear c3_0 c3_1 c3_2 c3_3 c3_4 c3_5;obtain ⟨c3_0,c3_1,c3_2,c3_3,c3_4,c3_5⟩:=cs6 F3;clear hb)
    | ((with_reducible refine gate_dst (N:=5) rfl ?_);refine bxq 5 #[.string (⟨#[]⟩ : ByteArray),.string (⟨#[]⟩ : ByteArray),.slice none 0 0,.slice none 0 0,.bool false,.string (⟨#[]⟩ : ByteArray)] 38 B fun g5 w1004 hb B F5 L5 E5=>?_;have N3_5:=ne1 E5 F3;replace F3:=bn F3 hb;replace RP:=rn RP hb;replace RS:=rn RS hb;replace RE:=rn RE hb;replace RP1003:=rn RP1003 hb;replace RS1003:=rn RS1003 hb;replace RN1003:=rn RN1003 hb;clear c3_0 c3_1 c3_2 c3_3 c3_4 c3_5;obtain ⟨c3_0,c3_1,c3_2,c3_3,c3_4,c3_5⟩:=cs6 F3;obtain ⟨c5_0,c5_1,c5_2,c5_3,c5_4,c5_5⟩:=cs6 F5;clear hb E5)
    | ((with_reducible refine gate_store (t:=38) (p:=5) rfl ?_);obtain ⟨y0,y1,y2,y3,y4,y5,z0,z1,z2,z3,z4,z5⟩:=cz6 F5;refine sxq 38 38 5 0 [.string xa,.string xb,.slice AP1003 xp.length kP1003,.slice AS1003 xs.length kS1003,.bool xt,.string xc] [.string xa,.string xb,.slice AP1003 xp.length kP1003,.slice AS1003 xs.length kS1003,.bool xt,.string xc] B F5 L5 fun w1005 hk B G=>?_;replace F3:=bk F3 hk N3_5.out;replace RP:=rk RP F5 (by decide) hk;replace RS:=rk RS F5 (by decide) hk;replace RE:=rk RE F5 (by decide) hk;replace RP1003:=rk RP1003 F5 (by decide) hk;replace RS1003:=rk RS1003 F5 (by decide) hk;replace RN1003:=rk RN1003 F5 (by decide) hk;replace F5:=G;clear c3_0 c3_1 c3_2 c3_3 c3_4 c3_5;obtain ⟨c3_0,c3_1,c3_2,c3_3,c3_4,c3_5⟩:=cs6 F3;clear c5_0 c5_1 c5_2 c5_3 c5_4 c5_5;obtain ⟨c5_0,c5_1,c5_2,c5_3,c5_4,c5_5⟩:=cs6 F5;clear hk y0 z0 y1 z1 y2 z2 y3 z3 y4 z4 y5 z5)
    | (go_at_call 23;with_reducible refine c3r (spec_Replay.Mr a b _ _ ps _ _ ss t c _ _ es xa xb xp xs xt xc rr HM.out w1005 (rc RP) (rc RS) (rl RP) (rl RS) (rc RE)) B fun AP1006 kP1006 AS1006 kS1006 AN1006 kN1006 w1006 hb B RP1006 QP1006 RS1006 QS1006 RN1006 QN1006=>?_;have DP_P1006:=fr QP1006 RP;have DS_P1006:=fr QP1006 RS;have DE_P1006:=fr QP1006 RE;have DP1003_P1006:=fr QP1006 RP1003;have DS1003_P1006:=fr QP1006 RS1003;have DN1003_P1006:=fr QP1006 RN1003;have DP_S1006:=fr QS1006 RP;have DS_S1006:=fr QS1006 RS;have DE_S1006:=fr QS1006 RE;have DP1003_S1006:=fr QS1006 RP1003;have DS1003_S1006:=fr QS1006 RS1003;have DN1003_S1006:=fr QS1006 RN1003;have DP_N1006:=fr QN1006 RP;have DS_N1006:=fr QN1006 RS;have DE_N1006:=fr QN1006 RE;have DP1003_N1006:=fr QN1006 RP1003;have DS1003_N1006:=fr QN1006 RS1003;have DN1003_N1006:=fr QN1006 RN1003;replace F3:=bn F3 hb;replace F5:=bn F5 hb;replace RP:=rn RP hb;replace RS:=rn RS hb;replace RE:=rn RE hb;replace RP1003:=rn RP1003 hb;replace RS1003:=rn RS1003 hb;replace RN1003:=rn RN1003 hb;clear QP1006 QS1006 QN1006;clear c3_0 c3_1 c3_2 c3_3 c3_4 c3_5;obtain ⟨c3_0,c3_1,c3_2,c3_3,c3_4,c3_5⟩:=cs6 F3;clear c5_0 c5_1 c5_2 c5_3 c5_4 c5_5;obtain ⟨c5_0,c5_1,c5_2,c5_3,c5_4,c5_5⟩:=cs6 F5;clear hb)
    | ((with_reducible refine gate_dst (N:=7) rfl ?_);refine bxq 7 #[.string (⟨#[]⟩ : ByteArray),.string (⟨#[]⟩ : ByteArray),.slice none 0 0,.slice none 0 0,.bool false,.string (⟨#[]⟩ : ByteArray)] 38 B fun g7 w1007 hb B F7 L7 E7=>?_;have N3_7:=ne1 E7 F3;have N5_7:=ne1 E7 F5;replace F3:=bn F3 hb;replace F5:=bn F5 hb;replace RP:=rn RP hb;replace RS:=rn RS hb;replace RE:=rn RE hb;replace RP1003:=rn RP1003 hb;replace RS1003:=rn RS1003 hb;replace RN1003:=rn RN1003 hb;replace RP1006:=rn RP1006 hb;replace RS1006:=rn RS1006 hb;replace RN1006:=rn RN1006 hb;clear c3_0 c3_1 c3_2 c3_3 c3_4 c3_5;obtain ⟨c3_0,c3_1,c3_2,c3_3,c3_4,c3_5⟩:=cs6 F3;clear c5_0 c5_1 c5_2 c5_3 c5_4 c5_5;obtain ⟨c5_0,c5_1,c5_2,c5_3,c5_4,c5_5⟩:=cs6 F5;obtain ⟨c7_0,c7_1,c7_2,c7_3,c7_4,c7_5⟩:=cs6 F7;clear hb E7)
    | ((with_reducible refine gate_store (t:=38) (p:=7) rfl ?_);obtain ⟨y0,y1,y2,y3,y4,y5,z0,z1,z2,z3,z4,z5⟩:=cz6 F7;refine sxq 38 38 7 0 [.string xa,.string xb,.slice AP1006 xp.length kP1006,.slice AS1006 xs.length kS1006,.bool xt,.string xc] [.string xa,.string xb,.slice AP1006 xp.length kP1006,.slice AS1006 xs.length kS1006,.bool xt,.string xc] B F7 L7 fun w1008 hk B G=>?_;replace F3:=bk F3 hk N3_7.out;replace F5:=bk F5 hk N5_7.out;replace RP:=rk RP F7 (by decide) hk;replace RS:=rk RS F7 (by decide) hk;replace RE:=rk RE F7 (by decide) hk;replace RP1003:=rk RP1003 F7 (by decide) hk;replace RS1003:=rk RS1003 F7 (by decide) hk;replace RN1003:=rk RN1003 F7 (by decide) hk;replace RP1006:=rk RP1006 F7 (by decide) hk;replace RS1006:=rk RS1006 F7 (by decide) hk;replace RN1006:=rk RN1006 F7 (by decide) hk;replace F7:=G;clear c3_0 c3_1 c3_2 c3_3 c3_4 c3_5;obtain ⟨c3_0,c3_1,c3_2,c3_3,c3_4,c3_5⟩:=cs6 F3;clear c5_0 c5_1 c5_2 c5_3 c5_4 c5_5;obtain ⟨c5_0,c5_1,c5_2,c5_3,c5_4,c5_5⟩:=cs6 F5;clear c7_0 c7_1 c7_2 c7_3 c7_4 c7_5;obtain ⟨c7_0,c7_1,c7_2,c7_3,c7_4,c7_5⟩:=cs6 F7;clear hk y0 z0 y1 z1 y2 z2 y3 z3 y4 z4 y5 z5)
    | (go_at_call 17;with_reducible refine cl (laws_sameState.M xa xb _ _ _ _ xp _ _ _ _ xs xt xc w1008 (rc RP1003) (rc RP1006) (rc RS1003) (rc RS1006) (rl RP1003) (rl RP1006) (rl RS1003) (rl RS1006) (by assumption) (by assumption)) B fun w1009 hb B=>?_;replace F3:=bn F3 hb;replace F5:=bn F5 hb;replace RP:=rn RP hb;replace RS:=rn RS hb;replace RE:=rn RE hb;replace RP1003:=rn RP1003 hb;replace RS1003:=rn RS1003 hb;replace RN1003:=rn RN1003 hb;replace RN1006:=rn RN1006 hb;clear c3_0 c3_1 c3_2 c3_3 c3_4 c3_5;obtain ⟨c3_0,c3_1,c3_2,c3_3,c3_4,c3_5⟩:=cs6 F3;clear c5_0 c5_1 c5_2 c5_3 c5_4 c5_5;obtain ⟨c5_0,c5_1,c5_2,c5_3,c5_4,c5_5⟩:=cs6 F5;clear hb)
    | (go_at_call 32;with_reducible refine cl (laws_sameInts.M _ _ _ _ rr rr rfl w1009 (rc RN1003) (rl RN1003) (rc RN1006) (rl RN1006) (by assumption)) B fun w1010 hb B=>?_;replace F3:=bn F3 hb;replace F5:=bn F5 hb;replace RP:=rn RP hb;replace RS:=rn RS hb;replace RE:=rn RE hb;replace RP1003:=rn RP1003 hb;replace RS1003:=rn RS1003 hb;replace RN1003:=rn RN1003 hb;clear c3_0 c3_1 c3_2 c3_3 c3_4 c3_5;obtain ⟨c3_0,c3_1,c3_2,c3_3,c3_4,c3_5⟩:=cs6 F3;clear c5_0 c5_1 c5_2 c5_3 c5_4 c5_5;obtain ⟨c5_0,c5_1,c5_2,c5_3,c5_4,c5_5⟩:=cs6 F5;clear hb)
    | (go_at_call 18;with_reducible refine cl (impl_StateValid.M a b _ _ ps _ _ ss t c w1010 (rc RP) (rc RS)) B fun w1011 hb B=>?_;replace F3:=bn F3 hb;replace F5:=bn F5 hb;replace RP:=rn RP hb;replace RS:=rn RS hb;replace RE:=rn RE hb;replace RP1003:=rn RP1003 hb;replace RS1003:=rn RS1003 hb;replace RN1003:=rn RN1003 hb;clear c3_0 c3_1 c3_2 c3_3 c3_4 c3_5;obtain ⟨c3_0,c3_1,c3_2,c3_3,c3_4,c3_5⟩:=cs6 F3;clear c5_0 c5_1 c5_2 c5_3 c5_4 c5_5;obtain ⟨c5_0,c5_1,c5_2,c5_3,c5_4,c5_5⟩:=cs6 F5;clear hb))
   all_goals (
    refine rg (n:=11) (S:=fun W=>W.heap[g3]?=some (.cells #[.string a,.string b,.slice AP ps.length kP,.slice AS ss.length kS,.bool t,.string c] 38 (0,0))) (ds:=[]) #[false,false,false,false,false,false,false,false,false,false,false] (by kernel_rfl) rfl rfl F3.out id B (fun w1012 hb B hHeld=>?_)
    refine with_tabW laws_FnReplay.tab11 laws_FnReplay.bits11 (fun HT_ HW_=>?_)
    replace F3:=bn F3 hb
    replace F5:=bn F5 hb
    replace RP:=rn RP hb
    replace RS:=rn RS hb
    replace RE:=rn RE hb
    replace RP1003:=rn RP1003 hb
    replace RS1003:=rn RS1003 hb
    replace RN1003:=rn RN1003 hb
    clear hb
    refine join_ 2 (bits 11 511) (σ:=Option Addr × Nat × Option Addr × Nat × Option Addr × Nat × Nat) (fun (APs75,kPs75,ASs75,kSs75,ANs75,kNs75,g10)=>[(71,.agg #[.string a,.string b,.slice AP ps.length kP,.slice AS ss.length kS,.bool t,.string c]),(72,.slice AE es.length kE),(73,.int .i64 ((m : Int))),(74,.slice AE t1.length kE),(75,.tuple #[.agg #[.string ya,.string yb,.slice APs75 yp.length kPs75,.slice ASs75 ys.length kSs75,.bool yt,.string yc],.slice ANs75 r1.length kNs75]),(70,.tuple #[.agg #[.string ya,.string yb,.slice APs75 yp.length kPs75,.slice ASs75 ys.length kSs75,.bool yt,.string yc],.slice ANs75 r1.length kNs75]),(76,.agg #[.string ya,.string yb,.slice APs75 yp.length kPs75,.slice ASs75 ys.length kSs75,.bool yt,.string yc]),(77,.slice ANs75 r1.length kNs75),(10,.pointer (some ⟨g10,0,none⟩))]) (fun (APs75,kPs75,ASs75,kSs75,ANs75,kNs75,g10) W=>Aside0 (Below w.heap.size w W)∧Aside0 (W.heap[g3]?=some (.cells #[.string a,.string b,.slice AP ps.length kP,.slice AS ss.length kS,.bool t,.string c] 38 (0,0)))∧Aside0 (W.heap[g5]?=some (.cells #[.string xa,.string xb,.slice AP1003 xp.length kP1003,.slice AS1003 xs.length kS1003,.bool xt,.string xc] 38 (0,0)))∧Aside0 (W.heap[g10]?=some (.cells #[.string (⟨#[]⟩ : ByteArray),.string (⟨#[]⟩ : ByteArray),.slice none 0 0,.slice none 0 0,.bool false,.string (⟨#[]⟩ : ByteArray)] 38 (0,0)))∧Aside0 (w.heap.size≤g10)∧Aside0 (g3 ≠ g10)∧Aside0 (g5 ≠ g10)∧Aside0 (Ow k105 105 W w.heap.size (.slice AP ps.length kP) ps)∧Aside0 (Ow k76 76 W w.heap.size (.slice AS ss.length kS) ss)∧Aside0 (Ow k44 44 W w.heap.size (.slice AE es.length kE) es)∧Aside0 (Ow k105 105 W w.heap.size (.slice AP1003 xp.length kP1003) xp)∧Aside0 (Ow k76 76 W w.heap.size (.slice AS1003 xs.length kS1003) xs)∧Aside0 (Ow (Kd.int .i64) 3 W w.heap.size (.slice AN1003 rr.length kN1003) rr)∧Aside0 (Ow k105 105 W w.heap.size (.slice APs75 yp.length kPs75) yp)∧Aside0 (Ow k76 76 W w.heap.size (.slice ASs75 ys.length kSs75) ys)∧Aside0 (Ow (Kd.int .i64) 3 W w.heap.size (.slice ANs75 r1.length kNs75) r1)∧Aside0 (∀ k_,(.slice APs75 yp.length kPs75 : Value).ownBlock=some k_→(.slice AP ps.length kP : Value).ownBlock=some k_→False)∧Aside0 (∀ k_,(.slice APs75 yp.length kPs75 : Value).ownBlock=some k_→(.slice AP1003 xp.length kP1003 : Value).ownBlock=some k_→False)∧Aside0 (∀ k_,(.slice ASs75 ys.length kSs75 : Value).ownBlock=some k_→(.slice AS ss.length kS : Value).ownBlock=some k_→False)∧Aside0 (∀ k_,(.slice ASs75 ys.length kSs75 : Value).ownBlock=some k_→(.slice AS1003 xs.length kS1003 : Value).ownBlock=some k_→False)∧Aside0 (∀ k_,(.slice ANs75 r1.length kNs75 : Value).ownBlock=some k_→(.slice AN1003 rr.length kN1003 : Value).ownBlock=some k_→False)) ?_ (fun J=>?_)
    rotate_left
    ·refine tvq 0 (some 71) (bits 11 1) HT_ HW_ rfl hHeld (by intro w' hS;have s0:=hS;obtain ⟨q0,q1,q2,q3,q4,q5⟩:=cs6 (Aside0.mk s0);go_simp;with_reducible rfl) ?_
     refine pvq 1 (some 72) (bits 11 3) HT_ ?_
     refine pvq 2 (some 73) (bits 11 7) HT_ ?_
     refine pvq 3 (some 74) (bits 11 15) HT_ ?_
     refine nmq ?_
     refine two_ (i:=4) (j:=8) (Ni:=some 75) (Nj:=some 10) (bits 11 31) (bits 11 271) rfl rfl rfl rfl (two_of HT_.out (by kernel_rfl)) (by decide) (by decide) (fun K hK=>?_) (fun K hK=>?_)
     ·refine gsq Try.func25 #[.agg #[.string a,.string b,.slice AP ps.length kP,.slice AS ss.length kS,.bool t,.string c],.slice AE t1.length kE] ?_
      with_reducible refine c3r (impl_Replay.Mr a b _ _ ps _ _ ss t c _ _ t1 ya yb yp ys yt yc r1 H1.out w1012 (rc RP) (rc RS) (rl RP) (rl RS) (C1.out (rc RE))) B fun APs75 kPs75 ASs75 kSs75 ANs75 kNs75 w1013 hb B RPs75 QPs75 RSs75 QSs75 RNs75 QNs75=>?_
      have DP_Ps75:=fr QPs75 RP
      have DS_Ps75:=fr QPs75 RS
      have DE_Ps75:=fr QPs75 RE
      have DP1003_Ps75:=fr QPs75 RP1003
      have DS1003_Ps75:=fr QPs75 RS1003
      have DN1003_Ps75:=fr QPs75 RN1003
      have DP_Ss75:=fr QSs75 RP
      have DS_Ss75:=fr QSs75 RS
      have DE_Ss75:=fr QSs75 RE
      have DP1003_Ss75:=fr QSs75 RP1003
      have DS1003_Ss75:=fr QSs75 RS1003
      have DN1003_Ss75:=fr QSs75 RN1003
      have DP_Ns75:=fr QNs75 RP
      have DS_Ns75:=fr QNs75 RS
      have DE_Ns75:=fr QNs75 RE
      have DP1003_Ns75:=fr QNs75 RP1003
      have DS1003_Ns75:=fr QNs75 RS1003
      have DN1003_Ns75:=fr QNs75 RN1003
      replace F3:=bn F3 hb
      replace F5:=bn F5 hb
      replace RP:=rn RP hb
      replace RS:=rn RS hb
      replace RE:=rn RE hb
      replace RP1003:=rn RP1003 hb
      replace RS1003:=rn RS1003 hb
      replace RN1003:=rn RN1003 hb
      clear hb
      refine ⟨_,rfl,?_⟩
      refine hK.out _ _ F3.out (fun hHeld=>?_)
      clear hK K
      refine npq (some 75) ?_
      clear QPs75 QSs75 QNs75
      refine pvq 5 (some 70) (bits 11 63) HT_ ?_
      refine pvq 6 (some 76) (bits 11 127) HT_ ?_
      refine pvq 7 (some 77) (bits 11 255) HT_ ?_
      refine nmq ?_
      refine one_ (i:=8) (N:=some 10) (bits 11 511) rfl rfl (one_of HT_.out (by kernel_rfl)) (by decide) (fun K hK=>?_)
      refine bxs (cs:=#[.string (⟨#[]⟩ : ByteArray),.string (⟨#[]⟩ : ByteArray),.slice none 0 0,.slice none 0 0,.bool false,.string (⟨#[]⟩ : ByteArray)]) (t:=38) (by rfl) rfl ?hr B (fun g10 w1014 hb B F10 L10 E10=>?_)
      (case hr=>go_simp;first | done | rfl)
      have N3_10:=ne1 E10 F3
      have N5_10:=ne1 E10 F5
      replace F3:=bn F3 hb
      replace F5:=bn F5 hb
      replace RP:=rn RP hb
      replace RS:=rn RS hb
      replace RE:=rn RE hb
      replace RP1003:=rn RP1003 hb
      replace RS1003:=rn RS1003 hb
      replace RN1003:=rn RN1003 hb
      replace RPs75:=rn RPs75 hb
      replace RSs75:=rn RSs75 hb
      replace RNs75:=rn RNs75 hb
      clear hb E10
      refine hK.out _ _ F3.out (fun hHeld=>?_)
      clear hK K
      refine npq (some 10) ?_
      refine norm_ (a':=_) ?_ (J ⟨APs75,kPs75,ASs75,kSs75,ANs75,kNs75,g10⟩ _ ⟨B,F3,F5,F10,L10,N3_10,N5_10,RP,RS,RE,RP1003,RS1003,RN1003,RPs75,RSs75,RNs75,DP_Ps75,DP1003_Ps75,DS_Ss75,DS1003_Ss75,DN1003_Ns75⟩)
      simp only [putAll,Act.put,za,zb,zc]
      try rfl
     ·refine bxs (cs:=#[.string (⟨#[]⟩ : ByteArray),.string (⟨#[]⟩ : ByteArray),.slice none 0 0,.slice none 0 0,.bool false,.string (⟨#[]⟩ : ByteArray)]) (t:=38) (by rfl) rfl ?hr B (fun g10 w1013 hb B F10 L10 E10=>?_)
      (case hr=>go_simp;first | done | rfl)
      have N3_10:=ne1 E10 F3
      have N5_10:=ne1 E10 F5
      replace F3:=bn F3 hb
      replace F5:=bn F5 hb
      replace RP:=rn RP hb
      replace RS:=rn RS hb
      replace RE:=rn RE hb
      replace RP1003:=rn RP1003 hb
      replace RS1003:=rn RS1003 hb
      replace RN1003:=rn RN1003 hb
      clear hb E10
      refine hK.out _ _ F3.out (fun hHeld=>?_)
      clear hK K
      refine npq (some 10) ?_
      refine one_ (i:=4) (N:=some 75) (bits 11 287) rfl rfl (one_of HT_.out (by kernel_rfl)) (by decide) (fun K hK=>?_)
      refine gsq Try.func25 #[.agg #[.string a,.string b,.slice AP ps.length kP,.slice AS ss.length kS,.bool t,.string c],.slice AE t1.length kE] ?_
      with_reducible refine c3r (impl_Replay.Mr a b _ _ ps _ _ ss t c _ _ t1 ya yb yp ys yt yc r1 H1.out w1013 (rc RP) (rc RS) (rl RP) (rl RS) (C1.out (rc RE))) B fun APs75 kPs75 ASs75 kSs75 ANs75 kNs75 w1014 hb B RPs75 QPs75 RSs75 QSs75 RNs75 QNs75=>?_
      have DP_Ps75:=fr QPs75 RP
      have DS_Ps75:=fr QPs75 RS
      have DE_Ps75:=fr QPs75 RE
      have DP1003_Ps75:=fr QPs75 RP1003
      have DS1003_Ps75:=fr QPs75 RS1003
      have DN1003_Ps75:=fr QPs75 RN1003
      have DP_Ss75:=fr QSs75 RP
      have DS_Ss75:=fr QSs75 RS
      have DE_Ss75:=fr QSs75 RE
      have DP1003_Ss75:=fr QSs75 RP1003
      have DS1003_Ss75:=fr QSs75 RS1003
      have DN1003_Ss75:=fr QSs75 RN1003
      have DP_Ns75:=fr QNs75 RP
      have DS_Ns75:=fr QNs75 RS
      have DE_Ns75:=fr QNs75 RE
      have DP1003_Ns75:=fr QNs75 RP1003
      have DS1003_Ns75:=fr QNs75 RS1003
      have DN1003_Ns75:=fr QNs75 RN1003
      replace F3:=bn F3 hb
      replace F5:=bn F5 hb
      replace F10:=bn F10 hb
      replace RP:=rn RP hb
      replace RS:=rn RS hb
      replace RE:=rn RE hb
      replace RP1003:=rn RP1003 hb
      replace RS1003:=rn RS1003 hb
      replace RN1003:=rn RN1003 hb
      clear hb
      refine ⟨_,rfl,?_⟩
      refine hK.out _ _ F3.out (fun hHeld=>?_)
      clear hK K
      refine npq (some 75) ?_
      clear QPs75 QSs75 QNs75
      refine pvq 5 (some 70) (bits 11 319) HT_ ?_
      refine pvq 6 (some 76) (bits 11 383) HT_ ?_
      refine pvq 7 (some 77) (bits 11 511) HT_ ?_
      refine nmq ?_
      refine norm_ (a':=_) ?_ (J ⟨APs75,kPs75,ASs75,kSs75,ANs75,kNs75,g10⟩ _ ⟨B,F3,F5,F10,L10,N3_10,N5_10,RP,RS,RE,RP1003,RS1003,RN1003,RPs75,RSs75,RNs75,DP_Ps75,DP1003_Ps75,DS_Ss75,DS1003_Ss75,DN1003_Ns75⟩)
      simp only [putAll,Act.put,za,zb,zc]
      try rfl
    rintro ⟨APs75,kPs75,ASs75,kSs75,ANs75,kNs75,g10⟩ w1015 ⟨B,F3,F5,F10,L10,N3_10,N5_10,RP,RS,RE,RP1003,RS1003,RN1003,RPs75,RSs75,RNs75,DP_Ps75,DP1003_Ps75,DS_Ss75,DS1003_Ss75,DN1003_Ns75⟩
    refine norm_ (a':=?_) ?_ ?_
    rotate_left
    ·simp only [putAll,Act.put,za,zb,zc]
     rfl
    refine one_ (i:=9) (N:=none) (bits 11 1023) rfl rfl (one_of HT_.out (by kernel_rfl)) (by decide) (fun K hK=>?_)
    obtain ⟨y0,y1,y2,y3,y4,y5,z0,z1,z2,z3,z4,z5⟩:=cz6 F10
    refine sxs (g:=g10) 0 [.string ya,.string yb,.slice APs75 yp.length kPs75,.slice ASs75 ys.length kSs75,.bool yt,.string yc] [.string ya,.string yb,.slice APs75 yp.length kPs75,.slice ASs75 ys.length kSs75,.bool yt,.string yc] (by rfl) rfl ?hr B F10 L10 rfl (Nat.le_of_ble_eq_true rfl) (fun w1016 hk B G=>?_)
    (case hr=>go_simp;first | done | rfl)
    replace F3:=bk F3 hk N3_10.out
    replace F5:=bk F5 hk N5_10.out
    replace RP:=rk RP F10 (by decide) hk
    replace RS:=rk RS F10 (by decide) hk
    replace RE:=rk RE F10 (by decide) hk
    replace RP1003:=rk RP1003 F10 (by decide) hk
    replace RS1003:=rk RS1003 F10 (by decide) hk
    replace RN1003:=rk RN1003 F10 (by decide) hk
    replace RPs75:=rk RPs75 F10 (by decide) hk
    replace RSs75:=rk RSs75 F10 (by decide) hk
    replace RNs75:=rk RNs75 F10 (by decide) hk
    replace F10:=G
    clear hk y0 z0 y1 z1 y2 z2 y3 z3 y4 z4 y5 z5
    refine hK.out _ _ F3.out (fun hHeld=>?_)
    clear hK K
    refine pvq 10 (some 11) (bits 11 2047) HT_ ?_
    refine nmq ?_
    refine done_ (done_of HT_.out (by kernel_rfl)) ?_
    clear c3_0 c3_1 c3_2 c3_3 c3_4 c3_5
    obtain ⟨c3_0,c3_1,c3_2,c3_3,c3_4,c3_5⟩:=cs6 F3
    clear c5_0 c5_1 c5_2 c5_3 c5_4 c5_5
    obtain ⟨c5_0,c5_1,c5_2,c5_3,c5_4,c5_5⟩:=cs6 F5
    obtain ⟨c10_0,c10_1,c10_2,c10_3,c10_4,c10_5⟩:=cs6 F10)
   all_goals try go_wp2
   all_goals (
    refine rg (n:=11) (S:=fun W=>W.heap[g10]?=some (.cells #[.string ya,.string yb,.slice APs75 yp.length kPs75,.slice ASs75 ys.length kSs75,.bool yt,.string yc] 38 (0,0))) (ds:=[]) #[false,false,false,false,false,false,false,false,false,false,false] (by kernel_rfl) rfl rfl F10.out id B (fun w1017 hb B hHeld=>?_)
    refine with_tabW laws_FnReplay.tab12 laws_FnReplay.bits12 (fun HT_ HW_=>?_)
    replace F3:=bn F3 hb
    replace F5:=bn F5 hb
    replace F10:=bn F10 hb
    replace RP:=rn RP hb
    replace RS:=rn RS hb
    replace RE:=rn RE hb
    replace RP1003:=rn RP1003 hb
    replace RS1003:=rn RS1003 hb
    replace RN1003:=rn RN1003 hb
    replace RPs75:=rn RPs75 hb
    replace RSs75:=rn RSs75 hb
    replace RNs75:=rn RNs75 hb
    clear hb
    refine join_ 2 (bits 11 511) (σ:=Option Addr × Nat × Option Addr × Nat × Option Addr × Nat × Nat) (fun (APs83,kPs83,ASs83,kSs83,ANs83,kNs83,g12)=>[(79,.agg #[.string ya,.string yb,.slice APs75 yp.length kPs75,.slice ASs75 ys.length kSs75,.bool yt,.string yc]),(80,.slice AE es.length kE),(81,.int .i64 ((m : Int))),(82,.slice A2 t2.length (kE - m)),(83,.tuple #[.agg #[.string xa,.string xb,.slice APs83 xp.length kPs83,.slice ASs83 xs.length kSs83,.bool xt,.string xc],.slice ANs83 r2.length kNs83]),(78,.tuple #[.agg #[.string xa,.string xb,.slice APs83 xp.length kPs83,.slice ASs83 xs.length kSs83,.bool xt,.string xc],.slice ANs83 r2.length kNs83]),(84,.agg #[.string xa,.string xb,.slice APs83 xp.length kPs83,.slice ASs83 xs.length kSs83,.bool xt,.string xc]),(85,.slice ANs83 r2.length kNs83),(12,.pointer (some ⟨g12,0,none⟩))]) (fun (APs83,kPs83,ASs83,kSs83,ANs83,kNs83,g12) W=>Aside0 (Below w.heap.size w W)∧Aside0 (W.heap[g3]?=some (.cells #[.string a,.string b,.slice AP ps.length kP,.slice AS ss.length kS,.bool t,.string c] 38 (0,0)))∧Aside0 (W.heap[g5]?=some (.cells #[.string xa,.string xb,.slice AP1003 xp.length kP1003,.slice AS1003 xs.length kS1003,.bool xt,.string xc] 38 (0,0)))∧Aside0 (W.heap[g10]?=some (.cells #[.string ya,.string yb,.slice APs75 yp.length kPs75,.slice ASs75 ys.length kSs75,.bool yt,.string yc] 38 (0,0)))∧Aside0 (W.heap[g12]?=some (.cells #[.string (⟨#[]⟩ : ByteArray),.string (⟨#[]⟩ : ByteArray),.slice none 0 0,.slice none 0 0,.bool false,.string (⟨#[]⟩ : ByteArray)] 38 (0,0)))∧Aside0 (w.heap.size≤g12)∧Aside0 (g3 ≠ g12)∧Aside0 (g5 ≠ g12)∧Aside0 (g10 ≠ g12)∧Aside0 (Ow k105 105 W w.heap.size (.slice AP ps.length kP) ps)∧Aside0 (Ow k76 76 W w.heap.size (.slice AS ss.length kS) ss)∧Aside0 (Ow k44 44 W w.heap.size (.slice AE es.length kE) es)∧Aside0 (Ow k105 105 W w.heap.size (.slice AP1003 xp.length kP1003) xp)∧Aside0 (Ow k76 76 W w.heap.size (.slice AS1003 xs.length kS1003) xs)∧Aside0 (Ow (Kd.int .i64) 3 W w.heap.size (.slice AN1003 rr.length kN1003) rr)∧Aside0 (Ow k105 105 W w.heap.size (.slice APs75 yp.length kPs75) yp)∧Aside0 (Ow k76 76 W w.heap.size (.slice ASs75 ys.length kSs75) ys)∧Aside0 (Ow (Kd.int .i64) 3 W w.heap.size (.slice ANs75 r1.length kNs75) r1)∧Aside0 (Ow k105 105 W w.heap.size (.slice APs83 xp.length kPs83) xp)∧Aside0 (Ow k76 76 W w.heap.size (.slice ASs83 xs.length kSs83) xs)∧Aside0 (Ow (Kd.int .i64) 3 W w.heap.size (.slice ANs83 r2.length kNs83) r2)∧Aside0 (∀ k_,(.slice APs83 xp.length kPs83 : Value).ownBlock=some k_→(.slice AP ps.length kP : Value).ownBlock=some k_→False)∧Aside0 (∀ k_,(.slice APs83 xp.length kPs83 : Value).ownBlock=some k_→(.slice AP1003 xp.length kP1003 : Value).ownBlock=some k_→False)∧Aside0 (∀ k_,(.slice APs83 xp.length kPs83 : Value).ownBlock=some k_→(.slice APs75 yp.length kPs75 : Value).ownBlock=some k_→False)∧Aside0 (∀ k_,(.slice ASs83 xs.length kSs83 : Value).ownBlock=some k_→(.slice AS ss.length kS : Value).ownBlock=some k_→False)∧Aside0 (∀ k_,(.slice ASs83 xs.length kSs83 : Value).ownBlock=some k_→(.slice AS1003 xs.length kS1003 : Value).ownBlock=some k_→False)∧Aside0 (∀ k_,(.slice ASs83 xs.length kSs83 : Value).ownBlock=some k_→(.slice ASs75 ys.length kSs75 : Value).ownBlock=some k_→False)∧Aside0 (∀ k_,(.slice ANs83 r2.length kNs83 : Value).ownBlock=some k_→(.slice AN1003 rr.length kN1003 : Value).ownBlock=some k_→False)∧Aside0 (∀ k_,(.slice ANs83 r2.length kNs83 : Value).ownBlock=some k_→(.slice ANs75 r1.length kNs75 : Value).ownBlock=some k_→False)) ?_ (fun J=>?_)
    rotate_left
    ·refine tvq 0 (some 79) (bits 11 1) HT_ HW_ rfl hHeld (by intro w' hS;have s0:=hS;obtain ⟨q0,q1,q2,q3,q4,q5⟩:=cs6 (Aside0.mk s0);go_simp;with_reducible rfl) ?_
     refine pvq 1 (some 80) (bits 11 3) HT_ ?_
     refine pvq 2 (some 81) (bits 11 7) HT_ ?_
     refine pvq 3 (some 82) (bits 11 15) HT_ ?_
     refine nmq ?_
     refine two_ (i:=4) (j:=8) (Ni:=some 83) (Nj:=some 12) (bits 11 31) (bits 11 271) rfl rfl rfl rfl (two_of HT_.out (by kernel_rfl)) (by decide) (by decide) (fun K hK=>?_) (fun K hK=>?_)
     ·refine gsq Try.func25 #[.agg #[.string ya,.string yb,.slice APs75 yp.length kPs75,.slice ASs75 ys.length kSs75,.bool yt,.string yc],.slice A2 t2.length (kE - m)] ?_
      with_reducible refine c3r (impl_Replay.Mr ya yb _ _ yp _ _ ys yt yc _ _ t2 xa xb xp xs xt xc r2 H2.out w1017 (rc RPs75) (rc RSs75) (rl RPs75) (rl RSs75) (C2.out (rc RE))) B fun APs83 kPs83 ASs83 kSs83 ANs83 kNs83 w1018 hb B RPs83 QPs83 RSs83 QSs83 RNs83 QNs83=>?_
      have DP_Ps83:=fr QPs83 RP
      have DS_Ps83:=fr QPs83 RS
      have DE_Ps83:=fr QPs83 RE
      have DP1003_Ps83:=fr QPs83 RP1003
      have DS1003_Ps83:=fr QPs83 RS1003
      have DN1003_Ps83:=fr QPs83 RN1003
      have DPs75_Ps83:=fr QPs83 RPs75
      have DSs75_Ps83:=fr QPs83 RSs75
      have DNs75_Ps83:=fr QPs83 RNs75
      have DP_Ss83:=fr QSs83 RP
      have DS_Ss83:=fr QSs83 RS
      have DE_Ss83:=fr QSs83 RE
      have DP1003_Ss83:=fr QSs83 RP1003
      have DS1003_Ss83:=fr QSs83 RS1003
      have DN1003_Ss83:=fr QSs83 RN1003
      have DPs75_Ss83:=fr QSs83 RPs75
      have DSs75_Ss83:=fr QSs83 RSs75
      have DNs75_Ss83:=fr QSs83 RNs75
      have DP_Ns83:=fr QNs83 RP
      have DS_Ns83:=fr QNs83 RS
      have DE_Ns83:=fr QNs83 RE
      have DP1003_Ns83:=fr QNs83 RP1003
      have DS1003_Ns83:=fr QNs83 RS1003
      have DN1003_Ns83:=fr QNs83 RN1003
      have DPs75_Ns83:=fr QNs83 RPs75
      have DSs75_Ns83:=fr QNs83 RSs75
      have DNs75_Ns83:=fr QNs83 RNs75
      replace F3:=bn F3 hb
      replace F5:=bn F5 hb
      replace F10:=bn F10 hb
      replace RP:=rn RP hb
      replace RS:=rn RS hb
      replace RE:=rn RE hb
      replace RP1003:=rn RP1003 hb
      replace RS1003:=rn RS1003 hb
      replace RN1003:=rn RN1003 hb
      replace RPs75:=rn RPs75 hb
      replace RSs75:=rn RSs75 hb
      replace RNs75:=rn RNs75 hb
      clear hb
      refine ⟨_,rfl,?_⟩
      refine hK.out _ _ F10.out (fun hHeld=>?_)
      clear hK K
      refine npq (some 83) ?_
      clear QPs83 QSs83 QNs83
      refine pvq 5 (some 78) (bits 11 63) HT_ ?_
      refine pvq 6 (some 84) (bits 11 127) HT_ ?_
      refine pvq 7 (some 85) (bits 11 255) HT_ ?_
      refine nmq ?_
      refine one_ (i:=8) (N:=some 12) (bits 11 511) rfl rfl (one_of HT_.out (by kernel_rfl)) (by decide) (fun K hK=>?_)
      refine bxs (cs:=#[.string (⟨#[]⟩ : ByteArray),.string (⟨#[]⟩ : ByteArray),.slice none 0 0,.slice none 0 0,.bool false,.string (⟨#[]⟩ : ByteArray)]) (t:=38) (by rfl) rfl ?hr B (fun g12 w1019 hb B F12 L12 E12=>?_)
      (case hr=>go_simp;first | done | rfl)
      have N3_12:=ne1 E12 F3
      have N5_12:=ne1 E12 F5
      have N10_12:=ne1 E12 F10
      replace F3:=bn F3 hb
      replace F5:=bn F5 hb
      replace F10:=bn F10 hb
      replace RP:=rn RP hb
      replace RS:=rn RS hb
      replace RE:=rn RE hb
      replace RP1003:=rn RP1003 hb
      replace RS1003:=rn RS1003 hb
      replace RN1003:=rn RN1003 hb
      replace RPs75:=rn RPs75 hb
      replace RSs75:=rn RSs75 hb
      replace RNs75:=rn RNs75 hb
      replace RPs83:=rn RPs83 hb
      replace RSs83:=rn RSs83 hb
      replace RNs83:=rn RNs83 hb
      clear hb E12
      refine hK.out _ _ F10.out (fun hHeld=>?_)
      clear hK K
      refine npq (some 12) ?_
      refine norm_ (a':=_) ?_ (J ⟨APs83,kPs83,ASs83,kSs83,ANs83,kNs83,g12⟩ _ ⟨B,F3,F5,F10,F12,L12,N3_12,N5_12,N10_12,RP,RS,RE,RP1003,RS1003,RN1003,RPs75,RSs75,RNs75,RPs83,RSs83,RNs83,DP_Ps83,DP1003_Ps83,DPs75_Ps83,DS_Ss83,DS1003_Ss83,DSs75_Ss83,DN1003_Ns83,DNs75_Ns83⟩)
      simp only [putAll,Act.put,za,zb,zc]
      try rfl
     ·refine bxs (cs:=#[.string (⟨#[]⟩ : ByteArray),.string (⟨#[]⟩ : ByteArray),.slice none 0 0,.slice none 0 0,.bool false,.string (⟨#[]⟩ : ByteArray)]) (t:=38) (by rfl) rfl ?hr B (fun g12 w1018 hb B F12 L12 E12=>?_)
      (case hr=>go_simp;first | done | rfl)
      have N3_12:=ne1 E12 F3
      have N5_12:=ne1 E12 F5
      have N10_12:=ne1 E12 F10
      replace F3:=bn F3 hb
      replace F5:=bn F5 hb
      replace F10:=bn F10 hb
      replace RP:=rn RP hb
      replace RS:=rn RS hb
      replace RE:=rn RE hb
      replace RP1003:=rn RP1003 hb
      replace RS1003:=rn RS1003 hb
      replace RN1003:=rn RN1003 hb
      replace RPs75:=rn RPs75 hb
      replace RSs75:=rn RSs75 hb
      replace RNs75:=rn RNs75 hb
      clear hb E12
      refine hK.out _ _ F10.out (fun hHeld=>?_)
      clear hK K
      refine npq (some 12) ?_
      refine one_ (i:=4) (N:=some 83) (bits 11 287) rfl rfl (one_of HT_.out (by kernel_rfl)) (by decide) (fun K hK=>?_)
      refine gsq Try.func25 #[.agg #[.string ya,.string yb,.slice APs75 yp.length kPs75,.slice ASs75 ys.length kSs75,.bool yt,.string yc],.slice A2 t2.length (kE - m)] ?_
      with_reducible refine c3r (impl_Replay.Mr ya yb _ _ yp _ _ ys yt yc _ _ t2 xa xb xp xs xt xc r2 H2.out w1018 (rc RPs75) (rc RSs75) (rl RPs75) (rl RSs75) (C2.out (rc RE))) B fun APs83 kPs83 ASs83 kSs83 ANs83 kNs83 w1019 hb B RPs83 QPs83 RSs83 QSs83 RNs83 QNs83=>?_
      have DP_Ps83:=fr QPs83 RP
      have DS_Ps83:=fr QPs83 RS
      have DE_Ps83:=fr QPs83 RE
      have DP1003_Ps83:=fr QPs83 RP1003
      have DS1003_Ps83:=fr QPs83 RS1003
      have DN1003_Ps83:=fr QPs83 RN1003
      have DPs75_Ps83:=fr QPs83 RPs75
      have DSs75_Ps83:=fr QPs83 RSs75
      have DNs75_Ps83:=fr QPs83 RNs75
      have DP_Ss83:=fr QSs83 RP
      have DS_Ss83:=fr QSs83 RS
      have DE_Ss83:=fr QSs83 RE
      have DP1003_Ss83:=fr QSs83 RP1003
      have DS1003_Ss83:=fr QSs83 RS1003
      have DN1003_Ss83:=fr QSs83 RN1003
      have DPs75_Ss83:=fr QSs83 RPs75
      have DSs75_Ss83:=fr QSs83 RSs75
      have DNs75_Ss83:=fr QSs83 RNs75
      have DP_Ns83:=fr QNs83 RP
      have DS_Ns83:=fr QNs83 RS
      have DE_Ns83:=fr QNs83 RE
      have DP1003_Ns83:=fr QNs83 RP1003
      have DS1003_Ns83:=fr QNs83 RS1003
      have DN1003_Ns83:=fr QNs83 RN1003
      have DPs75_Ns83:=fr QNs83 RPs75
      have DSs75_Ns83:=fr QNs83 RSs75
      have DNs75_Ns83:=fr QNs83 RNs75
      replace F3:=bn F3 hb
      replace F5:=bn F5 hb
      replace F10:=bn F10 hb
      replace F12:=bn F12 hb
      replace RP:=rn RP hb
      replace RS:=rn RS hb
      replace RE:=rn RE hb
      replace RP1003:=rn RP1003 hb
      replace RS1003:=rn RS1003 hb
      replace RN1003:=rn RN1003 hb
      replace RPs75:=rn RPs75 hb
      replace RSs75:=rn RSs75 hb
      replace RNs75:=rn RNs75 hb
      clear hb
      refine ⟨_,rfl,?_⟩
      refine hK.out _ _ F10.out (fun hHeld=>?_)
      clear hK K
      refine npq (some 83) ?_
      clear QPs83 QSs83 QNs83
      refine pvq 5 (some 78) (bits 11 319) HT_ ?_
      refine pvq 6 (some 84) (bits 11 383) HT_ ?_
      refine pvq 7 (some 85) (bits 11 511) HT_ ?_
      refine nmq ?_
      refine norm_ (a':=_) ?_ (J ⟨APs83,kPs83,ASs83,kSs83,ANs83,kNs83,g12⟩ _ ⟨B,F3,F5,F10,F12,L12,N3_12,N5_12,N10_12,RP,RS,RE,RP1003,RS1003,RN1003,RPs75,RSs75,RNs75,RPs83,RSs83,RNs83,DP_Ps83,DP1003_Ps83,DPs75_Ps83,DS_Ss83,DS1003_Ss83,DSs75_Ss83,DN1003_Ns83,DNs75_Ns83⟩)
      simp only [putAll,Act.put,za,zb,zc]
      try rfl
    rintro ⟨APs83,kPs83,ASs83,kSs83,ANs83,kNs83,g12⟩ w1020 ⟨B,F3,F5,F10,F12,L12,N3_12,N5_12,N10_12,RP,RS,RE,RP1003,RS1003,RN1003,RPs75,RSs75,RNs75,RPs83,RSs83,RNs83,DP_Ps83,DP1003_Ps83,DPs75_Ps83,DS_Ss83,DS1003_Ss83,DSs75_Ss83,DN1003_Ns83,DNs75_Ns83⟩
    refine norm_ (a':=?_) ?_ ?_
    rotate_left
    ·simp only [putAll,Act.put,za,zb,zc]
     rfl
    refine one_ (i:=9) (N:=none) (bits 11 1023) rfl rfl (one_of HT_.out (by kernel_rfl)) (by decide) (fun K hK=>?_)
    obtain ⟨y0,y1,y2,y3,y4,y5,z0,z1,z2,z3,z4,z5⟩:=cz6 F12
    refine sxs (g:=g12) 0 [.string xa,.string xb,.slice APs83 xp.length kPs83,.slice ASs83 xs.length kSs83,.bool xt,.string xc] [.string xa,.string xb,.slice APs83 xp.length kPs83,.slice ASs83 xs.length kSs83,.bool xt,.string xc] (by rfl) rfl ?hr B F12 L12 rfl (Nat.le_of_ble_eq_true rfl) (fun w1021 hk B G=>?_)
    (case hr=>go_simp;first | done | rfl)
    replace F3:=bk F3 hk N3_12.out
    replace F5:=bk F5 hk N5_12.out
    replace F10:=bk F10 hk N10_12.out
    replace RP:=rk RP F12 (by decide) hk
    replace RS:=rk RS F12 (by decide) hk
    replace RE:=rk RE F12 (by decide) hk
    replace RP1003:=rk RP1003 F12 (by decide) hk
    replace RS1003:=rk RS1003 F12 (by decide) hk
    replace RN1003:=rk RN1003 F12 (by decide) hk
    replace RPs75:=rk RPs75 F12 (by decide) hk
    replace RSs75:=rk RSs75 F12 (by decide) hk
    replace RNs75:=rk RNs75 F12 (by decide) hk
    replace RPs83:=rk RPs83 F12 (by decide) hk
    replace RSs83:=rk RSs83 F12 (by decide) hk
    replace RNs83:=rk RNs83 F12 (by decide) hk
    replace F12:=G
    clear hk y0 z0 y1 z1 y2 z2 y3 z3 y4 z4 y5 z5
    refine hK.out _ _ F10.out (fun hHeld=>?_)
    clear hK K
    refine pvq 10 (some 13) (bits 11 2047) HT_ ?_
    refine nmq ?_
    refine done_ (done_of HT_.out (by kernel_rfl)) ?_
    clear c3_0 c3_1 c3_2 c3_3 c3_4 c3_5
    obtain ⟨c3_0,c3_1,c3_2,c3_3,c3_4,c3_5⟩:=cs6 F3
    clear c5_0 c5_1 c5_2 c5_3 c5_4 c5_5
    obtain ⟨c5_0,c5_1,c5_2,c5_3,c5_4,c5_5⟩:=cs6 F5
    obtain ⟨c12_0,c12_1,c12_2,c12_3,c12_4,c12_5⟩:=cs6 F12)
   all_goals go_wp2_with (first
    | (go_at_call 17;with_reducible refine cl (laws_sameState.M xa xb _ _ _ _ xp _ _ _ _ xs xt xc w1021 (rc RPs83) (rc RP1003) (rc RSs83) (rc RS1003) (rl RPs83) (rl RP1003) (rl RSs83) (rl RS1003) (by assumption) (by assumption)) B fun w1022 hb B=>?_;replace F3:=bn F3 hb;replace F5:=bn F5 hb;replace RP:=rn RP hb;replace RS:=rn RS hb;replace RE:=rn RE hb;replace RP1003:=rn RP1003 hb;replace RS1003:=rn RS1003 hb;replace RN1003:=rn RN1003 hb;replace RNs75:=rn RNs75 hb;replace RNs83:=rn RNs83 hb;clear c3_0 c3_1 c3_2 c3_3 c3_4 c3_5;obtain ⟨c3_0,c3_1,c3_2,c3_3,c3_4,c3_5⟩:=cs6 F3;clear c5_0 c5_1 c5_2 c5_3 c5_4 c5_5;obtain ⟨c5_0,c5_1,c5_2,c5_3,c5_4,c5_5⟩:=cs6 F5;clear hb)
    | ((with_reducible refine gate_dst (N:=91) rfl ?_);refine ungate ?hw ?_;(case hw=>first | (go_simp;done) | rfl);refine lt (Kd.int .i64) 3 ?hg (N:=91) ?hd ([] : List Int) [] ?hr (Reps.none _ _) (by simp) B ?_;(case hd | hg=>rfl);(case hr=>go_simp;first | done | rfl);intro z91 hz91 AL91 kL91 w1023 hb B RL91 QL91;have DP_L91:=fr QL91 RP;have DS_L91:=fr QL91 RS;have DE_L91:=fr QL91 RE;have DP1003_L91:=fr QL91 RP1003;have DS1003_L91:=fr QL91 RS1003;have DN1003_L91:=fr QL91 RN1003;have DNs75_L91:=fr QL91 RNs75;have DNs83_L91:=fr QL91 RNs83;replace F3:=bn F3 hb;replace F5:=bn F5 hb;replace RP:=rn RP hb;replace RS:=rn RS hb;replace RE:=rn RE hb;replace RP1003:=rn RP1003 hb;replace RS1003:=rn RS1003 hb;replace RN1003:=rn RN1003 hb;replace RNs75:=rn RNs75 hb;replace RNs83:=rn RNs83 hb;clear c3_0 c3_1 c3_2 c3_3 c3_4 c3_5;obtain ⟨c3_0,c3_1,c3_2,c3_3,c3_4,c3_5⟩:=cs6 F3;clear c5_0 c5_1 c5_2 c5_3 c5_4 c5_5;obtain ⟨c5_0,c5_1,c5_2,c5_3,c5_4,c5_5⟩:=cs6 F5;clear hb QL91)
    | ((with_reducible refine gate_builtin (b:=.append) (xs:=#[.tmp 91,.tmp 92]) rfl ?_);at_builtin;refine ungate ?hw ?_;(case hw=>first | (go_simp;done) | rfl);refine apx (Kd.int .i64) 3 rfl (.tmp 91) (.tmp 92) 58 (.int .i64 0) 8 rfl Try.underlying58 info3 rfl (by decide) (by omega) rfl rfl RL91 (rc RNs75) (fun _ _ h=>h) (by rw [← hz91];exact hB3) B ?_;intro z93 hz93 AL93 kL93 w1024 hg B RL93 hat;replace F3:=bga F3 hg RL91 (by decide);replace F5:=bga F5 hg RL91 (by decide);replace RP:=rga RP rfl hg (dty RL91 RP (by decide));replace RS:=rga RS rfl hg (dty RL91 RS (by decide));replace RE:=rga RE rfl hg (dty RL91 RE (by decide));replace RP1003:=rga RP1003 rfl hg (dty RL91 RP1003 (by decide));replace RS1003:=rga RS1003 rfl hg (dty RL91 RS1003 (by decide));have DN1003_L93:=dap hat (Aside0.mk DN1003_L91.out) RN1003;replace RN1003:=rga RN1003 rfl hg (fun k p q=>DN1003_L91.out k q p);have DNs83_L93:=dap hat (Aside0.mk DNs83_L91.out) RNs83;replace RNs83:=rga RNs83 rfl hg (fun k p q=>DNs83_L91.out k q p);clear c3_0 c3_1 c3_2 c3_3 c3_4 c3_5;obtain ⟨c3_0,c3_1,c3_2,c3_3,c3_4,c3_5⟩:=cs6 F3;clear c5_0 c5_1 c5_2 c5_3 c5_4 c5_5;obtain ⟨c5_0,c5_1,c5_2,c5_3,c5_4,c5_5⟩:=cs6 F5;clear hg hat)
    | ((with_reducible refine gate_builtin (b:=.append) (xs:=#[.tmp 93,.tmp 94]) rfl ?_);at_builtin;refine ungate ?hw ?_;(case hw=>first | (go_simp;done) | rfl);refine apx (Kd.int .i64) 3 rfl (.tmp 93) (.tmp 94) 58 (.int .i64 0) 8 rfl Try.underlying58 info3 rfl (by decide) (by omega) rfl rfl RL93 (rc RNs83) (fun _ _ h=>h) (by rw [← hz93,← hz91,List.nil_append];exact hB4) B ?_;intro z95 hz95 AL95 kL95 w1025 hg B RL95 hat;replace F3:=bga F3 hg RL93 (by decide);replace F5:=bga F5 hg RL93 (by decide);replace RP:=rga RP rfl hg (dty RL93 RP (by decide));replace RS:=rga RS rfl hg (dty RL93 RS (by decide));replace RE:=rga RE rfl hg (dty RL93 RE (by decide));replace RP1003:=rga RP1003 rfl hg (dty RL93 RP1003 (by decide));replace RS1003:=rga RS1003 rfl hg (dty RL93 RS1003 (by decide));have DN1003_L95:=dap hat (Aside0.mk DN1003_L93.out) RN1003;replace RN1003:=rga RN1003 rfl hg (fun k p q=>DN1003_L93.out k q p);clear c3_0 c3_1 c3_2 c3_3 c3_4 c3_5;obtain ⟨c3_0,c3_1,c3_2,c3_3,c3_4,c3_5⟩:=cs6 F3;clear c5_0 c5_1 c5_2 c5_3 c5_4 c5_5;obtain ⟨c5_0,c5_1,c5_2,c5_3,c5_4,c5_5⟩:=cs6 F5;clear hg hat)
    | (go_at_call 32;with_reducible refine cl (laws_sameInts.M _ _ _ _ z95 rr (by rw [← hz95,← hz93,← hz91,List.nil_append];exact h12.out) w1025 (rc RL95) (rl RL95) (rc RN1003) (rl RN1003) (by assumption)) B fun w1026 hb B=>?_;replace F3:=bn F3 hb;replace F5:=bn F5 hb;replace RP:=rn RP hb;replace RS:=rn RS hb;replace RE:=rn RE hb;replace RP1003:=rn RP1003 hb;replace RS1003:=rn RS1003 hb;replace RN1003:=rn RN1003 hb;clear c3_0 c3_1 c3_2 c3_3 c3_4 c3_5;obtain ⟨c3_0,c3_1,c3_2,c3_3,c3_4,c3_5⟩:=cs6 F3;clear c5_0 c5_1 c5_2 c5_3 c5_4 c5_5;obtain ⟨c5_0,c5_1,c5_2,c5_3,c5_4,c5_5⟩:=cs6 F5;clear hb;refine Stop.out ?_))
   refine ⟨?_⟩
   have hrl1 : rr.length≤es.length:=Nat.le_of_eq HRL.out
   have hrl2 : es.length≤rr.length:=Nat.le_of_eq HRL.out.symm
   by_cases h0 : es.length=0
   ·have hx:=HNI.out (List.eq_nil_of_length_eq_zero h0)
    have c0 : ((es.length : Int) == 0)=true:=by rw [h0];rfl
    have hxx : (SM.mk xa xb xp xs xt xc)=⟨a,b,ps,ss,t,c⟩:=congrArg Prod.fst hx
    cases hxx
    clear hx h0 hrl1 hrl2
    go_wp2_with (first
     | (go_at_call 17;with_reducible refine cl (laws_sameState.M a b _ _ _ _ ps _ _ _ _ ss t c _ (rc RP1003) (rc RP) (rc RS1003) (rc RS) (rl RP1003) (rl RP) (rl RS1003) (rl RS) (by assumption) (by assumption)) B fun w2001 hb B=>?_;clear hb)
     | (go_at_call 21;with_reducible refine cl (laws_alive.M _) B fun w2002 hb B=>?_;clear hb))
    all_goals go_ret
    all_goals exact ⟨by first | rfl | (simp;done) | (simp_all;done),B.out⟩
   ·have c0 : ((es.length : Int) == 0)=false:=beq_eq_false_iff_ne.mpr (by omega)
    by_cases h24 : 24≤es.length
    ·have c24 : decide ((24 : Int)≤(es.length : Int))=true:=decide_eq_true (by omega)
     have c25:=eq_true h24
     go_wp2_with (first
      | (go_at_call 18;with_reducible refine cl (impl_StateValid.M xa xb _ _ xp _ _ xs xt xc _ (rc RP1003) (rc RS1003)) B fun w3001 hb B=>?_;clear hb))
     all_goals go_ret
     all_goals exact ⟨by first | rfl | (simp;done) | (simp_all;done),B.out⟩
    ·have c24 : decide ((24 : Int)≤(es.length : Int))=false:=decide_eq_false (by omega)
     have c25:=eq_false h24
     obtain ⟨i3,hif3,_,_,_⟩:=info_parts info3
     have hp0 : 0 < es.length:=by omega
     have j1:=eq_true (show (0 : Int) < (es.length : Int) by omega)
     have j2:=eq_true hp0
     obtain ⟨n5,h5⟩:=HON.out hp0 (by omega)
     obtain ⟨ra,hra⟩ : ∃ r,rr ++ [n5]=r:=⟨_,rfl⟩
     have HRT:=Aside0.mk (show ra.take rr.length=rr by rw [← hra,List.take_left])
     have hra0 : ra.length=rr.length + 1:=by rw [← hra,List.length_append,List.length_singleton]
     have hra1 : ra.length≤es.length + 1:=by omega
     have hra2 : es.length + 1≤ra.length:=by omega
     clear hra0
     replace h5 : rpM ⟨a,b,ps,ss,t,c⟩ (es ++ [rd_T44 es 0])=(⟨xa,xb,xp,xs,xt,xc⟩,ra):=by rw [h5,hra]
     obtain ⟨ad,hA,-⟩:=at_T44 (rc RE) 0 (by omega) (by omega)
     cases hA
     generalize hy : rd_T44 es 0=y at *
     have HF:=Aside0.mk (show ∀ z,es ++ [y]=z→rpM ⟨a,b,ps,ss,t,c⟩ z=(⟨xa,xb,xp,xs,xt,xc⟩,ra) from fun z hz=>by rw [← hz];exact h5)
     clear h5 hra HON HNI
     try go_wp2
     all_goals (
      refine rg (n:=9) (S:=fun W=>Kd.C k44 W (some ad) es.length es) (ds:=[]) #[false,false,false,false,false,false,false,false,false] (by kernel_rfl) rfl rfl (rc RE) id B (fun w4001 hb B hHeld=>?_)
      refine with_tabW laws_FnReplay.tab19 laws_FnReplay.bits19 (fun HT_ HW_=>?_)
      replace F3:=bn F3 hb
      replace F5:=bn F5 hb
      replace RP:=rn RP hb
      replace RS:=rn RS hb
      replace RE:=rn RE hb
      replace RP1003:=rn RP1003 hb
      replace RS1003:=rn RS1003 hb
      replace RN1003:=rn RN1003 hb
      clear hb
      refine join_ 2 (bits 9 127) (σ:=Option Addr × Nat × Option Addr × Nat × List S44 × Option Addr × Nat × List S44) (fun (AL114,kL114,AL116,kL116,z116,AL120,kL120,z120)=>[(114,.slice AL114 ([] : List S44).length kL114),(115,.slice (some ad) es.length kE),(116,.slice AL116 z116.length kL116),(117,.slice (some ad) es.length kE),(118,.pointer (some ad)),(119,.agg #[.int .i64 (y.f0),.int .i64 (y.f1),.int .i64 (y.f2.f0),.string y.f2.f1,.int .i64 (y.f2.f2),.int .i64 (y.f2.f3)]),(120,.slice AL120 z120.length kL120)]) (fun (AL114,kL114,AL116,kL116,z116,AL120,kL120,z120) W=>Aside0 (Below w.heap.size w W)∧Aside0 (W.heap[g3]?=some (.cells #[.string a,.string b,.slice AP ps.length kP,.slice AS ss.length kS,.bool t,.string c] 38 (0,0)))∧Aside0 (W.heap[g5]?=some (.cells #[.string xa,.string xb,.slice AP1003 xp.length kP1003,.slice AS1003 xs.length kS1003,.bool xt,.string xc] 38 (0,0)))∧Aside0 (Ow k105 105 W w.heap.size (.slice AP ps.length kP) ps)∧Aside0 (Ow k76 76 W w.heap.size (.slice AS ss.length kS) ss)∧Aside0 (Ow k44 44 W w.heap.size (.slice (some ad) es.length kE) es)∧Aside0 (Ow k105 105 W w.heap.size (.slice AP1003 xp.length kP1003) xp)∧Aside0 (Ow k76 76 W w.heap.size (.slice AS1003 xs.length kS1003) xs)∧Aside0 (Ow (Kd.int .i64) 3 W w.heap.size (.slice AN1003 rr.length kN1003) rr)∧Aside0 (Ow k44 44 W w.heap.size (.slice AL116 z116.length kL116) z116)∧Aside0 (Ow k44 44 W w.heap.size (.slice AL120 z120.length kL120) z120)∧Aside0 (∀ k_,(.slice AL116 z116.length kL116 : Value).ownBlock=some k_→(.slice (some ad) es.length kE : Value).ownBlock=some k_→False)∧Aside0 (∀ k_,(.slice AL120 z120.length kL120 : Value).ownBlock=some k_→(.slice (some ad) es.length kE : Value).ownBlock=some k_→False)∧Aside0 (∀ k_,(.slice AL120 z120.length kL120 : Value).ownBlock=some k_→(.slice AL116 z116.length kL116 : Value).ownBlock=some k_→False)∧es=z116∧[y]=z120) ?_ (fun J=>?_)
      rotate_left
      ·refine pvq 1 (some 115) (bits 9 2) HT_ ?_
       refine pvq 3 (some 117) (bits 9 10) HT_ ?_
       refine pvq 4 (some 118) (bits 9 26) HT_ ?_
       refine tvq 5 (some 119) (bits 9 58) HT_ HW_ rfl hHeld (by intro w' hS;have s0:=hS;obtain ⟨_,hA,q0,q1,q2,q3,q4,q5⟩:=at_T44 s0 0 (by omega) (by omega);cases hA;rw [show (0 : Int).toNat * 6=0 from rfl,add0] at q0 q1 q2 q3 q4 q5;rw [hy] at q0 q1 q2 q3 q4 q5;go_simp;with_reducible rfl) ?_
       refine nmq ?_
       refine two_ (i:=0) (j:=6) (Ni:=some 114) (Nj:=some 120) (bits 9 59) (bits 9 122) rfl rfl rfl rfl (two_of HT_.out (by kernel_rfl)) (by decide) (by decide) (fun K hK=>?_) (fun K hK=>?_)
       ·refine lts k44 44 (by rfl) rfl ([] : List S44) [] ?hr (Reps.none _ _) (by simp) B (fun z114 hz114 AL114 kL114 w4002 hb B RL114 QL114=>?_)
        (case hr=>go_simp;first | done | rfl)
        have DP_L114:=fr QL114 RP
        have DS_L114:=fr QL114 RS
        have DE_L114:=fr QL114 RE
        have DP1003_L114:=fr QL114 RP1003
        have DS1003_L114:=fr QL114 RS1003
        have DN1003_L114:=fr QL114 RN1003
        replace F3:=bn F3 hb
        replace F5:=bn F5 hb
        replace RP:=rn RP hb
        replace RS:=rn RS hb
        replace RE:=rn RE hb
        replace RP1003:=rn RP1003 hb
        replace RS1003:=rn RS1003 hb
        replace RN1003:=rn RN1003 hb
        clear hb QL114
        subst hz114
        refine hK.out _ _ (rc RE) (fun hHeld=>?_)
        clear hK K
        refine npq (some 114) ?_
        refine two_ (i:=2) (j:=6) (Ni:=some 116) (Nj:=some 120) (bits 9 63) (bits 9 123) rfl rfl rfl rfl (two_of HT_.out (by kernel_rfl)) (by decide) (by decide) (fun K hK=>?_) (fun K hK=>?_)
        ·refine aps k44 44 (by rfl) rfl (.tmp 114) (.tmp 115) 61 (.agg #[.int .i64 (0),.int .i64 (0),.int .i64 (0),.string (⟨#[]⟩ : ByteArray),.int .i64 (0),.int .i64 (0)]) 56 rfl Try.underlying61 info44 rfl (by decide) (by omega) rfl rfl RL114 (rc RE) (fun x cs h=>by rw [k44_open h];exact k44_mkM _ _ _ x) (by simp only [List.length_nil];omega) B (fun z116 hz116 AL116 kL116 w4003 hg B RL116 hat=>?_)
         replace F3:=bga F3 hg RL114 (by decide)
         replace F5:=bga F5 hg RL114 (by decide)
         replace RP:=rga RP rfl hg (dty RL114 RP (by decide))
         replace RS:=rga RS rfl hg (dty RL114 RS (by decide))
         have DE_L116:=dap hat (Aside0.mk DE_L114.out) RE
         replace RE:=rga RE rfl hg (fun k p q=>DE_L114.out k q p)
         replace RP1003:=rga RP1003 rfl hg (dty RL114 RP1003 (by decide))
         replace RS1003:=rga RS1003 rfl hg (dty RL114 RS1003 (by decide))
         replace RN1003:=rga RN1003 rfl hg (dty RL114 RN1003 (by decide))
         clear hg hat
         refine hK.out _ _ (rc RE) (fun hHeld=>?_)
         clear hK K
         refine npq (some 116) ?_
         refine one_ (i:=6) (N:=some 120) (bits 9 127) rfl rfl (one_of HT_.out (by kernel_rfl)) (by decide) (fun K hK=>?_)
         refine lts k44 44 (by rfl) rfl ([⟨y.f0,y.f1,y.f2.f0,y.f2.f1,y.f2.f2,y.f2.f3⟩] : List S44) [.int .i64 (y.f0),.int .i64 (y.f1),.int .i64 (y.f2.f0),.string y.f2.f1,.int .i64 (y.f2.f2),.int .i64 (y.f2.f3)] ?hr (Reps.c6 (k44_mkM _ _ _ ⟨y.f0,y.f1,y.f2.f0,y.f2.f1,y.f2.f2,y.f2.f3⟩) (Reps.none _ _)) (by simp) B (fun z120 hz120 AL120 kL120 w4004 hb B RL120 QL120=>?_)
         (case hr=>go_simp;first | done | rfl)
         have DP_L120:=fr QL120 RP
         have DS_L120:=fr QL120 RS
         have DE_L120:=fr QL120 RE
         have DP1003_L120:=fr QL120 RP1003
         have DS1003_L120:=fr QL120 RS1003
         have DN1003_L120:=fr QL120 RN1003
         have DL116_L120:=fr QL120 RL116
         replace F3:=bn F3 hb
         replace F5:=bn F5 hb
         replace RP:=rn RP hb
         replace RS:=rn RS hb
         replace RE:=rn RE hb
         replace RP1003:=rn RP1003 hb
         replace RS1003:=rn RS1003 hb
         replace RN1003:=rn RN1003 hb
         replace RL116:=rn RL116 hb
         clear hb QL120
         refine hK.out _ _ (rc RE) (fun hHeld=>?_)
         clear hK K
         refine npq (some 120) ?_
         refine norm_ (a':=_) ?_ (J ⟨AL114,kL114,AL116,kL116,z116,AL120,kL120,z120⟩ _ ⟨B,F3,F5,RP,RS,RE,RP1003,RS1003,RN1003,RL116,RL120,DE_L116,DE_L120,DL116_L120,(by rw [← hz116,List.nil_append]),(by rw [← hz120])⟩)
         simp only [putAll,Act.put,za,zb,zc]
         try rfl
        ·refine lts k44 44 (by rfl) rfl ([⟨y.f0,y.f1,y.f2.f0,y.f2.f1,y.f2.f2,y.f2.f3⟩] : List S44) [.int .i64 (y.f0),.int .i64 (y.f1),.int .i64 (y.f2.f0),.string y.f2.f1,.int .i64 (y.f2.f2),.int .i64 (y.f2.f3)] ?hr (Reps.c6 (k44_mkM _ _ _ ⟨y.f0,y.f1,y.f2.f0,y.f2.f1,y.f2.f2,y.f2.f3⟩) (Reps.none _ _)) (by simp) B (fun z120 hz120 AL120 kL120 w4003 hb B RL120 QL120=>?_)
         (case hr=>go_simp;first | done | rfl)
         have DP_L120:=fr QL120 RP
         have DS_L120:=fr QL120 RS
         have DE_L120:=fr QL120 RE
         have DP1003_L120:=fr QL120 RP1003
         have DS1003_L120:=fr QL120 RS1003
         have DN1003_L120:=fr QL120 RN1003
         have DL114_L120:=fr QL120 RL114
         replace F3:=bn F3 hb
         replace F5:=bn F5 hb
         replace RP:=rn RP hb
         replace RS:=rn RS hb
         replace RE:=rn RE hb
         replace RP1003:=rn RP1003 hb
         replace RS1003:=rn RS1003 hb
         replace RN1003:=rn RN1003 hb
         replace RL114:=rn RL114 hb
         clear hb QL120
         refine hK.out _ _ (rc RE) (fun hHeld=>?_)
         clear hK K
         refine npq (some 120) ?_
         refine one_ (i:=2) (N:=some 116) (bits 9 127) rfl rfl (one_of HT_.out (by kernel_rfl)) (by decide) (fun K hK=>?_)
         refine aps k44 44 (by rfl) rfl (.tmp 114) (.tmp 115) 61 (.agg #[.int .i64 (0),.int .i64 (0),.int .i64 (0),.string (⟨#[]⟩ : ByteArray),.int .i64 (0),.int .i64 (0)]) 56 rfl Try.underlying61 info44 rfl (by decide) (by omega) rfl rfl RL114 (rc RE) (fun x cs h=>by rw [k44_open h];exact k44_mkM _ _ _ x) (by simp only [List.length_nil];omega) B (fun z116 hz116 AL116 kL116 w4004 hg B RL116 hat=>?_)
         replace F3:=bga F3 hg RL114 (by decide)
         replace F5:=bga F5 hg RL114 (by decide)
         replace RP:=rga RP rfl hg (dty RL114 RP (by decide))
         replace RS:=rga RS rfl hg (dty RL114 RS (by decide))
         have DE_L116:=dap hat (Aside0.mk DE_L114.out) RE
         replace RE:=rga RE rfl hg (fun k p q=>DE_L114.out k q p)
         replace RP1003:=rga RP1003 rfl hg (dty RL114 RP1003 (by decide))
         replace RS1003:=rga RS1003 rfl hg (dty RL114 RS1003 (by decide))
         replace RN1003:=rga RN1003 rfl hg (dty RL114 RN1003 (by decide))
         have DL120_L116:=dap hat (Aside0.mk (fun k p q=>DL114_L120.out k q p)) RL120
         replace RL120:=rga RL120 rfl hg DL114_L120.out
         clear hg hat
         refine hK.out _ _ (rc RE) (fun hHeld=>?_)
         clear hK K
         refine npq (some 116) ?_
         refine norm_ (a':=_) ?_ (J ⟨AL114,kL114,AL116,kL116,z116,AL120,kL120,z120⟩ _ ⟨B,F3,F5,RP,RS,RE,RP1003,RS1003,RN1003,RL116,RL120,DE_L116,DE_L120,⟨fun k_ h1_ h2_=>DL120_L116.out k_ h2_ h1_⟩,(by rw [← hz116,List.nil_append]),(by rw [← hz120])⟩)
         simp only [putAll,Act.put,za,zb,zc]
         try rfl
       ·refine lts k44 44 (by rfl) rfl ([⟨y.f0,y.f1,y.f2.f0,y.f2.f1,y.f2.f2,y.f2.f3⟩] : List S44) [.int .i64 (y.f0),.int .i64 (y.f1),.int .i64 (y.f2.f0),.string y.f2.f1,.int .i64 (y.f2.f2),.int .i64 (y.f2.f3)] ?hr (Reps.c6 (k44_mkM _ _ _ ⟨y.f0,y.f1,y.f2.f0,y.f2.f1,y.f2.f2,y.f2.f3⟩) (Reps.none _ _)) (by simp) B (fun z120 hz120 AL120 kL120 w4002 hb B RL120 QL120=>?_)
        (case hr=>go_simp;first | done | rfl)
        have DP_L120:=fr QL120 RP
        have DS_L120:=fr QL120 RS
        have DE_L120:=fr QL120 RE
        have DP1003_L120:=fr QL120 RP1003
        have DS1003_L120:=fr QL120 RS1003
        have DN1003_L120:=fr QL120 RN1003
        replace F3:=bn F3 hb
        replace F5:=bn F5 hb
        replace RP:=rn RP hb
        replace RS:=rn RS hb
        replace RE:=rn RE hb
        replace RP1003:=rn RP1003 hb
        replace RS1003:=rn RS1003 hb
        replace RN1003:=rn RN1003 hb
        clear hb QL120
        refine hK.out _ _ (rc RE) (fun hHeld=>?_)
        clear hK K
        refine npq (some 120) ?_
        refine one_ (i:=0) (N:=some 114) (bits 9 123) rfl rfl (one_of HT_.out (by kernel_rfl)) (by decide) (fun K hK=>?_)
        refine lts k44 44 (by rfl) rfl ([] : List S44) [] ?hr (Reps.none _ _) (by simp) B (fun z114 hz114 AL114 kL114 w4003 hb B RL114 QL114=>?_)
        (case hr=>go_simp;first | done | rfl)
        have DP_L114:=fr QL114 RP
        have DS_L114:=fr QL114 RS
        have DE_L114:=fr QL114 RE
        have DP1003_L114:=fr QL114 RP1003
        have DS1003_L114:=fr QL114 RS1003
        have DN1003_L114:=fr QL114 RN1003
        have DL120_L114:=fr QL114 RL120
        replace F3:=bn F3 hb
        replace F5:=bn F5 hb
        replace RP:=rn RP hb
        replace RS:=rn RS hb
        replace RE:=rn RE hb
        replace RP1003:=rn RP1003 hb
        replace RS1003:=rn RS1003 hb
        replace RN1003:=rn RN1003 hb
        replace RL120:=rn RL120 hb
        clear hb QL114
        subst hz114
        refine hK.out _ _ (rc RE) (fun hHeld=>?_)
        clear hK K
        refine npq (some 114) ?_
        refine one_ (i:=2) (N:=some 116) (bits 9 127) rfl rfl (one_of HT_.out (by kernel_rfl)) (by decide) (fun K hK=>?_)
        refine aps k44 44 (by rfl) rfl (.tmp 114) (.tmp 115) 61 (.agg #[.int .i64 (0),.int .i64 (0),.int .i64 (0),.string (⟨#[]⟩ : ByteArray),.int .i64 (0),.int .i64 (0)]) 56 rfl Try.underlying61 info44 rfl (by decide) (by omega) rfl rfl RL114 (rc RE) (fun x cs h=>by rw [k44_open h];exact k44_mkM _ _ _ x) (by simp only [List.length_nil];omega) B (fun z116 hz116 AL116 kL116 w4004 hg B RL116 hat=>?_)
        replace F3:=bga F3 hg RL114 (by decide)
        replace F5:=bga F5 hg RL114 (by decide)
        replace RP:=rga RP rfl hg (dty RL114 RP (by decide))
        replace RS:=rga RS rfl hg (dty RL114 RS (by decide))
        have DE_L116:=dap hat (Aside0.mk DE_L114.out) RE
        replace RE:=rga RE rfl hg (fun k p q=>DE_L114.out k q p)
        replace RP1003:=rga RP1003 rfl hg (dty RL114 RP1003 (by decide))
        replace RS1003:=rga RS1003 rfl hg (dty RL114 RS1003 (by decide))
        replace RN1003:=rga RN1003 rfl hg (dty RL114 RN1003 (by decide))
        have DL120_L116:=dap hat (Aside0.mk DL120_L114.out) RL120
        replace RL120:=rga RL120 rfl hg (fun k p q=>DL120_L114.out k q p)
        clear hg hat
        refine hK.out _ _ (rc RE) (fun hHeld=>?_)
        clear hK K
        refine npq (some 116) ?_
        refine norm_ (a':=_) ?_ (J ⟨AL114,kL114,AL116,kL116,z116,AL120,kL120,z120⟩ _ ⟨B,F3,F5,RP,RS,RE,RP1003,RS1003,RN1003,RL116,RL120,DE_L116,DE_L120,⟨fun k_ h1_ h2_=>DL120_L116.out k_ h2_ h1_⟩,(by rw [← hz116,List.nil_append]),(by rw [← hz120])⟩)
        simp only [putAll,Act.put,za,zb,zc]
        try rfl
      rintro ⟨AL114,kL114,AL116,kL116,z116,AL120,kL120,z120⟩ w4005 ⟨B,F3,F5,RP,RS,RE,RP1003,RS1003,RN1003,RL116,RL120,DE_L116,DE_L120,DL116_L120,rfl,rfl⟩
      refine norm_ (a':=?_) ?_ ?_
      rotate_left
      ·simp only [putAll,Act.put,za,zb,zc]
       rfl
      refine one_ (i:=7) (N:=some 121) (bits 9 255) rfl rfl (one_of HT_.out (by kernel_rfl)) (by decide) (fun K hK=>?_)
      refine aps k44 44 (by rfl) rfl (.tmp 116) (.tmp 120) 61 (.agg #[.int .i64 (0),.int .i64 (0),.int .i64 (0),.string (⟨#[]⟩ : ByteArray),.int .i64 (0),.int .i64 (0)]) 56 rfl Try.underlying61 info44 rfl (by decide) (by omega) rfl rfl RL116 (rc RL120) (fun x cs h=>by rw [k44_open h];exact k44_mkM _ _ _ x) (by simp only [List.length_cons,List.length_nil];omega) B (fun z121 hz121 AL121 kL121 w4006 hg B RL121 hat=>?_)
      replace F3:=bga F3 hg RL116 (by decide)
      replace F5:=bga F5 hg RL116 (by decide)
      replace RP:=rga RP rfl hg (dty RL116 RP (by decide))
      replace RS:=rga RS rfl hg (dty RL116 RS (by decide))
      have DE_L121:=dap hat (Aside0.mk DE_L116.out) RE
      replace RE:=rga RE rfl hg (fun k p q=>DE_L116.out k q p)
      replace RP1003:=rga RP1003 rfl hg (dty RL116 RP1003 (by decide))
      replace RS1003:=rga RS1003 rfl hg (dty RL116 RS1003 (by decide))
      replace RN1003:=rga RN1003 rfl hg (dty RL116 RN1003 (by decide))
      clear hg hat
      refine hK.out _ _ (rc RE) (fun hHeld=>?_)
      clear hK K
      refine npq (some 121) ?_
      refine pvq 8 (some 14) (bits 9 511) HT_ ?_
      refine nmq ?_
      refine done_ (done_of HT_.out (by kernel_rfl)) ?_
      clear c3_0 c3_1 c3_2 c3_3 c3_4 c3_5
      obtain ⟨c3_0,c3_1,c3_2,c3_3,c3_4,c3_5⟩:=cs6 F3
      clear c5_0 c5_1 c5_2 c5_3 c5_4 c5_5
      obtain ⟨c5_0,c5_1,c5_2,c5_3,c5_4,c5_5⟩:=cs6 F5
      have e5 : ((ra.length : Int) == (z121.length : Int))=true:=by rw [show ra.length=z121.length by rw [← hz121,List.length_append,List.length_singleton];omega];simp)
     all_goals go_wp2_with (first
      | (go_at_call 25;with_reducible refine c3r (impl_Replay.Mr a b _ _ ps _ _ ss t c _ _ z121 xa xb xp xs xt xc ra (HF.out _ hz121) w4006 (rc RP) (rc RS) (rl RP) (rl RS) (rc RL121)) B fun AP4007 kP4007 AS4007 kS4007 AN4007 kN4007 w4007 hb B RP4007 QP4007 RS4007 QS4007 RN4007 QN4007=>?_;have DP_P4007:=fr QP4007 RP;have DS_P4007:=fr QP4007 RS;have DE_P4007:=fr QP4007 RE;have DP1003_P4007:=fr QP4007 RP1003;have DS1003_P4007:=fr QP4007 RS1003;have DN1003_P4007:=fr QP4007 RN1003;have DL121_P4007:=fr QP4007 RL121;have DP_S4007:=fr QS4007 RP;have DS_S4007:=fr QS4007 RS;have DE_S4007:=fr QS4007 RE;have DP1003_S4007:=fr QS4007 RP1003;have DS1003_S4007:=fr QS4007 RS1003;have DN1003_S4007:=fr QS4007 RN1003;have DL121_S4007:=fr QS4007 RL121;have DP_N4007:=fr QN4007 RP;have DS_N4007:=fr QN4007 RS;have DE_N4007:=fr QN4007 RE;have DP1003_N4007:=fr QN4007 RP1003;have DS1003_N4007:=fr QN4007 RS1003;have DN1003_N4007:=fr QN4007 RN1003;have DL121_N4007:=fr QN4007 RL121;replace F5:=bn F5 hb;replace RE:=rn RE hb;replace RP1003:=rn RP1003 hb;replace RS1003:=rn RS1003 hb;replace RN1003:=rn RN1003 hb;replace RL121:=rn RL121 hb;clear QP4007 QS4007 QN4007;clear c5_0 c5_1 c5_2 c5_3 c5_4 c5_5;obtain ⟨c5_0,c5_1,c5_2,c5_3,c5_4,c5_5⟩:=cs6 F5;clear hb;have hcut3:=cut_to (P:=Try.prog) 58 3 .i64 Try.underlying58 hif3 AN4007 ra.length kN4007 (es.length : Int) (by omega) (by omega) (rl RN4007);rw [show ((es.length : Int)).toNat=rr.length by omega] at hcut3;have hk3 : rr.length≤kN4007:=Nat.le_trans (by omega) (rl RN4007);have C3:=Aside0.mk (fun {W : World} (h : Kd.C (Kd.int .i64) W AN4007 ra.length ra)=>show Kd.C (Kd.int .i64) W AN4007 rr.length rr from by have h9:=Kd.C_take h (m:=rr.length) (by omega);rwa [HRT.out] at h9))
      | ((with_reducible refine gate_dst (N:=15) rfl ?_);refine bxq 15 #[.string (⟨#[]⟩ : ByteArray),.string (⟨#[]⟩ : ByteArray),.slice none 0 0,.slice none 0 0,.bool false,.string (⟨#[]⟩ : ByteArray)] 38 B fun g15 w4008 hb B F15 L15 E15=>?_;have N5_15:=ne1 E15 F5;replace F5:=bn F5 hb;replace RE:=rn RE hb;replace RP1003:=rn RP1003 hb;replace RS1003:=rn RS1003 hb;replace RN1003:=rn RN1003 hb;replace RL121:=rn RL121 hb;replace RP4007:=rn RP4007 hb;replace RS4007:=rn RS4007 hb;replace RN4007:=rn RN4007 hb;clear c5_0 c5_1 c5_2 c5_3 c5_4 c5_5;obtain ⟨c5_0,c5_1,c5_2,c5_3,c5_4,c5_5⟩:=cs6 F5;obtain ⟨c15_0,c15_1,c15_2,c15_3,c15_4,c15_5⟩:=cs6 F15;clear hb E15)
      | ((with_reducible refine gate_store (t:=38) (p:=15) rfl ?_);obtain ⟨y0,y1,y2,y3,y4,y5,z0,z1,z2,z3,z4,z5⟩:=cz6 F15;refine sxq 38 38 15 0 [.string xa,.string xb,.slice AP4007 xp.length kP4007,.slice AS4007 xs.length kS4007,.bool xt,.string xc] [.string xa,.string xb,.slice AP4007 xp.length kP4007,.slice AS4007 xs.length kS4007,.bool xt,.string xc] B F15 L15 fun w4009 hk B G=>?_;replace F5:=bk F5 hk N5_15.out;replace RE:=rk RE F15 (by decide) hk;replace RP1003:=rk RP1003 F15 (by decide) hk;replace RS1003:=rk RS1003 F15 (by decide) hk;replace RN1003:=rk RN1003 F15 (by decide) hk;replace RL121:=rk RL121 F15 (by decide) hk;replace RP4007:=rk RP4007 F15 (by decide) hk;replace RS4007:=rk RS4007 F15 (by decide) hk;replace RN4007:=rk RN4007 F15 (by decide) hk;replace F15:=G;clear c5_0 c5_1 c5_2 c5_3 c5_4 c5_5;obtain ⟨c5_0,c5_1,c5_2,c5_3,c5_4,c5_5⟩:=cs6 F5;clear c15_0 c15_1 c15_2 c15_3 c15_4 c15_5;obtain ⟨c15_0,c15_1,c15_2,c15_3,c15_4,c15_5⟩:=cs6 F15;clear hk y0 z0 y1 z1 y2 z2 y3 z3 y4 z4 y5 z5)
      | (go_at_call 17;with_reducible refine cl (laws_sameState.M xa xb _ _ _ _ xp _ _ _ _ xs xt xc w4009 (rc RP4007) (rc RP1003) (rc RS4007) (rc RS1003) (rl RP4007) (rl RP1003) (rl RS4007) (rl RS1003) (by assumption) (by assumption)) B fun w4010 hb B=>?_;replace RE:=rn RE hb;replace RN1003:=rn RN1003 hb;replace RL121:=rn RL121 hb;replace RN4007:=rn RN4007 hb;clear hb)
      | (go_at_call 32;with_reducible refine cl (laws_sameInts.M _ _ _ _ rr rr rfl w4010 (C3.out (rc RN4007)) hk3 (rc RN1003) (rl RN1003) (by assumption)) B fun w4011 hb B=>?_;replace RE:=rn RE hb;clear hb))
     all_goals go_ret
     all_goals exact ⟨by first | rfl | (simp;done) | (simp_all;done),B.out⟩
def laws_FnReplay.f (k : Nat) (l : List Int) : Option Bool:=if ∀ x ∈ l,(Lit.int .u8 x).wf=true then some true else none
theorem laws_FnReplay.calls (k : Nat) (A0 : Option Addr) (c0 : Nat) (l : List Int) (r : Bool) (w : World) (hr0 : Kd.C (Kd.int .u8) w A0 l.length l) (hc0 : l.length≤c0) (h : laws_FnReplay.f k l=some r) : Calls Try.prog 6 #[.slice A0 l.length c0] w fun e w'=>e=.returned (.bool r)∧Below w.heap.size w w':=by
 unfold laws_FnReplay.f at h
 split at h
 ·rename_i hc
  obtain rfl:=Option.some.inj h
  exact laws_FnReplay.M A0 c0 l w hr0 hc0 hc
 ·cases h

end Go.Proofs.Ythofkheehldioaa.PFnReplay
