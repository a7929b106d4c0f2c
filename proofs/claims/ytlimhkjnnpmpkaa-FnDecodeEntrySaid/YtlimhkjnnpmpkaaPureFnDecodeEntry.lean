/- What DecodeEntry reads is written back by EncodeEntry as it was read, and is valid; else it answers -1 and the empty entry; and the reference reads the same. No condition beyond the row's own. -/
import Derived.Test.YtlimhkjnnpmpkaaQFnDecodeEntryall
import Derived.Laws.BytesArg
import Derived.Lib.Strings
namespace Go.Proofs.Ytlimhkjnnpmpkaa.Pure
open Go.RowKit Go.Proofs.Ytlimhkjnnpmpkaa.PFnDecodeEntry Go.Proofs.YtlimhkjnnpmpkaaW.PrintWords Go.Proofs.YtlimhkjnnpmpkaaW.PrintLast
def FnDecodeEntry.Said : Prop := ∀ (l0 : (List Int)), (l0.length ≤ maxLen ∧ ∀ y ∈ l0, (Lit.int .u8 y).wf = true) → ∃ k, laws_FnDecodeEntry.f k l0 = some true
end Go.Proofs.Ytlimhkjnnpmpkaa.Pure
namespace Go.Proofs.Ytlimhkjnnpmpkaa.Pure
open Go.RowKit Go.Proofs.Ytlimhkjnnpmpkaa.PFnDecodeEntry Go.Proofs.YtlimhkjnnpmpkaaW.PrintWords Go.Proofs.YtlimhkjnnpmpkaaW.PrintLast
set_option linter.unusedVariables false
set_option linter.unusedSimpArgs false
def Evn (P : Nat → Prop) : Prop := ∃ K, ∀ k, K ≤ k → P k
theorem Evn.all {P : Nat → Prop} (h : ∀ k, P k) : Evn P := ⟨0, fun k _ => h k⟩
theorem Evn.mp {P Q : Nat → Prop} (hp : Evn P) (hq : Evn fun k => P k → Q k) : Evn Q := by
  obtain ⟨K1, h1⟩ := hp
  obtain ⟨K2, h2⟩ := hq
  exact ⟨max K1 K2, fun k hk => h2 k (by omega) (h1 k (by omega))⟩
theorem Evn.succ {P : Nat → Prop} (h : Evn fun k => P (k + 1)) : Evn P := by
  obtain ⟨K, h⟩ := h
  refine ⟨K + 1, fun k hk => ?_⟩
  obtain ⟨m, rfl⟩ : ∃ m, k = m + 1 := ⟨k - 1, by omega⟩
  exact h m (by omega)
theorem Evn.some {P : Nat → Prop} (h : Evn P) : ∃ k, P k := by
  obtain ⟨K, h⟩ := h
  exact ⟨K, h K (Nat.le_refl K)⟩
theorem w64 {x : Int} (h0 : -9223372036854775808 ≤ x) (h1 : x ≤ 9223372036854775807) : wrap64 x = x := by
  unfold wrap64
  omega
theorem rd_drop {xs : List Int} {j : Nat} (h : j < xs.length) : xs.drop j = rd xs (j : Int) :: xs.drop (j + 1) := by
  rw [List.drop_eq_getElem_cons h]
  simp [rd, List.getD_eq_getElem?_getD, List.getElem?_eq_getElem h]
theorem rd_nat {xs : List Int} {j : Nat} (h : j < xs.length) : rd xs (j : Int) = xs[j] := by
  simp [rd, List.getD_eq_getElem?_getD, List.getElem?_eq_getElem h]
theorem str_nil : strOfNums [] = (⟨#[]⟩ : ByteArray) := rfl
theorem ba_ext {a b : ByteArray} (h : a.data.toList = b.data.toList) : a = b := by
  cases a; cases b; simp only [ByteArray.mk.injEq]; exact Array.toList_inj.mp h
theorem ba_append (a b : ByteArray) : (a ++ b).data.toList = a.data.toList ++ b.data.toList := by
  rw [ByteArray.data_append, Array.toList_append]
theorem str_append (xs ys : List Int) : strOfNums (xs ++ ys) = strOfNums xs ++ strOfNums ys := by
  refine ba_ext ?_
  rw [ba_append, strOfNums_data, strOfNums_data, strOfNums_data, List.map_append]
theorem bytes_str {xs : List Int} (h : ∀ x ∈ xs, 0 ≤ x ∧ x ≤ 255) : bytesOf (strOfNums xs) = xs := by
  rw [bytesOf, strOfNums_data, List.map_map]
  refine (List.map_congr_left (g := id) fun x hx => ?_).trans (List.map_id _)
  have := h x hx
  simp only [Function.comp, id]
  rw [UInt8.toNat_ofNat_of_lt' (by simp [UInt8.size]; omega)]
  omega
theorem ba_toList (s : ByteArray) : s.toList = s.data.toList := Lib.toList_data s
def lowB (x : Int) : Bool := decide (97 ≤ x) && decide (x ≤ 122)
def keyB (s : ByteArray) : Bool := decide (1 ≤ s.size) && decide (s.size ≤ 4) && (bytesOf s).all lowB
theorem bt_drop' {s : ByteArray} {j : Nat} (h : j < s.size) : (bytesOf s).drop j = bt s (j : Int) :: (bytesOf s).drop (j + 1) := by
  rw [rd_drop (by rw [bytesOf_length]; exact h), rd_bytesOf]
theorem bytesOf_tail (s : ByteArray) : bytesOf (s.extract 1 s.size) = (bytesOf s).drop 1 := by
  unfold bytesOf
  rw [← List.map_drop]
  refine congrArg _ ?_
  rw [ByteArray.data_extract, Array.toList_extract]
  rw [List.extract_eq_take_drop, List.take_of_length_le (by rw [List.length_drop, data_length]; omega)]
theorem nil_iff (s : ByteArray) : s.toList = ([] : List UInt8) ↔ s.size = 0 := by
  rw [ba_toList]
  refine ⟨fun h => ?_, fun h => ?_⟩
  · have := data_length s
    rw [h] at this
    exact this.symm
  · exact List.eq_nil_of_length_eq_zero (by rw [data_length]; exact h)
def valB (x : Int) : Bool := decide (0 ≤ x ∧ x ≤ 999)
def cmdB (kind : Int) (key : ByteArray) (value old : Int) : Bool :=
  (keyB key || (decide (kind = 5) && decide (key.size = 0))) &&
  (if kind = 2 then valB value && decide (old = 0) else if kind = 4 then valB value && (decide (old = -1) || valB old) else decide (1 ≤ kind ∧ kind ≤ 5) && (decide (value = 0) && decide (old = 0)))
theorem nil_dec (s : ByteArray) : decide (s.toList = ([] : List UInt8)) = decide (s.size = 0) := decide_eq_decide.mpr (nil_iff s)
def entB (client seq kind : Int) (key : ByteArray) (value old : Int) : Bool := decide (0 ≤ client ∧ client ≤ 3) && (decide (1 ≤ seq ∧ seq ≤ 999) && cmdB kind key value old)
def encG : Nat → Nat → List Int
  | 0, n => [(n : Int)]
  | g + 1, n => if n < 128 then [(n : Int)] else (((n % 128 : Nat) : Int) + 128) :: encG g (n / 128)
def encN (n : Int) : List Int := if 0 ≤ n ∧ n ≤ 268435455 then encG 4 n.toNat else []
theorem encG_length (g : Nat) : ∀ n, 1 ≤ (encG g n).length ∧ (encG g n).length ≤ g + 1 := by
  induction g with
  | zero => intro n; simp [encG]
  | succ g ih =>
    intro n
    unfold encG
    split
    · simp
    · have := ih (n / 128)
      simp
      omega
theorem encN_length (n : Int) : (encN n).length ≤ 5 := by
  unfold encN
  split
  · exact (encG_length 4 _).2
  · simp
def encT (s : ByteArray) : List Int := if s.size ≤ 8 then encN (s.size : Int) ++ bytesOf s else []
theorem encT_length (s : ByteArray) : (encT s).length ≤ 13 := by
  unfold encT
  have := encN_length (s.size : Int)
  split
  · rw [List.length_append, bytesOf_length]
    omega
  · simp
theorem bt_drop {s : ByteArray} {j : Nat} (h : j < s.size) : (bytesOf s).drop j = bt s (j : Int) :: (bytesOf s).drop (j + 1) := by
  rw [rd_drop (by rw [bytesOf_length]; exact h), rd_bytesOf]
def byteB (x : Int) : Bool := decide (0 ≤ x) && decide (x ≤ 255)
def bytesB (b : List Int) : Bool := decide (b.length ≤ 2000) && b.all byteB
def decG : Nat → List Int → Bool → Option (Int × Nat)
  | 0, _, _ => none
  | _ + 1, [], _ => none
  | g + 1, x :: r, first =>
    if x < 128 then (if x = 0 ∧ first = false then none else some (x, 1))
    else match decG g r false with
      | none => none
      | some (v, c) => some (x % 128 + 128 * v, c + 1)
def decTail (at_ : Int) : Option (Int × Nat) → Int × Int
  | none => (-1, -1)
  | some (v, c) => (v, at_ + (c : Int))
def decN (b : List Int) (at_ : Int) : Int × Int :=
  if bytesB b = true ∧ 0 ≤ at_ ∧ at_ < (b.length : Int) then decTail at_ (decG 4 (b.drop at_.toNat) true) else (-1, -1)
def weigh (g : Nat) (u : Int) : Prop := (g = 4 ∧ u = 1) ∨ (g = 3 ∧ u = 128) ∨ (g = 2 ∧ u = 16384) ∨ (g = 1 ∧ u = 2097152) ∨ (g = 0 ∧ u = 268435456)
def decAll (n u at_ : Int) : Option (Int × Nat) → Int × Int
  | none => (-1, -1)
  | some (v, c) => (n + u * v, at_ + (c : Int))
theorem bytesB_range {b : List Int} (h : bytesB b = true) {j : Nat} (hj : j < b.length) : 0 ≤ rd b (j : Int) ∧ rd b (j : Int) ≤ 255 := by
  unfold bytesB at h
  rw [Bool.and_eq_true, List.all_eq_true] at h
  have := h.2 b[j] (List.getElem_mem hj)
  rw [rd_nat hj]
  unfold byteB at this
  simpa using this
theorem bytesB_length {b : List Int} (h : bytesB b = true) : b.length ≤ 2000 := by
  unfold bytesB at h
  rw [Bool.and_eq_true] at h
  simpa using h.1
theorem decG_small {g : Nat} {x : Int} {r : List Int} {first : Bool} (hs : x < 128) : decG (g + 1) (x :: r) first = if x = 0 ∧ first = false then none else some (x, 1) := by
  rw [decG, if_pos hs]
theorem decG_big {g : Nat} {x : Int} {r : List Int} {first : Bool} (hs : ¬ x < 128) : decG (g + 1) (x :: r) first = match decG g r false with
      | none => none
      | some (v, c) => some (x % 128 + 128 * v, c + 1) := by
  rw [decG, if_neg hs]
theorem decN_bad {b : List Int} {a : Int} (h : bytesB b = true → ¬ (0 ≤ a ∧ a < (b.length : Int))) : decN b a = (-1, -1) := by
  unfold decN
  rw [if_neg (fun q => h q.1 q.2)]
theorem decAll_step (n u x : Int) (j : Nat) (o : Option (Int × Nat)) :
    decAll (n + u * (x % 128)) (u * 128) ((j : Int) + 1) o = decAll n u (j : Int) (match o with | none => none | some (v, c) => some (x % 128 + 128 * v, c + 1)) := by
  cases o with
  | none => rfl
  | some p =>
    obtain ⟨v, c⟩ := p
    simp only [decAll]
    rw [Int.mul_add, Int.mul_assoc]
    refine Prod.ext ?_ ?_
    · simp only; omega
    · simp only; omega
theorem bytesB_mk {b : List Int} (h1 : b.length ≤ 2000) (h2 : ∀ x ∈ b, 0 ≤ x ∧ x ≤ 255) : bytesB b = true := by
  unfold bytesB
  rw [Bool.and_eq_true, decide_eq_true_eq, List.all_eq_true]
  refine ⟨h1, fun x hx => ?_⟩
  have := h2 x hx
  unfold byteB
  simp [this]
theorem bytesB_iff {b : List Int} : bytesB b = true ↔ b.length ≤ 2000 ∧ ∀ x ∈ b, 0 ≤ x ∧ x ≤ 255 := by
  refine ⟨fun h => ⟨bytesB_length h, fun x hx => ?_⟩, fun h => bytesB_mk h.1 h.2⟩
  obtain ⟨j, hj, rfl⟩ := List.getElem_of_mem hx
  have := bytesB_range h hj
  rwa [rd_nat hj] at this
theorem encN_pos {n : Int} (h0 : 0 ≤ n) (h1 : n ≤ 268435455) : 1 ≤ (encN n).length := by
  unfold encN
  rw [if_pos ⟨h0, h1⟩]
  exact (encG_length 4 _).1
theorem decG_facts (g : Nat) : ∀ (h : Nat) (r : List Int) (first : Bool) (v : Int) (c : Nat), g ≤ h + 1 → (∀ x ∈ r, 0 ≤ x ∧ x ≤ 255) → decG g r first = some (v, c) →
    c ≤ r.length ∧ 1 ≤ c ∧ 0 ≤ v ∧ v < (128 : Int) ^ g ∧ r.take c = encG h v.toNat ∧ (first = false → 0 < v) := by
  induction g with
  | zero => intro h r first v c _ _ hd; simp [decG] at hd
  | succ g ih =>
    intro h r first v c hg hr hd
    cases r with
    | nil => simp [decG] at hd
    | cons x r =>
      have hx := hr x (by simp)
      have hp : (0 : Int) < 128 ^ g := Int.pow_pos (by omega)
      by_cases hs : x < 128
      · rw [decG_small hs] at hd
        split at hd
        · cases hd
        · rename_i hn
          obtain ⟨rfl, rfl⟩ := Prod.mk.inj (Option.some.inj hd)
          have e : encG h x.toNat = [x] := by
            cases h with
            | zero => simp only [encG]; rw [show ((x.toNat : Nat) : Int) = x by omega]
            | succ h => rw [encG, if_pos (by omega), show ((x.toNat : Nat) : Int) = x by omega]
          refine ⟨by simp, by omega, by omega, by rw [Int.pow_succ]; omega, by rw [e]; rfl, fun hf => ?_⟩
          rcases Int.lt_or_eq_of_le hx.1 with h0 | h0
          · exact h0
          · exact absurd ⟨h0.symm, hf⟩ hn
      · rw [decG_big hs] at hd
        cases hq : decG g r false with
        | none => rw [hq] at hd; cases hd
        | some p =>
          obtain ⟨v', c'⟩ := p
          rw [hq] at hd
          obtain ⟨rfl, rfl⟩ := Prod.mk.inj (Option.some.inj hd)
          obtain ⟨h, rfl⟩ : ∃ m, h = m + 1 := by
            refine ⟨h - 1, ?_⟩
            rcases Nat.eq_zero_or_pos h with h0 | h0
            · subst h0
              obtain rfl : g = 0 := by omega
              simp [decG] at hq
            · omega
          obtain ⟨a, b', c, d, e, f⟩ := ih h r false v' c' (by omega) (fun y hy => hr y (List.mem_cons_of_mem _ hy)) hq
          have f := f rfl
          refine ⟨by simp; omega, by omega, by omega, by rw [Int.pow_succ]; omega, ?_, fun _ => by omega⟩
          rw [List.take_succ_cons, e, encG, if_neg (by omega)]
          refine congr (congrArg List.cons (by omega)) (congrArg (encG h) (by omega))
theorem decN_facts {b : List Int} {a n next : Int} (h : decN b a = (n, next)) (hn : n ≠ -1) :
    bytesB b = true ∧ 0 ≤ a ∧ a < next ∧ next ≤ (b.length : Int) ∧ 0 ≤ n ∧ n ≤ 268435455 ∧ (b.take next.toNat).drop a.toNat = encN n := by
  unfold decN at h
  split at h
  · rename_i hc
    obtain ⟨hb, h0, h1⟩ := hc
    cases hd : decG 4 (b.drop a.toNat) true with
    | none => rw [hd] at h; exact absurd (Prod.mk.inj h).1.symm hn
    | some p =>
      obtain ⟨v, c⟩ := p
      rw [hd] at h
      obtain ⟨rfl, rfl⟩ := Prod.mk.inj h
      have hby := (bytesB_iff.mp hb).2
      obtain ⟨c1, c2, c3, c4, c5, _⟩ := decG_facts 4 4 _ true v c (by omega) (fun x hx => hby x (List.mem_of_mem_drop hx)) hd
      rw [List.length_drop] at c1
      refine ⟨hb, h0, by omega, by omega, c3, by omega, ?_⟩
      have e : (a + (c : Int)).toNat = a.toNat + c := by omega
      rw [e, List.drop_take, Nat.add_sub_cancel_left, c5]
      unfold encN
      rw [if_pos ⟨c3, by omega⟩]
  · exact absurd (Prod.mk.inj h).1.symm hn
theorem decN_none {b : List Int} {a n next : Int} (h : decN b a = (n, next)) (hn : n = -1) : next = -1 := by
  subst hn
  unfold decN at h
  split at h
  · rename_i hc
    cases hd : decG 4 (b.drop a.toNat) true with
    | none => rw [hd] at h; exact (Prod.mk.inj h).2.symm
    | some p =>
      obtain ⟨v, c⟩ := p
      rw [hd] at h
      have hby := (bytesB_iff.mp hc.1).2
      obtain ⟨_, _, c3, _⟩ := decG_facts 4 4 _ true v c (by omega) (fun x hx => hby x (List.mem_of_mem_drop hx)) hd
      have := (Prod.mk.inj h).1
      omega
  · exact (Prod.mk.inj h).2.symm
def decT (b : List Int) (a : Int) : ByteArray × Int :=
  let p := decN b a
  if p.1 < 0 ∨ 8 < p.1 ∨ (b.length : Int) - p.2 < p.1 then (⟨#[]⟩, -1) else (strOfNums ((b.drop p.2.toNat).take p.1.toNat), p.2 + p.1)
theorem decN_cases (b : List Int) (a : Int) : (decN b a = (-1, -1)) ∨ ∃ n next, decN b a = (n, next) ∧ n ≠ -1 := by
  generalize h : decN b a = p
  obtain ⟨n, next⟩ := p
  by_cases hn : n = -1
  · left
    rw [hn, decN_none h hn]
  · right
    exact ⟨n, next, rfl, hn⟩
theorem byte_mod {b : List Int} (hb : ∀ x ∈ b, 0 ≤ x ∧ x ≤ 255) : b.map (· % 256) = b :=
  (List.map_congr_left (g := id) fun x hx => by have := hb x hx; simp only [id]; omega).trans (List.map_id _)
theorem encT_eq {s : ByteArray} (h : s.size ≤ 8) : encT s = encN (s.size : Int) ++ bytesOf s := by unfold encT; rw [if_pos h]
theorem decT_facts {b : List Int} {a : Int} {s : ByteArray} {next : Int} (h : decT b a = (s, next)) :
    (next = -1 ∧ s = ⟨#[]⟩) ∨ (bytesB b = true ∧ 0 ≤ a ∧ a < next ∧ next ≤ (b.length : Int) ∧ s.size ≤ 8 ∧ (b.take next.toNat).drop a.toNat = encT s) := by
  unfold decT at h
  rcases decN_cases b a with hd | ⟨n, q, hd, hn⟩
  · rw [hd] at h
    simp only at h
    rw [if_pos (by omega)] at h
    obtain ⟨rfl, rfl⟩ := Prod.mk.inj h
    exact .inl ⟨rfl, rfl⟩
  · obtain ⟨f1, f2, f3, f4, f5, f6, f7⟩ := decN_facts hd hn
    rw [hd] at h
    simp only at h
    split at h
    · obtain ⟨rfl, rfl⟩ := Prod.mk.inj h
      exact .inl ⟨rfl, rfl⟩
    · obtain ⟨rfl, rfl⟩ := Prod.mk.inj h
      have hb := (bytesB_iff.mp f1).2
      have hs : (strOfNums ((b.drop q.toNat).take n.toNat)).size = n.toNat := by rw [strOfNums_size, List.length_take, List.length_drop]; omega
      refine .inr ⟨f1, f2, by omega, by omega, by omega, ?_⟩
      rw [encT_eq (by omega), hs, bytes_str (fun x hx => hb x (List.mem_of_mem_drop (List.mem_of_mem_take hx))), show ((n.toNat : Nat) : Int) = n by omega, ← f7]
      rw [show (q + n).toNat = q.toNat + n.toNat by omega, List.take_add, List.drop_append_of_le_length (by rw [List.length_take]; omega)]
abbrev EntT := Int × Int × Int × ByteArray × Int × Int
def entOk (e : EntT) : Bool := entB e.1 e.2.1 e.2.2.1 e.2.2.2.1 e.2.2.2.2.1 e.2.2.2.2.2
def zeroE : EntT := (0, 0, 0, ⟨#[]⟩, 0, 0)
def encE (e : EntT) : List Int :=
  if entOk e = true then encN e.1 ++ (encN e.2.1 ++ (encN e.2.2.1 ++ (encT e.2.2.2.1 ++ (encN e.2.2.2.2.1 ++ encN (e.2.2.2.2.2 + 1))))) else []
def decE (b : List Int) (a : Int) : EntT × Int :=
  let c := decN b a
  let s := decN b c.2
  let k := decN b s.2
  let t := decT b k.2
  let v := decN b t.2
  let o := decN b v.2
  if o.2 < 0 then (zeroE, -1) else if entOk (c.1, s.1, k.1, t.1, v.1, o.1 - 1) = true then ((c.1, s.1, k.1, t.1, v.1, o.1 - 1), o.2) else (zeroE, -1)
theorem entOk_facts {e : EntT} (h : entOk e = true) : 0 ≤ e.1 ∧ e.1 ≤ 3 ∧ 1 ≤ e.2.1 ∧ e.2.1 ≤ 999 ∧ 1 ≤ e.2.2.1 ∧ e.2.2.1 ≤ 5 ∧ e.2.2.2.1.size ≤ 4 ∧ 0 ≤ e.2.2.2.2.1 ∧ e.2.2.2.2.1 ≤ 999 ∧ -1 ≤ e.2.2.2.2.2 ∧ e.2.2.2.2.2 ≤ 999 := by
  obtain ⟨c, s, k, key, v, o⟩ := e
  simp only [entOk, entB, cmdB, Bool.and_eq_true, Bool.or_eq_true, decide_eq_true_eq] at h
  obtain ⟨h1, h2, h3, h4⟩ := h
  have hk : key.size ≤ 4 := by
    rcases h3 with h3 | h3
    · unfold keyB at h3
      simp only [Bool.and_eq_true, decide_eq_true_eq] at h3
      exact h3.1.2
    · omega
  have hv : (1 ≤ k ∧ k ≤ 5) ∧ 0 ≤ v ∧ v ≤ 999 ∧ -1 ≤ o ∧ o ≤ 999 := by
    split at h4
    · simp only [valB, Bool.and_eq_true, decide_eq_true_eq] at h4
      omega
    · split at h4
      · simp only [valB, Bool.and_eq_true, Bool.or_eq_true, decide_eq_true_eq] at h4
        omega
      · simp only [Bool.and_eq_true, decide_eq_true_eq] at h4
        omega
  exact ⟨h1.1, h1.2, h2.1, h2.2, hv.1.1, hv.1.2, hk, hv.2.1, hv.2.2.1, hv.2.2.2.1, hv.2.2.2.2⟩
theorem encE_length (e : EntT) : (encE e).length ≤ 38 := by
  unfold encE
  split
  · have h1 := encN_length e.1
    have h2 := encN_length e.2.1
    have h3 := encN_length e.2.2.1
    have h4 := encT_length e.2.2.2.1
    have h5 := encN_length e.2.2.2.2.1
    have h6 := encN_length (e.2.2.2.2.2 + 1)
    simp only [List.length_append]
    omega
  · simp
theorem encE_pos {e : EntT} (h : entOk e = true) : 1 ≤ (encE e).length := by
  have f := entOk_facts h
  unfold encE
  rw [if_pos h, List.length_append]
  have := encN_pos (n := e.1) (by omega) (by omega)
  omega
theorem decE_facts {b : List Int} {a : Int} {e : EntT} {next : Int} (h : decE b a = (e, next)) :
    (next = -1 ∧ e = zeroE) ∨ (bytesB b = true ∧ 0 ≤ a ∧ a < next ∧ next ≤ (b.length : Int) ∧ entOk e = true ∧ (b.take next.toNat).drop a.toNat = encE e) := by
  unfold decE at h
  generalize h1 : decN b a = c at h
  obtain ⟨c, p1⟩ := c
  simp only at h
  generalize h2 : decN b p1 = s at h
  obtain ⟨s, p2⟩ := s
  simp only at h
  generalize h3 : decN b p2 = k at h
  obtain ⟨k, p3⟩ := k
  simp only at h
  generalize h4 : decT b p3 = t at h
  obtain ⟨t, p4⟩ := t
  simp only at h
  generalize h5 : decN b p4 = v at h
  obtain ⟨v, p5⟩ := v
  simp only at h
  generalize h6 : decN b p5 = o at h
  obtain ⟨o, p6⟩ := o
  simp only at h
  split at h
  · obtain ⟨rfl, rfl⟩ := Prod.mk.inj h
    exact .inl ⟨rfl, rfl⟩
  · rename_i hp
    split at h
    · rename_i hok
      obtain ⟨rfl, rfl⟩ := Prod.mk.inj h
      right
      have n6 : o ≠ -1 := fun q => by have := decN_none h6 q; omega
      obtain ⟨hb, a6, b6, c6, _, _, f6⟩ := decN_facts h6 n6
      have n5 : v ≠ -1 := fun q => by have := decN_none h5 q; omega
      obtain ⟨_, a5, b5, c5, _, _, f5⟩ := decN_facts h5 n5
      rcases decT_facts h4 with ⟨q4, _⟩ | ⟨_, a4, b4, c4, _, f4⟩
      · omega
      · have n3 : k ≠ -1 := fun q => by have := decN_none h3 q; omega
        obtain ⟨_, a3, b3, c3, _, _, f3⟩ := decN_facts h3 n3
        have n2 : s ≠ -1 := fun q => by have := decN_none h2 q; omega
        obtain ⟨_, a2, b2, c2, _, _, f2⟩ := decN_facts h2 n2
        have n1 : c ≠ -1 := fun q => by have := decN_none h1 q; omega
        obtain ⟨_, a1, b1, c1, _, _, f1⟩ := decN_facts h1 n1
        refine ⟨hb, a1, by omega, c6, hok, ?_⟩
        have cut : ∀ x y z : Int, 0 ≤ x → x ≤ y → y ≤ z → z ≤ (b.length : Int) → (b.take z.toNat).drop x.toNat = (b.take y.toNat).drop x.toNat ++ (b.take z.toNat).drop y.toNat := by
          intro x y z hx hxy hyz hz
          rw [show z.toNat = y.toNat + (z.toNat - y.toNat) by omega, List.take_add, List.drop_append_of_le_length (by rw [List.length_take]; omega), List.drop_left' (by rw [List.length_take]; omega)]
        unfold encE
        rw [if_pos hok]
        simp only
        rw [show o - 1 + 1 = o by omega, ← f1, ← f2, ← f3, ← f4, ← f5, ← f6]
        rw [cut a p1 p6 a1 (by omega) (by omega) c6, cut p1 p2 p6 (by omega) (by omega) (by omega) c6, cut p2 p3 p6 (by omega) (by omega) (by omega) c6, cut p3 p4 p6 (by omega) (by omega) (by omega) c6, cut p4 p5 p6 (by omega) (by omega) (by omega) c6]
    · obtain ⟨rfl, rfl⟩ := Prod.mk.inj h
      exact .inl ⟨rfl, rfl⟩
theorem implLetters (n : Nat) : ∀ s : ByteArray, s.size = n → Evn fun k => impl_lettersOnly.f k s = some ((bytesOf s).all lowB) := by
  induction n with
  | zero =>
    intro s hs
    refine Evn.succ (Evn.all fun k => ?_)
    simp only [impl_lettersOnly.f]
    rw [if_pos ((nil_iff s).mpr hs), List.eq_nil_of_length_eq_zero (l := bytesOf s) (by rw [bytesOf_length]; exact hs)]
    rfl
  | succ n ih =>
    intro s hs
    have hx := bt_drop' (s := s) (j := 0) (by omega)
    rw [List.drop_zero] at hx
    refine Evn.succ (Evn.mp (ih (s.extract 1 s.size) (by rw [ByteArray.size_extract]; omega)) (Evn.all fun k e => ?_))
    simp only [impl_lettersOnly.f]
    rw [if_neg (fun h => by have := (nil_iff s).mp h; omega), if_pos (by omega), e, bytesOf_tail, hx]
    simp only [Option.bind_some, List.all_cons, Nat.zero_add]
    unfold lowB
    rw [if_pos (show (1 : Int) ≤ (s.size : Int) by omega)]
    simp only [Int.ofNat_zero]
    by_cases h1 : bt s 0 ≥ 97
    · rw [if_pos h1]
      by_cases h2 : bt s 0 ≤ 122
      · rw [if_pos h2]
        have : (97 : Int) ≤ bt s 0 := h1
        simp [this, h2]
      · rw [if_neg h2]
        simp [h2]
    · rw [if_neg h1]
      have : ¬ (97 : Int) ≤ bt s 0 := h1
      simp [this]
theorem implKey (s : ByteArray) : Evn fun k => impl_KeyValid.f k s = some (keyB s) := by
  refine Evn.mp (implLetters s.size s rfl) (Evn.all fun k e => ?_)
  unfold impl_KeyValid.f keyB
  by_cases h1 : s.size < 1
  · rw [if_pos (by omega)]
    have : ¬ 1 ≤ s.size := by omega
    simp [this]
  · rw [if_neg (by omega)]
    have a1 : 1 ≤ s.size := by omega
    by_cases h2 : s.size > 4
    · rw [if_pos (by omega)]
      have : ¬ s.size ≤ 4 := by omega
      simp [this]
    · rw [if_neg (by omega), e]
      have a2 : s.size ≤ 4 := by omega
      simp [a1, a2]
theorem implCmd (kind : Int) (key : ByteArray) (value old : Int) : Evn fun k => impl_CommandValid.f k kind key value old = some (cmdB kind key value old) := by
  refine Evn.mp (implKey key) (Evn.all fun k e => ?_)
  unfold impl_CommandValid.f cmdB
  rw [e, nil_dec]
  rfl
theorem implSeq (x : Int) : impl_seqValid.f x = some (decide (1 ≤ x ∧ x ≤ 999)) := by
  unfold impl_seqValid.f
  by_cases h : x ≥ 1
  · rw [if_pos h]
    exact congrArg some (decide_eq_decide.mpr (by omega))
  · rw [if_neg h, decide_eq_false (by omega)]
theorem implEnt (client seq kind : Int) (key : ByteArray) (value old : Int) : Evn fun k => impl_EntryValid.f k client seq kind key value old = some (entB client seq kind key value old) := by
  refine Evn.mp (implCmd kind key value old) (Evn.all fun k e => ?_)
  unfold impl_EntryValid.f entB
  rw [implSeq]
  by_cases h1 : client ≥ 0
  · rw [if_pos h1]
    by_cases h2 : client < 4
    · rw [if_pos h2, decide_eq_true (show 0 ≤ client ∧ client ≤ 3 by omega)]
      by_cases h3 : 1 ≤ seq ∧ seq ≤ 999
      · rw [decide_eq_true h3]
        simp [e]
      · rw [decide_eq_false h3]
        simp
    · rw [if_neg h2, decide_eq_false (show ¬ (0 ≤ client ∧ client ≤ 3) by omega)]
      rfl
  · rw [if_neg h1, decide_eq_false (show ¬ (0 ≤ client ∧ client ≤ 3) by omega)]
    rfl
theorem implEnc_loop (g : Nat) : ∀ (n : Nat) (acc : List Int), n < 128 ^ (g + 1) → n ≤ 268435455 → acc.length + g ≤ 1099511627776 →
    Evn fun k => impl_EncodeNumber.l0 k (n : Int) acc = some (acc ++ encG g n) := by
  induction g with
  | zero =>
    intro n acc hn _ ha
    refine Evn.succ (Evn.all fun k => ?_)
    simp only [impl_EncodeNumber.l0]
    rw [if_neg (by omega), if_pos (by omega)]
    rfl
  | succ g ih =>
    intro n acc hn hm ha
    by_cases h : n < 128
    · refine Evn.succ (Evn.all fun k => ?_)
      simp only [impl_EncodeNumber.l0]
      rw [if_neg (by omega), if_pos (by omega)]
      simp [encG, h]
    · have hlt : n / 128 < 128 ^ (g + 1) := by rw [Nat.pow_succ, Nat.mul_comm] at hn; exact Nat.div_lt_of_lt_mul hn
      refine Evn.succ (Evn.mp (ih (n / 128) (acc ++ [((n % 128 : Nat) : Int) + 128]) hlt (by omega) (by rw [List.length_append]; simp only [List.length_cons, List.length_nil]; omega)) (Evn.all fun k e => ?_))
      simp only [impl_EncodeNumber.l0]
      rw [if_pos (by omega), if_pos (by omega), Int.tdiv_eq_ediv_of_nonneg (by omega), Int.tmod_eq_emod_of_nonneg (by omega), w64 (by omega) (by omega), w64 (by omega) (by omega)]
      rw [show (n : Int) / 128 = ((n / 128 : Nat) : Int) by omega, show (n : Int) % 128 + 128 = ((n % 128 : Nat) : Int) + 128 by omega, e]
      simp [encG, h]
theorem implEnc (n : Int) : Evn fun k => impl_EncodeNumber.f k n = some (encN n) := by
  unfold encN
  by_cases h0 : n < 0
  · refine Evn.succ (Evn.all fun k => ?_)
    unfold impl_EncodeNumber.f
    rw [if_pos h0, if_neg (by omega)]
    simp [impl_EncodeNumber.j0]
  · by_cases h : n ≤ 268435455
    · refine Evn.succ (Evn.mp (implEnc_loop 4 n.toNat [] (by omega) (by omega) (by simp)) (Evn.all fun k e => ?_))
      unfold impl_EncodeNumber.f
      rw [show ((n.toNat : Nat) : Int) = n by omega] at e
      rw [if_neg h0, if_pos (by omega), decide_eq_false (by omega)]
      simpa [impl_EncodeNumber.j0] using e
    · refine Evn.succ (Evn.all fun k => ?_)
      unfold impl_EncodeNumber.f
      rw [if_neg h0, if_neg (by omega), decide_eq_true (by omega)]
      simp [impl_EncodeNumber.j0]
theorem implEncT_loop (s : ByteArray) (hs : s.size ≤ 8) (d : Nat) : ∀ (j : Nat) (acc : List Int), j + d = s.size → acc.length + d ≤ 1000 →
    Evn fun k => impl_EncodeText.l0 k s acc (j : Int) = some (acc ++ (bytesOf s).drop j) := by
  induction d with
  | zero =>
    intro j acc hj ha
    refine Evn.succ (Evn.all fun k => ?_)
    simp only [impl_EncodeText.l0]
    rw [if_neg (by omega), List.drop_of_length_le (by rw [bytesOf_length]; omega), List.append_nil]
  | succ d ih =>
    intro j acc hj ha
    have hr := bt_range s (j : Int)
    refine Evn.succ (Evn.mp (ih (j + 1) (acc ++ [bt s (j : Int)]) (by omega) (by rw [List.length_append]; simp only [List.length_cons, List.length_nil]; omega)) (Evn.all fun k e => ?_))
    simp only [impl_EncodeText.l0]
    rw [if_pos (by omega), if_pos (by omega), if_pos (by omega), w64 (x := bt s (j : Int)) (by omega) (by omega), w64 (x := (j : Int) + 1) (by omega) (by omega), bt_drop (show j < s.size by omega)]
    rw [show ((j : Int) + 1) = ((j + 1 : Nat) : Int) by omega, e]
    simp
theorem implEncT (s : ByteArray) : Evn fun k => impl_EncodeText.f k s = some (encT s) := by
  unfold encT
  by_cases h : s.size ≤ 8
  · have hl := encN_length (s.size : Int)
    refine Evn.mp (implEnc (s.size : Int)) (Evn.mp (implEncT_loop s h s.size 0 (encN (s.size : Int)) (by omega) (by omega)) (Evn.all fun k e1 e2 => ?_))
    unfold impl_EncodeText.f
    rw [if_neg (by omega), if_pos h, e2]
    simpa using e1
  · refine Evn.all fun k => ?_
    unfold impl_EncodeText.f
    rw [if_pos (by omega), if_neg h]
theorem implEncE (e : EntT) : Evn fun k => impl_EncodeEntry.f k e.1 e.2.1 e.2.2.1 e.2.2.2.1 e.2.2.2.2.1 e.2.2.2.2.2 = some (encE e) := by
  obtain ⟨c, s, kd, key, v, o⟩ := e
  dsimp only
  by_cases h : entOk (c, s, kd, key, v, o) = true
  · have f := entOk_facts h
    simp only at f
    have h1 := encN_length c
    have h2 := encN_length s
    have h3 := encN_length kd
    have h4 := encT_length key
    have h5 := encN_length v
    have h6 := encN_length (o + 1)
    refine Evn.mp (implEnt c s kd key v o) (Evn.mp (implEnc c) (Evn.mp (implEnc s) (Evn.mp (implEnc kd) (Evn.mp (implEncT key) (Evn.mp (implEnc v) (Evn.mp (implEnc (o + 1)) (Evn.all fun k e7 e6 e5 e4 e3 e2 e1 => ?_)))))))
    have hb : entB c s kd key v o = true := h
    unfold impl_EncodeEntry.f encE
    rw [if_pos h, e1, hb]
    simp only [Option.bind_some, if_true]
    rw [w64 (by omega) (by omega)]
    simp only [e2, e3, e4, e5, e6, e7, Option.bind_some]
    rw [if_pos (by omega), if_pos (by simp only [List.length_append]; omega), if_pos (by simp only [List.length_append]; omega), if_pos (by simp only [List.length_append]; omega), if_pos (by simp only [List.length_append]; omega)]
    simp only [List.append_assoc]
  · refine Evn.mp (implEnt c s kd key v o) (Evn.all fun k e1 => ?_)
    have hb : entB c s kd key v o = false := Bool.eq_false_iff.mpr h
    unfold impl_EncodeEntry.f encE
    rw [if_neg h, e1, hb]
    simp
theorem l1In (a b c : Int) : spec_l1In.f a b c = some (decide (b ≤ a ∧ a ≤ c)) := by
  unfold spec_l1In.f
  by_cases h : a ≥ b
  · rw [if_pos h]
    simp [h]
  · rw [if_neg h]
    simp [h]
theorem specKey_loop (s : ByteArray) (hs : s.size ≤ 4) (d : Nat) : ∀ j : Nat, j + d = s.size → Evn fun k => spec_KeyValid.l0 k s (j : Int) = some (((bytesOf s).drop j).all lowB) := by
  induction d with
  | zero =>
    intro j hj
    refine Evn.succ (Evn.all fun k => ?_)
    simp only [spec_KeyValid.l0]
    rw [if_neg (by omega), List.drop_of_length_le (by rw [bytesOf_length]; omega)]
    rfl
  | succ d ih =>
    intro j hj
    refine Evn.succ (Evn.mp (ih (j + 1) (by omega)) (Evn.all fun k e => ?_))
    simp only [spec_KeyValid.l0]
    rw [if_pos (by omega), if_pos (by omega), w64 (by omega) (by omega), bt_drop' (show j < s.size by omega), show ((j : Int) + 1) = ((j + 1 : Nat) : Int) by omega, e]
    unfold lowB
    by_cases h1 : bt s (j : Int) < 97
    · rw [if_pos h1]
      have : ¬ (97 : Int) ≤ bt s (j : Int) := by omega
      simp [this]
    · rw [if_neg h1]
      have a1 : (97 : Int) ≤ bt s (j : Int) := by omega
      by_cases h2 : bt s (j : Int) > 122
      · rw [if_pos h2]
        have : ¬ bt s (j : Int) ≤ 122 := by omega
        simp [this]
      · rw [if_neg h2]
        have : bt s (j : Int) ≤ 122 := by omega
        simp [a1, this]
theorem specKey (s : ByteArray) : Evn fun k => spec_KeyValid.f k s = some (keyB s) := by
  unfold keyB
  by_cases h : 1 ≤ s.size ∧ s.size ≤ 4
  · refine Evn.mp (specKey_loop s h.2 s.size 0 (by omega)) (Evn.all fun k e => ?_)
    unfold spec_KeyValid.f
    rw [l1In, decide_eq_true (by omega)]
    simp only [Option.bind_some, if_true]
    refine Eq.trans e ?_
    simp [h.1, h.2]
  · refine Evn.all fun k => ?_
    unfold spec_KeyValid.f
    rw [l1In, decide_eq_false (by omega)]
    simp only [Option.bind_some]
    rw [if_neg (by simp)]
    by_cases h1 : 1 ≤ s.size
    · have : ¬ s.size ≤ 4 := fun h2 => h ⟨h1, h2⟩
      simp [this]
    · simp [h1]
theorem specCmd (kind : Int) (key : ByteArray) (value old : Int) : Evn fun k => spec_CommandValid.f k kind key value old = some (cmdB kind key value old) := by
  refine Evn.mp (specKey key) (Evn.all fun k e => ?_)
  unfold spec_CommandValid.f cmdB
  rw [e, nil_dec]
  simp only [Option.bind_some, Option.some.injEq]
  refine congrArg _ ?_
  unfold spec_CommandValid.rest valB
  by_cases h1 : kind = 1 ∨ kind = 3 ∨ kind = 5
  · rw [if_pos h1, if_neg (by omega), if_neg (by omega), decide_eq_true (show 1 ≤ kind ∧ kind ≤ 5 by omega), Bool.true_and]
  · rw [if_neg h1]
    by_cases h2 : kind = 2
    · rw [if_pos h2, if_pos h2]
    · rw [if_neg h2, if_neg h2]
      by_cases h4 : kind = 4
      · rw [if_pos h4, if_pos h4]
        refine congrArg _ ?_
        rw [← Bool.decide_or]
        exact decide_eq_decide.mpr (by omega)
      · rw [if_neg h4, if_neg h4, decide_eq_false (by omega), Bool.false_and]
theorem specEnt (client seq kind : Int) (key : ByteArray) (value old : Int) : Evn fun k => spec_EntryValid.f k client seq kind key value old = some (entB client seq kind key value old) := by
  refine Evn.mp (specCmd kind key value old) (Evn.all fun k e => ?_)
  unfold spec_EntryValid.f entB
  rw [l1In, l1In]
  by_cases h1 : 0 ≤ client ∧ client ≤ 3
  · rw [decide_eq_true h1]
    simp only [Option.bind_some, if_true]
    by_cases h2 : 1 ≤ seq ∧ seq ≤ 999
    · rw [decide_eq_true h2]
      simp [e]
    · rw [decide_eq_false h2]
      simp
  · rw [decide_eq_false h1]
    simp
theorem specEnc_loop (g : Nat) : ∀ (n : Nat) (acc : List Int), n < 128 ^ (g + 1) → n ≤ 268435455 → acc.length + g ≤ 1099511627776 →
    Evn fun k => spec_EncodeNumber.l0 k (n : Int) acc = some (acc ++ encG g n) := by
  induction g with
  | zero =>
    intro n acc hn _ ha
    refine Evn.succ (Evn.all fun k => ?_)
    simp only [spec_EncodeNumber.l0]
    rw [if_neg (by omega), if_pos (by omega)]
    rfl
  | succ g ih =>
    intro n acc hn hm ha
    by_cases h : n < 128
    · refine Evn.succ (Evn.all fun k => ?_)
      simp only [spec_EncodeNumber.l0]
      rw [if_neg (by omega), if_pos (by omega)]
      simp [encG, h]
    · have hlt : n / 128 < 128 ^ (g + 1) := by rw [Nat.pow_succ, Nat.mul_comm] at hn; exact Nat.div_lt_of_lt_mul hn
      refine Evn.succ (Evn.mp (ih (n / 128) (acc ++ [((n % 128 : Nat) : Int) + 128]) hlt (by omega) (by rw [List.length_append]; simp only [List.length_cons, List.length_nil]; omega)) (Evn.all fun k e => ?_))
      simp only [spec_EncodeNumber.l0]
      rw [if_pos (by omega), if_pos (by omega), Int.tdiv_eq_ediv_of_nonneg (by omega), Int.tmod_eq_emod_of_nonneg (by omega), w64 (by omega) (by omega), w64 (by omega) (by omega)]
      rw [show (n : Int) / 128 = ((n / 128 : Nat) : Int) by omega, show 128 + (n : Int) % 128 = ((n % 128 : Nat) : Int) + 128 by omega, e]
      simp [encG, h]
theorem specEnc (n : Int) : Evn fun k => spec_EncodeNumber.f k n = some (encN n) := by
  unfold encN
  by_cases h : 0 ≤ n ∧ n ≤ 268435455
  · refine Evn.mp (specEnc_loop 4 n.toNat [] (by omega) (by omega) (by simp)) (Evn.all fun k e => ?_)
    unfold spec_EncodeNumber.f
    rw [show ((n.toNat : Nat) : Int) = n by omega] at e
    simpa [l1In, h] using e
  · refine Evn.all fun k => ?_
    unfold spec_EncodeNumber.f
    simp [l1In, h]
theorem specEncT_loop (s : ByteArray) (hs : s.size ≤ 8) (d : Nat) : ∀ (j : Nat) (acc : List Int), j + d = s.size → acc.length + d ≤ 1000 →
    Evn fun k => spec_EncodeText.l0 k s acc (j : Int) = some (acc ++ (bytesOf s).drop j) := by
  induction d with
  | zero =>
    intro j acc hj ha
    refine Evn.succ (Evn.all fun k => ?_)
    simp only [spec_EncodeText.l0]
    rw [if_neg (by omega), List.drop_of_length_le (by rw [bytesOf_length]; omega), List.append_nil]
  | succ d ih =>
    intro j acc hj ha
    have hr := bt_range s (j : Int)
    refine Evn.succ (Evn.mp (ih (j + 1) (acc ++ [bt s (j : Int)]) (by omega) (by rw [List.length_append]; simp only [List.length_cons, List.length_nil]; omega)) (Evn.all fun k e => ?_))
    simp only [spec_EncodeText.l0]
    rw [if_pos (by omega), if_pos (by omega), if_pos (by omega), w64 (x := bt s (j : Int)) (by omega) (by omega), w64 (x := (j : Int) + 1) (by omega) (by omega), bt_drop (show j < s.size by omega)]
    rw [show ((j : Int) + 1) = ((j + 1 : Nat) : Int) by omega, e]
    simp
theorem specEncT (s : ByteArray) : Evn fun k => spec_EncodeText.f k s = some (encT s) := by
  unfold encT
  by_cases h : s.size ≤ 8
  · have hl := encN_length (s.size : Int)
    refine Evn.mp (specEnc (s.size : Int)) (Evn.mp (specEncT_loop s h s.size 0 (encN (s.size : Int)) (by omega) (by omega)) (Evn.all fun k e1 e2 => ?_))
    unfold spec_EncodeText.f
    rw [if_neg (by omega), if_pos h, e2]
    simpa using e1
  · refine Evn.all fun k => ?_
    unfold spec_EncodeText.f
    rw [if_pos (by omega), if_neg h]
theorem specEncE (e : EntT) : Evn fun k => spec_EncodeEntry.f k e.1 e.2.1 e.2.2.1 e.2.2.2.1 e.2.2.2.2.1 e.2.2.2.2.2 = some (encE e) := by
  obtain ⟨c, s, kd, key, v, o⟩ := e
  dsimp only
  by_cases h : entOk (c, s, kd, key, v, o) = true
  · have f := entOk_facts h
    simp only at f
    have h1 := encN_length c
    have h2 := encN_length s
    have h3 := encN_length kd
    have h4 := encT_length key
    have h5 := encN_length v
    have h6 := encN_length (o + 1)
    refine Evn.mp (specEnt c s kd key v o) (Evn.mp (specEnc c) (Evn.mp (specEnc s) (Evn.mp (specEnc kd) (Evn.mp (specEncT key) (Evn.mp (specEnc v) (Evn.mp (specEnc (o + 1)) (Evn.all fun k e7 e6 e5 e4 e3 e2 e1 => ?_)))))))
    have hb : entB c s kd key v o = true := h
    unfold spec_EncodeEntry.f encE
    rw [if_pos h, e1, hb]
    simp only [Option.bind_some, if_true]
    rw [w64 (by omega) (by omega)]
    simp only [e2, e3, e4, e5, e6, e7, Option.bind_some]
    rw [if_pos (by omega), if_pos (by simp only [List.length_append]; omega), if_pos (by simp only [List.length_append]; omega), if_pos (by simp only [List.length_append]; omega), if_pos (by simp only [List.length_append]; omega)]
    simp only [List.append_assoc]
  · refine Evn.mp (specEnt c s kd key v o) (Evn.all fun k e1 => ?_)
    have hb : entB c s kd key v o = false := Bool.eq_false_iff.mpr h
    unfold spec_EncodeEntry.f encE
    rw [if_neg h, e1, hb]
    simp
theorem implBytes_loop (xs : List Int) (hn : xs.length ≤ 2000) (d : Nat) : ∀ (j : Nat), j + d = xs.length →
    Evn fun k => impl_BytesValid.l0 k xs (xs.length : Int) (j : Int) = some ((xs.drop j).all byteB) := by
  induction d with
  | zero =>
    intro j hj
    refine Evn.succ (Evn.all fun k => ?_)
    simp only [impl_BytesValid.l0]
    rw [if_neg (by omega), List.drop_of_length_le (by omega)]
    rfl
  | succ d ih =>
    intro j hj
    have hlt : j < xs.length := by omega
    refine Evn.succ (Evn.mp (ih (j + 1) (by omega)) (Evn.all fun k e => ?_))
    simp only [impl_BytesValid.l0]
    rw [if_pos (by omega), if_pos (by omega), if_pos (by omega), w64 (by omega) (by omega), rd_drop hlt]
    rw [show ((j : Int) + 1) = ((j + 1 : Nat) : Int) by omega, e]
    unfold byteB
    by_cases h : rd xs (j : Int) < 0
    · rw [if_pos h]
      have : ¬ (0 ≤ rd xs (j : Int)) := by omega
      simp [this]
    · rw [if_neg h]
      have h0 : 0 ≤ rd xs (j : Int) := by omega
      by_cases h2 : rd xs (j : Int) > 255
      · rw [if_pos h2]
        have : ¬ (rd xs (j : Int) ≤ 255) := by omega
        simp [this]
      · rw [if_neg h2]
        have : rd xs (j : Int) ≤ 255 := by omega
        simp [h0, this]
theorem implBytes (xs : List Int) : Evn fun k => impl_BytesValid.f k xs = some (bytesB xs) := by
  by_cases hn : xs.length ≤ 2000
  · refine Evn.mp (implBytes_loop xs hn xs.length 0 (by omega)) (Evn.all fun k e => ?_)
    unfold impl_BytesValid.f bytesB
    rw [if_neg (by omega)]
    simpa [hn] using e
  · refine Evn.all fun k => ?_
    unfold impl_BytesValid.f bytesB
    rw [if_pos (by omega)]
    simp [hn]
theorem implDec_loop (b : List Int) (hb : bytesB b = true) (a : Int) (g : Nat) :
    ∀ (j : Nat) (n u : Int), weigh g u → (j : Int) + (g : Int) = a + 4 → 0 ≤ n → n < u → j ≤ b.length →
    Evn fun k => impl_DecodeNumber.l0 k b a n u (j : Int) = some (decAll n u (j : Int) (decG g (b.drop j) (decide ((j : Int) = a)))) := by
  have hlen := bytesB_length hb
  induction g with
  | zero =>
    intro j n u hu hj _ _ hjb
    refine Evn.succ (Evn.succ (Evn.all fun k => ?_))
    simp only [impl_DecodeNumber.l0]
    rw [decide_eq_false (by unfold weigh at hu; omega)]
    have e : impl_DecodeNumber.j2 (k + 1) b a n u (j : Int) false = some (-1, -1) := by simp only [impl_DecodeNumber.j2]; rw [if_neg (by simp)]
    split <;> exact e
  | succ g ih =>
    intro j n u hu hj hn hnu hjb
    by_cases hlt : j < b.length
    · have hr := bytesB_range hb hlt
      have hx := rd_drop hlt
      generalize hxx : rd b (j : Int) = x at hr hx
      have hu2 : weigh g (u * 128) := by unfold weigh at hu ⊢; omega
      have hg : g ≤ 3 := by unfold weigh at hu; omega
      have hub : 1 ≤ u ∧ u ≤ 2097152 := by unfold weigh at hu; omega
      have hm : 0 ≤ x % 128 ∧ x % 128 ≤ 127 := by omega
      have hmul : 0 ≤ u * (x % 128) ∧ u * (x % 128) ≤ u * 127 := ⟨Int.mul_nonneg (by omega) (by omega), Int.mul_le_mul_of_nonneg_left hm.2 (by omega)⟩
      refine Evn.succ (Evn.succ (Evn.mp (ih (j + 1) (n + u * (x % 128)) (u * 128) hu2 (by omega) (by omega) (by omega) (by omega)) (Evn.all fun k e => ?_)))
      simp only [impl_DecodeNumber.l0]
      rw [if_pos (by omega), decide_eq_true (by omega)]
      simp only [impl_DecodeNumber.j2, if_true]
      rw [if_pos (by omega), if_pos (by omega), hxx, hx, Int.tmod_eq_emod_of_nonneg (by omega), Int.mul_comm (x % 128) u, w64 (x := u * (x % 128)) (by omega) (by omega), w64 (x := n + u * (x % 128)) (by omega) (by omega), w64 (x := (j : Int) + 1) (by omega) (by omega), w64 (x := u * 128) (by omega) (by omega)]
      by_cases hs : x < 128
      · rw [if_neg (by omega)]
        have hxm : x % 128 = x := by omega
        rw [decG_small hs, hxm]
        by_cases hz : x = 0
        · rw [if_pos hz]
          by_cases hja : (j : Int) = a
          · rw [if_neg (by omega), decide_eq_true hja]
            simp [decAll]
          · rw [if_pos (by omega), decide_eq_false hja]
            simp [hz, decAll]
        · rw [if_neg hz]
          simp [hz, decAll]
      · rw [if_pos (by omega)]
        have ej : ((j : Int) + 1) = ((j + 1 : Nat) : Int) := by omega
        have step := decAll_step n u x j (decG g (b.drop (j + 1)) false)
        rw [ej, e, decide_eq_false (by omega), ← ej, step]
        rw [decG_big hs]
    · refine Evn.succ (Evn.succ (Evn.all fun k => ?_))
      simp only [impl_DecodeNumber.l0]
      rw [if_neg (by omega), List.drop_of_length_le (by omega)]
      simp [impl_DecodeNumber.j2, decG, decAll]
theorem implDec (b : List Int) (a : Int) : Evn fun k => impl_DecodeNumber.f k b a = some (decN b a) := by
  by_cases hb : bytesB b = true
  · have hlen := bytesB_length hb
    by_cases ha : 0 ≤ a ∧ a < (b.length : Int)
    · obtain ⟨j, rfl⟩ : ∃ j : Nat, a = (j : Int) := ⟨a.toNat, by omega⟩
      refine Evn.mp (implBytes b) (Evn.succ (Evn.mp (implDec_loop b hb (j : Int) 4 j 0 1 (.inl ⟨rfl, rfl⟩) (by omega) (by omega) (by omega) (by omega)) (Evn.all fun k e1 e2 => ?_)))
      unfold impl_DecodeNumber.f decN
      rw [e2, hb]
      simp only [Option.bind_some, if_true]
      rw [if_neg (by omega), decide_eq_false (by omega)]
      simp only [impl_DecodeNumber.j0]
      rw [if_neg (by simp), e1, if_pos ⟨trivial, ha⟩, decide_eq_true rfl]
      simp only [Int.toNat_natCast]
      cases decG 4 (b.drop j) true with
      | none => rfl
      | some p => obtain ⟨v, c⟩ := p; simp [decAll, decTail]
    · refine Evn.mp (implBytes b) (Evn.succ (Evn.all fun k e2 => ?_))
      rw [decN_bad fun _ => ha]
      unfold impl_DecodeNumber.f
      rw [e2, hb]
      simp only [Option.bind_some, if_true]
      by_cases h0 : a < 0
      · rw [if_pos h0]
        simp [impl_DecodeNumber.j0]
      · rw [if_neg h0, decide_eq_true (by omega)]
        simp [impl_DecodeNumber.j0]
  · refine Evn.mp (implBytes b) (Evn.succ (Evn.all fun k e2 => ?_))
    rw [decN_bad fun h => absurd h hb]
    unfold impl_DecodeNumber.f
    rw [e2]
    simp [hb, impl_DecodeNumber.j0]
theorem implDecT (b : List Int) (a : Int) : Evn fun k => impl_DecodeText.f k b a = some (decT b a) := by
  refine Evn.mp (implDec b a) (Evn.all fun k e => ?_)
  unfold impl_DecodeText.f decT
  rw [e]
  simp only [Option.bind_some]
  rcases decN_cases b a with h | ⟨n, s, h, hn⟩
  · rw [h]
    simp only
    rw [if_pos (by unfold impl_DecodeText.bad; omega), if_pos (by omega)]
  · rw [h]
    obtain ⟨f1, f2, f3, f4, f5, f6, _⟩ := decN_facts h hn
    have hl := bytesB_length f1
    simp only
    have hw : wrap64 ((b.length : Int) - s) = (b.length : Int) - s := w64 (by omega) (by omega)
    by_cases hc : n < 0 ∨ 8 < n ∨ (b.length : Int) - s < n
    · rw [if_pos (by unfold impl_DecodeText.bad; rw [hw]; exact hc), if_pos hc]
    · rw [if_neg (by unfold impl_DecodeText.bad; rw [hw]; exact hc), if_neg hc, if_pos (by unfold impl_DecodeText.good; omega)]
      unfold impl_DecodeText.cut
      rw [byte_mod fun x hx => (bytesB_iff.mp f1).2 x (List.mem_of_mem_drop (List.mem_of_mem_take hx))]
theorem implDecE (b : List Int) (a : Int) : Evn fun k => impl_DecodeEntry.f k b a = some ((decE b a).1.1, (decE b a).1.2.1, (decE b a).1.2.2.1, (decE b a).1.2.2.2.1, (decE b a).1.2.2.2.2.1, (decE b a).1.2.2.2.2.2, (decE b a).2) := by
  cases hb : bytesB b with
  | false =>
    have hn : ∀ a, decN b a = (-1, -1) := fun a => decN_bad fun h => by rw [hb] at h; cases h
    have hd : decE b a = (zeroE, -1) := by
      unfold decE
      simp only [hn]
      rw [if_pos (by omega)]
    refine Evn.mp (implBytes b) (Evn.all fun k e => ?_)
    unfold impl_DecodeEntry.f
    rw [e, hb, hd]
    rfl
  | true =>
    unfold decE
    generalize h1 : decN b a = c
    obtain ⟨c, p1⟩ := c
    simp only
    generalize h2 : decN b p1 = s
    obtain ⟨s, p2⟩ := s
    simp only
    generalize h3 : decN b p2 = kd
    obtain ⟨kd, p3⟩ := kd
    simp only
    generalize h4 : decT b p3 = t
    obtain ⟨t, p4⟩ := t
    simp only
    generalize h5 : decN b p4 = v
    obtain ⟨v, p5⟩ := v
    simp only
    generalize h6 : decN b p5 = o
    obtain ⟨o, p6⟩ := o
    simp only
    have ho : -1 ≤ o ∧ o ≤ 268435455 := by
      by_cases q : o = -1
      · omega
      · have := decN_facts h6 q
        omega
    refine Evn.mp (implBytes b) (Evn.mp (implDec b a) (Evn.mp (implDec b p1) (Evn.mp (implDec b p2) (Evn.mp (implDecT b p3) (Evn.mp (implDec b p4) (Evn.mp (implDec b p5) (Evn.mp (implEnt c s kd t v (o - 1)) (Evn.all fun k e8 e7 e6 e5 e4 e3 e2 e1 => ?_))))))))
    rw [h1] at e2
    rw [h2] at e3
    rw [h3] at e4
    rw [h4] at e5
    rw [h5] at e6
    rw [h6] at e7
    unfold impl_DecodeEntry.f
    rw [e1, hb]
    simp only [Option.bind_some, if_true]
    rw [e2]
    simp only [Option.bind_some]
    rw [e3]
    simp only [Option.bind_some]
    rw [e4]
    simp only [Option.bind_some]
    rw [e5]
    simp only [Option.bind_some]
    rw [e6]
    simp only [Option.bind_some]
    rw [e7]
    simp only [Option.bind_some]
    unfold impl_DecodeEntry.judge
    by_cases hp : p6 < 0
    · rw [if_pos hp, if_pos hp]
      rfl
    · rw [if_neg hp, if_neg hp, w64 (by omega) (by omega), e8]
      simp only [Option.bind_some]
      by_cases hq : entB c s kd t v (o - 1) = true
      · rw [if_pos hq, if_pos (show entOk (c, s, kd, t, v, o - 1) = true from hq)]
      · rw [if_neg hq, if_neg (show ¬ entOk (c, s, kd, t, v, o - 1) = true from hq)]
        rfl
theorem specBytes_loop (xs : List Int) (hn : xs.length ≤ 2000) (d : Nat) : ∀ (j : Nat), j + d = xs.length →
    Evn fun k => spec_BytesValid.l0 k xs (j : Int) = some ((xs.drop j).all byteB) := by
  induction d with
  | zero =>
    intro j hj
    refine Evn.succ (Evn.all fun k => ?_)
    simp only [spec_BytesValid.l0]
    rw [if_neg (by omega), List.drop_of_length_le (by omega)]
    rfl
  | succ d ih =>
    intro j hj
    have hlt : j < xs.length := by omega
    refine Evn.succ (Evn.mp (ih (j + 1) (by omega)) (Evn.all fun k e => ?_))
    simp only [spec_BytesValid.l0]
    rw [if_pos (by omega), if_pos (by omega), w64 (by omega) (by omega), rd_drop hlt]
    rw [show ((j : Int) + 1) = ((j + 1 : Nat) : Int) by omega, e]
    unfold spec_l1In.f byteB
    by_cases h : rd xs (j : Int) ≥ 0
    · rw [if_pos h]
      by_cases h2 : rd xs (j : Int) ≤ 255 <;> simp [h, h2]
    · rw [if_neg h]
      simp [h]
theorem specBytes (xs : List Int) : Evn fun k => spec_BytesValid.f k xs = some (bytesB xs) := by
  by_cases hn : xs.length ≤ 2000
  · refine Evn.mp (specBytes_loop xs hn xs.length 0 (by omega)) (Evn.all fun k e => ?_)
    unfold spec_BytesValid.f bytesB
    rw [if_neg (by omega)]
    simpa [hn] using e
  · refine Evn.all fun k => ?_
    unfold spec_BytesValid.f bytesB
    rw [if_pos (by omega)]
    simp [hn]
theorem specDec_loop (b : List Int) (hb : bytesB b = true) (a : Int) (h0 : 0 ≤ a) (h1 : a < (b.length : Int)) (g : Nat) :
    ∀ (j : Nat) (n u : Int), weigh g u → (j : Int) + (g : Int) = a + 4 → 0 ≤ n → n < u → j ≤ b.length →
    Evn fun k => spec_DecodeNumber.l0 k b a n u (j : Int) = some (decAll n u (j : Int) (decG g (b.drop j) (decide ((j : Int) = a)))) := by
  have hlen := bytesB_length hb
  induction g with
  | zero =>
    intro j n u hu hj _ _ hjb
    refine Evn.succ (Evn.succ (Evn.all fun k => ?_))
    simp only [spec_DecodeNumber.l0]
    rw [w64 (by omega) (by omega), decide_eq_false (by omega)]
    have e : spec_DecodeNumber.j2 (k + 1) b a n u (j : Int) false = some (-1, -1) := by simp only [spec_DecodeNumber.j2]; rw [if_neg (by simp)]
    split <;> exact e
  | succ g ih =>
    intro j n u hu hj hn hnu hjb
    by_cases hlt : j < b.length
    · have hr := bytesB_range hb hlt
      have hx := rd_drop hlt
      generalize hxx : rd b (j : Int) = x at hr hx
      have hu2 : weigh g (u * 128) := by unfold weigh at hu ⊢; omega
      have hg : g ≤ 3 := by unfold weigh at hu; omega
      have hub : 1 ≤ u ∧ u ≤ 2097152 := by unfold weigh at hu; omega
      have hm : 0 ≤ x % 128 ∧ x % 128 ≤ 127 := by omega
      have hmul : 0 ≤ u * (x % 128) ∧ u * (x % 128) ≤ u * 127 := ⟨Int.mul_nonneg (by omega) (by omega), Int.mul_le_mul_of_nonneg_left hm.2 (by omega)⟩
      refine Evn.succ (Evn.succ (Evn.mp (ih (j + 1) (n + u * (x % 128)) (u * 128) hu2 (by omega) (by omega) (by omega) (by omega)) (Evn.all fun k e => ?_)))
      simp only [spec_DecodeNumber.l0]
      rw [if_pos (by omega), w64 (x := a + 4) (by omega) (by omega), decide_eq_true (by omega)]
      simp only [spec_DecodeNumber.j2, if_true]
      rw [if_pos (by omega), if_pos (by omega), hxx, hx, Int.tmod_eq_emod_of_nonneg (by omega), w64 (x := u * (x % 128)) (by omega) (by omega), w64 (x := n + u * (x % 128)) (by omega) (by omega), w64 (x := (j : Int) + 1) (by omega) (by omega), w64 (x := u * 128) (by omega) (by omega)]
      by_cases hs : x < 128
      · rw [if_pos hs]
        have hxm : x % 128 = x := by omega
        rw [decG_small hs, hxm]
        by_cases hz : x = 0
        · rw [if_pos hz]
          by_cases hja : (j : Int) = a
          · rw [if_neg (by omega), decide_eq_true hja]
            simp [decAll]
          · rw [if_pos (by omega), decide_eq_false hja]
            simp [hz, decAll]
        · rw [if_neg hz]
          simp [hz, decAll]
      · rw [if_neg hs]
        have ej : ((j : Int) + 1) = ((j + 1 : Nat) : Int) := by omega
        have step := decAll_step n u x j (decG g (b.drop (j + 1)) false)
        rw [ej, e, decide_eq_false (by omega), ← ej, step]
        rw [decG_big hs]
    · refine Evn.succ (Evn.succ (Evn.all fun k => ?_))
      simp only [spec_DecodeNumber.l0]
      rw [if_neg (by omega), List.drop_of_length_le (by omega)]
      simp [spec_DecodeNumber.j2, decG, decAll]
theorem specDec (b : List Int) (a : Int) : Evn fun k => spec_DecodeNumber.f k b a = some (decN b a) := by
  by_cases hb : bytesB b = true
  · have hlen := bytesB_length hb
    by_cases ha : 0 ≤ a ∧ a < (b.length : Int)
    · obtain ⟨j, rfl⟩ : ∃ j : Nat, a = (j : Int) := ⟨a.toNat, by omega⟩
      refine Evn.mp (specBytes b) (Evn.succ (Evn.mp (specDec_loop b hb (j : Int) ha.1 ha.2 4 j 0 1 (.inl ⟨rfl, rfl⟩) (by omega) (by omega) (by omega) (by omega)) (Evn.all fun k e1 e2 => ?_)))
      unfold spec_DecodeNumber.f decN
      rw [e2, hb]
      simp only [Option.bind_some, if_true]
      rw [w64 (by omega) (by omega), l1In, decide_eq_true (by omega)]
      simp only [Option.bind_some, Bool.not_true, spec_DecodeNumber.j0]
      rw [if_neg (by simp), e1, if_pos ⟨trivial, ha⟩, decide_eq_true rfl]
      simp only [Int.toNat_natCast]
      cases decG 4 (b.drop j) true with
      | none => rfl
      | some p => obtain ⟨v, c⟩ := p; simp [decAll, decTail]
    · refine Evn.mp (specBytes b) (Evn.succ (Evn.all fun k e2 => ?_))
      rw [decN_bad fun _ => ha]
      unfold spec_DecodeNumber.f
      rw [e2, hb]
      simp only [Option.bind_some, if_true]
      rw [w64 (by omega) (by omega), l1In, decide_eq_false (by omega)]
      simp [spec_DecodeNumber.j0]
  · refine Evn.mp (specBytes b) (Evn.succ (Evn.all fun k e2 => ?_))
    rw [decN_bad fun h => absurd h hb]
    unfold spec_DecodeNumber.f
    rw [e2]
    simp [hb, spec_DecodeNumber.j0]
theorem specDecT_loop (b : List Int) (hb : bytesB b = true) (n s : Nat) (hn : n ≤ 8) (hs : s + n ≤ b.length) (d : Nat) : ∀ (j : Nat) (acc : ByteArray), j + d = n → acc.size + d ≤ 1000 →
    Evn fun k => spec_DecodeText.l0 k b (n : Int) (s : Int) acc ((s + j : Nat) : Int) = some (acc ++ strOfNums ((b.drop (s + j)).take d), (s : Int) + (n : Int)) := by
  have hl := bytesB_length hb
  induction d with
  | zero =>
    intro j acc hj ha
    refine Evn.succ (Evn.all fun k => ?_)
    simp only [spec_DecodeText.l0]
    rw [w64 (by omega) (by omega), if_neg (by omega)]
    simp only [List.take_zero]
    rw [str_nil, show acc ++ (⟨#[]⟩ : ByteArray) = acc from ByteArray.append_empty]
  | succ d ih =>
    intro j acc hj ha
    have hlt : s + j < b.length := by omega
    have hr := bytesB_range hb hlt
    refine Evn.succ (Evn.mp (ih (j + 1) (acc ++ strOfNums [rd b ((s + j : Nat) : Int) % 256]) (by omega) (by rw [ByteArray.size_append, strOfNums_size]; simp only [List.length_cons, List.length_nil]; omega)) (Evn.all fun k e => ?_))
    simp only [spec_DecodeText.l0]
    rw [w64 (x := (s : Int) + (n : Int)) (by omega) (by omega), if_pos (by omega), if_pos (by omega), if_pos (by omega)]
    simp only [Option.bind_some]
    rw [if_pos (by rw [strOfNums_size]; simp only [List.length_cons, List.length_nil]; omega), w64 (by omega) (by omega)]
    rw [show (((s + j : Nat) : Int) + 1) = ((s + (j + 1) : Nat) : Int) by omega, e, rd_drop hlt, List.take_succ_cons, show rd b ((s + j : Nat) : Int) % 256 = rd b ((s + j : Nat) : Int) by omega]
    rw [show rd b ((s + j : Nat) : Int) :: List.take d (b.drop (s + j + 1)) = [rd b ((s + j : Nat) : Int)] ++ List.take d (b.drop (s + j + 1)) from rfl, str_append, ByteArray.append_assoc]
    rfl
theorem specDecT (b : List Int) (a : Int) : Evn fun k => spec_DecodeText.f k b a = some (decT b a) := by
  rcases decN_cases b a with h | ⟨n, s, h, hn⟩
  · refine Evn.mp (specDec b a) (Evn.succ (Evn.all fun k e => ?_))
    unfold spec_DecodeText.f decT
    rw [e, h]
    simp only [Option.bind_some]
    rw [if_pos (by omega), if_pos (by omega)]
    simp [spec_DecodeText.j0]
  · obtain ⟨f1, f2, f3, f4, f5, f6, _⟩ := decN_facts h hn
    have hl := bytesB_length f1
    have hw : wrap64 ((b.length : Int) - s) = (b.length : Int) - s := w64 (by omega) (by omega)
    have e0 : ∀ k, spec_DecodeText.j0 (k + 1) b n s true = some (⟨#[]⟩, -1) := fun k => by simp [spec_DecodeText.j0]
    by_cases hc : n < 0 ∨ 8 < n ∨ (b.length : Int) - s < n
    · refine Evn.mp (specDec b a) (Evn.succ (Evn.all fun k e => ?_))
      unfold spec_DecodeText.f decT
      rw [e, h]
      simp only [Option.bind_some]
      rw [if_pos hc, hw, if_neg (by omega)]
      split
      · exact e0 k
      · rw [decide_eq_true (by omega)]
        exact e0 k
    · obtain ⟨m, rfl⟩ : ∃ m : Nat, n = (m : Int) := ⟨n.toNat, by omega⟩
      obtain ⟨q, rfl⟩ : ∃ q : Nat, s = (q : Int) := ⟨s.toNat, by omega⟩
      refine Evn.mp (specDec b a) (Evn.succ (Evn.mp (specDecT_loop b f1 m q (by omega) (by omega) m 0 ⟨#[]⟩ (by omega) (by have : (⟨#[]⟩ : ByteArray).size = 0 := rfl; omega)) (Evn.all fun k e1 e => ?_)))
      unfold spec_DecodeText.f decT
      rw [e, h]
      simp only [Option.bind_some]
      rw [if_neg hc, hw, if_neg (by omega), if_neg (by omega), decide_eq_false (by omega)]
      simp only [spec_DecodeText.j0]
      rw [if_neg (by simp)]
      refine Eq.trans e1 ?_
      simp only [Int.toNat_natCast, Nat.add_zero]
      rw [show (⟨#[]⟩ : ByteArray) ++ strOfNums ((b.drop q).take m) = strOfNums ((b.drop q).take m) from ByteArray.empty_append]
theorem specDecE (b : List Int) (a : Int) : Evn fun k => spec_DecodeEntry.f k b a = some ((decE b a).1.1, (decE b a).1.2.1, (decE b a).1.2.2.1, (decE b a).1.2.2.2.1, (decE b a).1.2.2.2.2.1, (decE b a).1.2.2.2.2.2, (decE b a).2) := by
  unfold decE
  generalize h1 : decN b a = c
  obtain ⟨c, p1⟩ := c
  simp only
  generalize h2 : decN b p1 = s
  obtain ⟨s, p2⟩ := s
  simp only
  generalize h3 : decN b p2 = kd
  obtain ⟨kd, p3⟩ := kd
  simp only
  generalize h4 : decT b p3 = t
  obtain ⟨t, p4⟩ := t
  simp only
  generalize h5 : decN b p4 = v
  obtain ⟨v, p5⟩ := v
  simp only
  generalize h6 : decN b p5 = o
  obtain ⟨o, p6⟩ := o
  simp only
  have ho : -1 ≤ o ∧ o ≤ 268435455 := by
    by_cases q : o = -1
    · omega
    · have := decN_facts h6 q
      omega
  refine (Evn.mp (specDec b a) (Evn.mp (specDec b p1) (Evn.mp (specDec b p2) (Evn.mp (specDecT b p3) (Evn.mp (specDec b p4) (Evn.mp (specDec b p5) (Evn.mp (specEnt c s kd t v (o - 1)) (Evn.all fun k e8 e7 e6 e5 e4 e3 e2 => ?_))))))))
  rw [h1] at e2
  rw [h2] at e3
  rw [h3] at e4
  rw [h4] at e5
  rw [h5] at e6
  rw [h6] at e7
  unfold spec_DecodeEntry.f
  rw [e2]
  simp only [Option.bind_some]
  rw [e3]
  simp only [Option.bind_some]
  rw [e4]
  simp only [Option.bind_some]
  rw [e5]
  simp only [Option.bind_some]
  rw [e6]
  simp only [Option.bind_some]
  rw [e7]
  simp only [Option.bind_some]
  by_cases hp : p6 < 0
  · rw [if_pos hp, if_pos hp]
    rfl
  · rw [if_neg hp, if_neg hp, w64 (by omega) (by omega), e8]
    simp only [Option.bind_some]
    by_cases hq : entB c s kd t v (o - 1) = true
    · rw [if_pos hq, if_pos (show entOk (c, s, kd, t, v, o - 1) = true from hq)]
    · rw [if_neg hq, if_neg (show ¬ entOk (c, s, kd, t, v, o - 1) = true from hq)]
      rfl
def Code (b : List Int) : Prop := b.length ≤ 2000 ∧ ∀ x ∈ b, 0 ≤ x ∧ x ≤ 255
theorem rd_code {b : List Int} (h : Code b) (i : Int) : 0 ≤ rd b i ∧ rd b i ≤ 255 := by
  unfold rd
  rw [List.getD_eq_getElem?_getD]
  by_cases hi : i.toNat < b.length
  · rw [List.getElem?_eq_getElem hi]
    exact h.2 _ (List.getElem_mem hi)
  · rw [List.getElem?_eq_none (by omega)]
    simp
theorem xor_pos (a b : Int) (ha0 : 0 ≤ a) (ha1 : a < 4611686018427387904) (hb0 : 0 ≤ b) (hb1 : b < 4611686018427387904) : 0 ≤ Go.bits .xor .i64 a b := by
  obtain ⟨n, rfl⟩ := Int.eq_ofNat_of_zero_le ha0
  obtain ⟨m, rfl⟩ := Int.eq_ofNat_of_zero_le hb0
  have hn : n < 2 ^ 62 := by omega
  have hm : m < 2 ^ 62 := by omega
  have hx := Nat.xor_lt_two_pow hn hm
  have n64 : n % 2 ^ 64 = n := Nat.mod_eq_of_lt (by omega)
  have m64 : m % 2 ^ 64 = m := Nat.mod_eq_of_lt (by omega)
  have e : Go.bits .xor .i64 (n : Int) (m : Int) = IntKind.i64.wrap ((n ^^^ m : Nat) : Int) := by
    show IntKind.i64.wrap (((BitVec.ofInt 64 (n : Int) ^^^ BitVec.ofInt 64 (m : Int)).toNat : Nat) : Int) = _
    rw [BitVec.ofInt_natCast, BitVec.ofInt_natCast, BitVec.toNat_xor, BitVec.toNat_ofNat, BitVec.toNat_ofNat, n64, m64]
  rw [e, IntKind.wrap_i64]
  omega
theorem spec_pick (b : List Int) (hb : Code b) (p n : Int) (h0 : 0 ≤ p) (h1 : p ≤ 1099511627776) :
    ∃ r, 0 ≤ r ∧ (1 ≤ n → r < n) ∧ (n ≤ 1 → r = 0) ∧ Evn fun k => spec_l20Rd_pick.f k b p n = some (r, p + 1) := by
  have hw : wrap64 (p + 1) = p + 1 := w64 (by omega) (by omega)
  by_cases hn : n < 1
  · refine ⟨0, by omega, by omega, by omega, Evn.succ (Evn.all fun k => ?_)⟩
    unfold spec_l20Rd_pick.f
    rw [if_pos hn, hw]
    simp only [spec_l20Rd_pick.j0]
    rw [if_pos trivial]
  · by_cases hl : b.length = 0
    · refine ⟨0, by omega, by omega, by omega, Evn.succ (Evn.all fun k => ?_)⟩
      unfold spec_l20Rd_pick.f
      rw [if_neg hn, hw, hl]
      simp only [spec_l20Rd_pick.j0]
      rw [if_pos (by rfl)]
    · have hl1 : 1 ≤ (b.length : Int) := by omega
      have hle : ((b.length : Int) == 0) = false := by simpa using hl
      have e1 : wrap64 (p + 1 - 1) = p := by rw [show p + 1 - 1 = p by omega]; exact w64 (by omega) (by omega)
      by_cases hp : p < (b.length : Int)
      · have hr := rd_code hb p
        refine ⟨Int.tmod (rd b p) n, Int.tmod_nonneg n hr.1, fun h => Int.tmod_lt_of_pos _ (by omega), fun h => ?_, Evn.succ (Evn.all fun k => ?_)⟩
        · have : n = 1 := by omega
          subst this
          exact Int.tmod_one _
        · unfold spec_l20Rd_pick.f
          rw [if_neg hn, hw, hle]
          simp only [spec_l20Rd_pick.j0]
          rw [if_neg (by simp), e1, if_pos hp, if_pos h0, if_neg (by omega), w64 (x := rd b p) (by omega) (by omega)]
      · have ei : Int.tmod p (b.length : Int) = p % (b.length : Int) := Int.tmod_eq_emod_of_nonneg h0
        have i0 : 0 ≤ p % (b.length : Int) := Int.emod_nonneg _ (by omega)
        have i1 : p % (b.length : Int) < (b.length : Int) := Int.emod_lt_of_pos _ (by omega)
        have e7 : wrap64 (wrap64 (p * 7) + 3) = p * 7 + 3 := by rw [w64 (x := p * 7) (by omega) (by omega), w64 (by omega) (by omega)]
        have ej : Int.tmod (p * 7 + 3) (b.length : Int) = (p * 7 + 3) % (b.length : Int) := Int.tmod_eq_emod_of_nonneg (by omega)
        have j0 : 0 ≤ (p * 7 + 3) % (b.length : Int) := Int.emod_nonneg _ (by omega)
        have j1 : (p * 7 + 3) % (b.length : Int) < (b.length : Int) := Int.emod_lt_of_pos _ (by omega)
        have eq : Int.tdiv p (b.length : Int) = p / (b.length : Int) := Int.tdiv_eq_ediv_of_nonneg h0
        have q0 : 0 ≤ p / (b.length : Int) := Int.ediv_nonneg h0 (by omega)
        have q1 : p / (b.length : Int) ≤ p := Int.ediv_le_self _ h0
        have hu := rd_code hb (p % (b.length : Int))
        have hv := rd_code hb ((p * 7 + 3) % (b.length : Int))
        have main : ∀ u v q : Int, 0 ≤ u → u ≤ 255 → 0 ≤ v → v ≤ 255 → 0 ≤ q → q ≤ p →
            ∃ x, wrap64 ((wrap64 ((wrap64 ((wrap64 ((wrap64 u) * 131)) + (wrap64 ((wrap64 v) * 1117)))) + (wrap64 (p * 29)))) + (wrap64 ((wrap64 q) * 53))) = x ∧ 0 ≤ x ∧ x < 4611686018427387904 ∧ 0 ≤ wrap64 (Int.tdiv x 64) ∧ wrap64 (Int.tdiv x 64) < 4611686018427387904 := by
          intro u v q u0 u1 v0 v1 q0 q1
          refine ⟨u * 131 + v * 1117 + p * 29 + q * 53, ?_, by omega, by omega, ?_, ?_⟩
          · rw [w64 (x := u) (by omega) (by omega), w64 (x := v) (by omega) (by omega), w64 (x := q) (by omega) (by omega), w64 (x := u * 131) (by omega) (by omega), w64 (x := v * 1117) (by omega) (by omega), w64 (x := p * 29) (by omega) (by omega), w64 (x := q * 53) (by omega) (by omega), w64 (x := u * 131 + v * 1117) (by omega) (by omega), w64 (x := u * 131 + v * 1117 + p * 29) (by omega) (by omega), w64 (by omega) (by omega)]
          all_goals
            rw [Int.tdiv_eq_ediv_of_nonneg (by omega), w64 (by omega) (by omega)]
            omega
        obtain ⟨x, hx, x0, x1, y0, y1⟩ := main _ _ _ hu.1 hu.2 hv.1 hv.2 q0 q1
        refine ⟨Int.tmod (Go.bits .xor .i64 x (wrap64 (Int.tdiv x 64))) n, Int.tmod_nonneg n (xor_pos _ _ x0 x1 y0 y1), fun h => Int.tmod_lt_of_pos _ (by omega), fun h => ?_, Evn.succ (Evn.all fun k => ?_)⟩
        · have : n = 1 := by omega
          subst this
          exact Int.tmod_one _
        · unfold spec_l20Rd_pick.f
          rw [if_neg hn, hw, hle]
          simp only [spec_l20Rd_pick.j0]
          rw [if_neg (by simp), e1, if_neg hp, if_neg (by omega), ei, if_pos i0, if_pos i1, e7, ej, if_pos j0, if_pos j1, if_neg (by omega), eq, hx]
theorem spec_odd (b : List Int) (hb : Code b) (p n : Int) (h0 : 0 ≤ p) (h1 : p ≤ 1099511627776) (hn : n ≤ 1000000) :
    ∃ r q, p ≤ q ∧ q ≤ p + 1 ∧ (n ≤ 0 → r = false) ∧ Evn fun k => spec_l20Rd_odd.f k b p n = some (r, q) := by
  by_cases h : n > 0
  · obtain ⟨r, _, _, _, e⟩ := spec_pick b hb p n h0 h1
    refine ⟨r == wrap64 (n - 1), p + 1, by omega, by omega, by omega, Evn.mp e (Evn.all fun k e => ?_)⟩
    unfold spec_l20Rd_odd.f
    rw [if_pos h, e]
    rfl
  · refine ⟨false, p, by omega, by omega, fun _ => rfl, Evn.all fun k => ?_⟩
    unfold spec_l20Rd_odd.f
    rw [if_neg h]
theorem spec_open (l : List Int) (hl : ∀ x ∈ l, (Lit.int .u8 x).wf = true) : ∃ b, Code b ∧ spec_l20Open.f l = some (b, 0) := by
  have hx : ∀ x ∈ l, 0 ≤ x ∧ x ≤ 255 := fun x hx => by
    have h' : (decide (IntKind.u8.min ≤ x) && decide (x ≤ IntKind.u8.max)) = true := hl x hx
    rw [Bool.and_eq_true, decide_eq_true_eq, decide_eq_true_eq] at h'
    exact h'
  unfold spec_l20Open.f
  by_cases h : (l.length : Int) > 2000
  · refine ⟨l.take 2000, ⟨by rw [List.length_take]; omega, fun x hm => hx x (List.mem_of_mem_take hm)⟩, ?_⟩
    rw [if_pos h, if_pos (by omega)]
  · exact ⟨l, ⟨by omega, hx⟩, by rw [if_neg h]⟩
def Dr {α : Type} (g : Nat → Option (α × Int)) (p c : Int) (P : α → Prop) : Prop := ∃ r q, p ≤ q ∧ q ≤ p + c ∧ P r ∧ Evn fun k => g k = some (r, q)
theorem Dr.bind {α β : Type} {g : Nat → Option (α × Int)} {H : Nat → α × Int → Option (β × Int)} {p c C : Int} {P : α → Prop} {Q : β → Prop}
    (h1 : Dr g p c P) (h2 : ∀ bt : α × Int, P bt.1 → p ≤ bt.2 → bt.2 ≤ p + c → Dr (fun k => H k bt) bt.2 (C - c) Q) : Dr (fun k => (g k).bind (H k)) p C Q := by
  obtain ⟨r, q, hq0, hq1, hr, e⟩ := h1
  obtain ⟨r', q', h0, h1, hr', e'⟩ := h2 (r, q) hr hq0 hq1
  refine ⟨r', q', by simp only at h0; omega, by simp only at h1; omega, hr', Evn.mp e (Evn.mp e' (Evn.all fun k e' e => ?_))⟩
  dsimp only
  rw [e]
  exact e'
theorem Dr.pure {α : Type} {p c : Int} {P : α → Prop} {r : α} (hr : P r) (hc : 0 ≤ c) : Dr (fun _ => some (r, p)) p c P :=
  ⟨r, p, by omega, by omega, hr, Evn.all fun _ => rfl⟩
theorem Dr.ite {α : Type} {g h : Nat → Option (α × Int)} {p c : Int} {P : α → Prop} {b : Prop} [Decidable b] (h1 : b → Dr g p c P) (h2 : ¬ b → Dr h p c P) : Dr (fun k => if b then g k else h k) p c P := by
  by_cases hb : b
  · simpa [hb] using h1 hb
  · simpa [hb] using h2 hb
theorem Dr.run {α β : Type} {g : Nat → Option α} {H : Nat → α → Option (β × Int)} {p c : Int} {Q : β → Prop} {r : α} (h1 : Evn fun k => g k = some r) (h2 : Dr (fun k => H k r) p c Q) : Dr (fun k => (g k).bind (H k)) p c Q := by
  obtain ⟨r', q', h0, h1', hr', e'⟩ := h2
  refine ⟨r', q', h0, h1', hr', Evn.mp h1 (Evn.mp e' (Evn.all fun k e' e => ?_))⟩
  dsimp only
  rw [e]
  exact e'
theorem Dr.some_bind {α β : Type} {H : Nat → α → Option (β × Int)} {p c : Int} {Q : β → Prop} {r : α} (h2 : Dr (fun k => H k r) p c Q) : Dr (fun k => (some r).bind (H k)) p c Q := h2
theorem Dr.le {α : Type} {g : Nat → Option (α × Int)} {p c C : Int} {P Q : α → Prop} (h : Dr g p c P) (hc : c ≤ C) (hp : ∀ r, P r → Q r) : Dr g p C Q := by
  obtain ⟨r, q, h0, h1, hr, e⟩ := h
  exact ⟨r, q, h0, by omega, hp r hr, e⟩
theorem Dr.congr {α : Type} {g h : Nat → Option (α × Int)} {p c : Int} {P : α → Prop} (hg : Dr h p c P) (e : ∀ k, g k = h k) : Dr g p c P := by
  obtain ⟨r, q, h0, h1, hr, e'⟩ := hg
  exact ⟨r, q, h0, h1, hr, Evn.mp e' (Evn.all fun k e' => (e k).trans e')⟩
theorem Dr.succ {α : Type} {g : Nat → Option (α × Int)} {p c : Int} {P : α → Prop} (h : Dr (fun k => g (k + 1)) p c P) : Dr g p c P := by
  obtain ⟨r, q, h0, h1, hr, e⟩ := h
  exact ⟨r, q, h0, h1, hr, Evn.succ e⟩
theorem Dr.elt {p c : Int} {P : Int → Prop} {xs : List Int} {i : Int} (h0 : 0 ≤ i) (h1 : i < (xs.length : Int)) (hP : ∀ x ∈ xs, P x) (hc : 0 ≤ c) : Dr (fun _ => if 0 ≤ i then (if i < (xs.length : Int) then some (rd xs i, p) else none) else none) p c P := by
  refine ⟨rd xs i, p, by omega, by omega, ?_, Evn.all fun k => by rw [if_pos h0, if_pos h1]⟩
  obtain ⟨j, rfl⟩ : ∃ j : Nat, i = (j : Int) := ⟨i.toNat, by omega⟩
  rw [rd_nat (by omega)]
  exact hP _ (List.getElem_mem _)
def InPick (n r : Int) : Prop := 0 ≤ r ∧ (1 ≤ n → r < n) ∧ (n ≤ 1 → r = 0)
theorem dr_pick {b : List Int} (hb : Code b) {p : Int} (n : Int) (h0 : 0 ≤ p) (h1 : p ≤ 1099511627776) : Dr (fun k => spec_l20Rd_pick.f k b p n) p 1 (InPick n) := by
  obtain ⟨r, a, c, d, e⟩ := spec_pick b hb p n h0 h1
  exact ⟨r, p + 1, by omega, by omega, ⟨a, c, d⟩, e⟩
theorem dr_odd {b : List Int} (hb : Code b) {p : Int} (n : Int) (h0 : 0 ≤ p) (h1 : p ≤ 1099511627776) (hn : n ≤ 1000000) : Dr (fun k => spec_l20Rd_odd.f k b p n) p 1 (fun r => n ≤ 0 → r = false) := by
  obtain ⟨r, q, a, c, d, e⟩ := spec_odd b hb p n h0 h1 hn
  exact ⟨r, q, a, c, d, e⟩
def Drw {α : Type} (g : Nat → Option α) (P : α → Prop) : Prop := ∃ r, P r ∧ Evn fun k => g k = some r
theorem Drw.bind {α β : Type} {g : Nat → Option (α × Int)} {H : Nat → α × Int → Option β} {p c : Int} {P : α → Prop} {Q : β → Prop}
    (h1 : Dr g p c P) (h2 : ∀ bt : α × Int, P bt.1 → p ≤ bt.2 → bt.2 ≤ p + c → Drw (fun k => H k bt) Q) : Drw (fun k => (g k).bind (H k)) Q := by
  obtain ⟨r, q, hq0, hq1, hr, e⟩ := h1
  obtain ⟨r', hr', e'⟩ := h2 (r, q) hr hq0 hq1
  refine ⟨r', hr', Evn.mp e (Evn.mp e' (Evn.all fun k e' e => ?_))⟩
  dsimp only
  rw [e]
  exact e'
theorem Drw.pure {α : Type} {P : α → Prop} {r : α} (hr : P r) : Drw (fun _ => some r) P := ⟨r, hr, Evn.all fun _ => rfl⟩
theorem Drw.ite {α : Type} {g h : Nat → Option α} {P : α → Prop} {b : Prop} [Decidable b] (h1 : b → Drw g P) (h2 : ¬ b → Drw h P) : Drw (fun k => if b then g k else h k) P := by
  by_cases hb : b
  · simpa [hb] using h1 hb
  · simpa [hb] using h2 hb
theorem Drw.run {α β : Type} {g : Nat → Option α} {H : Nat → α → Option β} {Q : β → Prop} {r : α} (h1 : Evn fun k => g k = some r) (h2 : Drw (fun k => H k r) Q) : Drw (fun k => (g k).bind (H k)) Q := by
  obtain ⟨r', hr', e'⟩ := h2
  refine ⟨r', hr', Evn.mp h1 (Evn.mp e' (Evn.all fun k e' e => ?_))⟩
  dsimp only
  rw [e]
  exact e'
theorem Drw.some_bind {α β : Type} {H : Nat → α → Option β} {Q : β → Prop} {r : α} (h2 : Drw (fun k => H k r) Q) : Drw (fun k => (some r).bind (H k)) Q := h2
theorem Drw.congr {α : Type} {g h : Nat → Option α} {P : α → Prop} (hg : Drw h P) (e : ∀ k, g k = h k) : Drw g P := by
  obtain ⟨r, hr, e'⟩ := hg
  exact ⟨r, hr, Evn.mp e' (Evn.all fun k e' => (e k).trans e')⟩
def Dp {τ : Type} (pl : τ → Int) (g : Nat → Option τ) (p c : Int) (P : τ → Prop) : Prop := ∃ r, p ≤ pl r ∧ pl r ≤ p + c ∧ P r ∧ Evn fun k => g k = some r
theorem Dr.bindP {α τ : Type} {pl : τ → Int} {g : Nat → Option (α × Int)} {H : Nat → α × Int → Option τ} {p c C : Int} {P : α → Prop} {Q : τ → Prop}
    (h1 : Dr g p c P) (h2 : ∀ bt : α × Int, P bt.1 → p ≤ bt.2 → bt.2 ≤ p + c → Dp pl (fun k => H k bt) bt.2 (C - c) Q) : Dp pl (fun k => (g k).bind (H k)) p C Q := by
  obtain ⟨r, q, hq0, hq1, hr, e⟩ := h1
  obtain ⟨r', h0, h1, hr', e'⟩ := h2 (r, q) hr hq0 hq1
  refine ⟨r', by simp only at h0; omega, by simp only at h1; omega, hr', Evn.mp e (Evn.mp e' (Evn.all fun k e' e => ?_))⟩
  dsimp only
  rw [e]
  exact e'
theorem Dp.bind {σ τ : Type} {pl : σ → Int} {pl' : τ → Int} {g : Nat → Option σ} {H : Nat → σ → Option τ} {p c C : Int} {P : σ → Prop} {Q : τ → Prop}
    (h1 : Dp pl g p c P) (h2 : ∀ r : σ, P r → p ≤ pl r → pl r ≤ p + c → Dp pl' (fun k => H k r) (pl r) (C - c) Q) : Dp pl' (fun k => (g k).bind (H k)) p C Q := by
  obtain ⟨r, hq0, hq1, hr, e⟩ := h1
  obtain ⟨r', h0, h1, hr', e'⟩ := h2 r hr hq0 hq1
  refine ⟨r', by omega, by omega, hr', Evn.mp e (Evn.mp e' (Evn.all fun k e' e => ?_))⟩
  dsimp only
  rw [e]
  exact e'
theorem Dp.pure {τ : Type} {pl : τ → Int} {p c : Int} {P : τ → Prop} {r : τ} (hp : pl r = p) (hr : P r) (hc : 0 ≤ c) : Dp pl (fun _ => some r) p c P :=
  ⟨r, by omega, by omega, hr, Evn.all fun _ => rfl⟩
theorem Dp.ite {τ : Type} {pl : τ → Int} {g h : Nat → Option τ} {p c : Int} {P : τ → Prop} {b : Prop} [Decidable b] (h1 : b → Dp pl g p c P) (h2 : ¬ b → Dp pl h p c P) : Dp pl (fun k => if b then g k else h k) p c P := by
  by_cases hb : b
  · simpa [hb] using h1 hb
  · simpa [hb] using h2 hb
theorem Dp.some_bind {α τ : Type} {pl : τ → Int} {H : Nat → α → Option τ} {p c : Int} {Q : τ → Prop} {r : α} (h2 : Dp pl (fun k => H k r) p c Q) : Dp pl (fun k => (some r).bind (H k)) p c Q := h2
theorem Dp.le {τ : Type} {pl : τ → Int} {g : Nat → Option τ} {p c C : Int} {P Q : τ → Prop} (h : Dp pl g p c P) (hc : c ≤ C) (hp : ∀ r, P r → Q r) : Dp pl g p C Q := by
  obtain ⟨r, h0, h1, hr, e⟩ := h
  exact ⟨r, h0, by omega, hp r hr, e⟩
theorem Dp.congr {τ : Type} {pl : τ → Int} {g h : Nat → Option τ} {p c : Int} {P : τ → Prop} (hg : Dp pl h p c P) (e : ∀ k, g k = h k) : Dp pl g p c P := by
  obtain ⟨r, h0, h1, hr, e'⟩ := hg
  exact ⟨r, h0, h1, hr, Evn.mp e' (Evn.all fun k e' => (e k).trans e')⟩
theorem Dp.succ {τ : Type} {pl : τ → Int} {g : Nat → Option τ} {p c : Int} {P : τ → Prop} (h : Dp pl (fun k => g (k + 1)) p c P) : Dp pl g p c P := by
  obtain ⟨r, h0, h1, hr, e⟩ := h
  exact ⟨r, h0, h1, hr, Evn.succ e⟩
theorem Drw.bindP {σ β : Type} {pl : σ → Int} {g : Nat → Option σ} {H : Nat → σ → Option β} {p c : Int} {P : σ → Prop} {Q : β → Prop}
    (h1 : Dp pl g p c P) (h2 : ∀ r : σ, P r → p ≤ pl r → pl r ≤ p + c → Drw (fun k => H k r) Q) : Drw (fun k => (g k).bind (H k)) Q := by
  obtain ⟨r, hq0, hq1, hr, e⟩ := h1
  obtain ⟨r', hr', e'⟩ := h2 r hr hq0 hq1
  refine ⟨r', hr', Evn.mp e (Evn.mp e' (Evn.all fun k e' e => ?_))⟩
  dsimp only
  rw [e]
  exact e'
theorem rdOf_mem {α : Type} (d : α) {xs : List α} {i : Int} (h0 : 0 ≤ i) (h1 : i < (xs.length : Int)) : rdOf d xs i ∈ xs := by
  obtain ⟨j, rfl⟩ : ∃ j : Nat, i = (j : Int) := ⟨i.toNat, by omega⟩
  have hj : j < xs.length := by omega
  unfold rdOf
  rw [Int.toNat_natCast, List.getD_eq_getElem?_getD, List.getElem?_eq_getElem hj]
  exact List.getElem_mem hj
theorem Dr.eltOf {α : Type} (d : α) {p c : Int} {P : α → Prop} {xs : List α} {i : Int} (h0 : 0 ≤ i) (h1 : i < (xs.length : Int)) (hP : ∀ x ∈ xs, P x) (hc : 0 ≤ c) :
    Dr (fun _ => if 0 ≤ i then (if i < (xs.length : Int) then some (rdOf d xs i, p) else none) else none) p c P :=
  ⟨rdOf d xs i, p, by omega, by omega, hP _ (rdOf_mem d h0 h1), Evn.all fun k => by rw [if_pos h0, if_pos h1]⟩
theorem dr_keyl {b : List Int} (hb : Code b) (m : Nat) : ∀ (s : ByteArray) (p : Int), 0 ≤ p → p + (m : Int) ≤ 1099511627776 → s.size + m ≤ 4 → (bytesOf s).all lowB = true →
    Dr (fun k => spec_l20Key.l0 k s (m : Int) b p) p (m : Int) (fun r => r.size = s.size + m ∧ (bytesOf r).all lowB = true) := by
  induction m with
  | zero =>
    intro s p h0 h1 hs hl
    refine Dr.succ (Dr.congr ?_ fun k => spec_l20Key.l0.eq_2 ..)
    exact Dr.ite (fun h => absurd h (by omega)) fun _ => Dr.pure ⟨by omega, hl⟩ (by omega)
  | succ m ih =>
    intro s p h0 h1 hs hl
    refine Dr.succ (Dr.congr ?_ fun k => spec_l20Key.l0.eq_2 ..)
    refine Dr.ite (fun _ => ?_) fun h => absurd (show ((m + 1 : Nat) : Int) > 0 by omega) h
    refine Dr.bind (dr_pick hb 4 (by omega) (by omega)) fun bt hr _ _ => Dr.some_bind (Dr.ite (fun _ => ?_) fun h => absurd (show s.size + (strOfNums [wrap64 (97 + bt.1) % 256]).size ≤ 9223372036854775807 by rw [strOfNums_size]; simp only [List.length_cons, List.length_nil]; omega) h)
    have hr0 := hr.1
    have hr1 := hr.2.1 (by omega)
    have hw : wrap64 (97 + bt.1) % 256 = 97 + bt.1 := by rw [w64 (by omega) (by omega)]; omega
    rw [hw, show wrap64 (((m + 1 : Nat) : Int) - 1) = (m : Int) by rw [w64 (by omega) (by omega)]; omega]
    have hsz : (s ++ strOfNums [97 + bt.1]).size = s.size + 1 := by rw [ByteArray.size_append, strOfNums_size]; rfl
    have hbs : bytesOf (s ++ strOfNums [97 + bt.1]) = bytesOf s ++ [97 + bt.1] := by
      rw [show bytesOf (s ++ strOfNums [97 + bt.1]) = bytesOf s ++ bytesOf (strOfNums [97 + bt.1]) by unfold bytesOf; rw [ba_append, List.map_append], bytes_str (fun x hx => by simp at hx; omega)]
    refine Dr.le (ih _ bt.2 (by omega) (by omega) (by omega) ?_) (by omega) fun r hr => ⟨by rw [hr.1, hsz]; omega, hr.2⟩
    rw [hbs, List.all_append, hl]
    simp only [List.all_cons, List.all_nil, lowB, Bool.true_and, Bool.and_true]
    rw [decide_eq_true (by omega), decide_eq_true (by omega)]
    rfl
theorem dr_key {b : List Int} (hb : Code b) {p : Int} (n : Int) (h0 : 0 ≤ p) (h1 : p ≤ 1099511000000) (hn : n ≤ 1000000) :
    Dr (fun k => spec_l20Key.f k b p n) p 6 (fun s => s.size ≤ 5 ∧ (n ≤ 0 → keyB s = true)) := by
  unfold spec_l20Key.f
  refine Dr.bind (dr_odd hb n (by omega) (by omega) hn) fun bt ho _ _ => Dr.ite (fun ht => ?_) (fun _ => ?_)
  · refine Dr.some_bind (Dr.bind (dr_pick hb 6 (by omega) (by omega)) fun bt2 hr _ _ => Dr.eltOf _ hr.1 (hr.2.1 (by omega)) (fun x hx => ⟨?_, fun hn0 => ?_⟩) (by omega))
    · simp only [List.mem_cons, List.not_mem_nil, or_false] at hx
      rcases hx with rfl | rfl | rfl | rfl | rfl | rfl <;> decide
    · rw [ho hn0] at ht
      cases ht
  · refine Dr.bind (dr_pick hb 12 (by omega) (by omega)) fun bt2 _ _ _ => Dr.ite (fun _ => ?_) (fun _ => ?_)
    · refine Dr.some_bind (Dr.bind (dr_pick hb 5 (by omega) (by omega)) fun bt3 hr _ _ => Dr.eltOf _ hr.1 (hr.2.1 (by omega)) (fun x hx => ?_) (by omega))
      simp only [List.mem_cons, List.not_mem_nil, or_false] at hx
      rcases hx with rfl | rfl | rfl | rfl | rfl <;> exact ⟨by decide, fun _ => by decide +kernel⟩
    · refine Dr.bind (dr_pick hb 2 (by omega) (by omega)) fun bt3 hr _ _ => ?_
      have hr0 := hr.1
      have hr1 := hr.2.1 (by omega)
      obtain ⟨m, hm⟩ : ∃ m : Nat, wrap64 (1 + bt3.1) = (m : Int) := ⟨(1 + bt3.1).toNat, by rw [w64 (by omega) (by omega)]; omega⟩
      rw [hm]
      rw [w64 (by omega) (by omega)] at hm
      refine Dr.le (dr_keyl hb m ⟨#[]⟩ bt3.2 (by omega) (by omega) (by have : (⟨#[]⟩ : ByteArray).size = 0 := rfl; omega) rfl) (by omega) fun r hr => ?_
      have h00 : (⟨#[]⟩ : ByteArray).size = 0 := rfl
      refine ⟨by omega, fun _ => ?_⟩
      unfold keyB
      rw [hr.2, decide_eq_true (by omega), decide_eq_true (by omega)]
      rfl
theorem dr_value {b : List Int} (hb : Code b) {p : Int} (n : Int) (h0 : 0 ≤ p) (h1 : p ≤ 1099511000000) (hn : n ≤ 1000000) :
    Dr (fun k => spec_l20Value.f k b p n) p 3 (fun v => -1 ≤ v ∧ v ≤ 1000 ∧ (n ≤ 0 → 0 ≤ v ∧ v ≤ 999)) := by
  unfold spec_l20Value.f
  refine Dr.bind (dr_odd hb n (by omega) (by omega) hn) fun bt ho _ _ => Dr.ite (fun ht => ?_) (fun _ => ?_)
  · refine Dr.some_bind (Dr.bind (dr_pick hb 2 (by omega) (by omega)) fun bt2 hr _ _ => Dr.elt hr.1 (hr.2.1 (by omega)) (fun x hx => ?_) (by omega))
    simp only [List.mem_cons, List.not_mem_nil, or_false] at hx
    refine ⟨by omega, by omega, fun hn0 => ?_⟩
    rw [ho hn0] at ht
    cases ht
  · refine Dr.bind (dr_pick hb 20 (by omega) (by omega)) fun bt2 hr2 _ _ => Dr.some_bind (Dr.bind (dr_pick hb 9 (by omega) (by omega)) fun bt3 hr _ _ => ?_)
    have a := hr.1
    have c := hr.2.1 (by omega)
    have d := hr2.1
    have e := hr2.2.1 (by omega)
    refine Dr.elt ?_ ?_ (fun x hx => ?_) (by omega)
    · rw [Int.tdiv_eq_ediv_of_nonneg a, w64 (by omega) (by omega)]; omega
    · rw [Int.tdiv_eq_ediv_of_nonneg a, w64 (by omega) (by omega)]; simp only [List.length_cons, List.length_nil]; omega
    · simp only [List.mem_cons, List.not_mem_nil, or_false] at hx
      refine ⟨by omega, by omega, fun _ => by omega⟩
def cmdPl (r : Int × ByteArray × Int × Int × Int) : Int := r.2.2.2.2
def cmdOk (r : Int × ByteArray × Int × Int × Int) : Prop := cmdB r.1 r.2.1 r.2.2.1 r.2.2.2.1 = true
theorem cmdB_mk {kind value old : Int} {key : ByteArray} (hk : keyB key = true) (h : (kind = 1 ∨ kind = 3 ∨ kind = 5) ∧ value = 0 ∧ old = 0 ∨ kind = 2 ∧ (0 ≤ value ∧ value ≤ 999) ∧ old = 0 ∨ kind = 4 ∧ (0 ≤ value ∧ value ≤ 999) ∧ (-1 ≤ old ∧ old ≤ 999)) : cmdB kind key value old = true := by
  unfold cmdB valB
  rw [hk, Bool.true_or, Bool.true_and]
  rcases h with ⟨h, rfl, rfl⟩ | ⟨rfl, h, rfl⟩ | ⟨rfl, h, ho⟩
  · rw [if_neg (by omega), if_neg (by omega), decide_eq_true (by omega)]
    rfl
  · rw [if_pos rfl, decide_eq_true h]
    rfl
  · rw [if_neg (by omega), if_pos rfl, decide_eq_true h, ← Bool.decide_or, decide_eq_true (by omega)]
    rfl
theorem dr_cmdj {b : List Int} (hb : Code b) {p : Int} (key : ByteArray) (h0 : 0 ≤ p) (h1 : p ≤ 1099510500000) (hs : key.size ≤ 5) :
    Dp cmdPl (fun k => spec_l20Cmd.j0 k key b p) p 5 (fun r => r.2.1.size ≤ 5 ∧ (keyB key = true → cmdOk r ∧ r.1 ≠ 5)) := by
  refine Dp.succ (Dp.congr ?_ fun k => spec_l20Cmd.j0.eq_2 ..)
  refine Dr.bindP (dr_pick hb 8 (by omega) (by omega)) fun bt _ _ _ => Dp.ite (fun _ => ?_) fun _ => Dp.ite (fun _ => ?_) fun _ => Dp.ite (fun _ => ?_) fun _ => ?_
  · exact Dp.pure rfl ⟨hs, fun hk => ⟨cmdB_mk hk (.inl ⟨.inl rfl, rfl, rfl⟩), by simp⟩⟩ (by omega)
  · exact Dp.pure rfl ⟨hs, fun hk => ⟨cmdB_mk hk (.inl ⟨.inr (.inl rfl), rfl, rfl⟩), by simp⟩⟩ (by omega)
  · refine Dr.bindP (dr_pick hb 5 (by omega) (by omega)) fun bt2 hr2 _ _ => Dr.bindP (dr_pick hb 5 (by omega) (by omega)) fun bt3 hr3 _ _ => ?_
    have a := hr2.1
    have c := hr2.2.1 (by omega)
    have d := hr3.1
    have e := hr3.2.1 (by omega)
    refine Dp.pure rfl ⟨hs, fun hk => ⟨cmdB_mk hk (.inr (.inr ⟨rfl, by dsimp only; omega, ?_⟩)), by simp⟩⟩ (by omega)
    dsimp only
    rw [w64 (by omega) (by omega)]
    omega
  · refine Dr.bindP (dr_value hb 0 (by omega) (by omega) (by omega)) fun bt2 hr2 _ _ => ?_
    have a := hr2.2.2 (by omega)
    refine Dp.pure rfl ⟨hs, fun hk => ⟨cmdB_mk hk (.inr (.inl ⟨rfl, ?_, rfl⟩)), by simp⟩⟩ (by omega)
    dsimp only
    rw [Int.tmod_eq_emod_of_nonneg a.1]
    omega
theorem dr_cmd {b : List Int} (hb : Code b) {p : Int} (n : Int) (h0 : 0 ≤ p) (h1 : p ≤ 1099510000000) (hn : n ≤ 1000000) :
    Dp cmdPl (fun k => spec_l20Cmd.f k b p n) p 20 (fun r => r.2.1.size ≤ 5 ∧ (n ≤ 0 → cmdOk r ∧ r.1 ≠ 5)) := by
  unfold spec_l20Cmd.f
  refine Dr.bindP (dr_odd hb n (by omega) (by omega) hn) fun bt ho _ _ => Dp.ite (fun ht => ?_) (fun _ => ?_)
  · refine Dp.some_bind (Dr.bindP (dr_pick hb 10 (by omega) (by omega)) fun bt2 hr _ _ => ?_)
    refine Dp.ite (fun h0 => Dp.ite (fun h1 => Dp.pure rfl ⟨?_, fun hn0 => ?_⟩ (by omega)) fun h => absurd (hr.2.1 (by omega)) h) fun h => absurd hr.1 h
    · have hm : ∀ x : S29, x ∈ ([(⟨0, (⟨#[]⟩ : ByteArray), 0, 0⟩ : S29), (⟨1, (⟨#[]⟩ : ByteArray), 0, 0⟩ : S29), (⟨1, (⟨#[98]⟩ : ByteArray), 1, 0⟩ : S29), (⟨2, (⟨#[98]⟩ : ByteArray), 1000, 0⟩ : S29), (⟨2, (⟨#[98]⟩ : ByteArray), 0, 1⟩ : S29), (⟨4, (⟨#[98]⟩ : ByteArray), 0, (-2)⟩ : S29), (⟨4, (⟨#[98]⟩ : ByteArray), (-1), 0⟩ : S29), (⟨6, (⟨#[98]⟩ : ByteArray), 0, 0⟩ : S29), (⟨3, (⟨#[65]⟩ : ByteArray), 0, 0⟩ : S29), (⟨5, (⟨#[98, 49]⟩ : ByteArray), 0, 0⟩ : S29)] : List S29) → x.f1.size ≤ 5 := fun x hx => by
        simp only [List.mem_cons, List.not_mem_nil, or_false] at hx
        rcases hx with rfl | rfl | rfl | rfl | rfl | rfl | rfl | rfl | rfl | rfl <;> decide
      exact hm _ (rdOf_mem z29 h0 h1)
    · rw [ho hn0] at ht
      cases ht
  · refine Dr.bindP (dr_key hb 0 (by omega) (by omega) (by omega)) fun bt2 hk _ _ => Dr.bindP (dr_pick hb 2 (by omega) (by omega)) fun bt3 _ _ _ => Dp.ite (fun _ => ?_) (fun _ => ?_)
    · refine Dp.some_bind (Dr.bindP (dr_pick hb 4 (by omega) (by omega)) fun bt4 hr _ _ => ?_)
      refine Dp.ite (fun h0 => Dp.ite (fun h1 => ?_) fun h => absurd (hr.2.1 (by omega)) h) fun h => absurd hr.1 h
      have hm : ∀ x : ByteArray, x ∈ ([(⟨#[98]⟩ : ByteArray), (⟨#[99]⟩ : ByteArray), (⟨#[100]⟩ : ByteArray), (⟨#[109]⟩ : ByteArray)] : List ByteArray) → x.size ≤ 5 ∧ keyB x = true := fun x hx => by
        simp only [List.mem_cons, List.not_mem_nil, or_false] at hx
        rcases hx with rfl | rfl | rfl | rfl <;> exact ⟨by decide, by decide +kernel⟩
      have hx := hm _ (rdOf_mem ByteArray.empty h0 h1)
      exact Dp.le (dr_cmdj hb _ (by omega) (by omega) hx.1) (by omega) fun r hr => ⟨hr.1, fun _ => hr.2 hx.2⟩
    · exact Dp.le (dr_cmdj hb _ (by omega) (by omega) hk.1) (by omega) fun r hr => ⟨hr.1, fun _ => hr.2 (hk.2 (by omega))⟩
theorem dr_any {b : List Int} (hb : Code b) {p : Int} (n : Int) (h0 : 0 ≤ p) (h1 : p ≤ 1099509000000) (hn : n ≤ 1000000) :
    Dp cmdPl (fun k => spec_l20Any.f k b p n) p 40 (fun r => r.2.1.size ≤ 5 ∧ (n ≤ 0 → cmdOk r)) := by
  unfold spec_l20Any.f
  refine Dp.bind (dr_cmd hb n (by omega) (by omega) hn) fun r hr _ _ => ?_
  have hpl : cmdPl r = r.2.2.2.2 := rfl
  refine Dr.bindP (dr_pick hb 5 (by omega) (by omega)) fun bt _ _ _ => Dp.ite (fun _ => ?_) (fun _ => ?_)
  · refine Dr.bindP (dr_key hb 0 (by omega) (by omega) (by omega)) fun bt2 hk _ _ => Dp.some_bind (Dr.bindP (dr_pick hb 4 (by omega) (by omega)) fun bt3 hq _ _ => ?_)
    refine Dp.ite (fun h0 => Dp.ite (fun h1 => ?_) fun h => absurd (hq.2.1 (by omega)) h) fun h => absurd hq.1 h
    have hm : ∀ x : ByteArray, x ∈ ([(⟨#[]⟩ : ByteArray), (⟨#[98]⟩ : ByteArray), (⟨#[99]⟩ : ByteArray), bt2.1] : List ByteArray) → x.size ≤ 5 ∧ cmdB 5 x 0 0 = true := fun x hx => by
      simp only [List.mem_cons, List.not_mem_nil, or_false] at hx
      rcases hx with rfl | rfl | rfl | rfl
      · exact ⟨by decide, by decide +kernel⟩
      · exact ⟨by decide, by decide +kernel⟩
      · exact ⟨by decide, by decide +kernel⟩
      · exact ⟨hk.1, cmdB_mk (hk.2 (by omega)) (.inl ⟨.inr (.inr rfl), rfl, rfl⟩)⟩
    have hx := hm _ (rdOf_mem ByteArray.empty h0 h1)
    exact Dp.pure rfl ⟨hx.1, fun _ => hx.2⟩ (by omega)
  · exact Dp.pure rfl ⟨hr.1, fun hn0 => (hr.2 hn0).1⟩ (by omega)
def entPl (r : Int × Int × Int × ByteArray × Int × Int × Int) : Int := r.2.2.2.2.2.2
def entR (r : Int × Int × Int × ByteArray × Int × Int × Int) : Bool := entB r.1 r.2.1 r.2.2.1 r.2.2.2.1 r.2.2.2.2.1 r.2.2.2.2.2.1
theorem dr_entry {b : List Int} (hb : Code b) {p : Int} (n : Int) (h0 : 0 ≤ p) (h1 : p ≤ 1099508000000) (hn : n ≤ 1000000) :
    Dp entPl (fun k => spec_l20Entry.f k b p n) p 60 (fun r => r.2.2.2.1.size ≤ 5 ∧ (n ≤ 0 → entR r = true)) := by
  unfold spec_l20Entry.f
  refine Dr.bindP (dr_pick hb 4 (by omega) (by omega)) fun b1 h1 _ _ => Dr.bindP (dr_pick hb 6 (by omega) (by omega)) fun b2 h2 _ _ => Dp.bind (dr_any hb 0 (by omega) (by omega) (by omega)) fun c hc _ _ => ?_
  have hpl : cmdPl c = c.2.2.2.2 := rfl
  refine Dr.bindP (dr_odd hb n (by omega) (by omega) hn) fun b4 ho _ _ => Dp.ite (fun ht => ?_) (fun _ => ?_)
  · refine Dr.bindP (dr_pick hb 6 (by omega) (by omega)) fun b5 h5 _ _ => ?_
    have i0 := h5.1
    have i1 := h5.2.1 (by omega)
    have hlen : ((spec_l20Entry.odds ⟨c.1, c.2.1, c.2.2.1, c.2.2.2.1⟩).length : Int) = 6 := rfl
    unfold spec_l20Entry.one
    refine Dp.congr (h := fun _ => some _) ?_ (fun k => if_pos ⟨i0, by omega⟩)
    refine Dp.pure rfl ⟨?_, fun hn0 => ?_⟩ (by omega)
    · have hm : ∀ x : S31, x ∈ spec_l20Entry.odds ⟨c.1, c.2.1, c.2.2.1, c.2.2.2.1⟩ → x.f2.f1.size ≤ 5 := fun x hx => by
        simp only [spec_l20Entry.odds, List.mem_cons, List.not_mem_nil, or_false] at hx
        rcases hx with rfl | rfl | rfl | rfl | rfl | rfl <;> first | exact hc.1 | decide
      exact hm _ (rdOf_mem z31 i0 (by omega))
    · rw [ho hn0] at ht
      cases ht
  · refine Dp.pure rfl ⟨hc.1, fun _ => ?_⟩ (by omega)
    have a := h1.1
    have a' := h1.2.1 (by omega)
    have d := h2.1
    have d' := h2.2.1 (by omega)
    have e := hc.2 (by omega)
    unfold entR entB
    dsimp only
    rw [w64 (by omega) (by omega), decide_eq_true (show 0 ≤ b1.1 ∧ b1.1 ≤ 3 by omega), decide_eq_true (show 1 ≤ 1 + b2.1 ∧ 1 + b2.1 ≤ 999 by omega)]
    exact e
theorem dr_number {b : List Int} (hb : Code b) {p : Int} (n : Int) (h0 : 0 ≤ p) (h1 : p ≤ 1099511000000) (hn : n ≤ 1000000) :
    Dr (fun k => spec_l20Number.f k b p n) p 8 (fun _ => True) := by
  unfold spec_l20Number.f
  refine Dr.bind (dr_odd hb n (by omega) (by omega) hn) fun bt _ _ _ => Dr.ite (fun _ => ?_) (fun _ => ?_)
  · refine Dr.some_bind (Dr.bind (dr_pick hb 2 (by omega) (by omega)) fun bt2 hr _ _ => Dr.elt hr.1 (hr.2.1 (by omega)) (fun _ _ => trivial) (by omega))
  · refine Dr.bind (dr_pick hb 256 (by omega) (by omega)) fun bt1 _ _ _ => Dr.bind (dr_pick hb 256 (by omega) (by omega)) fun bt2 _ _ _ => Dr.bind (dr_pick hb 256 (by omega) (by omega)) fun bt3 _ _ _ => Dr.bind (dr_pick hb 256 (by omega) (by omega)) fun bt4 _ _ _ => Dr.bind (dr_pick hb 256 (by omega) (by omega)) fun bt5 _ _ _ => Dr.bind (dr_pick hb 256 (by omega) (by omega)) fun bt6 _ _ _ => ?_
    refine Dr.some_bind (Dr.bind (dr_pick hb 9 (by omega) (by omega)) fun bt7 hr _ _ => Dr.elt hr.1 (hr.2.1 (by omega)) (fun _ _ => trivial) (by omega))
theorem dr_textl {b : List Int} (hb : Code b) (m : Nat) : ∀ (s : ByteArray) (p : Int), 0 ≤ p → p + (m : Int) ≤ 1099511627776 → s.size + m ≤ 1000 →
    Dr (fun k => spec_l20Text.l0 k s (m : Int) b p) p (m : Int) (fun r => r.size ≤ s.size + m) := by
  induction m with
  | zero =>
    intro s p h0 h1 hs
    refine Dr.succ (Dr.congr (Dr.pure (r := s) (by omega) (by omega)) fun k => ?_)
    simp only [spec_l20Text.l0]
    rw [if_neg (by omega)]
  | succ m ih =>
    intro s p h0 h1 hs
    refine Dr.succ (Dr.congr (h := fun k => (spec_l20Rd_pick.f k b p 256).bind fun bt => spec_l20Text.l0 k (s ++ strOfNums [bt.1 % 256]) (m : Int) b bt.2) (Dr.bind (dr_pick hb 256 h0 (by omega)) fun bt _ _ _ => ?_) fun k => ?_)
    · refine Dr.le (ih (s ++ strOfNums [bt.1 % 256]) bt.2 (by omega) (by omega) (by rw [ByteArray.size_append, strOfNums_size]; simp only [List.length_cons, List.length_nil]; omega)) (by omega) fun r hr => ?_
      rw [ByteArray.size_append, strOfNums_size] at hr
      simp only [List.length_cons, List.length_nil] at hr
      omega
    · simp only [spec_l20Text.l0]
      rw [if_pos (by omega), w64 (by omega) (by omega), show ((m + 1 : Nat) : Int) - 1 = (m : Int) by omega]
      refine congrArg (Option.bind _) (funext fun bt => ?_)
      simp only [Option.bind_some]
      rw [if_pos (by rw [strOfNums_size]; simp only [List.length_cons, List.length_nil]; omega)]
theorem dr_text {b : List Int} (hb : Code b) {p : Int} (n : Int) (h0 : 0 ≤ p) (h1 : p ≤ 1099511000000) (hn : n ≤ 1000000) :
    Dr (fun k => spec_l20Text.f k b p n) p 11 (fun r => r.size ≤ 9) := by
  unfold spec_l20Text.f
  refine Dr.bind (dr_odd hb n (by omega) (by omega) hn) fun bt _ _ _ => Dr.ite (fun _ => ?_) (fun _ => ?_)
  · exact Dr.pure (by decide) (by omega)
  · refine Dr.bind (dr_pick hb 9 (by omega) (by omega)) fun bt2 hr _ _ => ?_
    obtain ⟨m, hm⟩ : ∃ m : Nat, bt2.1 = (m : Int) := ⟨bt2.1.toNat, by have := hr.1; omega⟩
    have := hr.2.1 (by omega)
    rw [hm]
    refine Dr.le (dr_textl hb m ⟨#[]⟩ bt2.2 (by omega) (by omega) (by simp [ByteArray.size]; omega)) (by omega) fun r hr => ?_
    have : (⟨#[]⟩ : ByteArray).size = 0 := rfl
    omega
theorem dr_bytesl {b : List Int} (hb : Code b) (x : Int) (hx : x ≤ 1000000) (m : Nat) : ∀ (l : List Int) (p : Int), 0 ≤ p → p ≤ 1099510000000 - 100 * (m : Int) → m ≤ 1000 → l.length + 100 * m ≤ 200000 →
    Dr (fun k => spec_l20Bytes.l0 k x l (m : Int) b p) p (14 * (m : Int) + 4) (fun r => r.length ≤ l.length + 100 * m + 2001) := by
  induction m with
  | zero =>
    intro l p h0 h1 hm hl
    refine Dr.succ (Dr.congr ?_ fun k => spec_l20Bytes.l0.eq_2 ..)
    refine Dr.ite (fun h => absurd h (by omega)) (fun _ => ?_)
    refine Dr.bind (dr_odd hb x (by omega) (by omega) hx) fun bt _ _ _ => Dr.ite (fun _ => ?_) (fun _ => Dr.pure (by omega) (by omega))
    refine Dr.bind (dr_pick hb 3 (by omega) (by omega)) fun bt2 _ _ _ => Dr.ite (fun _ => ?_) (fun _ => ?_)
    · exact Dr.ite (fun _ => Dr.pure (by rw [List.length_replicate]; omega) (by omega)) (fun h => absurd h (by omega))
    · refine Dr.some_bind (Dr.bind (dr_pick hb 2 (by omega) (by omega)) fun bt3 hr _ _ => ?_)
      refine Dr.ite (fun _ => Dr.ite (fun _ => Dr.ite (fun _ => ?_) fun h => absurd h (by omega)) fun h => absurd h ?_) fun h => absurd h ?_
      · exact Dr.pure (by simp only [List.length_append, List.length_cons, List.length_nil]; omega) (by omega)
      · have := hr.2.1 (by omega)
        simp only [List.length_cons, List.length_nil]
        omega
      · have := hr.1
        omega
  | succ m ih =>
    intro l p h0 h1 hm hl
    refine Dr.succ (Dr.congr ?_ fun k => spec_l20Bytes.l0.eq_2 ..)
    have hm1 : wrap64 (((m + 1 : Nat) : Int) - 1) = (m : Int) := by rw [w64 (by omega) (by omega)]; omega
    refine Dr.ite (fun _ => ?_) (fun h => absurd (show ((m + 1 : Nat) : Int) > 0 by omega) h)
    refine Dr.bind (dr_pick hb 4 (by omega) (by omega)) fun bt _ _ _ => Dr.ite (fun _ => ?_) (fun _ => Dr.ite (fun _ => ?_) (fun _ => ?_))
    · refine Dr.bind (dr_number hb 0 (by omega) (by omega) (by omega)) fun bt2 _ _ _ => Dr.run (specEnc bt2.1) (Dr.ite (fun _ => ?_) fun h => absurd h ?_)
      · have := encN_length bt2.1
        rw [hm1]
        refine Dr.le (ih _ bt2.2 (by omega) (by omega) (by omega) (by rw [List.length_append]; omega)) (by omega) fun r hr => ?_
        rw [List.length_append] at hr
        omega
      · have := encN_length bt2.1
        omega
    · refine Dr.bind (dr_text hb 0 (by omega) (by omega) (by omega)) fun bt2 _ _ _ => Dr.run (specEncT bt2.1) (Dr.ite (fun _ => ?_) fun h => absurd h ?_)
      · have := encT_length bt2.1
        rw [hm1]
        refine Dr.le (ih _ bt2.2 (by omega) (by omega) (by omega) (by rw [List.length_append]; omega)) (by omega) fun r hr => ?_
        rw [List.length_append] at hr
        omega
      · have := encT_length bt2.1
        omega
    · refine Dr.bind (dr_pick hb 256 (by omega) (by omega)) fun bt2 _ _ _ => Dr.ite (fun _ => ?_) fun h => absurd h (by omega)
      rw [hm1]
      refine Dr.le (ih _ bt2.2 (by omega) (by omega) (by omega) (by rw [List.length_append]; simp only [List.length_cons, List.length_nil]; omega)) (by omega) fun r hr => ?_
      rw [List.length_append] at hr
      simp only [List.length_cons, List.length_nil] at hr
      omega
theorem dr_bytes {b : List Int} (hb : Code b) {p : Int} (n : Int) (h0 : 0 ≤ p) (h1 : p ≤ 1099500000000) (hn : n ≤ 1000000) :
    Dr (fun k => spec_l20Bytes.f k b p n) p 200 (fun r => r.length ≤ 4000) := by
  unfold spec_l20Bytes.f
  refine Dr.bind (dr_pick hb 12 (by omega) (by omega)) fun bt hr _ _ => ?_
  obtain ⟨m, hm⟩ : ∃ m : Nat, bt.1 = (m : Int) := ⟨bt.1.toNat, by have := hr.1; omega⟩
  have := hr.2.1 (by omega)
  rw [hm]
  refine Dr.le (dr_bytesl hb n hn m [] bt.2 (by omega) (by omega) (by omega) (by simp; omega)) (by omega) fun r hr => ?_
  simp only [List.length_nil] at hr
  omega
theorem sameInts_loop (xs ys : List Int) (hl : xs.length = ys.length) (hn : xs.length ≤ 1099511627776) (d : Nat) : ∀ (j : Nat), j + d = xs.length →
    Evn fun k => laws_sameInts.l0 k xs ys (j : Int) = some (decide (xs.drop j = ys.drop j)) := by
  induction d with
  | zero =>
    intro j hj
    refine Evn.succ (Evn.all fun k => ?_)
    simp only [laws_sameInts.l0]
    rw [if_neg (by omega), List.drop_of_length_le (by omega), List.drop_of_length_le (by omega)]
    simp
  | succ d ih =>
    intro j hj
    have hlt : j < xs.length := by omega
    refine Evn.succ (Evn.mp (ih (j + 1) (by omega)) (Evn.all fun k e => ?_))
    simp only [laws_sameInts.l0]
    rw [if_pos (by omega), if_pos (by omega), if_pos (by omega), w64 (by omega) (by omega)]
    rw [rd_drop hlt, rd_drop (show j < ys.length by omega)]
    by_cases h : rd xs (j : Int) = rd ys (j : Int)
    · rw [if_pos h, h]
      refine Eq.trans e ?_
      simp
    · rw [if_neg h]
      simp [h]
theorem sameInts (xs ys : List Int) (hn : xs.length ≤ 1099511627776) : Evn fun k => laws_sameInts.f k xs ys = some (decide (xs = ys)) := by
  by_cases hl : xs.length = ys.length
  · refine Evn.mp (sameInts_loop xs ys hl hn xs.length 0 (by omega)) (Evn.all fun k e => ?_)
    unfold laws_sameInts.f
    rw [if_pos (by omega)]
    simpa using e
  · refine Evn.all fun k => ?_
    unfold laws_sameInts.f
    rw [if_neg (by omega), decide_eq_false (fun h => hl (by rw [h]))]
theorem sameInts_self (xs : List Int) (hn : xs.length ≤ 1099511627776) : Evn fun k => laws_sameInts.f k xs xs = some true :=
  Evn.mp (sameInts xs xs hn) (Evn.all fun k e => by rw [e]; simp)
theorem alive : Evn fun k => laws_alive.f k = some true := Ev.of laws_alive.mono (k := 12) (by decide +kernel)
theorem drawDecE {b : List Int} (hb : Code b) {l0 : List Int} (eo : spec_l20Open.f l0 = some (b, 0)) : Drw (fun k => spec_DrawDecodeEntry.f k l0) (fun _ => True) := by
  unfold spec_DrawDecodeEntry.f
  rw [eo]
  refine Drw.some_bind (Drw.bind (dr_bytes hb 12 (Int.le_refl 0) (by omega) (by omega)) fun bt hl _ _ => ?_)
  dsimp only at *
  refine Drw.bind (dr_pick hb _ (by omega) (by omega)) fun b2 _ _ _ => Drw.bind (dr_pick hb 14 (by omega) (by omega)) fun b3 _ _ _ => Drw.bind (dr_pick hb 5 (by omega) (by omega)) fun b4 _ _ _ => Drw.ite (fun _ => Drw.pure trivial) (fun _ => ?_)
  refine Drw.bindP (dr_entry hb 0 (by omega) (by omega) (by omega)) fun e he _ _ => ?_
  have hpl : entPl e = e.2.2.2.2.2.2 := rfl
  have hok : entOk (e.1, e.2.1, e.2.2.1, e.2.2.2.1, e.2.2.2.2.1, e.2.2.2.2.2.1) = true := he.2 (by omega)
  have hp := encE_pos hok
  have hq := encE_length (e.1, e.2.1, e.2.2.1, e.2.2.2.1, e.2.2.2.2.1, e.2.2.2.2.2.1)
  refine Drw.run (specEncE (e.1, e.2.1, e.2.2.1, e.2.2.2.1, e.2.2.2.2.1, e.2.2.2.2.2.1)) ?_
  generalize encE (e.1, e.2.1, e.2.2.1, e.2.2.2.1, e.2.2.2.2.1, e.2.2.2.2.2.1) = eb at hp hq ⊢
  refine Drw.bind (dr_pick hb 4 (by omega) (by omega)) fun b8 _ _ _ => Drw.ite (fun _ => ?_) (fun _ => ?_)
  · refine Drw.bind (dr_pick hb _ (by omega) (by omega)) fun b9 h9 _ _ => Drw.bind (dr_pick hb 256 (by omega) (by omega)) fun b10 _ _ _ => ?_
    have i0 := h9.1
    have i1 := h9.2.1 (by omega)
    unfold spec_DrawDecodeEntry.fin
    exact Drw.congr (h := fun _ => some _) (Drw.pure trivial) (fun k => (if_pos ⟨i0, i1⟩).trans (if_pos (by rw [List.length_set]; omega)))
  · unfold spec_DrawDecodeEntry.fin
    exact Drw.congr (h := fun _ => some _) (Drw.pure trivial) (fun k => if_pos (by omega))
theorem FnDecodeEntry : FnDecodeEntry.Said := by
  intro l0 hw
  by_cases hl0 : l0.length ≤ 1048576
  · have hD : Drw (fun k => spec_DrawDecodeEntry.f k l0) (fun _ => True) := by
      obtain ⟨b, hb, eo⟩ := spec_open l0 hw.2
      exact drawDecE hb eo
    obtain ⟨⟨b, a⟩, _, eD⟩ := hD
    dsimp only at eD
    have eI := implDecE b a
    have eS := specDecE b a
    generalize hd : decE b a = d at eI eS
    obtain ⟨e, nx⟩ := d
    dsimp only at eI eS
    rcases decE_facts hd with ⟨rfl, rfl⟩ | ⟨hB, h0, h1, h2, hok, hcut⟩
    · refine Evn.some (Evn.mp eD (Evn.mp eI (Evn.mp eS (Evn.mp alive (Evn.all fun k e4 e3 e2 e1 => ?_)))))
      unfold laws_FnDecodeEntry.f laws_FnDecodeEntry.judge
      rw [if_neg (by omega), e1]
      simp only [Option.bind_some]
      rw [e2, e3]
      simp only [Option.bind_some]
      rw [if_pos trivial, if_pos (by omega), e4]
      simp only [Option.bind_some]
      exact if_pos ⟨rfl, trivial⟩
    · have hlen := encE_length e
      refine Evn.some (Evn.mp eD (Evn.mp eI (Evn.mp eS (Evn.mp (implEnt e.1 e.2.1 e.2.2.1 e.2.2.2.1 e.2.2.2.2.1 e.2.2.2.2.2) (Evn.mp (implEncE e) (Evn.mp (sameInts_self (encE e) (by omega)) (Evn.all fun k e6 e5 e4 e3 e2 e1 => ?_)))))))
      unfold laws_FnDecodeEntry.f laws_FnDecodeEntry.judge
      rw [if_neg (by omega), e1]
      simp only [Option.bind_some]
      rw [e2, e3]
      simp only [Option.bind_some]
      rw [if_pos trivial, if_neg (by omega), if_pos ⟨h0, h1, h2⟩, e4, e5]
      simp only [Option.bind_some]
      rw [hcut, e6]
      simp only [Option.bind_some]
      exact if_pos ⟨hok, trivial⟩
  · refine ⟨0, ?_⟩
    unfold laws_FnDecodeEntry.f
    rw [if_pos (by omega)]
end Go.Proofs.Ytlimhkjnnpmpkaa.Pure
