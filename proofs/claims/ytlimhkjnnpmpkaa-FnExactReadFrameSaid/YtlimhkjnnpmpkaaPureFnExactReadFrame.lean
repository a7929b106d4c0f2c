/- The program's ReadFrame answers as the reference's for every list, index and number, and leaves the list as it was. No condition beyond the row's own. -/
import Derived.Test.YtlimhkjnnpmpkaaPFnExactReadFramex30
import Derived.Test.YtlimhkjnnpmpkaaWSized
import Derived.Laws.BytesArg
import Derived.Lib.Strings
namespace Go.Proofs.Ytlimhkjnnpmpkaa.Pure
open Go.RowKit Go.Proofs.Ytlimhkjnnpmpkaa.PFnExactReadFrame Go.Proofs.YtlimhkjnnpmpkaaW.PrintWords Go.Proofs.YtlimhkjnnpmpkaaW.PrintLast
set_option linter.unusedVariables false
set_option linter.unusedSimpArgs false

/-! The printed row names 'PrintWords.sized_ints' from inside the seat's own namespace: the word of that name, under that name. -/
end Go.Proofs.Ytlimhkjnnpmpkaa.Pure
namespace Go.Proofs.Ytlimhkjnnpmpkaa
theorem PrintWords.sized_ints : type_of% @Go.Proofs.YtlimhkjnnpmpkaaW.PrintWords.sized_ints := @Go.Proofs.YtlimhkjnnpmpkaaW.PrintWords.sized_ints
end Go.Proofs.Ytlimhkjnnpmpkaa
namespace Go.Proofs.Ytlimhkjnnpmpkaa.Pure
open Go.RowKit Go.Proofs.Ytlimhkjnnpmpkaa.PFnExactReadFrame Go.Proofs.YtlimhkjnnpmpkaaW.PrintWords Go.Proofs.YtlimhkjnnpmpkaaW.PrintLast

/-! Eventually: for all large enough numbers of rounds; small lemmas on numbers and lists. -/
def Evn (P : Nat → Prop) : Prop := ∃ K, ∀ k, K ≤ k → P k

theorem Evn.all {P : Nat → Prop} (h : ∀ k, P k) : Evn P := ⟨0, fun k _ => h k⟩

theorem Evn.mp {P Q : Nat → Prop} (hp : Evn P) (hq : Evn fun k => P k → Q k) : Evn Q := by
  obtain ⟨K1, h1⟩ := hp
  obtain ⟨K2, h2⟩ := hq
  exact ⟨max K1 K2, fun k hk => h2 k (by omega) (h1 k (by omega))⟩

theorem Evn.succ {P : Nat → Prop} (h : Evn fun k => P (k + 1)) : Evn P := by
  obtain ⟨K, h⟩ := h
  refine ⟨K + 1, fun k hk => ?_⟩
  obtain ⟨m, rfl⟩ : ∃ m, k = m + 1 := ⟨k - 1, by omega⟩
  exact h m (by omega)

theorem Evn.some {P : Nat → Prop} (h : Evn P) : ∃ k, P k := by
  obtain ⟨K, h⟩ := h
  exact ⟨K, h K (Nat.le_refl K)⟩

theorem w64 {x : Int} (h0 : -9223372036854775808 ≤ x) (h1 : x ≤ 9223372036854775807) : wrap64 x = x := by
  unfold wrap64
  omega

theorem rd_drop {xs : List Int} {j : Nat} (h : j < xs.length) : xs.drop j = rd xs (j : Int) :: xs.drop (j + 1) := by
  rw [List.drop_eq_getElem_cons h]
  simp [rd, List.getD_eq_getElem?_getD, List.getElem?_eq_getElem h]

theorem rd_nat {xs : List Int} {j : Nat} (h : j < xs.length) : rd xs (j : Int) = xs[j] := by
  simp [rd, List.getD_eq_getElem?_getD, List.getElem?_eq_getElem h]

theorem wf64 {x : Int} (h : (Lit.int .i64 x).wf = true) : -9223372036854775808 ≤ x ∧ x ≤ 9223372036854775807 := by
  have h' : (decide (IntKind.i64.min ≤ x) && decide (x ≤ IntKind.i64.max)) = true := h
  rw [Bool.and_eq_true, decide_eq_true_eq, decide_eq_true_eq] at h'
  exact h'

/-! Copies of lists of numbers, and their comparison. -/
theorem toIntS_loop (xs : List Int) (hn : xs.length ≤ 1048576) (d : Nat) : ∀ (j : Nat) (ys : List Int), j + d = xs.length → ys.length = xs.length → ys.take j = xs.take j →
    Evn fun k => laws_toIntS.l0 k xs ys (j : Int) = some xs := by
  induction d with
  | zero =>
    intro j ys hj hl ht
    refine Evn.succ (Evn.all fun k => ?_)
    simp only [laws_toIntS.l0]
    rw [if_neg (by omega)]
    rw [List.take_of_length_le (by omega), List.take_of_length_le (by omega)] at ht
    rw [ht]
  | succ d ih =>
    intro j ys hj hl ht
    have hlt : j < xs.length := by omega
    refine Evn.succ (Evn.mp (ih (j + 1) (ys.set j (rd xs (j : Int))) (by omega) (by simpa using hl) ?_) (Evn.all fun k e => ?_))
    · rw [rd_nat hlt, List.take_succ_eq_append_getElem hlt, ← ht, List.take_succ_eq_append_getElem (by simp; omega)]
      simp [List.take_set_of_le]
    · simp only [laws_toIntS.l0]
      rw [if_pos (by omega), if_pos (by omega), if_pos (by omega), w64 (by omega) (by omega)]
      exact e

theorem toIntS (xs : List Int) (hn : xs.length ≤ 1048576) : Evn fun k => laws_toIntS.f k xs = some xs := by
  refine Evn.mp (toIntS_loop xs hn xs.length 0 (List.replicate xs.length 0) (by omega) (by simp) (by simp)) (Evn.all fun k e => ?_)
  unfold laws_toIntS.f
  rw [if_pos (by omega), if_pos (by omega)]
  exact e


/-! Comparison of lists of numbers. -/
theorem eqIntS_loop (xs ys : List Int) (hl : xs.length = ys.length) (hn : xs.length ≤ 1048576) (d : Nat) : ∀ (j : Nat), j + d = xs.length →
    Evn fun k => laws_eqIntS.l0 k xs ys (j : Int) = some (decide (xs.drop j = ys.drop j)) := by
  induction d with
  | zero =>
    intro j hj
    refine Evn.succ (Evn.all fun k => ?_)
    simp only [laws_eqIntS.l0]
    rw [if_neg (by omega), List.drop_of_length_le (by omega), List.drop_of_length_le (by omega)]
    simp
  | succ d ih =>
    intro j hj
    have hlt : j < xs.length := by omega
    refine Evn.succ (Evn.mp (ih (j + 1) (by omega)) (Evn.all fun k e => ?_))
    simp only [laws_eqIntS.l0]
    rw [if_pos (by omega), if_pos (by omega), if_pos (by omega), w64 (by omega) (by omega)]
    rw [rd_drop hlt, rd_drop (show j < ys.length by omega)]
    by_cases h : rd xs (j : Int) = rd ys (j : Int)
    · rw [if_pos h, h]
      refine Eq.trans e ?_
      simp
    · rw [if_neg h]
      simp [h]

theorem eqIntS (xs ys : List Int) (hn : xs.length ≤ 1048576) : Evn fun k => laws_eqIntS.f k xs ys = some (decide (xs = ys)) := by
  by_cases hl : xs.length = ys.length
  · refine Evn.mp (eqIntS_loop xs ys hl hn xs.length 0 (by omega)) (Evn.all fun k e => ?_)
    unfold laws_eqIntS.f
    rw [if_pos (by omega)]
    simpa using e
  · refine Evn.all fun k => ?_
    unfold laws_eqIntS.f
    rw [if_neg (by omega), decide_eq_false (fun h => hl (by rw [h]))]

theorem eqIntS_self (xs : List Int) (hn : xs.length ≤ 1048576) : Evn fun k => laws_eqIntS.f k xs xs = some true :=
  Evn.mp (eqIntS xs xs hn) (Evn.all fun k e => by rw [e]; simp)

/-! Strings and their bytes. -/
theorem str_nil : strOfNums [] = (⟨#[]⟩ : ByteArray) := rfl
theorem ba_ext {a b : ByteArray} (h : a.data.toList = b.data.toList) : a = b := by
  cases a; cases b; simp only [ByteArray.mk.injEq]; exact Array.toList_inj.mp h
theorem ba_append (a b : ByteArray) : (a ++ b).data.toList = a.data.toList ++ b.data.toList := by
  rw [ByteArray.data_append, Array.toList_append]
theorem str_append (xs ys : List Int) : strOfNums (xs ++ ys) = strOfNums xs ++ strOfNums ys := by
  refine ba_ext ?_
  rw [ba_append, strOfNums_data, strOfNums_data, strOfNums_data, List.map_append]
theorem str_bytes (s : ByteArray) : strOfNums (bytesOf s) = s := by
  refine ba_ext ?_
  rw [strOfNums_data, bytesOf, List.map_map]
  exact (List.map_congr_left (g := id) fun b _ => by simp).trans (List.map_id _)
theorem bytes_str {xs : List Int} (h : ∀ x ∈ xs, 0 ≤ x ∧ x ≤ 255) : bytesOf (strOfNums xs) = xs := by
  rw [bytesOf, strOfNums_data, List.map_map]
  refine (List.map_congr_left (g := id) fun x hx => ?_).trans (List.map_id _)
  have := h x hx
  simp only [Function.comp, id]
  rw [UInt8.toNat_ofNat_of_lt' (by simp [UInt8.size]; omega)]
  omega
theorem ba_toList (s : ByteArray) : s.toList = s.data.toList := Lib.toList_data s
theorem ba_toList_inj {s t : ByteArray} : s.toList = t.toList ↔ s = t := by
  refine ⟨fun h => ba_ext ?_, fun h => by rw [h]⟩
  rwa [ba_toList, ba_toList] at h
theorem bytes_byte (s : ByteArray) : ∀ x ∈ bytesOf s, 0 ≤ x ∧ x ≤ 255 := by
  intro x hx
  unfold bytesOf at hx
  obtain ⟨b, _, rfl⟩ := List.mem_map.mp hx
  have := b.toNat_lt
  omega

/-! The model of keys. -/
def lowB (x : Int) : Bool := decide (97 ≤ x) && decide (x ≤ 122)
def keyB (s : ByteArray) : Bool := decide (1 ≤ s.size) && decide (s.size ≤ 4) && (bytesOf s).all lowB
theorem bt_drop' {s : ByteArray} {j : Nat} (h : j < s.size) : (bytesOf s).drop j = bt s (j : Int) :: (bytesOf s).drop (j + 1) := by
  rw [rd_drop (by rw [bytesOf_length]; exact h), rd_bytesOf]
theorem bytesOf_tail (s : ByteArray) : bytesOf (s.extract 1 s.size) = (bytesOf s).drop 1 := by
  unfold bytesOf
  rw [← List.map_drop]
  refine congrArg _ ?_
  rw [ByteArray.data_extract, Array.toList_extract]
  rw [List.extract_eq_take_drop, List.take_of_length_le (by rw [List.length_drop, data_length]; omega)]
theorem nil_iff (s : ByteArray) : s.toList = ([] : List UInt8) ↔ s.size = 0 := by
  rw [ba_toList]
  refine ⟨fun h => ?_, fun h => ?_⟩
  · have := data_length s
    rw [h] at this
    exact this.symm
  · exact List.eq_nil_of_length_eq_zero (by rw [data_length]; exact h)

/-! The model of commands. -/
def valB (x : Int) : Bool := decide (0 ≤ x ∧ x ≤ 999)
def cmdB (kind : Int) (key : ByteArray) (value old : Int) : Bool :=
  (keyB key || (decide (kind = 5) && decide (key.size = 0))) &&
  (if kind = 2 then valB value && decide (old = 0) else if kind = 4 then valB value && (decide (old = -1) || valB old) else decide (1 ≤ kind ∧ kind ≤ 5) && (decide (value = 0) && decide (old = 0)))
theorem nil_dec (s : ByteArray) : decide (s.toList = ([] : List UInt8)) = decide (s.size = 0) := decide_eq_decide.mpr (nil_iff s)

/-! The model of entries. -/
def entB (client seq kind : Int) (key : ByteArray) (value old : Int) : Bool := decide (0 ≤ client ∧ client ≤ 3) && (decide (1 ≤ seq ∧ seq ≤ 999) && cmdB kind key value old)

/-! The model of numbers as bytes. -/
def encG : Nat → Nat → List Int
  | 0, n => [(n : Int)]
  | g + 1, n => if n < 128 then [(n : Int)] else (((n % 128 : Nat) : Int) + 128) :: encG g (n / 128)
def encN (n : Int) : List Int := if 0 ≤ n ∧ n ≤ 268435455 then encG 4 n.toNat else []
theorem encG_length (g : Nat) : ∀ n, 1 ≤ (encG g n).length ∧ (encG g n).length ≤ g + 1 := by
  induction g with
  | zero => intro n; simp [encG]
  | succ g ih =>
    intro n
    unfold encG
    split
    · simp
    · have := ih (n / 128)
      simp
      omega
theorem encN_length (n : Int) : (encN n).length ≤ 5 := by
  unfold encN
  split
  · exact (encG_length 4 _).2
  · simp

/-! The model of texts as bytes. -/
def encT (s : ByteArray) : List Int := if s.size ≤ 8 then encN (s.size : Int) ++ bytesOf s else []
theorem encT_length (s : ByteArray) : (encT s).length ≤ 13 := by
  unfold encT
  have := encN_length (s.size : Int)
  split
  · rw [List.length_append, bytesOf_length]
    omega
  · simp
theorem bt_drop {s : ByteArray} {j : Nat} (h : j < s.size) : (bytesOf s).drop j = bt s (j : Int) :: (bytesOf s).drop (j + 1) := by
  rw [rd_drop (by rw [bytesOf_length]; exact h), rd_bytesOf]

/-! Valid bytes. -/
def byteB (x : Int) : Bool := decide (0 ≤ x) && decide (x ≤ 255)
def bytesB (b : List Int) : Bool := decide (b.length ≤ 2000) && b.all byteB


/-! The model of reading numbers: at most g groups; the value, and how many bytes were read. -/
def decG : Nat → List Int → Bool → Option (Int × Nat)
  | 0, _, _ => none
  | _ + 1, [], _ => none
  | g + 1, x :: r, first =>
    if x < 128 then (if x = 0 ∧ first = false then none else some (x, 1))
    else match decG g r false with
      | none => none
      | some (v, c) => some (x % 128 + 128 * v, c + 1)
def decTail (at_ : Int) : Option (Int × Nat) → Int × Int
  | none => (-1, -1)
  | some (v, c) => (v, at_ + (c : Int))
def decN (b : List Int) (at_ : Int) : Int × Int :=
  if bytesB b = true ∧ 0 ≤ at_ ∧ at_ < (b.length : Int) then decTail at_ (decG 4 (b.drop at_.toNat) true) else (-1, -1)
/-- how many groups are left, and the weight of the next one -/
def weigh (g : Nat) (u : Int) : Prop := (g = 4 ∧ u = 1) ∨ (g = 3 ∧ u = 128) ∨ (g = 2 ∧ u = 16384) ∨ (g = 1 ∧ u = 2097152) ∨ (g = 0 ∧ u = 268435456)
def decAll (n u at_ : Int) : Option (Int × Nat) → Int × Int
  | none => (-1, -1)
  | some (v, c) => (n + u * v, at_ + (c : Int))
theorem bytesB_range {b : List Int} (h : bytesB b = true) {j : Nat} (hj : j < b.length) : 0 ≤ rd b (j : Int) ∧ rd b (j : Int) ≤ 255 := by
  unfold bytesB at h
  rw [Bool.and_eq_true, List.all_eq_true] at h
  have := h.2 b[j] (List.getElem_mem hj)
  rw [rd_nat hj]
  unfold byteB at this
  simpa using this
theorem bytesB_length {b : List Int} (h : bytesB b = true) : b.length ≤ 2000 := by
  unfold bytesB at h
  rw [Bool.and_eq_true] at h
  simpa using h.1
theorem decG_small {g : Nat} {x : Int} {r : List Int} {first : Bool} (hs : x < 128) : decG (g + 1) (x :: r) first = if x = 0 ∧ first = false then none else some (x, 1) := by
  rw [decG, if_pos hs]
theorem decG_big {g : Nat} {x : Int} {r : List Int} {first : Bool} (hs : ¬ x < 128) : decG (g + 1) (x :: r) first = match decG g r false with
      | none => none
      | some (v, c) => some (x % 128 + 128 * v, c + 1) := by
  rw [decG, if_neg hs]
theorem decN_bad {b : List Int} {a : Int} (h : bytesB b = true → ¬ (0 ≤ a ∧ a < (b.length : Int))) : decN b a = (-1, -1) := by
  unfold decN
  rw [if_neg (fun q => h q.1 q.2)]
theorem decAll_step (n u x : Int) (j : Nat) (o : Option (Int × Nat)) :
    decAll (n + u * (x % 128)) (u * 128) ((j : Int) + 1) o = decAll n u (j : Int) (match o with | none => none | some (v, c) => some (x % 128 + 128 * v, c + 1)) := by
  cases o with
  | none => rfl
  | some p =>
    obtain ⟨v, c⟩ := p
    simp only [decAll]
    rw [Int.mul_add, Int.mul_assoc]
    refine Prod.ext ?_ ?_
    · simp only; omega
    · simp only; omega


/-! What is written is read again. -/
theorem decG_enc (h : Nat) : ∀ (g n : Nat) (rest : List Int) (first : Bool), g ≤ h + 1 → n < 128 ^ g → 1 ≤ g → (first = true ∨ 0 < n) →
    decG g (encG h n ++ rest) first = some ((n : Int), (encG h n).length) := by
  induction h with
  | zero =>
    intro g n rest first hg hn h1 hf
    obtain rfl : g = 1 := by omega
    simp only [encG, List.cons_append, List.nil_append]
    rw [decG_small (by omega), if_neg (fun q => by rcases hf with hf | hf <;> simp_all)]
    rfl
  | succ h ih =>
    intro g n rest first hg hn h1 hf
    obtain ⟨g, rfl⟩ : ∃ m, g = m + 1 := ⟨g - 1, by omega⟩
    by_cases hs : n < 128
    · rw [encG, if_pos hs, List.cons_append, decG_small (by omega), if_neg (fun q => by rcases hf with hf | hf <;> simp_all)]
      rfl
    · have hlt : n / 128 < 128 ^ g := by rw [Nat.pow_succ, Nat.mul_comm] at hn; exact Nat.div_lt_of_lt_mul hn
      have hg1 : 1 ≤ g := by
        rcases Nat.eq_zero_or_pos g with h0 | h0
        · subst h0; simp at hlt; omega
        · exact h0
      rw [encG, if_neg hs, List.cons_append, decG_big (by omega), ih g (n / 128) rest false (by omega) hlt hg1 (.inr (by omega))]
      refine congrArg some (Prod.ext ?_ rfl)
      dsimp only
      omega

theorem encG_byte (h : Nat) : ∀ n, n < 128 ^ (h + 1) → ∀ x ∈ encG h n, 0 ≤ x ∧ x ≤ 255 := by
  induction h with
  | zero => intro n hn x hx; simp [encG] at hx; omega
  | succ h ih =>
    intro n hn x hx
    rw [encG] at hx
    split at hx
    · simp at hx; omega
    · rcases List.mem_cons.mp hx with hx | hx
      · omega
      · exact ih (n / 128) (by rw [Nat.pow_succ, Nat.mul_comm] at hn; exact Nat.div_lt_of_lt_mul hn) x hx

theorem bytesB_mk {b : List Int} (h1 : b.length ≤ 2000) (h2 : ∀ x ∈ b, 0 ≤ x ∧ x ≤ 255) : bytesB b = true := by
  unfold bytesB
  rw [Bool.and_eq_true, decide_eq_true_eq, List.all_eq_true]
  refine ⟨h1, fun x hx => ?_⟩
  have := h2 x hx
  unfold byteB
  simp [this]

theorem bytesB_iff {b : List Int} : bytesB b = true ↔ b.length ≤ 2000 ∧ ∀ x ∈ b, 0 ≤ x ∧ x ≤ 255 := by
  refine ⟨fun h => ⟨bytesB_length h, fun x hx => ?_⟩, fun h => bytesB_mk h.1 h.2⟩
  obtain ⟨j, hj, rfl⟩ := List.getElem_of_mem hx
  have := bytesB_range h hj
  rwa [rd_nat hj] at this

theorem encN_byte (n : Int) : ∀ x ∈ encN n, 0 ≤ x ∧ x ≤ 255 := by
  intro x hx
  unfold encN at hx
  split at hx
  · exact encG_byte 4 n.toNat (by omega) x hx
  · simp at hx

theorem encN_pos {n : Int} (h0 : 0 ≤ n) (h1 : n ≤ 268435455) : 1 ≤ (encN n).length := by
  unfold encN
  rw [if_pos ⟨h0, h1⟩]
  exact (encG_length 4 _).1

/-- DecodeNumber of what EncodeNumber wrote, wherever it stands in valid bytes. -/
theorem decN_enc {n : Int} (h0 : 0 ≤ n) (h1 : n ≤ 268435455) {pre rest : List Int} (hb : bytesB (pre ++ (encN n ++ rest)) = true) :
    decN (pre ++ (encN n ++ rest)) (pre.length : Int) = (n, (pre.length : Int) + ((encN n).length : Int)) := by
  have hp := encN_pos h0 h1
  unfold decN
  rw [if_pos ⟨hb, by omega, by simp only [List.length_append]; omega⟩, Int.toNat_natCast, List.drop_left]
  have e : encN n = encG 4 n.toNat := by unfold encN; rw [if_pos ⟨h0, h1⟩]
  rw [e, decG_enc 4 4 n.toNat rest true (by omega) (by omega) (by omega) (.inl rfl)]
  simp only [decTail]
  rw [show ((n.toNat : Nat) : Int) = n by omega]

/-! What is read was written. -/
theorem decG_facts (g : Nat) : ∀ (h : Nat) (r : List Int) (first : Bool) (v : Int) (c : Nat), g ≤ h + 1 → (∀ x ∈ r, 0 ≤ x ∧ x ≤ 255) → decG g r first = some (v, c) →
    c ≤ r.length ∧ 1 ≤ c ∧ 0 ≤ v ∧ v < (128 : Int) ^ g ∧ r.take c = encG h v.toNat ∧ (first = false → 0 < v) := by
  induction g with
  | zero => intro h r first v c _ _ hd; simp [decG] at hd
  | succ g ih =>
    intro h r first v c hg hr hd
    cases r with
    | nil => simp [decG] at hd
    | cons x r =>
      have hx := hr x (by simp)
      have hp : (0 : Int) < 128 ^ g := Int.pow_pos (by omega)
      by_cases hs : x < 128
      · rw [decG_small hs] at hd
        split at hd
        · cases hd
        · rename_i hn
          obtain ⟨rfl, rfl⟩ := Prod.mk.inj (Option.some.inj hd)
          have e : encG h x.toNat = [x] := by
            cases h with
            | zero => simp only [encG]; rw [show ((x.toNat : Nat) : Int) = x by omega]
            | succ h => rw [encG, if_pos (by omega), show ((x.toNat : Nat) : Int) = x by omega]
          refine ⟨by simp, by omega, by omega, by rw [Int.pow_succ]; omega, by rw [e]; rfl, fun hf => ?_⟩
          rcases Int.lt_or_eq_of_le hx.1 with h0 | h0
          · exact h0
          · exact absurd ⟨h0.symm, hf⟩ hn
      · rw [decG_big hs] at hd
        cases hq : decG g r false with
        | none => rw [hq] at hd; cases hd
        | some p =>
          obtain ⟨v', c'⟩ := p
          rw [hq] at hd
          obtain ⟨rfl, rfl⟩ := Prod.mk.inj (Option.some.inj hd)
          obtain ⟨h, rfl⟩ : ∃ m, h = m + 1 := by
            refine ⟨h - 1, ?_⟩
            rcases Nat.eq_zero_or_pos h with h0 | h0
            · subst h0
              obtain rfl : g = 0 := by omega
              simp [decG] at hq
            · omega
          obtain ⟨a, b', c, d, e, f⟩ := ih h r false v' c' (by omega) (fun y hy => hr y (List.mem_cons_of_mem _ hy)) hq
          have f := f rfl
          refine ⟨by simp; omega, by omega, by omega, by rw [Int.pow_succ]; omega, ?_, fun _ => by omega⟩
          rw [List.take_succ_cons, e, encG, if_neg (by omega)]
          refine congr (congrArg List.cons (by omega)) (congrArg (encG h) (by omega))

theorem decN_facts {b : List Int} {a n next : Int} (h : decN b a = (n, next)) (hn : n ≠ -1) :
    bytesB b = true ∧ 0 ≤ a ∧ a < next ∧ next ≤ (b.length : Int) ∧ 0 ≤ n ∧ n ≤ 268435455 ∧ (b.take next.toNat).drop a.toNat = encN n := by
  unfold decN at h
  split at h
  · rename_i hc
    obtain ⟨hb, h0, h1⟩ := hc
    cases hd : decG 4 (b.drop a.toNat) true with
    | none => rw [hd] at h; exact absurd (Prod.mk.inj h).1.symm hn
    | some p =>
      obtain ⟨v, c⟩ := p
      rw [hd] at h
      obtain ⟨rfl, rfl⟩ := Prod.mk.inj h
      have hby := (bytesB_iff.mp hb).2
      obtain ⟨c1, c2, c3, c4, c5, _⟩ := decG_facts 4 4 _ true v c (by omega) (fun x hx => hby x (List.mem_of_mem_drop hx)) hd
      rw [List.length_drop] at c1
      refine ⟨hb, h0, by omega, by omega, c3, by omega, ?_⟩
      have e : (a + (c : Int)).toNat = a.toNat + c := by omega
      rw [e, List.drop_take, Nat.add_sub_cancel_left, c5]
      unfold encN
      rw [if_pos ⟨c3, by omega⟩]
  · exact absurd (Prod.mk.inj h).1.symm hn

theorem decN_none {b : List Int} {a n next : Int} (h : decN b a = (n, next)) (hn : n = -1) : next = -1 := by
  subst hn
  unfold decN at h
  split at h
  · rename_i hc
    cases hd : decG 4 (b.drop a.toNat) true with
    | none => rw [hd] at h; exact (Prod.mk.inj h).2.symm
    | some p =>
      obtain ⟨v, c⟩ := p
      rw [hd] at h
      have hby := (bytesB_iff.mp hc.1).2
      obtain ⟨_, _, c3, _⟩ := decG_facts 4 4 _ true v c (by omega) (fun x hx => hby x (List.mem_of_mem_drop hx)) hd
      have := (Prod.mk.inj h).1
      omega
  · exact (Prod.mk.inj h).2.symm

/-! The model of reading texts. -/
def decT (b : List Int) (a : Int) : ByteArray × Int :=
  let p := decN b a
  if p.1 < 0 ∨ 8 < p.1 ∨ (b.length : Int) - p.2 < p.1 then (⟨#[]⟩, -1) else (strOfNums ((b.drop p.2.toNat).take p.1.toNat), p.2 + p.1)

theorem decN_cases (b : List Int) (a : Int) : (decN b a = (-1, -1)) ∨ ∃ n next, decN b a = (n, next) ∧ n ≠ -1 := by
  generalize h : decN b a = p
  obtain ⟨n, next⟩ := p
  by_cases hn : n = -1
  · left
    rw [hn, decN_none h hn]
  · right
    exact ⟨n, next, rfl, hn⟩

theorem byte_mod {b : List Int} (hb : ∀ x ∈ b, 0 ≤ x ∧ x ≤ 255) : b.map (· % 256) = b :=
  (List.map_congr_left (g := id) fun x hx => by have := hb x hx; simp only [id]; omega).trans (List.map_id _)

theorem encT_byte (s : ByteArray) : ∀ x ∈ encT s, 0 ≤ x ∧ x ≤ 255 := by
  intro x hx
  unfold encT at hx
  split at hx
  · rcases List.mem_append.mp hx with hx | hx
    · exact encN_byte _ x hx
    · exact bytes_byte s x hx
  · simp at hx

theorem encT_eq {s : ByteArray} (h : s.size ≤ 8) : encT s = encN (s.size : Int) ++ bytesOf s := by unfold encT; rw [if_pos h]

theorem encT_pos {s : ByteArray} (h : s.size ≤ 8) : 1 ≤ (encT s).length := by
  rw [encT_eq h, List.length_append]
  have := encN_pos (n := (s.size : Int)) (by omega) (by omega)
  omega

/-- DecodeText of what EncodeText wrote, wherever it stands in valid bytes. -/
theorem decT_enc {s : ByteArray} (h : s.size ≤ 8) {pre rest : List Int} (hb : bytesB (pre ++ (encT s ++ rest)) = true) :
    decT (pre ++ (encT s ++ rest)) (pre.length : Int) = (s, (pre.length : Int) + ((encT s).length : Int)) := by
  have hp := encN_pos (n := (s.size : Int)) (by omega) (by omega)
  rw [encT_eq h] at hb ⊢
  rw [List.append_assoc] at hb ⊢
  have hd := decN_enc (n := (s.size : Int)) (by omega) (by omega) hb
  unfold decT
  rw [hd]
  have hbl := bytesOf_length s
  simp only [List.length_append]
  rw [if_neg (by omega), show ((pre.length : Int) + ((encN (s.size : Int)).length : Int)).toNat = (pre ++ encN (s.size : Int)).length by rw [List.length_append]; omega, ← List.append_assoc pre, List.drop_left, Int.toNat_natCast]
  rw [List.take_left' hbl, str_bytes]
  refine Prod.ext rfl ?_
  simp only
  omega

theorem decT_facts {b : List Int} {a : Int} {s : ByteArray} {next : Int} (h : decT b a = (s, next)) :
    (next = -1 ∧ s = ⟨#[]⟩) ∨ (bytesB b = true ∧ 0 ≤ a ∧ a < next ∧ next ≤ (b.length : Int) ∧ s.size ≤ 8 ∧ (b.take next.toNat).drop a.toNat = encT s) := by
  unfold decT at h
  rcases decN_cases b a with hd | ⟨n, q, hd, hn⟩
  · rw [hd] at h
    simp only at h
    rw [if_pos (by omega)] at h
    obtain ⟨rfl, rfl⟩ := Prod.mk.inj h
    exact .inl ⟨rfl, rfl⟩
  · obtain ⟨f1, f2, f3, f4, f5, f6, f7⟩ := decN_facts hd hn
    rw [hd] at h
    simp only at h
    split at h
    · obtain ⟨rfl, rfl⟩ := Prod.mk.inj h
      exact .inl ⟨rfl, rfl⟩
    · obtain ⟨rfl, rfl⟩ := Prod.mk.inj h
      have hb := (bytesB_iff.mp f1).2
      have hs : (strOfNums ((b.drop q.toNat).take n.toNat)).size = n.toNat := by rw [strOfNums_size, List.length_take, List.length_drop]; omega
      refine .inr ⟨f1, f2, by omega, by omega, by omega, ?_⟩
      rw [encT_eq (by omega), hs, bytes_str (fun x hx => hb x (List.mem_of_mem_drop (List.mem_of_mem_take hx))), show ((n.toNat : Nat) : Int) = n by omega, ← f7]
      rw [show (q + n).toNat = q.toNat + n.toNat by omega, List.take_add, List.drop_append_of_le_length (by rw [List.length_take]; omega)]

/-! The models of entries as bytes. -/
abbrev EntT := Int × Int × Int × ByteArray × Int × Int
def entOk (e : EntT) : Bool := entB e.1 e.2.1 e.2.2.1 e.2.2.2.1 e.2.2.2.2.1 e.2.2.2.2.2
def zeroE : EntT := (0, 0, 0, ⟨#[]⟩, 0, 0)
def encE (e : EntT) : List Int :=
  if entOk e = true then encN e.1 ++ (encN e.2.1 ++ (encN e.2.2.1 ++ (encT e.2.2.2.1 ++ (encN e.2.2.2.2.1 ++ encN (e.2.2.2.2.2 + 1))))) else []
def decE (b : List Int) (a : Int) : EntT × Int :=
  let c := decN b a
  let s := decN b c.2
  let k := decN b s.2
  let t := decT b k.2
  let v := decN b t.2
  let o := decN b v.2
  if o.2 < 0 then (zeroE, -1) else if entOk (c.1, s.1, k.1, t.1, v.1, o.1 - 1) = true then ((c.1, s.1, k.1, t.1, v.1, o.1 - 1), o.2) else (zeroE, -1)

theorem entOk_facts {e : EntT} (h : entOk e = true) : 0 ≤ e.1 ∧ e.1 ≤ 3 ∧ 1 ≤ e.2.1 ∧ e.2.1 ≤ 999 ∧ 1 ≤ e.2.2.1 ∧ e.2.2.1 ≤ 5 ∧ e.2.2.2.1.size ≤ 4 ∧ 0 ≤ e.2.2.2.2.1 ∧ e.2.2.2.2.1 ≤ 999 ∧ -1 ≤ e.2.2.2.2.2 ∧ e.2.2.2.2.2 ≤ 999 := by
  obtain ⟨c, s, k, key, v, o⟩ := e
  simp only [entOk, entB, cmdB, Bool.and_eq_true, Bool.or_eq_true, decide_eq_true_eq] at h
  obtain ⟨h1, h2, h3, h4⟩ := h
  have hk : key.size ≤ 4 := by
    rcases h3 with h3 | h3
    · unfold keyB at h3
      simp only [Bool.and_eq_true, decide_eq_true_eq] at h3
      exact h3.1.2
    · omega
  have hv : (1 ≤ k ∧ k ≤ 5) ∧ 0 ≤ v ∧ v ≤ 999 ∧ -1 ≤ o ∧ o ≤ 999 := by
    split at h4
    · simp only [valB, Bool.and_eq_true, decide_eq_true_eq] at h4
      omega
    · split at h4
      · simp only [valB, Bool.and_eq_true, Bool.or_eq_true, decide_eq_true_eq] at h4
        omega
      · simp only [Bool.and_eq_true, decide_eq_true_eq] at h4
        omega
  exact ⟨h1.1, h1.2, h2.1, h2.2, hv.1.1, hv.1.2, hk, hv.2.1, hv.2.2.1, hv.2.2.2.1, hv.2.2.2.2⟩

theorem encE_length (e : EntT) : (encE e).length ≤ 38 := by
  unfold encE
  split
  · have h1 := encN_length e.1
    have h2 := encN_length e.2.1
    have h3 := encN_length e.2.2.1
    have h4 := encT_length e.2.2.2.1
    have h5 := encN_length e.2.2.2.2.1
    have h6 := encN_length (e.2.2.2.2.2 + 1)
    simp only [List.length_append]
    omega
  · simp

theorem encE_byte (e : EntT) : ∀ x ∈ encE e, 0 ≤ x ∧ x ≤ 255 := by
  intro x hx
  unfold encE at hx
  split at hx
  · simp only [List.mem_append] at hx
    rcases hx with hx | hx | hx | hx | hx | hx
    · exact encN_byte _ x hx
    · exact encN_byte _ x hx
    · exact encN_byte _ x hx
    · exact encT_byte _ x hx
    · exact encN_byte _ x hx
    · exact encN_byte _ x hx
  · simp at hx

theorem encE_pos {e : EntT} (h : entOk e = true) : 1 ≤ (encE e).length := by
  have f := entOk_facts h
  unfold encE
  rw [if_pos h, List.length_append]
  have := encN_pos (n := e.1) (by omega) (by omega)
  omega

theorem decN_neg {b : List Int} {a : Int} (h : a < 0) : decN b a = (-1, -1) := decN_bad fun _ q => by omega
theorem decT_neg {b : List Int} {a : Int} (h : a < 0) : decT b a = (⟨#[]⟩, -1) := by
  unfold decT
  rw [decN_neg h]
  simp only
  rw [if_pos (by omega)]

theorem decE_facts {b : List Int} {a : Int} {e : EntT} {next : Int} (h : decE b a = (e, next)) :
    (next = -1 ∧ e = zeroE) ∨ (bytesB b = true ∧ 0 ≤ a ∧ a < next ∧ next ≤ (b.length : Int) ∧ entOk e = true ∧ (b.take next.toNat).drop a.toNat = encE e) := by
  unfold decE at h
  generalize h1 : decN b a = c at h
  obtain ⟨c, p1⟩ := c
  simp only at h
  generalize h2 : decN b p1 = s at h
  obtain ⟨s, p2⟩ := s
  simp only at h
  generalize h3 : decN b p2 = k at h
  obtain ⟨k, p3⟩ := k
  simp only at h
  generalize h4 : decT b p3 = t at h
  obtain ⟨t, p4⟩ := t
  simp only at h
  generalize h5 : decN b p4 = v at h
  obtain ⟨v, p5⟩ := v
  simp only at h
  generalize h6 : decN b p5 = o at h
  obtain ⟨o, p6⟩ := o
  simp only at h
  split at h
  · obtain ⟨rfl, rfl⟩ := Prod.mk.inj h
    exact .inl ⟨rfl, rfl⟩
  · rename_i hp
    split at h
    · rename_i hok
      obtain ⟨rfl, rfl⟩ := Prod.mk.inj h
      right
      have n6 : o ≠ -1 := fun q => by have := decN_none h6 q; omega
      obtain ⟨hb, a6, b6, c6, _, _, f6⟩ := decN_facts h6 n6
      have n5 : v ≠ -1 := fun q => by have := decN_none h5 q; omega
      obtain ⟨_, a5, b5, c5, _, _, f5⟩ := decN_facts h5 n5
      rcases decT_facts h4 with ⟨q4, _⟩ | ⟨_, a4, b4, c4, _, f4⟩
      · omega
      · have n3 : k ≠ -1 := fun q => by have := decN_none h3 q; omega
        obtain ⟨_, a3, b3, c3, _, _, f3⟩ := decN_facts h3 n3
        have n2 : s ≠ -1 := fun q => by have := decN_none h2 q; omega
        obtain ⟨_, a2, b2, c2, _, _, f2⟩ := decN_facts h2 n2
        have n1 : c ≠ -1 := fun q => by have := decN_none h1 q; omega
        obtain ⟨_, a1, b1, c1, _, _, f1⟩ := decN_facts h1 n1
        refine ⟨hb, a1, by omega, c6, hok, ?_⟩
        have cut : ∀ x y z : Int, 0 ≤ x → x ≤ y → y ≤ z → z ≤ (b.length : Int) → (b.take z.toNat).drop x.toNat = (b.take y.toNat).drop x.toNat ++ (b.take z.toNat).drop y.toNat := by
          intro x y z hx hxy hyz hz
          rw [show z.toNat = y.toNat + (z.toNat - y.toNat) by omega, List.take_add, List.drop_append_of_le_length (by rw [List.length_take]; omega), List.drop_left' (by rw [List.length_take]; omega)]
        unfold encE
        rw [if_pos hok]
        simp only
        rw [show o - 1 + 1 = o by omega, ← f1, ← f2, ← f3, ← f4, ← f5, ← f6]
        rw [cut a p1 p6 a1 (by omega) (by omega) c6, cut p1 p2 p6 (by omega) (by omega) (by omega) c6, cut p2 p3 p6 (by omega) (by omega) (by omega) c6, cut p3 p4 p6 (by omega) (by omega) (by omega) c6, cut p4 p5 p6 (by omega) (by omega) (by omega) c6]
    · obtain ⟨rfl, rfl⟩ := Prod.mk.inj h
      exact .inl ⟨rfl, rfl⟩

/-- DecodeEntry of what EncodeEntry wrote, wherever it stands in valid bytes. -/
theorem decE_enc {e : EntT} (h : entOk e = true) {pre rest : List Int} (hb : bytesB (pre ++ (encE e ++ rest)) = true) :
    decE (pre ++ (encE e ++ rest)) (pre.length : Int) = (e, (pre.length : Int) + ((encE e).length : Int)) := by
  have f := entOk_facts h
  have he : encE e = encN e.1 ++ (encN e.2.1 ++ (encN e.2.2.1 ++ (encT e.2.2.2.1 ++ (encN e.2.2.2.2.1 ++ encN (e.2.2.2.2.2 + 1))))) := by unfold encE; rw [if_pos h]
  have hl : ((encE e).length : Int) = (encN e.1).length + ((encN e.2.1).length + ((encN e.2.2.1).length + ((encT e.2.2.2.1).length + ((encN e.2.2.2.2.1).length + (encN (e.2.2.2.2.2 + 1)).length)))) := by
    rw [he]
    simp only [List.length_append]
    omega
  rw [hl]
  generalize hB : pre ++ (encE e ++ rest) = B at hb ⊢
  have e1 : B = pre ++ (encN e.1 ++ (encN e.2.1 ++ (encN e.2.2.1 ++ (encT e.2.2.2.1 ++ (encN e.2.2.2.2.1 ++ (encN (e.2.2.2.2.2 + 1) ++ rest)))))) := by
    rw [← hB, he]; simp only [List.append_assoc]
  have e2 : B = (pre ++ encN e.1) ++ (encN e.2.1 ++ (encN e.2.2.1 ++ (encT e.2.2.2.1 ++ (encN e.2.2.2.2.1 ++ (encN (e.2.2.2.2.2 + 1) ++ rest))))) := by
    rw [e1]; simp only [List.append_assoc]
  have e3 : B = (pre ++ encN e.1 ++ encN e.2.1) ++ (encN e.2.2.1 ++ (encT e.2.2.2.1 ++ (encN e.2.2.2.2.1 ++ (encN (e.2.2.2.2.2 + 1) ++ rest)))) := by
    rw [e1]; simp only [List.append_assoc]
  have e4 : B = (pre ++ encN e.1 ++ encN e.2.1 ++ encN e.2.2.1) ++ (encT e.2.2.2.1 ++ (encN e.2.2.2.2.1 ++ (encN (e.2.2.2.2.2 + 1) ++ rest))) := by
    rw [e1]; simp only [List.append_assoc]
  have e5 : B = (pre ++ encN e.1 ++ encN e.2.1 ++ encN e.2.2.1 ++ encT e.2.2.2.1) ++ (encN e.2.2.2.2.1 ++ (encN (e.2.2.2.2.2 + 1) ++ rest)) := by
    rw [e1]; simp only [List.append_assoc]
  have e6 : B = (pre ++ encN e.1 ++ encN e.2.1 ++ encN e.2.2.1 ++ encT e.2.2.2.1 ++ encN e.2.2.2.2.1) ++ (encN (e.2.2.2.2.2 + 1) ++ rest) := by
    rw [e1]; simp only [List.append_assoc]
  have d1 : decN B (pre.length : Int) = (e.1, (pre.length : Int) + ((encN e.1).length : Int)) := by rw [e1]; exact decN_enc (by omega) (by omega) (by rw [← e1]; exact hb)
  have d2 : decN B ((pre ++ encN e.1).length : Int) = (e.2.1, ((pre ++ encN e.1).length : Int) + ((encN e.2.1).length : Int)) := by rw [e2]; exact decN_enc (by omega) (by omega) (by rw [← e2]; exact hb)
  have d3 : decN B ((pre ++ encN e.1 ++ encN e.2.1).length : Int) = (e.2.2.1, ((pre ++ encN e.1 ++ encN e.2.1).length : Int) + ((encN e.2.2.1).length : Int)) := by rw [e3]; exact decN_enc (by omega) (by omega) (by rw [← e3]; exact hb)
  have d4 : decT B ((pre ++ encN e.1 ++ encN e.2.1 ++ encN e.2.2.1).length : Int) = (e.2.2.2.1, ((pre ++ encN e.1 ++ encN e.2.1 ++ encN e.2.2.1).length : Int) + ((encT e.2.2.2.1).length : Int)) := by rw [e4]; exact decT_enc (by omega) (by rw [← e4]; exact hb)
  have d5 : decN B ((pre ++ encN e.1 ++ encN e.2.1 ++ encN e.2.2.1 ++ encT e.2.2.2.1).length : Int) = (e.2.2.2.2.1, ((pre ++ encN e.1 ++ encN e.2.1 ++ encN e.2.2.1 ++ encT e.2.2.2.1).length : Int) + ((encN e.2.2.2.2.1).length : Int)) := by rw [e5]; exact decN_enc (by omega) (by omega) (by rw [← e5]; exact hb)
  have d6 : decN B ((pre ++ encN e.1 ++ encN e.2.1 ++ encN e.2.2.1 ++ encT e.2.2.2.1 ++ encN e.2.2.2.2.1).length : Int) = (e.2.2.2.2.2 + 1, ((pre ++ encN e.1 ++ encN e.2.1 ++ encN e.2.2.1 ++ encT e.2.2.2.1 ++ encN e.2.2.2.2.1).length : Int) + ((encN (e.2.2.2.2.2 + 1)).length : Int)) := by rw [e6]; exact decN_enc (by omega) (by omega) (by rw [← e6]; exact hb)
  clear e1 e2 e3 e4 e5 e6 hB
  simp only [List.length_append, Int.natCast_add] at d1 d2 d3 d4 d5 d6
  unfold decE
  simp only [d1, d2, d3, d4, d5, d6]
  rw [if_neg (by omega), show e.2.2.2.2.2 + 1 - 1 = e.2.2.2.2.2 by omega, if_pos h]
  refine Prod.ext rfl ?_
  simp only
  omega

/-! The model of sums. -/
def recS : Int → List Int → Int
  | _, [] => 0
  | j, x :: r => x * (j + 1) + recS (j + 1) r
def recSum (b : List Int) : Int := if bytesB b = true then recS 0 b % 65521 else -1
theorem byte_mul {x j : Int} (h0 : 0 ≤ x) (h1 : x ≤ 255) (j0 : 0 ≤ j) (j1 : j ≤ 1999) : 0 ≤ x * (j + 1) ∧ x * (j + 1) ≤ 510000 := by
  refine ⟨Int.mul_nonneg h0 (by omega), ?_⟩
  have := Int.mul_le_mul h1 (show j + 1 ≤ 2000 by omega) (by omega) (by omega)
  omega

/-! The model of frames. -/
def frmH (n : Int) (e : EntT) : List Int := encN n ++ (encN ((encE e).length : Int) ++ encE e)
def frmB (n : Int) (e : EntT) : List Int := if (0 ≤ n ∧ n ≤ 23) ∧ entOk e = true then frmH n e ++ encN (recSum (frmH n e)) else []
theorem frmH_length (n : Int) (e : EntT) : (frmH n e).length ≤ 48 := by
  unfold frmH
  have h1 := encN_length n
  have h2 := encN_length ((encE e).length : Int)
  have h3 := encE_length e
  simp only [List.length_append]
  omega
theorem frmH_bytes (n : Int) (e : EntT) : bytesB (frmH n e) = true := by
  have := frmH_length n e
  refine bytesB_mk (by omega) fun x hx => ?_
  unfold frmH at hx
  simp only [List.mem_append] at hx
  rcases hx with hx | hx | hx
  · exact encN_byte _ x hx
  · exact encN_byte _ x hx
  · exact encE_byte _ x hx
theorem recSum_bd {b : List Int} (hb : bytesB b = true) : 0 ≤ recSum b ∧ recSum b ≤ 65520 := by
  unfold recSum
  rw [if_pos hb]
  omega
theorem frmB_length (n : Int) (e : EntT) : (frmB n e).length ≤ 53 := by
  unfold frmB
  split
  · have h1 := frmH_length n e
    have h2 := encN_length (recSum (frmH n e))
    rw [List.length_append]
    omega
  · simp
theorem frmB_bytes (n : Int) (e : EntT) : bytesB (frmB n e) = true := by
  have := frmB_length n e
  refine bytesB_mk (by omega) fun x hx => ?_
  unfold frmB at hx
  split at hx
  · rcases List.mem_append.mp hx with hx | hx
    · exact (bytesB_iff.mp (frmH_bytes n e)).2 x hx
    · exact encN_byte _ x hx
  · simp at hx

/-! The model of reading a frame. -/
def rdf (b : List Int) (a n : Int) : EntT × Int :=
  let e := decE b (decN b (decN b a).2).2
  if (0 ≤ n ∧ n ≤ 23) ∧ 0 ≤ e.2 ∧ a + ((frmB n e.1).length : Int) ≤ (b.length : Int) ∧ (b.take (a + ((frmB n e.1).length : Int)).toNat).drop a.toNat = frmB n e.1 then (e.1, a + ((frmB n e.1).length : Int)) else (zeroE, -1)

theorem cutCat (b : List Int) (x y z : Int) (_hx : 0 ≤ x) (hxy : x ≤ y) (hyz : y ≤ z) (hz : z ≤ (b.length : Int)) :
    (b.take z.toNat).drop x.toNat = (b.take y.toNat).drop x.toNat ++ (b.take z.toNat).drop y.toNat := by
  rw [show z.toNat = y.toNat + (z.toNat - y.toNat) by omega, List.take_add, List.drop_append_of_le_length (by rw [List.length_take]; omega), List.drop_left' (by rw [List.length_take]; omega)]
theorem cutLen (b : List Int) (x z : Int) (_hx : 0 ≤ x) (hxz : x ≤ z) (hz : z ≤ (b.length : Int)) : (((b.take z.toNat).drop x.toNat).length : Int) = z - x := by
  rw [List.length_drop, List.length_take]
  omega
/-- around a cut -/
theorem cutAround (b : List Int) (x z : Int) (hx : 0 ≤ x) (hxz : x ≤ z) (hz : z ≤ (b.length : Int)) : b = b.take x.toNat ++ ((b.take z.toNat).drop x.toNat ++ b.drop z.toNat) := by
  have h := cutCat b 0 x z (by omega) hx hxz hz
  have h2 : (b.take z.toNat).drop (0 : Int).toNat = b.take z.toNat := rfl
  have h3 : (b.take x.toNat).drop (0 : Int).toNat = b.take x.toNat := rfl
  rw [h2, h3] at h
  rw [← List.append_assoc, ← h, List.take_append_drop]

/-- What the reference asks holds exactly where the program's own test holds. -/
theorem rdf_yes {b : List Int} {a n x p1 l p2 p3 s p4 : Int} {e : EntT} (h1 : decN b a = (x, p1)) (h2 : decN b p1 = (l, p2)) (h3 : decE b p2 = (e, p3)) (h4 : decN b p3 = (s, p4))
    (hs : 0 ≤ p4) (hx : x = n) (hn : n < 24) (hl : l = p3 - p2) (hsum : s = recSum ((b.take p3.toNat).drop a.toNat)) : rdf b a n = (e, p4) := by
  have n4 : s ≠ -1 := fun q => by have := decN_none h4 q; omega
  obtain ⟨hb, a4, b4, c4, _, _, f4⟩ := decN_facts h4 n4
  rcases decE_facts h3 with ⟨q3, _⟩ | ⟨_, a3, b3, c3, hok, f3⟩
  · omega
  · have n2 : l ≠ -1 := fun q => by have := decN_none h2 q; omega
    obtain ⟨_, a2, b2, c2, _, _, f2⟩ := decN_facts h2 n2
    have n1 : x ≠ -1 := fun q => by have := decN_none h1 q; omega
    obtain ⟨_, a1, b1, c1, g1, _, f1⟩ := decN_facts h1 n1
    have hlen : ((encE e).length : Int) = p3 - p2 := by rw [← f3]; exact cutLen b p2 p3 a3 (by omega) c3
    have hH : (b.take p3.toNat).drop a.toNat = frmH n e := by
      unfold frmH
      rw [cutCat b a p1 p3 a1 (by omega) (by omega) c3, cutCat b p1 p2 p3 a2 (by omega) (by omega) c3, f1, f2, f3, hlen, hx, hl]
    have hF : (b.take p4.toNat).drop a.toNat = frmB n e := by
      unfold frmB
      rw [if_pos ⟨⟨by omega, by omega⟩, hok⟩, cutCat b a p3 p4 a1 (by omega) (by omega) c4, hH, f4, hsum, hH]
    have hL : a + ((frmB n e).length : Int) = p4 := by
      rw [← hF, cutLen b a p4 a1 (by omega) c4]
      omega
    unfold rdf
    simp only [h1, h2, h3]
    rw [hL, if_pos ⟨⟨by omega, by omega⟩, by omega, c4, hF⟩]
theorem rdf_no {b : List Int} {a n x p1 l p2 p3 s p4 : Int} {e : EntT} (h1 : decN b a = (x, p1)) (h2 : decN b p1 = (l, p2)) (h3 : decE b p2 = (e, p3)) (h4 : decN b p3 = (s, p4))
    (h : ¬ (0 ≤ p4 ∧ x = n ∧ n < 24 ∧ l = p3 - p2 ∧ s = recSum ((b.take p3.toNat).drop a.toNat))) : rdf b a n = (zeroE, -1) := by
  unfold rdf
  simp only [h1, h2, h3]
  refine if_neg fun ⟨⟨n0, n1⟩, q3, hL, hF⟩ => h ?_
  rcases decE_facts h3 with ⟨q, _⟩ | ⟨hb, a3, b3, c3, hok, f3⟩
  · omega
  · have m2 : l ≠ -1 := fun q => by have := decN_none h2 q; omega
    obtain ⟨_, a2, b2, c2, _, _, f2⟩ := decN_facts h2 m2
    have m1 : x ≠ -1 := fun q => by have := decN_none h1 q; omega
    obtain ⟨_, a1, b1, c1, g1, _, f1⟩ := decN_facts h1 m1
    have hA := cutAround b a _ a1 (by omega) hL
    rw [hF] at hA
    have hpre : ((b.take a.toNat).length : Int) = a := by rw [List.length_take]; omega
    generalize b.take a.toNat = pre at hA hpre
    generalize b.drop (a + ((frmB n e).length : Int)).toNat = rest at hA
    have hB := hA
    unfold frmB frmH at hA
    rw [if_pos ⟨⟨n0, n1⟩, hok⟩] at hA
    have hEl := encE_length e
    have hEp := encE_pos hok
    have hS := recSum_bd (frmH_bytes n e)
    generalize hsu : encN (recSum (encN n ++ (encN ((encE e).length : Int) ++ encE e))) = su at hA
    have e1 : b = pre ++ (encN n ++ (encN ((encE e).length : Int) ++ (encE e ++ (su ++ rest)))) := by
      rw [hA]; simp only [List.append_assoc]
    have e2 : b = (pre ++ encN n) ++ (encN ((encE e).length : Int) ++ (encE e ++ (su ++ rest))) := by
      rw [e1]; simp only [List.append_assoc]
    have e3 : b = (pre ++ encN n ++ encN ((encE e).length : Int)) ++ (encE e ++ (su ++ rest)) := by
      rw [e1]; simp only [List.append_assoc]
    have e4 : b = (pre ++ encN n ++ encN ((encE e).length : Int) ++ encE e) ++ (su ++ rest) := by
      rw [e1]; simp only [List.append_assoc]
    have d1 : decN b (pre.length : Int) = (n, (pre.length : Int) + ((encN n).length : Int)) := by rw [e1]; exact decN_enc (by omega) (by omega) (by rw [← e1]; exact hb)
    have d2 : decN b ((pre ++ encN n).length : Int) = (((encE e).length : Int), ((pre ++ encN n).length : Int) + ((encN ((encE e).length : Int)).length : Int)) := by
      conv => lhs; rw [e2]
      exact decN_enc (by omega) (by omega) (by rw [← e2]; exact hb)
    have d3 : decE b ((pre ++ encN n ++ encN ((encE e).length : Int)).length : Int) = (e, ((pre ++ encN n ++ encN ((encE e).length : Int)).length : Int) + ((encE e).length : Int)) := by
      conv => lhs; rw [e3]
      exact decE_enc hok (by rw [← e3]; exact hb)
    have d4 : decN b ((pre ++ encN n ++ encN ((encE e).length : Int) ++ encE e).length : Int) = (recSum (frmH n e), ((pre ++ encN n ++ encN ((encE e).length : Int) ++ encE e).length : Int) + (su.length : Int)) := by
      subst hsu
      conv => lhs; rw [e4]
      exact decN_enc (n := recSum (frmH n e)) (by omega) (by omega) (by rw [e4] at hb; exact hb)
    have p1e : p1 = ((pre ++ encN n).length : Int) := by
      rw [hpre, h1] at d1
      have := (Prod.mk.inj d1).2
      rw [this, List.length_append]
      omega
    have xe : x = n := by
      rw [hpre, h1] at d1
      exact (Prod.mk.inj d1).1
    rw [← p1e, h2] at d2
    have p2e : p2 = ((pre ++ encN n ++ encN ((encE e).length : Int)).length : Int) := by
      rw [(Prod.mk.inj d2).2, p1e]
      simp only [List.length_append]
      omega
    have le : l = ((encE e).length : Int) := (Prod.mk.inj d2).1
    rw [← p2e, h3] at d3
    have p3e : p3 = ((pre ++ encN n ++ encN ((encE e).length : Int) ++ encE e).length : Int) := by
      rw [(Prod.mk.inj d3).2, p2e]
      simp only [List.length_append]
      omega
    rw [← p3e, h4] at d4
    have hcut : (b.take p3.toNat).drop a.toNat = frmH n e := by
      unfold frmH
      rw [p3e, ← hpre]
      simp only [Int.toNat_natCast]
      rw [e4, List.take_left' rfl]
      simp only [List.append_assoc]
      rw [List.drop_left' rfl]
    refine ⟨?_, xe, by omega, ?_, ?_⟩
    · rw [(Prod.mk.inj d4).2]; omega
    · rw [le, (Prod.mk.inj d3).2]; omega
    · rw [hcut]; exact (Prod.mk.inj d4).1

theorem l1In (a b c : Int) : spec_l1In.f a b c = some (decide (b ≤ a ∧ a ≤ c)) := by
  unfold spec_l1In.f
  by_cases h : a ≥ b
  · rw [if_pos h]
    simp [h]
  · rw [if_neg h]
    simp [h]


theorem specBytes_loop (xs : List Int) (hn : xs.length ≤ 2000) (d : Nat) : ∀ (j : Nat), j + d = xs.length →
    Evn fun k => spec_BytesValid.l0 k xs (j : Int) = some ((xs.drop j).all byteB) := by
  induction d with
  | zero =>
    intro j hj
    refine Evn.succ (Evn.all fun k => ?_)
    simp only [spec_BytesValid.l0]
    rw [if_neg (by omega), List.drop_of_length_le (by omega)]
    rfl
  | succ d ih =>
    intro j hj
    have hlt : j < xs.length := by omega
    refine Evn.succ (Evn.mp (ih (j + 1) (by omega)) (Evn.all fun k e => ?_))
    simp only [spec_BytesValid.l0]
    rw [if_pos (by omega), if_pos (by omega), w64 (by omega) (by omega), rd_drop hlt]
    rw [show ((j : Int) + 1) = ((j + 1 : Nat) : Int) by omega, e]
    unfold spec_l1In.f byteB
    by_cases h : rd xs (j : Int) ≥ 0
    · rw [if_pos h]
      by_cases h2 : rd xs (j : Int) ≤ 255 <;> simp [h, h2]
    · rw [if_neg h]
      simp [h]

theorem specBytes (xs : List Int) : Evn fun k => spec_BytesValid.f k xs = some (bytesB xs) := by
  by_cases hn : xs.length ≤ 2000
  · refine Evn.mp (specBytes_loop xs hn xs.length 0 (by omega)) (Evn.all fun k e => ?_)
    unfold spec_BytesValid.f bytesB
    rw [if_neg (by omega)]
    simpa [hn] using e
  · refine Evn.all fun k => ?_
    unfold spec_BytesValid.f bytesB
    rw [if_pos (by omega)]
    simp [hn]


theorem specDec_loop (b : List Int) (hb : bytesB b = true) (a : Int) (h0 : 0 ≤ a) (h1 : a < (b.length : Int)) (g : Nat) :
    ∀ (j : Nat) (n u : Int), weigh g u → (j : Int) + (g : Int) = a + 4 → 0 ≤ n → n < u → j ≤ b.length →
    Evn fun k => spec_DecodeNumber.l0 k b a n u (j : Int) = some (decAll n u (j : Int) (decG g (b.drop j) (decide ((j : Int) = a)))) := by
  have hlen := bytesB_length hb
  induction g with
  | zero =>
    intro j n u hu hj _ _ hjb
    refine Evn.succ (Evn.succ (Evn.all fun k => ?_))
    simp only [spec_DecodeNumber.l0]
    rw [w64 (by omega) (by omega), decide_eq_false (by omega)]
    have e : spec_DecodeNumber.j2 (k + 1) b a n u (j : Int) false = some (-1, -1) := by simp only [spec_DecodeNumber.j2]; rw [if_neg (by simp)]
    split <;> exact e
  | succ g ih =>
    intro j n u hu hj hn hnu hjb
    by_cases hlt : j < b.length
    · have hr := bytesB_range hb hlt
      have hx := rd_drop hlt
      generalize hxx : rd b (j : Int) = x at hr hx
      have hu2 : weigh g (u * 128) := by unfold weigh at hu ⊢; omega
      have hg : g ≤ 3 := by unfold weigh at hu; omega
      have hub : 1 ≤ u ∧ u ≤ 2097152 := by unfold weigh at hu; omega
      have hm : 0 ≤ x % 128 ∧ x % 128 ≤ 127 := by omega
      have hmul : 0 ≤ u * (x % 128) ∧ u * (x % 128) ≤ u * 127 := ⟨Int.mul_nonneg (by omega) (by omega), Int.mul_le_mul_of_nonneg_left hm.2 (by omega)⟩
      refine Evn.succ (Evn.succ (Evn.mp (ih (j + 1) (n + u * (x % 128)) (u * 128) hu2 (by omega) (by omega) (by omega) (by omega)) (Evn.all fun k e => ?_)))
      simp only [spec_DecodeNumber.l0]
      rw [if_pos (by omega), w64 (x := a + 4) (by omega) (by omega), decide_eq_true (by omega)]
      simp only [spec_DecodeNumber.j2, if_true]
      rw [if_pos (by omega), if_pos (by omega), hxx, hx, Int.tmod_eq_emod_of_nonneg (by omega), w64 (x := u * (x % 128)) (by omega) (by omega), w64 (x := n + u * (x % 128)) (by omega) (by omega), w64 (x := (j : Int) + 1) (by omega) (by omega), w64 (x := u * 128) (by omega) (by omega)]
      by_cases hs : x < 128
      · rw [if_pos hs]
        have hxm : x % 128 = x := by omega
        rw [decG_small hs, hxm]
        by_cases hz : x = 0
        · rw [if_pos hz]
          by_cases hja : (j : Int) = a
          · rw [if_neg (by omega), decide_eq_true hja]
            simp [decAll]
          · rw [if_pos (by omega), decide_eq_false hja]
            simp [hz, decAll]
        · rw [if_neg hz]
          simp [hz, decAll]
      · rw [if_neg hs]
        have ej : ((j : Int) + 1) = ((j + 1 : Nat) : Int) := by omega
        have step := decAll_step n u x j (decG g (b.drop (j + 1)) false)
        rw [ej, e, decide_eq_false (by omega), ← ej, step]
        rw [decG_big hs]
    · refine Evn.succ (Evn.succ (Evn.all fun k => ?_))
      simp only [spec_DecodeNumber.l0]
      rw [if_neg (by omega), List.drop_of_length_le (by omega)]
      simp [spec_DecodeNumber.j2, decG, decAll]

theorem specDec (b : List Int) (a : Int) : Evn fun k => spec_DecodeNumber.f k b a = some (decN b a) := by
  by_cases hb : bytesB b = true
  · have hlen := bytesB_length hb
    by_cases ha : 0 ≤ a ∧ a < (b.length : Int)
    · obtain ⟨j, rfl⟩ : ∃ j : Nat, a = (j : Int) := ⟨a.toNat, by omega⟩
      refine Evn.mp (specBytes b) (Evn.succ (Evn.mp (specDec_loop b hb (j : Int) ha.1 ha.2 4 j 0 1 (.inl ⟨rfl, rfl⟩) (by omega) (by omega) (by omega) (by omega)) (Evn.all fun k e1 e2 => ?_)))
      unfold spec_DecodeNumber.f decN
      rw [e2, hb]
      simp only [Option.bind_some, if_true]
      rw [w64 (by omega) (by omega), l1In, decide_eq_true (by omega)]
      simp only [Option.bind_some, Bool.not_true, spec_DecodeNumber.j0]
      rw [if_neg (by simp), e1, if_pos ⟨trivial, ha⟩, decide_eq_true rfl]
      simp only [Int.toNat_natCast]
      cases decG 4 (b.drop j) true with
      | none => rfl
      | some p => obtain ⟨v, c⟩ := p; simp [decAll, decTail]
    · refine Evn.mp (specBytes b) (Evn.succ (Evn.all fun k e2 => ?_))
      rw [decN_bad fun _ => ha]
      unfold spec_DecodeNumber.f
      rw [e2, hb]
      simp only [Option.bind_some, if_true]
      rw [w64 (by omega) (by omega), l1In, decide_eq_false (by omega)]
      simp [spec_DecodeNumber.j0]
  · refine Evn.mp (specBytes b) (Evn.succ (Evn.all fun k e2 => ?_))
    rw [decN_bad fun h => absurd h hb]
    unfold spec_DecodeNumber.f
    rw [e2]
    simp [hb, spec_DecodeNumber.j0]


theorem specKey_loop (s : ByteArray) (hs : s.size ≤ 4) (d : Nat) : ∀ j : Nat, j + d = s.size → Evn fun k => spec_KeyValid.l0 k s (j : Int) = some (((bytesOf s).drop j).all lowB) := by
  induction d with
  | zero =>
    intro j hj
    refine Evn.succ (Evn.all fun k => ?_)
    simp only [spec_KeyValid.l0]
    rw [if_neg (by omega), List.drop_of_length_le (by rw [bytesOf_length]; omega)]
    rfl
  | succ d ih =>
    intro j hj
    refine Evn.succ (Evn.mp (ih (j + 1) (by omega)) (Evn.all fun k e => ?_))
    simp only [spec_KeyValid.l0]
    rw [if_pos (by omega), if_pos (by omega), w64 (by omega) (by omega), bt_drop' (show j < s.size by omega), show ((j : Int) + 1) = ((j + 1 : Nat) : Int) by omega, e]
    unfold lowB
    by_cases h1 : bt s (j : Int) < 97
    · rw [if_pos h1]
      have : ¬ (97 : Int) ≤ bt s (j : Int) := by omega
      simp [this]
    · rw [if_neg h1]
      have a1 : (97 : Int) ≤ bt s (j : Int) := by omega
      by_cases h2 : bt s (j : Int) > 122
      · rw [if_pos h2]
        have : ¬ bt s (j : Int) ≤ 122 := by omega
        simp [this]
      · rw [if_neg h2]
        have : bt s (j : Int) ≤ 122 := by omega
        simp [a1, this]

theorem specKey (s : ByteArray) : Evn fun k => spec_KeyValid.f k s = some (keyB s) := by
  unfold keyB
  by_cases h : 1 ≤ s.size ∧ s.size ≤ 4
  · refine Evn.mp (specKey_loop s h.2 s.size 0 (by omega)) (Evn.all fun k e => ?_)
    unfold spec_KeyValid.f
    rw [l1In, decide_eq_true (by omega)]
    simp only [Option.bind_some, if_true]
    refine Eq.trans e ?_
    simp [h.1, h.2]
  · refine Evn.all fun k => ?_
    unfold spec_KeyValid.f
    rw [l1In, decide_eq_false (by omega)]
    simp only [Option.bind_some]
    rw [if_neg (by simp)]
    by_cases h1 : 1 ≤ s.size
    · have : ¬ s.size ≤ 4 := fun h2 => h ⟨h1, h2⟩
      simp [this]
    · simp [h1]

theorem specCmd (kind : Int) (key : ByteArray) (value old : Int) : Evn fun k => spec_CommandValid.f k kind key value old = some (cmdB kind key value old) := by
  refine Evn.mp (specKey key) (Evn.all fun k e => ?_)
  unfold spec_CommandValid.f cmdB
  rw [e, nil_dec]
  simp only [Option.bind_some, Option.some.injEq]
  refine congrArg _ ?_
  unfold spec_CommandValid.rest valB
  by_cases h1 : kind = 1 ∨ kind = 3 ∨ kind = 5
  · rw [if_pos h1, if_neg (by omega), if_neg (by omega), decide_eq_true (show 1 ≤ kind ∧ kind ≤ 5 by omega), Bool.true_and]
  · rw [if_neg h1]
    by_cases h2 : kind = 2
    · rw [if_pos h2, if_pos h2]
    · rw [if_neg h2, if_neg h2]
      by_cases h4 : kind = 4
      · rw [if_pos h4, if_pos h4]
        refine congrArg _ ?_
        rw [← Bool.decide_or]
        exact decide_eq_decide.mpr (by omega)
      · rw [if_neg h4, if_neg h4, decide_eq_false (by omega), Bool.false_and]

theorem specEnt (client seq kind : Int) (key : ByteArray) (value old : Int) : Evn fun k => spec_EntryValid.f k client seq kind key value old = some (entB client seq kind key value old) := by
  refine Evn.mp (specCmd kind key value old) (Evn.all fun k e => ?_)
  unfold spec_EntryValid.f entB
  rw [l1In, l1In]
  by_cases h1 : 0 ≤ client ∧ client ≤ 3
  · rw [decide_eq_true h1]
    simp only [Option.bind_some, if_true]
    by_cases h2 : 1 ≤ seq ∧ seq ≤ 999
    · rw [decide_eq_true h2]
      simp [e]
    · rw [decide_eq_false h2]
      simp
  · rw [decide_eq_false h1]
    simp

theorem specDecT_loop (b : List Int) (hb : bytesB b = true) (n s : Nat) (hn : n ≤ 8) (hs : s + n ≤ b.length) (d : Nat) : ∀ (j : Nat) (acc : ByteArray), j + d = n → acc.size + d ≤ 1000 →
    Evn fun k => spec_DecodeText.l0 k b (n : Int) (s : Int) acc ((s + j : Nat) : Int) = some (acc ++ strOfNums ((b.drop (s + j)).take d), (s : Int) + (n : Int)) := by
  have hl := bytesB_length hb
  induction d with
  | zero =>
    intro j acc hj ha
    refine Evn.succ (Evn.all fun k => ?_)
    simp only [spec_DecodeText.l0]
    rw [w64 (by omega) (by omega), if_neg (by omega)]
    simp only [List.take_zero]
    rw [str_nil, show acc ++ (⟨#[]⟩ : ByteArray) = acc from ByteArray.append_empty]
  | succ d ih =>
    intro j acc hj ha
    have hlt : s + j < b.length := by omega
    have hr := bytesB_range hb hlt
    refine Evn.succ (Evn.mp (ih (j + 1) (acc ++ strOfNums [rd b ((s + j : Nat) : Int) % 256]) (by omega) (by rw [ByteArray.size_append, strOfNums_size]; simp only [List.length_cons, List.length_nil]; omega)) (Evn.all fun k e => ?_))
    simp only [spec_DecodeText.l0]
    rw [w64 (x := (s : Int) + (n : Int)) (by omega) (by omega), if_pos (by omega), if_pos (by omega), if_pos (by omega)]
    simp only [Option.bind_some]
    rw [if_pos (by rw [strOfNums_size]; simp only [List.length_cons, List.length_nil]; omega), w64 (by omega) (by omega)]
    rw [show (((s + j : Nat) : Int) + 1) = ((s + (j + 1) : Nat) : Int) by omega, e, rd_drop hlt, List.take_succ_cons, show rd b ((s + j : Nat) : Int) % 256 = rd b ((s + j : Nat) : Int) by omega]
    rw [show rd b ((s + j : Nat) : Int) :: List.take d (b.drop (s + j + 1)) = [rd b ((s + j : Nat) : Int)] ++ List.take d (b.drop (s + j + 1)) from rfl, str_append, ByteArray.append_assoc]
    rfl

theorem specDecT (b : List Int) (a : Int) : Evn fun k => spec_DecodeText.f k b a = some (decT b a) := by
  rcases decN_cases b a with h | ⟨n, s, h, hn⟩
  · refine Evn.mp (specDec b a) (Evn.succ (Evn.all fun k e => ?_))
    unfold spec_DecodeText.f decT
    rw [e, h]
    simp only [Option.bind_some]
    rw [if_pos (by omega), if_pos (by omega)]
    simp [spec_DecodeText.j0]
  · obtain ⟨f1, f2, f3, f4, f5, f6, _⟩ := decN_facts h hn
    have hl := bytesB_length f1
    have hw : wrap64 ((b.length : Int) - s) = (b.length : Int) - s := w64 (by omega) (by omega)
    have e0 : ∀ k, spec_DecodeText.j0 (k + 1) b n s true = some (⟨#[]⟩, -1) := fun k => by simp [spec_DecodeText.j0]
    by_cases hc : n < 0 ∨ 8 < n ∨ (b.length : Int) - s < n
    · refine Evn.mp (specDec b a) (Evn.succ (Evn.all fun k e => ?_))
      unfold spec_DecodeText.f decT
      rw [e, h]
      simp only [Option.bind_some]
      rw [if_pos hc, hw, if_neg (by omega)]
      split
      · exact e0 k
      · rw [decide_eq_true (by omega)]
        exact e0 k
    · obtain ⟨m, rfl⟩ : ∃ m : Nat, n = (m : Int) := ⟨n.toNat, by omega⟩
      obtain ⟨q, rfl⟩ : ∃ q : Nat, s = (q : Int) := ⟨s.toNat, by omega⟩
      refine Evn.mp (specDec b a) (Evn.succ (Evn.mp (specDecT_loop b f1 m q (by omega) (by omega) m 0 ⟨#[]⟩ (by omega) (by have : (⟨#[]⟩ : ByteArray).size = 0 := rfl; omega)) (Evn.all fun k e1 e => ?_)))
      unfold spec_DecodeText.f decT
      rw [e, h]
      simp only [Option.bind_some]
      rw [if_neg hc, hw, if_neg (by omega), if_neg (by omega), decide_eq_false (by omega)]
      simp only [spec_DecodeText.j0]
      rw [if_neg (by simp)]
      refine Eq.trans e1 ?_
      simp only [Int.toNat_natCast, Nat.add_zero]
      rw [show (⟨#[]⟩ : ByteArray) ++ strOfNums ((b.drop q).take m) = strOfNums ((b.drop q).take m) from ByteArray.empty_append]

theorem specDecE (b : List Int) (a : Int) : Evn fun k => spec_DecodeEntry.f k b a = some ((decE b a).1.1, (decE b a).1.2.1, (decE b a).1.2.2.1, (decE b a).1.2.2.2.1, (decE b a).1.2.2.2.2.1, (decE b a).1.2.2.2.2.2, (decE b a).2) := by
  unfold decE
  generalize h1 : decN b a = c
  obtain ⟨c, p1⟩ := c
  simp only
  generalize h2 : decN b p1 = s
  obtain ⟨s, p2⟩ := s
  simp only
  generalize h3 : decN b p2 = kd
  obtain ⟨kd, p3⟩ := kd
  simp only
  generalize h4 : decT b p3 = t
  obtain ⟨t, p4⟩ := t
  simp only
  generalize h5 : decN b p4 = v
  obtain ⟨v, p5⟩ := v
  simp only
  generalize h6 : decN b p5 = o
  obtain ⟨o, p6⟩ := o
  simp only
  have ho : -1 ≤ o ∧ o ≤ 268435455 := by
    by_cases q : o = -1
    · omega
    · have := decN_facts h6 q
      omega
  refine (Evn.mp (specDec b a) (Evn.mp (specDec b p1) (Evn.mp (specDec b p2) (Evn.mp (specDecT b p3) (Evn.mp (specDec b p4) (Evn.mp (specDec b p5) (Evn.mp (specEnt c s kd t v (o - 1)) (Evn.all fun k e8 e7 e6 e5 e4 e3 e2 => ?_))))))))
  rw [h1] at e2
  rw [h2] at e3
  rw [h3] at e4
  rw [h4] at e5
  rw [h5] at e6
  rw [h6] at e7
  unfold spec_DecodeEntry.f
  rw [e2]
  simp only [Option.bind_some]
  rw [e3]
  simp only [Option.bind_some]
  rw [e4]
  simp only [Option.bind_some]
  rw [e5]
  simp only [Option.bind_some]
  rw [e6]
  simp only [Option.bind_some]
  rw [e7]
  simp only [Option.bind_some]
  by_cases hp : p6 < 0
  · rw [if_pos hp, if_pos hp]
    rfl
  · rw [if_neg hp, if_neg hp, w64 (by omega) (by omega), e8]
    simp only [Option.bind_some]
    by_cases hq : entB c s kd t v (o - 1) = true
    · rw [if_pos hq, if_pos (show entOk (c, s, kd, t, v, o - 1) = true from hq)]
    · rw [if_neg hq, if_neg (show ¬ entOk (c, s, kd, t, v, o - 1) = true from hq)]
      rfl

theorem specSum_loop (b : List Int) (hb : bytesB b = true) (d : Nat) : ∀ (j : Nat) (n : Int), j + d = b.length → 0 ≤ n → n < 65521 →
    Evn fun k => spec_RecordSum.l0 k b n (j : Int) = some ((n + recS (j : Int) (b.drop j)) % 65521) := by
  have hlen := bytesB_length hb
  induction d with
  | zero =>
    intro j n hj h0 h1
    refine Evn.succ (Evn.all fun k => ?_)
    simp only [spec_RecordSum.l0]
    rw [if_neg (by omega), List.drop_of_length_le (by omega)]
    simp only [recS]
    rw [Int.add_zero, Int.emod_eq_of_lt h0 h1]
  | succ d ih =>
    intro j n hj h0 h1
    have hlt : j < b.length := by omega
    have hr := bytesB_range hb hlt
    have hx := rd_drop hlt
    generalize hxx : rd b (j : Int) = x at hr hx
    have hm := byte_mul (j := (j : Int)) hr.1 hr.2 (by omega) (by omega)
    refine Evn.succ (Evn.mp (ih (j + 1) ((n + x * ((j : Int) + 1)) % 65521) (by omega) (by omega) (by omega)) (Evn.all fun k e => ?_))
    simp only [spec_RecordSum.l0]
    rw [if_pos (by omega), if_pos (by omega), hxx, w64 (x := (j : Int) + 1) (by omega) (by omega), Int.mul_comm ((j : Int) + 1) x, w64 (x := x * ((j : Int) + 1)) (by omega) (by omega), w64 (x := n + x * ((j : Int) + 1)) (by omega) (by omega), Int.tmod_eq_emod_of_nonneg (by omega)]
    rw [show ((j : Int) + 1) = ((j + 1 : Nat) : Int) by omega] at e ⊢
    rw [e, hx]
    simp only [recS]
    rw [show (((j : Nat) : Int) + 1) = ((j + 1 : Nat) : Int) by omega]
    rw [Int.emod_add_emod, Int.add_assoc]

theorem specSum (b : List Int) : Evn fun k => spec_RecordSum.f k b = some (recSum b) := by
  unfold recSum
  by_cases hb : bytesB b = true
  · refine Evn.mp (specBytes b) (Evn.mp (specSum_loop b hb b.length 0 0 (by omega) (by omega) (by omega)) (Evn.all fun k e1 e2 => ?_))
    unfold spec_RecordSum.f
    rw [e2, if_pos hb]
    simpa [hb] using e1
  · refine Evn.mp (specBytes b) (Evn.all fun k e2 => ?_)
    unfold spec_RecordSum.f
    rw [e2, if_neg hb]
    simp [hb]


theorem specRdf (b : List Int) (a n : Int) : Evn fun k => spec_ReadFrame.f k b a n = some ((rdf b a n).1.1, (rdf b a n).1.2.1, (rdf b a n).1.2.2.1, (rdf b a n).1.2.2.2.1, (rdf b a n).1.2.2.2.2.1, (rdf b a n).1.2.2.2.2.2, (rdf b a n).2) := by
  generalize h1 : decN b a = x
  obtain ⟨x, p1⟩ := x
  generalize h2 : decN b p1 = l
  obtain ⟨l, p2⟩ := l
  generalize h3 : decE b p2 = e
  obtain ⟨e, p3⟩ := e
  generalize h4 : decN b p3 = s
  obtain ⟨s, p4⟩ := s
  refine Evn.mp (specDec b a) (Evn.mp (specDec b p1) (Evn.mp (specDecE b p2) (Evn.mp (specDec b p3) (Evn.mp (specSum ((b.take p3.toNat).drop a.toNat)) (Evn.all fun k e5 e4 e3 e2 e1 => ?_)))))
  rw [h1] at e1
  rw [h2] at e2
  rw [h3] at e3
  rw [h4] at e4
  unfold spec_ReadFrame.f
  rw [e1]
  simp only [Option.bind_some]
  rw [e2]
  simp only [Option.bind_some]
  rw [e3]
  simp only [Option.bind_some]
  rw [e4]
  simp only [Option.bind_some]
  unfold spec_ReadFrame.judge spec_ReadFrame.none_
  try dsimp only
  by_cases q4 : p4 < 0
  · rw [if_pos q4, rdf_no h1 h2 h3 h4 (fun q => by omega)]
    rfl
  · rw [if_neg q4]
    have n4 : s ≠ -1 := fun q => by have := decN_none h4 q; omega
    obtain ⟨hb, a4, b4, c4, _, _, _⟩ := decN_facts h4 n4
    have hbl := bytesB_length hb
    rcases decE_facts h3 with ⟨q3, _⟩ | ⟨_, a3, b3, c3, _, _⟩
    · omega
    · have n2 : l ≠ -1 := fun q => by have := decN_none h2 q; omega
      obtain ⟨_, a2, b2, c2, _, _, _⟩ := decN_facts h2 n2
      have n1 : x ≠ -1 := fun q => by have := decN_none h1 q; omega
      obtain ⟨_, a1, b1, c1, g1, _, _⟩ := decN_facts h1 n1
      by_cases qx : x = n
      · rw [if_pos qx]
        by_cases qn : n ≥ 24
        · rw [if_pos qn, rdf_no h1 h2 h3 h4 (fun q => by omega)]
          rfl
        · rw [if_neg qn, w64 (by omega) (by omega)]
          by_cases ql : l = p3 - p2
          · rw [if_pos ql, if_pos ⟨by omega, by omega, by omega⟩, e5]
            simp only [Option.bind_some]
            by_cases qs : s = recSum ((b.take p3.toNat).drop a.toNat)
            · rw [if_pos qs, rdf_yes h1 h2 h3 h4 (by omega) qx (by omega) ql qs]
            · rw [if_neg qs, rdf_no h1 h2 h3 h4 (fun q => qs q.2.2.2.2)]
              rfl
          · rw [if_neg ql, rdf_no h1 h2 h3 h4 (fun q => ql q.2.2.2.1)]
            rfl
      · rw [if_neg qx, rdf_no h1 h2 h3 h4 (fun q => qx q.2.1)]
        rfl

theorem implBytes_loop (xs : List Int) (hn : xs.length ≤ 2000) (d : Nat) : ∀ (j : Nat), j + d = xs.length →
    Evn fun k => impl_BytesValid.l0 k xs (xs.length : Int) (j : Int) = some ((xs.drop j).all byteB) := by
  induction d with
  | zero =>
    intro j hj
    refine Evn.succ (Evn.all fun k => ?_)
    simp only [impl_BytesValid.l0]
    rw [if_neg (by omega), List.drop_of_length_le (by omega)]
    rfl
  | succ d ih =>
    intro j hj
    have hlt : j < xs.length := by omega
    refine Evn.succ (Evn.mp (ih (j + 1) (by omega)) (Evn.all fun k e => ?_))
    simp only [impl_BytesValid.l0]
    rw [if_pos (by omega), if_pos (by omega), if_pos (by omega), w64 (by omega) (by omega), rd_drop hlt]
    rw [show ((j : Int) + 1) = ((j + 1 : Nat) : Int) by omega, e]
    unfold byteB
    by_cases h : rd xs (j : Int) < 0
    · rw [if_pos h]
      have : ¬ (0 ≤ rd xs (j : Int)) := by omega
      simp [this]
    · rw [if_neg h]
      have h0 : 0 ≤ rd xs (j : Int) := by omega
      by_cases h2 : rd xs (j : Int) > 255
      · rw [if_pos h2]
        have : ¬ (rd xs (j : Int) ≤ 255) := by omega
        simp [this]
      · rw [if_neg h2]
        have : rd xs (j : Int) ≤ 255 := by omega
        simp [h0, this]

theorem implBytes (xs : List Int) : Evn fun k => impl_BytesValid.f k xs = some (bytesB xs) := by
  by_cases hn : xs.length ≤ 2000
  · refine Evn.mp (implBytes_loop xs hn xs.length 0 (by omega)) (Evn.all fun k e => ?_)
    unfold impl_BytesValid.f bytesB
    rw [if_neg (by omega)]
    simpa [hn] using e
  · refine Evn.all fun k => ?_
    unfold impl_BytesValid.f bytesB
    rw [if_pos (by omega)]
    simp [hn]

theorem implDec_loop (b : List Int) (hb : bytesB b = true) (a : Int) (g : Nat) :
    ∀ (j : Nat) (n u : Int), weigh g u → (j : Int) + (g : Int) = a + 4 → 0 ≤ n → n < u → j ≤ b.length →
    Evn fun k => impl_DecodeNumber.l0 k b a n u (j : Int) = some (decAll n u (j : Int) (decG g (b.drop j) (decide ((j : Int) = a)))) := by
  have hlen := bytesB_length hb
  induction g with
  | zero =>
    intro j n u hu hj _ _ hjb
    refine Evn.succ (Evn.succ (Evn.all fun k => ?_))
    simp only [impl_DecodeNumber.l0]
    rw [decide_eq_false (by unfold weigh at hu; omega)]
    have e : impl_DecodeNumber.j2 (k + 1) b a n u (j : Int) false = some (-1, -1) := by simp only [impl_DecodeNumber.j2]; rw [if_neg (by simp)]
    split <;> exact e
  | succ g ih =>
    intro j n u hu hj hn hnu hjb
    by_cases hlt : j < b.length
    · have hr := bytesB_range hb hlt
      have hx := rd_drop hlt
      generalize hxx : rd b (j : Int) = x at hr hx
      have hu2 : weigh g (u * 128) := by unfold weigh at hu ⊢; omega
      have hg : g ≤ 3 := by unfold weigh at hu; omega
      have hub : 1 ≤ u ∧ u ≤ 2097152 := by unfold weigh at hu; omega
      have hm : 0 ≤ x % 128 ∧ x % 128 ≤ 127 := by omega
      have hmul : 0 ≤ u * (x % 128) ∧ u * (x % 128) ≤ u * 127 := ⟨Int.mul_nonneg (by omega) (by omega), Int.mul_le_mul_of_nonneg_left hm.2 (by omega)⟩
      refine Evn.succ (Evn.succ (Evn.mp (ih (j + 1) (n + u * (x % 128)) (u * 128) hu2 (by omega) (by omega) (by omega) (by omega)) (Evn.all fun k e => ?_)))
      simp only [impl_DecodeNumber.l0]
      rw [if_pos (by omega), decide_eq_true (by omega)]
      simp only [impl_DecodeNumber.j2, if_true]
      rw [if_pos (by omega), if_pos (by omega), hxx, hx, Int.tmod_eq_emod_of_nonneg (by omega), Int.mul_comm (x % 128) u, w64 (x := u * (x % 128)) (by omega) (by omega), w64 (x := n + u * (x % 128)) (by omega) (by omega), w64 (x := (j : Int) + 1) (by omega) (by omega), w64 (x := u * 128) (by omega) (by omega)]
      by_cases hs : x < 128
      · rw [if_neg (by omega)]
        have hxm : x % 128 = x := by omega
        rw [decG_small hs, hxm]
        by_cases hz : x = 0
        · rw [if_pos hz]
          by_cases hja : (j : Int) = a
          · rw [if_neg (by omega), decide_eq_true hja]
            simp [decAll]
          · rw [if_pos (by omega), decide_eq_false hja]
            simp [hz, decAll]
        · rw [if_neg hz]
          simp [hz, decAll]
      · rw [if_pos (by omega)]
        have ej : ((j : Int) + 1) = ((j + 1 : Nat) : Int) := by omega
        have step := decAll_step n u x j (decG g (b.drop (j + 1)) false)
        rw [ej, e, decide_eq_false (by omega), ← ej, step]
        rw [decG_big hs]
    · refine Evn.succ (Evn.succ (Evn.all fun k => ?_))
      simp only [impl_DecodeNumber.l0]
      rw [if_neg (by omega), List.drop_of_length_le (by omega)]
      simp [impl_DecodeNumber.j2, decG, decAll]

theorem implDec (b : List Int) (a : Int) : Evn fun k => impl_DecodeNumber.f k b a = some (decN b a) := by
  by_cases hb : bytesB b = true
  · have hlen := bytesB_length hb
    by_cases ha : 0 ≤ a ∧ a < (b.length : Int)
    · obtain ⟨j, rfl⟩ : ∃ j : Nat, a = (j : Int) := ⟨a.toNat, by omega⟩
      refine Evn.mp (implBytes b) (Evn.succ (Evn.mp (implDec_loop b hb (j : Int) 4 j 0 1 (.inl ⟨rfl, rfl⟩) (by omega) (by omega) (by omega) (by omega)) (Evn.all fun k e1 e2 => ?_)))
      unfold impl_DecodeNumber.f decN
      rw [e2, hb]
      simp only [Option.bind_some, if_true]
      rw [if_neg (by omega), decide_eq_false (by omega)]
      simp only [impl_DecodeNumber.j0]
      rw [if_neg (by simp), e1, if_pos ⟨trivial, ha⟩, decide_eq_true rfl]
      simp only [Int.toNat_natCast]
      cases decG 4 (b.drop j) true with
      | none => rfl
      | some p => obtain ⟨v, c⟩ := p; simp [decAll, decTail]
    · refine Evn.mp (implBytes b) (Evn.succ (Evn.all fun k e2 => ?_))
      rw [decN_bad fun _ => ha]
      unfold impl_DecodeNumber.f
      rw [e2, hb]
      simp only [Option.bind_some, if_true]
      by_cases h0 : a < 0
      · rw [if_pos h0]
        simp [impl_DecodeNumber.j0]
      · rw [if_neg h0, decide_eq_true (by omega)]
        simp [impl_DecodeNumber.j0]
  · refine Evn.mp (implBytes b) (Evn.succ (Evn.all fun k e2 => ?_))
    rw [decN_bad fun h => absurd h hb]
    unfold impl_DecodeNumber.f
    rw [e2]
    simp [hb, impl_DecodeNumber.j0]

theorem implLetters (n : Nat) : ∀ s : ByteArray, s.size = n → Evn fun k => impl_lettersOnly.f k s = some ((bytesOf s).all lowB) := by
  induction n with
  | zero =>
    intro s hs
    refine Evn.succ (Evn.all fun k => ?_)
    simp only [impl_lettersOnly.f]
    rw [if_pos ((nil_iff s).mpr hs), List.eq_nil_of_length_eq_zero (l := bytesOf s) (by rw [bytesOf_length]; exact hs)]
    rfl
  | succ n ih =>
    intro s hs
    have hx := bt_drop' (s := s) (j := 0) (by omega)
    rw [List.drop_zero] at hx
    refine Evn.succ (Evn.mp (ih (s.extract 1 s.size) (by rw [ByteArray.size_extract]; omega)) (Evn.all fun k e => ?_))
    simp only [impl_lettersOnly.f]
    rw [if_neg (fun h => by have := (nil_iff s).mp h; omega), if_pos (by omega), e, bytesOf_tail, hx]
    simp only [Option.bind_some, List.all_cons, Nat.zero_add]
    unfold lowB
    rw [if_pos (show (1 : Int) ≤ (s.size : Int) by omega)]
    simp only [Int.ofNat_zero]
    by_cases h1 : bt s 0 ≥ 97
    · rw [if_pos h1]
      by_cases h2 : bt s 0 ≤ 122
      · rw [if_pos h2]
        have : (97 : Int) ≤ bt s 0 := h1
        simp [this, h2]
      · rw [if_neg h2]
        simp [h2]
    · rw [if_neg h1]
      have : ¬ (97 : Int) ≤ bt s 0 := h1
      simp [this]

theorem implKey (s : ByteArray) : Evn fun k => impl_KeyValid.f k s = some (keyB s) := by
  refine Evn.mp (implLetters s.size s rfl) (Evn.all fun k e => ?_)
  unfold impl_KeyValid.f keyB
  by_cases h1 : s.size < 1
  · rw [if_pos (by omega)]
    have : ¬ 1 ≤ s.size := by omega
    simp [this]
  · rw [if_neg (by omega)]
    have a1 : 1 ≤ s.size := by omega
    by_cases h2 : s.size > 4
    · rw [if_pos (by omega)]
      have : ¬ s.size ≤ 4 := by omega
      simp [this]
    · rw [if_neg (by omega), e]
      have a2 : s.size ≤ 4 := by omega
      simp [a1, a2]

theorem implCmd (kind : Int) (key : ByteArray) (value old : Int) : Evn fun k => impl_CommandValid.f k kind key value old = some (cmdB kind key value old) := by
  refine Evn.mp (implKey key) (Evn.all fun k e => ?_)
  unfold impl_CommandValid.f cmdB
  rw [e, nil_dec]
  rfl

theorem implSeq (x : Int) : impl_seqValid.f x = some (decide (1 ≤ x ∧ x ≤ 999)) := by
  unfold impl_seqValid.f
  by_cases h : x ≥ 1
  · rw [if_pos h]
    exact congrArg some (decide_eq_decide.mpr (by omega))
  · rw [if_neg h, decide_eq_false (by omega)]
theorem implEnt (client seq kind : Int) (key : ByteArray) (value old : Int) : Evn fun k => impl_EntryValid.f k client seq kind key value old = some (entB client seq kind key value old) := by
  refine Evn.mp (implCmd kind key value old) (Evn.all fun k e => ?_)
  unfold impl_EntryValid.f entB
  rw [implSeq]
  by_cases h1 : client ≥ 0
  · rw [if_pos h1]
    by_cases h2 : client < 4
    · rw [if_pos h2, decide_eq_true (show 0 ≤ client ∧ client ≤ 3 by omega)]
      by_cases h3 : 1 ≤ seq ∧ seq ≤ 999
      · rw [decide_eq_true h3]
        simp [e]
      · rw [decide_eq_false h3]
        simp
    · rw [if_neg h2, decide_eq_false (show ¬ (0 ≤ client ∧ client ≤ 3) by omega)]
      rfl
  · rw [if_neg h1, decide_eq_false (show ¬ (0 ≤ client ∧ client ≤ 3) by omega)]
    rfl

theorem implDecT (b : List Int) (a : Int) : Evn fun k => impl_DecodeText.f k b a = some (decT b a) := by
  refine Evn.mp (implDec b a) (Evn.all fun k e => ?_)
  unfold impl_DecodeText.f decT
  rw [e]
  simp only [Option.bind_some]
  rcases decN_cases b a with h | ⟨n, s, h, hn⟩
  · rw [h]
    simp only
    rw [if_pos (by unfold impl_DecodeText.bad; omega), if_pos (by omega)]
  · rw [h]
    obtain ⟨f1, f2, f3, f4, f5, f6, _⟩ := decN_facts h hn
    have hl := bytesB_length f1
    simp only
    have hw : wrap64 ((b.length : Int) - s) = (b.length : Int) - s := w64 (by omega) (by omega)
    by_cases hc : n < 0 ∨ 8 < n ∨ (b.length : Int) - s < n
    · rw [if_pos (by unfold impl_DecodeText.bad; rw [hw]; exact hc), if_pos hc]
    · rw [if_neg (by unfold impl_DecodeText.bad; rw [hw]; exact hc), if_neg hc, if_pos (by unfold impl_DecodeText.good; omega)]
      unfold impl_DecodeText.cut
      rw [byte_mod fun x hx => (bytesB_iff.mp f1).2 x (List.mem_of_mem_drop (List.mem_of_mem_take hx))]

theorem implDecE (b : List Int) (a : Int) : Evn fun k => impl_DecodeEntry.f k b a = some ((decE b a).1.1, (decE b a).1.2.1, (decE b a).1.2.2.1, (decE b a).1.2.2.2.1, (decE b a).1.2.2.2.2.1, (decE b a).1.2.2.2.2.2, (decE b a).2) := by
  cases hb : bytesB b with
  | false =>
    have hn : ∀ a, decN b a = (-1, -1) := fun a => decN_bad fun h => by rw [hb] at h; cases h
    have hd : decE b a = (zeroE, -1) := by
      unfold decE
      simp only [hn]
      rw [if_pos (by omega)]
    refine Evn.mp (implBytes b) (Evn.all fun k e => ?_)
    unfold impl_DecodeEntry.f
    rw [e, hb, hd]
    rfl
  | true =>
    unfold decE
    generalize h1 : decN b a = c
    obtain ⟨c, p1⟩ := c
    simp only
    generalize h2 : decN b p1 = s
    obtain ⟨s, p2⟩ := s
    simp only
    generalize h3 : decN b p2 = kd
    obtain ⟨kd, p3⟩ := kd
    simp only
    generalize h4 : decT b p3 = t
    obtain ⟨t, p4⟩ := t
    simp only
    generalize h5 : decN b p4 = v
    obtain ⟨v, p5⟩ := v
    simp only
    generalize h6 : decN b p5 = o
    obtain ⟨o, p6⟩ := o
    simp only
    have ho : -1 ≤ o ∧ o ≤ 268435455 := by
      by_cases q : o = -1
      · omega
      · have := decN_facts h6 q
        omega
    refine Evn.mp (implBytes b) (Evn.mp (implDec b a) (Evn.mp (implDec b p1) (Evn.mp (implDec b p2) (Evn.mp (implDecT b p3) (Evn.mp (implDec b p4) (Evn.mp (implDec b p5) (Evn.mp (implEnt c s kd t v (o - 1)) (Evn.all fun k e8 e7 e6 e5 e4 e3 e2 e1 => ?_))))))))
    rw [h1] at e2
    rw [h2] at e3
    rw [h3] at e4
    rw [h4] at e5
    rw [h5] at e6
    rw [h6] at e7
    unfold impl_DecodeEntry.f
    rw [e1, hb]
    simp only [Option.bind_some, if_true]
    rw [e2]
    simp only [Option.bind_some]
    rw [e3]
    simp only [Option.bind_some]
    rw [e4]
    simp only [Option.bind_some]
    rw [e5]
    simp only [Option.bind_some]
    rw [e6]
    simp only [Option.bind_some]
    rw [e7]
    simp only [Option.bind_some]
    unfold impl_DecodeEntry.judge
    by_cases hp : p6 < 0
    · rw [if_pos hp, if_pos hp]
      rfl
    · rw [if_neg hp, if_neg hp, w64 (by omega) (by omega), e8]
      simp only [Option.bind_some]
      by_cases hq : entB c s kd t v (o - 1) = true
      · rw [if_pos hq, if_pos (show entOk (c, s, kd, t, v, o - 1) = true from hq)]
      · rw [if_neg hq, if_neg (show ¬ entOk (c, s, kd, t, v, o - 1) = true from hq)]
        rfl

theorem implEnc_loop (g : Nat) : ∀ (n : Nat) (acc : List Int), n < 128 ^ (g + 1) → n ≤ 268435455 → acc.length + g ≤ 1099511627776 →
    Evn fun k => impl_EncodeNumber.l0 k (n : Int) acc = some (acc ++ encG g n) := by
  induction g with
  | zero =>
    intro n acc hn _ ha
    refine Evn.succ (Evn.all fun k => ?_)
    simp only [impl_EncodeNumber.l0]
    rw [if_neg (by omega), if_pos (by omega)]
    rfl
  | succ g ih =>
    intro n acc hn hm ha
    by_cases h : n < 128
    · refine Evn.succ (Evn.all fun k => ?_)
      simp only [impl_EncodeNumber.l0]
      rw [if_neg (by omega), if_pos (by omega)]
      simp [encG, h]
    · have hlt : n / 128 < 128 ^ (g + 1) := by rw [Nat.pow_succ, Nat.mul_comm] at hn; exact Nat.div_lt_of_lt_mul hn
      refine Evn.succ (Evn.mp (ih (n / 128) (acc ++ [((n % 128 : Nat) : Int) + 128]) hlt (by omega) (by rw [List.length_append]; simp only [List.length_cons, List.length_nil]; omega)) (Evn.all fun k e => ?_))
      simp only [impl_EncodeNumber.l0]
      rw [if_pos (by omega), if_pos (by omega), Int.tdiv_eq_ediv_of_nonneg (by omega), Int.tmod_eq_emod_of_nonneg (by omega), w64 (by omega) (by omega), w64 (by omega) (by omega)]
      rw [show (n : Int) / 128 = ((n / 128 : Nat) : Int) by omega, show (n : Int) % 128 + 128 = ((n % 128 : Nat) : Int) + 128 by omega, e]
      simp [encG, h]

theorem implEnc (n : Int) : Evn fun k => impl_EncodeNumber.f k n = some (encN n) := by
  unfold encN
  by_cases h0 : n < 0
  · refine Evn.succ (Evn.all fun k => ?_)
    unfold impl_EncodeNumber.f
    rw [if_pos h0, if_neg (by omega)]
    simp [impl_EncodeNumber.j0]
  · by_cases h : n ≤ 268435455
    · refine Evn.succ (Evn.mp (implEnc_loop 4 n.toNat [] (by omega) (by omega) (by simp)) (Evn.all fun k e => ?_))
      unfold impl_EncodeNumber.f
      rw [show ((n.toNat : Nat) : Int) = n by omega] at e
      rw [if_neg h0, if_pos (by omega), decide_eq_false (by omega)]
      simpa [impl_EncodeNumber.j0] using e
    · refine Evn.succ (Evn.all fun k => ?_)
      unfold impl_EncodeNumber.f
      rw [if_neg h0, if_neg (by omega), decide_eq_true (by omega)]
      simp [impl_EncodeNumber.j0]

theorem implEncT_loop (s : ByteArray) (hs : s.size ≤ 8) (d : Nat) : ∀ (j : Nat) (acc : List Int), j + d = s.size → acc.length + d ≤ 1000 →
    Evn fun k => impl_EncodeText.l0 k s acc (j : Int) = some (acc ++ (bytesOf s).drop j) := by
  induction d with
  | zero =>
    intro j acc hj ha
    refine Evn.succ (Evn.all fun k => ?_)
    simp only [impl_EncodeText.l0]
    rw [if_neg (by omega), List.drop_of_length_le (by rw [bytesOf_length]; omega), List.append_nil]
  | succ d ih =>
    intro j acc hj ha
    have hr := bt_range s (j : Int)
    refine Evn.succ (Evn.mp (ih (j + 1) (acc ++ [bt s (j : Int)]) (by omega) (by rw [List.length_append]; simp only [List.length_cons, List.length_nil]; omega)) (Evn.all fun k e => ?_))
    simp only [impl_EncodeText.l0]
    rw [if_pos (by omega), if_pos (by omega), if_pos (by omega), w64 (x := bt s (j : Int)) (by omega) (by omega), w64 (x := (j : Int) + 1) (by omega) (by omega), bt_drop (show j < s.size by omega)]
    rw [show ((j : Int) + 1) = ((j + 1 : Nat) : Int) by omega, e]
    simp

theorem implEncT (s : ByteArray) : Evn fun k => impl_EncodeText.f k s = some (encT s) := by
  unfold encT
  by_cases h : s.size ≤ 8
  · have hl := encN_length (s.size : Int)
    refine Evn.mp (implEnc (s.size : Int)) (Evn.mp (implEncT_loop s h s.size 0 (encN (s.size : Int)) (by omega) (by omega)) (Evn.all fun k e1 e2 => ?_))
    unfold impl_EncodeText.f
    rw [if_neg (by omega), if_pos h, e2]
    simpa using e1
  · refine Evn.all fun k => ?_
    unfold impl_EncodeText.f
    rw [if_pos (by omega), if_neg h]

theorem implEncE (e : EntT) : Evn fun k => impl_EncodeEntry.f k e.1 e.2.1 e.2.2.1 e.2.2.2.1 e.2.2.2.2.1 e.2.2.2.2.2 = some (encE e) := by
  obtain ⟨c, s, kd, key, v, o⟩ := e
  dsimp only
  by_cases h : entOk (c, s, kd, key, v, o) = true
  · have f := entOk_facts h
    simp only at f
    have h1 := encN_length c
    have h2 := encN_length s
    have h3 := encN_length kd
    have h4 := encT_length key
    have h5 := encN_length v
    have h6 := encN_length (o + 1)
    refine Evn.mp (implEnt c s kd key v o) (Evn.mp (implEnc c) (Evn.mp (implEnc s) (Evn.mp (implEnc kd) (Evn.mp (implEncT key) (Evn.mp (implEnc v) (Evn.mp (implEnc (o + 1)) (Evn.all fun k e7 e6 e5 e4 e3 e2 e1 => ?_)))))))
    have hb : entB c s kd key v o = true := h
    unfold impl_EncodeEntry.f encE
    rw [if_pos h, e1, hb]
    simp only [Option.bind_some, if_true]
    rw [w64 (by omega) (by omega)]
    simp only [e2, e3, e4, e5, e6, e7, Option.bind_some]
    rw [if_pos (by omega), if_pos (by simp only [List.length_append]; omega), if_pos (by simp only [List.length_append]; omega), if_pos (by simp only [List.length_append]; omega), if_pos (by simp only [List.length_append]; omega)]
    simp only [List.append_assoc]
  · refine Evn.mp (implEnt c s kd key v o) (Evn.all fun k e1 => ?_)
    have hb : entB c s kd key v o = false := Bool.eq_false_iff.mpr h
    unfold impl_EncodeEntry.f encE
    rw [if_neg h, e1, hb]
    simp

theorem implSum_loop (b : List Int) (hb : bytesB b = true) (d : Nat) : ∀ (j : Nat) (n : Int), j + d = b.length → 0 ≤ n → n ≤ (j : Int) * 510000 →
    Evn fun k => impl_RecordSum.l0 k n b (b.length : Int) (j : Int) = some ((n + recS (j : Int) (b.drop j)) % 65521) := by
  have hlen := bytesB_length hb
  induction d with
  | zero =>
    intro j n hj h0 h1
    refine Evn.succ (Evn.all fun k => ?_)
    simp only [impl_RecordSum.l0]
    rw [if_neg (by omega), List.drop_of_length_le (by omega)]
    simp only [recS]
    rw [Int.add_zero, Int.tmod_eq_emod_of_nonneg h0]
  | succ d ih =>
    intro j n hj h0 h1
    have hlt : j < b.length := by omega
    have hr := bytesB_range hb hlt
    have hx := rd_drop hlt
    generalize hxx : rd b (j : Int) = x at hr hx
    have hm := byte_mul (j := (j : Int)) hr.1 hr.2 (by omega) (by omega)
    refine Evn.succ (Evn.mp (ih (j + 1) (n + x * ((j : Int) + 1)) (by omega) (by omega) (by omega)) (Evn.all fun k e => ?_))
    simp only [impl_RecordSum.l0]
    rw [if_pos (by omega), if_pos (by omega), if_pos (by omega), hxx, w64 (x := (j : Int) + 1) (by omega) (by omega), w64 (x := x * ((j : Int) + 1)) (by omega) (by omega), w64 (x := n + x * ((j : Int) + 1)) (by omega) (by omega)]
    rw [show ((j : Int) + 1) = ((j + 1 : Nat) : Int) by omega] at e ⊢
    rw [e, hx]
    simp only [recS]
    rw [show (((j : Nat) : Int) + 1) = ((j + 1 : Nat) : Int) by omega, Int.add_assoc]

theorem implSum (b : List Int) : Evn fun k => impl_RecordSum.f k b = some (recSum b) := by
  unfold recSum
  by_cases hb : bytesB b = true
  · refine Evn.mp (implBytes b) (Evn.mp (implSum_loop b hb b.length 0 0 (by omega) (by omega) (by omega)) (Evn.all fun k e1 e2 => ?_))
    unfold impl_RecordSum.f
    rw [e2, if_pos hb]
    simpa [hb] using e1
  · refine Evn.mp (implBytes b) (Evn.all fun k e2 => ?_)
    unfold impl_RecordSum.f
    rw [e2, if_neg hb]
    simp [hb]

theorem implFrm_j (n : Int) (e : EntT) : Evn fun k => impl_FrameEntry.j0 k n false e.1 e.2.1 e.2.2.1 e.2.2.2.1 e.2.2.2.2.1 e.2.2.2.2.2 = some (frmH n e ++ encN (recSum (frmH n e))) := by
  have h1 := encN_length n
  have h2 := encN_length ((encE e).length : Int)
  have h3 := encE_length e
  have h4 := frmH_length n e
  have h5 := encN_length (recSum (frmH n e))
  refine Evn.succ (Evn.mp (implEncE e) (Evn.mp (implEnc n) (Evn.mp (implEnc ((encE e).length : Int)) (Evn.mp (implSum (frmH n e)) (Evn.mp (implEnc (recSum (frmH n e))) (Evn.all fun k e4 e3 e2 e1 e0 => ?_))))))
  have hf : encN n ++ encN ((encE e).length : Int) ++ encE e = frmH n e := by unfold frmH; rw [List.append_assoc]
  rw [impl_FrameEntry.j0, if_neg (by simp), e0]
  try simp only [Option.bind_some]
  rw [e1]
  try simp only [Option.bind_some]
  rw [e2]
  try simp only [Option.bind_some]
  rw [if_pos (by omega)]
  try simp only [Option.bind_some]
  rw [if_pos (by simp only [List.length_append]; omega)]
  try simp only [Option.bind_some]
  rw [hf, e3]
  try simp only [Option.bind_some]
  rw [e4]
  try simp only [Option.bind_some]
  rw [if_pos (by omega)]
theorem implFrm_no (n : Int) (e : EntT) : Evn fun k => impl_FrameEntry.j0 k n true e.1 e.2.1 e.2.2.1 e.2.2.2.1 e.2.2.2.2.1 e.2.2.2.2.2 = some [] := Evn.succ (Evn.all fun k => by
  rw [impl_FrameEntry.j0, if_pos rfl])
theorem implFrm (n : Int) (e : EntT) : Evn fun k => impl_FrameEntry.f k n e.1 e.2.1 e.2.2.1 e.2.2.2.1 e.2.2.2.2.1 e.2.2.2.2.2 = some (frmB n e) := by
  refine Evn.mp (implEnt e.1 e.2.1 e.2.2.1 e.2.2.2.1 e.2.2.2.2.1 e.2.2.2.2.2) (Evn.mp (implFrm_j n e) (Evn.mp (implFrm_no n e) (Evn.all fun k e3 e2 e1 => ?_)))
  unfold impl_FrameEntry.f frmB
  by_cases h0 : n < 0
  · rw [if_pos h0, if_neg (by omega), e3]
  · rw [if_neg h0]
    by_cases h1 : n ≥ 24
    · rw [if_pos h1, if_neg (by omega), e3]
    · rw [if_neg h1, e1]
      simp only [Option.bind_some]
      by_cases h : entOk e = true
      · have hb : entB e.1 e.2.1 e.2.2.1 e.2.2.2.1 e.2.2.2.2.1 e.2.2.2.2.2 = true := h
        rw [hb, if_pos ⟨by omega, h⟩]
        exact e2
      · have hb : entB e.1 e.2.1 e.2.2.1 e.2.2.2.1 e.2.2.2.2.1 e.2.2.2.2.2 = false := Bool.eq_false_iff.mpr h
        rw [hb, if_neg (fun q => h q.2)]
        exact e3

/-! slices.Equal on lists of numbers. -/
theorem slEq_loop (xs ys : List Int) (hl : xs.length = ys.length) (hn : xs.length ≤ 1048576) (d : Nat) : ∀ (j : Nat), j + d = xs.length →
    Evn fun k => slices_Equal_int_int.l0 k xs ys (xs.length : Int) (j : Int) = some (decide (xs.drop j = ys.drop j)) := by
  induction d with
  | zero =>
    intro j hj
    refine Evn.succ (Evn.all fun k => ?_)
    simp only [slices_Equal_int_int.l0]
    rw [if_neg (by omega), List.drop_of_length_le (by omega), List.drop_of_length_le (by omega)]
    simp
  | succ d ih =>
    intro j hj
    have hlt : j < xs.length := by omega
    refine Evn.succ (Evn.mp (ih (j + 1) (by omega)) (Evn.all fun k e => ?_))
    simp only [slices_Equal_int_int.l0]
    rw [if_pos (by omega), if_pos (by omega), if_pos (by omega), if_pos (by omega), w64 (by omega) (by omega)]
    rw [rd_drop hlt, rd_drop (show j < ys.length by omega)]
    by_cases h : rd xs (j : Int) = rd ys (j : Int)
    · rw [if_pos h, h]
      refine Eq.trans e ?_
      simp
    · rw [if_neg h]
      simp [h]
theorem slEq (xs ys : List Int) (hn : xs.length ≤ 1048576) : Evn fun k => slices_Equal_int_int.f k xs ys = some (decide (xs = ys)) := by
  by_cases hl : xs.length = ys.length
  · refine Evn.mp (slEq_loop xs ys hl hn xs.length 0 (by omega)) (Evn.all fun k e => ?_)
    unfold slices_Equal_int_int.f
    rw [if_pos (by omega)]
    simpa using e
  · refine Evn.all fun k => ?_
    unfold slices_Equal_int_int.f
    rw [if_neg (by omega), decide_eq_false (fun h => hl (by rw [h]))]

theorem rdf_zero {b : List Int} {a n : Int} (h : ¬ ((0 ≤ n ∧ n ≤ 23) ∧ bytesB b = true ∧ 0 ≤ a ∧ a < (b.length : Int))) : rdf b a n = (zeroE, -1) := by
  generalize h1 : decN b a = x
  obtain ⟨x, p1⟩ := x
  generalize h2 : decN b p1 = l
  obtain ⟨l, p2⟩ := l
  generalize h3 : decE b p2 = e
  obtain ⟨e, p3⟩ := e
  generalize h4 : decN b p3 = s
  obtain ⟨s, p4⟩ := s
  refine rdf_no h1 h2 h3 h4 fun ⟨q4, qx, qn, _, _⟩ => h ?_
  have n4 : s ≠ -1 := fun q => by have := decN_none h4 q; omega
  obtain ⟨hb, a4, b4, c4, _, _, _⟩ := decN_facts h4 n4
  rcases decE_facts h3 with ⟨q3, _⟩ | ⟨_, a3, b3, c3, _, _⟩
  · omega
  · have n2 : l ≠ -1 := fun q => by have := decN_none h2 q; omega
    obtain ⟨_, a2, b2, c2, _, _, _⟩ := decN_facts h2 n2
    have n1 : x ≠ -1 := fun q => by have := decN_none h1 q; omega
    obtain ⟨_, a1, b1, c1, g1, _, _⟩ := decN_facts h1 n1
    exact ⟨by omega, hb, a1, by omega⟩
theorem implRdf_go (b : List Int) (a n : Int) (hn : 0 ≤ n ∧ n ≤ 23) (hb : bytesB b = true) (ha : 0 ≤ a ∧ a < (b.length : Int)) : Evn fun k => impl_ReadFrame.f k b a n = some ((rdf b a n).1.1, (rdf b a n).1.2.1, (rdf b a n).1.2.2.1, (rdf b a n).1.2.2.2.1, (rdf b a n).1.2.2.2.2.1, (rdf b a n).1.2.2.2.2.2, (rdf b a n).2) := by
  have hbl := bytesB_length hb
  generalize h1 : decN b a = x
  obtain ⟨x, p1⟩ := x
  generalize h2 : decN b p1 = l
  obtain ⟨l, p2⟩ := l
  generalize h3 : decE b p2 = e
  obtain ⟨e, p3⟩ := e
  have hr : rdf b a n = if (0 ≤ n ∧ n ≤ 23) ∧ 0 ≤ p3 ∧ a + ((frmB n e).length : Int) ≤ (b.length : Int) ∧ (b.take (a + ((frmB n e).length : Int)).toNat).drop a.toNat = frmB n e then (e, a + ((frmB n e).length : Int)) else (zeroE, -1) := by
    unfold rdf
    simp only [h1, h2, h3]
  have hfl := frmB_length n e
  refine (Evn.mp (implBytes b) (Evn.mp (implDec b a) (Evn.mp (implDec b p1) (Evn.mp (implDecE b p2) (Evn.mp (implFrm n e) (Evn.mp (slEq (frmB n e) ((b.take (a + ((frmB n e).length : Int)).toNat).drop a.toNat) (by omega)) (Evn.all fun k e5 e4 e3 e2 e1 e0 => ?_)))))))
  rw [h1] at e1
  rw [h2] at e2
  rw [h3] at e3
  unfold impl_ReadFrame.f
  rw [if_pos (by omega), e0, hb]
  simp only [Option.bind_some, if_true]
  rw [if_pos ha, e1]
  simp only [Option.bind_some]
  rw [e2]
  simp only [Option.bind_some]
  rw [e3]
  simp only [Option.bind_some]
  by_cases q3 : p3 < 0
  · rw [if_pos q3, hr, if_neg (by omega)]
    rfl
  · rw [if_neg q3, e4]
    simp only [Option.bind_some]
    unfold impl_ReadFrame.judge
    try dsimp only
    rw [w64 (x := (b.length : Int) - a) (by omega) (by omega), w64 (x := a + ((frmB n e).length : Int)) (by omega) (by omega)]
    by_cases qL : ((frmB n e).length : Int) > (b.length : Int) - a
    · rw [if_pos qL, hr, if_neg (by omega)]
      rfl
    · rw [if_neg qL, if_pos ⟨by omega, by omega, by omega⟩, e5]
      simp only [Option.bind_some]
      by_cases qF : frmB n e = (b.take (a + ((frmB n e).length : Int)).toNat).drop a.toNat
      · rw [decide_eq_true qF, if_pos rfl, hr, if_pos ⟨hn, by omega, by omega, qF.symm⟩]
      · rw [decide_eq_false qF, if_neg (by simp), hr, if_neg (fun q => qF q.2.2.2.symm)]
        rfl
theorem implRdf (b : List Int) (a n : Int) : Evn fun k => impl_ReadFrame.f k b a n = some ((rdf b a n).1.1, (rdf b a n).1.2.1, (rdf b a n).1.2.2.1, (rdf b a n).1.2.2.2.1, (rdf b a n).1.2.2.2.2.1, (rdf b a n).1.2.2.2.2.2, (rdf b a n).2) := by
  by_cases h : (0 ≤ n ∧ n ≤ 23) ∧ bytesB b = true ∧ 0 ≤ a ∧ a < (b.length : Int)
  · exact implRdf_go b a n h.1 h.2.1 h.2.2
  · refine Evn.mp (implBytes b) (Evn.all fun k e1 => ?_)
    rw [rdf_zero h]
    unfold impl_ReadFrame.f impl_ReadFrame.none_
    by_cases hn : 0 ≤ n ∧ n < 24
    · rw [if_pos hn, e1]
      simp only [Option.bind_some]
      cases hb : bytesB b with
      | false => rfl
      | true =>
        simp only [if_true]
        rw [if_neg (fun q => h ⟨⟨hn.1, by omega⟩, hb, q⟩)]
        rfl
    · rw [if_neg hn]
      rfl

theorem eqEnt (e : EntT) : laws_eqEntry.f e.1 e.2.1 e.2.2.1 e.2.2.2.1 e.2.2.2.2.1 e.2.2.2.2.2 e.1 e.2.1 e.2.2.1 e.2.2.2.1 e.2.2.2.2.1 e.2.2.2.2.2 = some true := by
  simp [laws_eqEntry.f, laws_eqCommand.f]

theorem FnExactReadFrame : laws_FnExactReadFrame.Pure := by
  intro l0 a n _ _ _ _ _
  by_cases hn : l0.length ≤ 1048576
  · obtain ⟨K1, h1⟩ := specRdf l0 a n
    obtain ⟨K2, h2⟩ := implRdf l0 a n
    obtain ⟨K3, h3⟩ := toIntS l0 hn
    obtain ⟨K4, h4⟩ := eqIntS_self l0 hn
    refine ⟨K1 + K2 + K3 + K4 + 1, ?_⟩
    generalize hm : K1 + K2 + K3 + K4 = m
    have g1 := h1 (m + 1) (by omega)
    have g2 := h2 (m + 1) (by omega)
    have g3 := h3 (m + 1) (by omega)
    have g3' := h3 m (by omega)
    have g4 := h4 m (by omega)
    unfold laws_FnExactReadFrame.f
    rw [if_neg (by omega), g3]
    simp only [Option.bind_some]
    rw [g1]
    simp only [Option.bind_some]
    rw [g2]
    simp only [Option.bind_some, eqEnt, if_true, bne_self_eq_false]
    rw [laws_FnExactReadFrame.j0, if_neg (by simp), g3']
    simp only [Option.bind_some]
    rw [g4]
    rfl
  · refine ⟨0, ?_⟩
    unfold laws_FnExactReadFrame.f
    rw [if_pos (by omega)]

end Go.Proofs.Ytlimhkjnnpmpkaa.Pure
