/- impl_inside by hand (its printed text falls in Lean: two strings are compared by <=). -/
import Derived.Test.YtdamnfkpfhoahaaPFnNewStatex0
namespace Go.Proofs.Ytdamnfkpfhoahaa.PFnNewState
open Go.RowKit Go.Proofs.YtdamnfkpfhoahaaW.PrintWords Go.Proofs.YtdamnfkpfhoahaaW.PrintLast Go.Proofs.YtdamnfkpfhoahaaW.PrintMore
set_option linter.unusedVariables false
set_option linter.unusedSimpArgs false
theorem impl_inside.less_total : ∀ x y : List UInt8, (Op.bytesLess x y || x == y) = !(Op.bytesLess y x)
  | [], [] => rfl
  | [], _ :: _ => rfl
  | _ :: _, [] => rfl
  | a :: x, b :: y => by
    have ih := impl_inside.less_total x y
    simp only [Op.bytesLess]
    by_cases h : a = b
    · subst h
      simpa using ih
    · have h2 : (a == b) = false := beq_eq_false_iff_ne.mpr h
      have h3 : (b == a) = false := beq_eq_false_iff_ne.mpr (Ne.symm h)
      have h4 : (a :: x == b :: y) = false := beq_eq_false_iff_ne.mpr fun q => h (List.cons.inj q).1
      rw [h2, h3, h4]
      simp only [Bool.false_and, Bool.or_false]
      by_cases hl : a < b
      · have : ¬ b < a := by rw [UInt8.lt_iff_toNat_lt] at *; omega
        simp [hl, this]
      · have : b < a := by
          rw [UInt8.lt_iff_toNat_lt] at *
          have : a.toNat ≠ b.toNat := fun q => h (UInt8.toNat_inj.mp q)
          omega
        simp [hl, this]
theorem impl_inside.leq_str (t : TypeId) (a b : ByteArray) : binOp .leq t (.string a) (.string b) = pure (.bool !(Op.bytesLess b.toList a.toList)) := by
  rw [← impl_inside.less_total]
  simp [binOp, Op.stringOp]
attribute [local go_sem] impl_inside.leq_str
def impl_inside.f (a b c : ByteArray) : Option Bool := if Op.bytesLess c.toList a.toList = true then some false else if b.toList = ([] : List UInt8) then some true else some (Op.bytesLess c.toList b.toList)
set_option maxHeartbeats 2000000 in
theorem impl_inside.calls (a b c : ByteArray) (r : Bool) (w : World) (h : impl_inside.f a b c = some r) :
    Calls Try.prog 60 #[.agg #[.string a, .string b], .string c] w fun e w' => e = .returned (.bool r) ∧ Below w.heap.size w w' := by
  have hu := Try.underlying45
  unfold impl_inside.f at h
  by_cases h1 : Op.bytesLess c.toList a.toList = true
  · rw [if_pos h1] at h
    obtain rfl := Option.some.inj h
    clear h
    go_enter Try.func60, Try.ntmps60
    go_wp2_with (first
      | ((with_reducible refine gate_dst (N := 2) rfl ?_); refine box_event ?hg (N := 2) ?hd (cs := #[.string a, .string b]) (t := 45) ?hr ?_; (case hd => rfl); (case hg => rfl); (case hr => first | (go_simp; done) | (go_simp; rfl)); intro g hg w1 hc hb; have B1 := Aside0.mk hb; have F1 := Aside0.mk hc; clear hc hb hg; have c10 : w1.cell? ⟨g, 0, none⟩ = some (.string a) := (blk_cell F1.out 0).trans rfl; have c11 : w1.cell? ⟨g, 1, none⟩ = some (.string b) := (blk_cell F1.out 1).trans rfl))
    go_ret
    exact ⟨by simp [h1], B1.out⟩
  · rw [if_neg h1] at h
    replace h1 := Bool.eq_false_iff.mpr h1
    by_cases h2 : b.toList = ([] : List UInt8)
    · rw [if_pos h2] at h
      obtain rfl := Option.some.inj h
      have h3 : (b.toList == ([] : List UInt8)) = true := beq_iff_eq.mpr h2
      clear h
      go_enter Try.func60, Try.ntmps60
      go_wp2_with (first
        | ((with_reducible refine gate_dst (N := 2) rfl ?_); refine box_event ?hg (N := 2) ?hd (cs := #[.string a, .string b]) (t := 45) ?hr ?_; (case hd => rfl); (case hg => rfl); (case hr => first | (go_simp; done) | (go_simp; rfl)); intro g hg w1 hc hb; have B1 := Aside0.mk hb; have F1 := Aside0.mk hc; clear hc hb hg; have c10 : w1.cell? ⟨g, 0, none⟩ = some (.string a) := (blk_cell F1.out 0).trans rfl; have c11 : w1.cell? ⟨g, 1, none⟩ = some (.string b) := (blk_cell F1.out 1).trans rfl))
      go_ret
      exact ⟨by simp [h1, h2], B1.out⟩
    · rw [if_neg h2] at h
      obtain rfl := Option.some.inj h
      have h3 : (b.toList == ([] : List UInt8)) = false := beq_eq_false_iff_ne.mpr h2
      clear h
      go_enter Try.func60, Try.ntmps60
      go_wp2_with (first
        | ((with_reducible refine gate_dst (N := 2) rfl ?_); refine box_event ?hg (N := 2) ?hd (cs := #[.string a, .string b]) (t := 45) ?hr ?_; (case hd => rfl); (case hg => rfl); (case hr => first | (go_simp; done) | (go_simp; rfl)); intro g hg w1 hc hb; have B1 := Aside0.mk hb; have F1 := Aside0.mk hc; clear hc hb hg; have c10 : w1.cell? ⟨g, 0, none⟩ = some (.string a) := (blk_cell F1.out 0).trans rfl; have c11 : w1.cell? ⟨g, 1, none⟩ = some (.string b) := (blk_cell F1.out 1).trans rfl))
      go_ret
      exact ⟨by simp [h1, h2], B1.out⟩
end Go.Proofs.Ytdamnfkpfhoahaa.PFnNewState
