/- impl_rankBelow by hand (the printed text of this function does not build): what the function computes, and that the program's function comes to it. -/
import Derived.Test.YthofkheehldioaaPFnReplayx0
import Derived.Test.YthofkheehldioaaPFnReplayx19
namespace Go.Proofs.Ythofkheehldioaa.PFnReplay
open Go.RowKit Go.Proofs.YthofkheehldioaaW.PrintWords Go.Proofs.YthofkheehldioaaW.PrintLast Go.Proofs.YthofkheehldioaaW.PrintMore

/-- How many strings come before, letter by letter. -/
def impl_rankBelow.f : Nat → ByteArray → Int → Option (Int)
  | 0, _, _ => none
  | k + 1, a0, a1 =>
    if a0.toList = ([] : List UInt8) then some 0
    else (impl_keysFrom.f k a1).bind fun m =>
      (impl_rankBelow.f k (a0.extract 1 a0.size) (wrap64 (a1 + 1))).bind fun r =>
        some (wrap64 (wrap64 (1 + wrap64 (((bt a0 0 - 97) % 256) * m)) + r))

theorem impl_rankBelow.mono_l (k : Nat) : ∀ s d, LeO (impl_rankBelow.f k s d) (impl_rankBelow.f (k + 1) s d) := by
  induction k with
  | zero => intro s d r h; simp [impl_rankBelow.f] at h
  | succ k ih =>
    intro s d
    rw [impl_rankBelow.f, impl_rankBelow.f]
    refine LeO.ite (LeO.refl _) (LeO.bind (impl_keysFrom.mono _ _) fun m => LeO.bind (ih _ _) fun r => LeO.refl _)

theorem impl_rankBelow.mono : ∀ a0 a1 k, LeO (impl_rankBelow.f k a0 a1) (impl_rankBelow.f (k + 1) a0 a1) := fun a0 a1 k => impl_rankBelow.mono_l k a0 a1

theorem impl_rankBelow.keys {k : Nat} {a m : Int} (h : impl_keysFrom.f k a = some m) {w : World} :
    Calls Try.prog 126 #[.int .i64 a] w fun e w' => e = .returned (.int .i64 m) ∧ ∃ n, w' = w.drewN n :=
  (impl_keysFrom.calls k a m w h).mono fun _ _ ⟨he, hd⟩ => ⟨he, hd.out⟩

set_option maxHeartbeats 1000000 in
set_option maxRecDepth 100000 in
theorem impl_rankBelow.quiet (k : Nat) : ∀ (a0 : ByteArray) (a1 : Int) (r : Int) (w : World), impl_rankBelow.f k a0 a1 = some r →
    Calls Try.prog 113 #[.string a0, .int .i64 a1] w fun e w' => e = .returned (.int .i64 r) ∧ ∃ n, w' = w.drewN n := by
  induction k with
  | zero => intro a0 a1 r w h; simp [impl_rankBelow.f] at h
  | succ k ih =>
    intro a0 a1 r w h
    rw [impl_rankBelow.f] at h
    by_cases c : a0.toList = ([] : List UInt8)
    · rw [if_pos c] at h
      have c0 : (a0.toList == ([] : List UInt8)) = true := beq_iff_eq.mpr c
      have c1 : (a0.toList != ([] : List UInt8)) = false := bne_eq_false_iff_eq.mpr c
      clear c
      obtain rfl := Option.some.inj h
      go_enter Try.func113, Try.ntmps113
      go_wp2
      go_ret
      exact ⟨rfl, 0, rfl⟩
    · rw [if_neg c] at h
      obtain ⟨m, hm, h1⟩ := Option.bind_eq_some_iff.mp h
      obtain ⟨q, hq, h2⟩ := Option.bind_eq_some_iff.mp h1
      have h3 := Option.some.inj h2
      clear h h1 h2
      subst h3
      have hm' := Aside0.mk hm
      have hq' := Aside0.mk hq
      clear hm hq
      have c0 : (a0.toList == ([] : List UInt8)) = false := beq_eq_false_iff_ne.mpr c
      have c1 : (a0.toList != ([] : List UInt8)) = true := bne_iff_ne.mpr c
      have hsz : 0 < a0.size := by
        rcases Nat.eq_zero_or_pos a0.size with h0 | h0
        · exact absurd (by
            rw [ByteArray.size_eq_zero_iff.mp h0]; simp) c
        · exact h0
      clear c
      have hx : ∀ h : 0 < a0.size, ((a0[0]'h).toNat : Int) = bt a0 0 := bt_at a0 0
      have i0 : decide (0 < (a0.size : Int)) = true := decide_eq_true (by omega)
      have i1 : decide (0 < a0.size) = true := decide_eq_true hsz
      have i2 : decide (1 ≤ (a0.size : Int)) = true := decide_eq_true (by omega)
      go_enter Try.func113, Try.ntmps113
      go_wp2
      go_quiet (first
        | (go_at_call 126; exact Calls.quiet_of (impl_rankBelow.keys hm'.out))
        | (go_at_call 113; exact Calls.quiet_of (ih _ _ _ _ hq'.out)))
      go_wp2
      go_ret
      exact ⟨rfl, nq, rfl⟩

theorem impl_rankBelow.calls (k : Nat) (a0 : ByteArray) (a1 : Int) (r : Int) (w : World) (h : impl_rankBelow.f k a0 a1 = some r) :
    Calls Try.prog 113 #[.string a0, .int .i64 a1] w fun e w' => e = .returned (.int .i64 r) ∧ Below w.heap.size w w' :=
  (impl_rankBelow.quiet k a0 a1 r w h).mono fun _ _ ⟨he, n, hw⟩ => ⟨he, (Drawn0.mk ⟨n, hw⟩).below⟩
end Go.Proofs.Ythofkheehldioaa.PFnReplay
