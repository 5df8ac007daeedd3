/-
  gatelineref10.Bits: what it answers, as a Lean function, and that the Go code answers just this.
-/
import Derived.Test.YtfmpeojlaibblaaS0
import Derived.LoopN
import Derived.Lib.Hide
namespace Go.Proofs.Ytfmpeojlaibblaa.S
open Go.RowKit Go.Proofs.YtfmpeojlaibblaaW.PrintWords Go.Proofs.YtfmpeojlaibblaaW.PrintLast Go.Proofs.YtfmpeojlaibblaaW.PrintMore

def gatelineref10_Bits.f (a0 : Int) : Option (Bool × Bool × Bool × Bool × Bool × Int) :=
  if 0 ≤ a0 ∧ a0 ≤ 31 then some (a0 % 2 == 1, a0 / 2 % 2 == 1, a0 / 2 / 2 % 2 == 1, a0 / 2 / 2 / 2 % 2 == 1, a0 / 2 / 2 / 2 / 2 % 2 == 1, 0)
  else some (false, false, false, false, false, 1)

set_option maxHeartbeats 1000000 in
theorem refbits_yes (c : Int) (w : World) (h0 : 0 ≤ c) (h1 : c ≤ 31) :
    Calls Try.prog 31 #[.int .i64 c] w fun e w' => e = .returned (.tuple #[.agg #[.bool (c % 2 == 1), .bool (c / 2 % 2 == 1), .bool (c / 2 / 2 % 2 == 1), .bool (c / 2 / 2 / 2 % 2 == 1), .bool (c / 2 / 2 / 2 / 2 % 2 == 1)], .int .i64 0]) ∧ Below w.heap.size w w' := by
  have hd0 : decide (c < 0) = false := decide_eq_false (by omega)
  have hd1 : decide (31 < c) = false := decide_eq_false (by omega)
  go_enter Try.func31, Try.ntmps31
  go_wp2
  refine wp_loop_rounds 6 ?_
  iterate 6 (rw [rounds_succ]; go_wp2)
  refine bodyPost_ret (v := .tuple #[.agg #[.bool (c % 2 == 1), .bool (c / 2 % 2 == 1), .bool (c / 2 / 2 % 2 == 1), .bool (c / 2 / 2 / 2 % 2 == 1), .bool (c / 2 / 2 / 2 / 2 % 2 == 1)], .int .i64 0]) (by simp [results, Try.results31, go_sem]) rfl ⟨rfl, ?_⟩
  exact ((Below.refl _ _).alloc (Nat.le_refl _) _).alloc (by simp) _
theorem refbits_no (c : Int) (w : World) (h : ¬ (0 ≤ c ∧ c ≤ 31)) :
    Calls Try.prog 31 #[.int .i64 c] w fun e w' => e = .returned (.tuple #[.agg #[.bool false, .bool false, .bool false, .bool false, .bool false], .int .i64 1]) ∧ Below w.heap.size w w' := by
  by_cases h0 : c < 0
  · have hd0 : decide (c < 0) = true := decide_eq_true h0
    go_enter Try.func31, Try.ntmps31
    go_wp2
    refine bodyPost_ret (v := .tuple #[.agg #[.bool false, .bool false, .bool false, .bool false, .bool false], .int .i64 1]) (by simp [results, Try.results31, go_sem]) rfl ⟨rfl, ?_⟩
    exact ((Below.refl _ _).alloc (Nat.le_refl _) _).alloc (by simp) _
  · have hd0 : decide (c < 0) = false := decide_eq_false h0
    have hd1 : decide (31 < c) = true := decide_eq_true (by omega)
    go_enter Try.func31, Try.ntmps31
    go_wp2
    refine bodyPost_ret (v := .tuple #[.agg #[.bool false, .bool false, .bool false, .bool false, .bool false], .int .i64 1]) (by simp [results, Try.results31, go_sem]) rfl ⟨rfl, ?_⟩
    exact ((Below.refl _ _).alloc (Nat.le_refl _) _).alloc (by simp) _
theorem gatelineref10_Bits.calls (a0 : Int) (r1 : Bool) (r2 : Bool) (r3 : Bool) (r4 : Bool) (r5 : Bool) (r6 : Int) (w : World) (h : gatelineref10_Bits.f a0 = some (r1, r2, r3, r4, r5, r6)) :
    Calls Try.prog 31 #[.int .i64 a0] w fun e w' => e = .returned (.tuple #[.agg #[.bool r1, .bool r2, .bool r3, .bool r4, .bool r5], .int .i64 r6]) ∧ Below w.heap.size w w' := by
  unfold gatelineref10_Bits.f at h
  split at h
  · rename_i hc
    simp only [Option.some.injEq, Prod.mk.injEq] at h
    obtain ⟨rfl, rfl, rfl, rfl, rfl, rfl⟩ := h
    exact refbits_yes a0 w hc.1 hc.2
  · rename_i hc
    simp only [Option.some.injEq, Prod.mk.injEq] at h
    obtain ⟨rfl, rfl, rfl, rfl, rfl, rfl⟩ := h
    exact refbits_no a0 w hc
end Go.Proofs.Ytfmpeojlaibblaa.S
