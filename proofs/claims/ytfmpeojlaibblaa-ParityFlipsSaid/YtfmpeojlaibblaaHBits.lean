/-
  parity.Bits: what it answers, as a Lean function, and that the Go code answers just this.
-/
import Derived.Test.YtfmpeojlaibblaaSF50
import Derived.LoopN
import Derived.Lib.Hide
namespace Go.Proofs.Ytfmpeojlaibblaa.S
open Go.RowKit Go.Proofs.YtfmpeojlaibblaaW.PrintWords Go.Proofs.YtfmpeojlaibblaaW.PrintLast Go.Proofs.YtfmpeojlaibblaaW.PrintMore

def parity_Bits.f (a0 : Int) : Option (Bool × Bool × Bool × Bool × Bool × Int) :=
  if 0 ≤ a0 ∧ a0 ≤ 31 then some (Go.bits .and .i64 a0 1 == 1, Go.bits .and .i64 (a0 / 2) 1 == 1, Go.bits .and .i64 (a0 / 4) 1 == 1, Go.bits .and .i64 (a0 / 8) 1 == 1, Go.bits .and .i64 (a0 / 16) 1 == 1, 0)
  else some (false, false, false, false, false, 1)

theorem within_yes (c m : Int) (W : World) (h0 : 0 ≤ c) (h1 : c ≤ m) : Calls Try.prog 50 #[.int .i64 c, .int .i64 m] W fun e w' => e = .returned (.bool true) ∧ W = w' := by
  have d0 : decide (0 ≤ c) = true := decide_eq_true h0
  have d1 : decide (c ≤ m) = true := decide_eq_true h1
  go_enter Try.func50, Try.ntmps50
  go_wp2
  go_ret
  exact ⟨by simp [h1], rfl⟩
theorem within_no (c m : Int) (W : World) (h : ¬ (0 ≤ c ∧ c ≤ m)) : Calls Try.prog 50 #[.int .i64 c, .int .i64 m] W fun e w' => e = .returned (.bool false) ∧ W = w' := by
  by_cases h0 : 0 ≤ c
  · have d0 : decide (0 ≤ c) = true := decide_eq_true h0
    have h1 : ¬ c ≤ m := fun h1 => h ⟨h0, h1⟩
    go_enter Try.func50, Try.ntmps50
    go_wp2
    go_ret
    exact ⟨by simp [h1], rfl⟩
  · have d0 : decide (0 ≤ c) = false := decide_eq_false h0
    go_enter Try.func50, Try.ntmps50
    go_wp2
    go_ret
    exact ⟨by simp, rfl⟩

set_option maxHeartbeats 1000000 in
theorem bits_yes (c : Int) (w : World) (h0 : 0 ≤ c) (h1 : c ≤ 31) :
    Calls Try.prog 30 #[.int .i64 c] w fun e w' => e = .returned (.tuple #[.agg #[.bool (Go.bits .and .i64 c 1 == 1), .bool (Go.bits .and .i64 (c / 2) 1 == 1), .bool (Go.bits .and .i64 (c / 4) 1 == 1), .bool (Go.bits .and .i64 (c / 8) 1 == 1), .bool (Go.bits .and .i64 (c / 16) 1 == 1)], .int .i64 0]) ∧ Below w.heap.size w w' := by
  go_enter Try.func30, Try.ntmps30
  go_wp2_with (go_at_call 50; refine (within_yes c 31 _ h0 h1).mono ?_; rintro e w' ⟨rfl, rfl⟩)
  refine wp_loop_rounds 6 ?_
  iterate 6 (rw [rounds_succ]; go_wp2)
  refine bodyPost_ret (v := .tuple #[.agg #[.bool (Go.bits .and .i64 c 1 == 1), .bool (Go.bits .and .i64 (c / 2) 1 == 1), .bool (Go.bits .and .i64 (c / 4) 1 == 1), .bool (Go.bits .and .i64 (c / 8) 1 == 1), .bool (Go.bits .and .i64 (c / 16) 1 == 1)], .int .i64 0]) (by simp [results, Try.results30, go_sem]) rfl ⟨rfl, ?_⟩
  exact ((Below.refl _ _).alloc (Nat.le_refl _) _).alloc (by simp) _

theorem bits_no (c : Int) (w : World) (h : ¬ (0 ≤ c ∧ c ≤ 31)) :
    Calls Try.prog 30 #[.int .i64 c] w fun e w' => e = .returned (.tuple #[.agg #[.bool false, .bool false, .bool false, .bool false, .bool false], .int .i64 1]) ∧ Below w.heap.size w w' := by
  go_enter Try.func30, Try.ntmps30
  go_wp2_with (go_at_call 50; refine (within_no c 31 _ h).mono ?_; rintro e w' ⟨rfl, rfl⟩)
  refine bodyPost_ret (v := .tuple #[.agg #[.bool false, .bool false, .bool false, .bool false, .bool false], .int .i64 1]) (by simp [results, Try.results30, go_sem]) rfl ⟨rfl, ?_⟩
  exact ((Below.refl _ _).alloc (Nat.le_refl _) _).alloc (by simp) _

theorem parity_Bits.calls (a0 : Int) (r1 : Bool) (r2 : Bool) (r3 : Bool) (r4 : Bool) (r5 : Bool) (r6 : Int) (w : World) (h : parity_Bits.f a0 = some (r1, r2, r3, r4, r5, r6)) :
    Calls Try.prog 30 #[.int .i64 a0] w fun e w' => e = .returned (.tuple #[.agg #[.bool r1, .bool r2, .bool r3, .bool r4, .bool r5], .int .i64 r6]) ∧ Below w.heap.size w w' := by
  unfold parity_Bits.f at h
  split at h
  · rename_i hc
    simp only [Option.some.injEq, Prod.mk.injEq] at h
    obtain ⟨rfl, rfl, rfl, rfl, rfl, rfl⟩ := h
    exact bits_yes a0 w hc.1 hc.2
  · rename_i hc
    simp only [Option.some.injEq, Prod.mk.injEq] at h
    obtain ⟨rfl, rfl, rfl, rfl, rfl, rfl⟩ := h
    exact bits_no a0 w hc
end Go.Proofs.Ytfmpeojlaibblaa.S
