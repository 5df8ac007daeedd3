/-
  parity.Of: what it answers, as a Lean function, and that the Go code answers just this.
-/
import Derived.Test.YtfmpeojlaibblaaS0
import Derived.LoopN
import Derived.Lib.Hide
namespace Go.Proofs.Ytfmpeojlaibblaa.S
open Go.RowKit Go.Proofs.YtfmpeojlaibblaaW.PrintWords Go.Proofs.YtfmpeojlaibblaaW.PrintLast Go.Proofs.YtfmpeojlaibblaaW.PrintMore

def orIf (b : Bool) (n p : Int) : Int := if b = true then Go.bits .or .i64 n p else n
theorem orIf_true (n p : Int) : orIf true n p = Go.bits .or .i64 n p := rfl
theorem orIf_false (n p : Int) : orIf false n p = n := rfl
def ofTo (b0 b1 b2 b3 b4 : Bool) : Nat → Int
  | 0 => 0
  | 1 => orIf b0 0 1
  | 2 => orIf b1 (orIf b0 0 1) 2
  | 3 => orIf b2 (orIf b1 (orIf b0 0 1) 2) 4
  | 4 => orIf b3 (orIf b2 (orIf b1 (orIf b0 0 1) 2) 4) 8
  | _ => orIf b4 (orIf b3 (orIf b2 (orIf b1 (orIf b0 0 1) 2) 4) 8) 16
def parity_Of.f (a0_0 : Bool) (a0_1 : Bool) (a0_2 : Bool) (a0_3 : Bool) (a0_4 : Bool) : Option (Int) := some (ofTo a0_0 a0_1 a0_2 a0_3 a0_4 5)

set_option maxHeartbeats 2000000 in
theorem of_walk (b0 b1 b2 b3 b4 : Bool) (w : World) :
    Calls Try.prog 32 #[.agg #[.bool b0, .bool b1, .bool b2, .bool b3, .bool b4]] w fun e w' => e = .returned (.int .i64 (ofTo b0 b1 b2 b3 b4 5)) ∧ Below w.heap.size w w' := by
  go_enter Try.func32, Try.ntmps32
  go_wp2
  go_loop [3, 7] (fun n i => ∃ k : Nat, k ≤ 5 ∧ i = .int .i64 k ∧ n = .int .i64 (ofTo b0 b1 b2 b3 b4 k)) (fun _ i => 5 - (intOf i).toNat)
  case atStart => exact ⟨0, by omega, rfl, rfl⟩
  case round =>
    obtain ⟨k, hk, rfl, rfl⟩ := hrel
    obtain h | h | h | h | h | h : k = 0 ∨ k = 1 ∨ k = 2 ∨ k = 3 ∨ k = 4 ∨ k = 5 := by omega
    · subst h
      have hi : ∀ W, (Instr.index 36 (.agg #[.bool b0, .bool b1, .bool b2, .bool b3, .bool b4]) (.int .i64 0)).run Try.prog W = .ok (.bool b0) W := fun _ => by kernel_rfl
      cases b0
      all_goals
        go_wp2
        go_round
        case rel => exact ⟨1, by omega, by go_num, by first | rfl | (simp [ofTo, orIf]; done)⟩
        case measure => simp [intOf]
    · subst h
      have hi : ∀ W, (Instr.index 36 (.agg #[.bool b0, .bool b1, .bool b2, .bool b3, .bool b4]) (.int .i64 1)).run Try.prog W = .ok (.bool b1) W := fun _ => by kernel_rfl
      cases b1
      all_goals
        go_wp2
        go_round
        case rel => exact ⟨2, by omega, by go_num, by first | rfl | (simp [ofTo, orIf]; done)⟩
        case measure => simp [intOf]
    · subst h
      have hi : ∀ W, (Instr.index 36 (.agg #[.bool b0, .bool b1, .bool b2, .bool b3, .bool b4]) (.int .i64 2)).run Try.prog W = .ok (.bool b2) W := fun _ => by kernel_rfl
      cases b2
      all_goals
        go_wp2
        go_round
        case rel => exact ⟨3, by omega, by go_num, by first | rfl | (simp [ofTo, orIf]; done)⟩
        case measure => simp [intOf]
    · subst h
      have hi : ∀ W, (Instr.index 36 (.agg #[.bool b0, .bool b1, .bool b2, .bool b3, .bool b4]) (.int .i64 3)).run Try.prog W = .ok (.bool b3) W := fun _ => by kernel_rfl
      cases b3
      all_goals
        go_wp2
        go_round
        case rel => exact ⟨4, by omega, by go_num, by first | rfl | (simp [ofTo, orIf]; done)⟩
        case measure => simp [intOf]
    · subst h
      have hi : ∀ W, (Instr.index 36 (.agg #[.bool b0, .bool b1, .bool b2, .bool b3, .bool b4]) (.int .i64 4)).run Try.prog W = .ok (.bool b4) W := fun _ => by kernel_rfl
      cases b4
      all_goals
        go_wp2
        go_round
        case rel => exact ⟨5, by omega, by go_num, by first | rfl | (simp [ofTo, orIf]; done)⟩
        case measure => simp [intOf]
    · subst h
      go_wp2
      go_ret
      exact ⟨rfl, (Below.refl _ _).alloc (Nat.le_refl _) _⟩
theorem parity_Of.calls (a0_0 : Bool) (a0_1 : Bool) (a0_2 : Bool) (a0_3 : Bool) (a0_4 : Bool) (r : Int) (w : World) (h : parity_Of.f a0_0 a0_1 a0_2 a0_3 a0_4 = some r) :
    Calls Try.prog 32 #[.agg #[.bool a0_0, .bool a0_1, .bool a0_2, .bool a0_3, .bool a0_4]] w fun e w' => e = .returned (.int .i64 r) ∧ Below w.heap.size w w' := by
  obtain rfl := Option.some.inj h
  exact of_walk _ _ _ _ _ w
end Go.Proofs.Ytfmpeojlaibblaa.S
