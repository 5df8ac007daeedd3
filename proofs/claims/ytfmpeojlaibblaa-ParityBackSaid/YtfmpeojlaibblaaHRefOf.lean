/-
  gatelineref10.Of: what it answers, as a Lean function, and that the Go code answers just this.
-/
import Derived.Test.YtfmpeojlaibblaaS0
import Derived.LoopN
import Derived.Lib.Hide
namespace Go.Proofs.Ytfmpeojlaibblaa.S
open Go.RowKit Go.Proofs.YtfmpeojlaibblaaW.PrintWords Go.Proofs.YtfmpeojlaibblaaW.PrintLast Go.Proofs.YtfmpeojlaibblaaW.PrintMore

def oneIf (b : Bool) : Int := if b = true then 1 else 0
def refTo (b0 b1 b2 b3 b4 : Bool) : Nat → Int
  | 0 => 0
  | 1 => oneIf b4
  | 2 => 2 * oneIf b4 + oneIf b3
  | 3 => 2 * (2 * oneIf b4 + oneIf b3) + oneIf b2
  | 4 => 2 * (2 * (2 * oneIf b4 + oneIf b3) + oneIf b2) + oneIf b1
  | _ => 2 * (2 * (2 * (2 * oneIf b4 + oneIf b3) + oneIf b2) + oneIf b1) + oneIf b0
def gatelineref10_Of.f (a0_0 : Bool) (a0_1 : Bool) (a0_2 : Bool) (a0_3 : Bool) (a0_4 : Bool) : Option (Int) := some (refTo a0_0 a0_1 a0_2 a0_3 a0_4 5)
theorem oneIf_bd (b : Bool) : 0 ≤ oneIf b ∧ oneIf b ≤ 1 := by cases b <;> simp [oneIf]

theorem ret_i {k : IntKind} {a b : Int} (h : a = b) : Ending.returned (.int k a) = .returned (.int k b) := by rw [h]

set_option maxHeartbeats 2000000 in
theorem refof_walk (b0 b1 b2 b3 b4 : Bool) (w : World) :
    Calls Try.prog 33 #[.agg #[.bool b0, .bool b1, .bool b2, .bool b3, .bool b4]] w fun e w' => e = .returned (.int .i64 (refTo b0 b1 b2 b3 b4 5)) ∧ Below w.heap.size w w' := by
  go_enter Try.func33, Try.ntmps33
  go_wp2
  go_loop [3, 4] (fun n i => ∃ k : Nat, k ≤ 5 ∧ i = .int .i64 (4 - k) ∧ n = .int .i64 (refTo b0 b1 b2 b3 b4 k)) (fun _ i => (intOf i + 1).toNat)
  case atStart => exact ⟨0, by omega, rfl, rfl⟩
  case round =>
    obtain ⟨k, hk, rfl, rfl⟩ := hrel
    have hn : 0 ≤ refTo b0 b1 b2 b3 b4 k ∧ refTo b0 b1 b2 b3 b4 k ≤ 31 := by
      have := oneIf_bd b0
      have := oneIf_bd b1
      have := oneIf_bd b2
      have := oneIf_bd b3
      have := oneIf_bd b4
      obtain h | h | h | h | h | h : k = 0 ∨ k = 1 ∨ k = 2 ∨ k = 3 ∨ k = 4 ∨ k = 5 := by omega
      all_goals (subst h; simp only [refTo]; omega)
    obtain ⟨hn0, hn1⟩ := hn
    obtain ⟨n, hn⟩ : ∃ n, n = refTo b0 b1 b2 b3 b4 k := ⟨_, rfl⟩
    rw [← hn] at hn0 hn1 ⊢
    have HN := Lib.hid hn
    clear hn
    obtain h | h | h | h | h | h : k = 0 ∨ k = 1 ∨ k = 2 ∨ k = 3 ∨ k = 4 ∨ k = 5 := by omega
    · subst h
      cases b4
      · go_wp2
        go_round
        case rel => exact ⟨1, by omega, by go_num, by rw [HN.out]; simp [refTo, oneIf]⟩
        case measure => simp [intOf]
      · go_wp2
        go_round
        case rel => exact ⟨1, by omega, by go_num, by rw [HN.out]; simp [refTo, oneIf]⟩
        case measure => simp [intOf]
    · subst h
      cases b3
      · go_wp2
        go_round
        case rel => exact ⟨2, by omega, by go_num, by rw [HN.out]; simp [refTo, oneIf]⟩
        case measure => simp [intOf]
      · go_wp2
        go_round
        case rel => exact ⟨2, by omega, by go_num, by rw [HN.out]; simp [refTo, oneIf]⟩
        case measure => simp [intOf]
    · subst h
      cases b2
      · go_wp2
        go_round
        case rel => exact ⟨3, by omega, by go_num, by rw [HN.out]; simp [refTo, oneIf]⟩
        case measure => simp [intOf]
      · go_wp2
        go_round
        case rel => exact ⟨3, by omega, by go_num, by rw [HN.out]; simp [refTo, oneIf]⟩
        case measure => simp [intOf]
    · subst h
      cases b1
      · go_wp2
        go_round
        case rel => exact ⟨4, by omega, by go_num, by rw [HN.out]; simp [refTo, oneIf]⟩
        case measure => simp [intOf]
      · go_wp2
        go_round
        case rel => exact ⟨4, by omega, by go_num, by rw [HN.out]; simp [refTo, oneIf]⟩
        case measure => simp [intOf]
    · subst h
      cases b0
      · go_wp2
        go_round
        case rel => exact ⟨5, by omega, by go_num, by rw [HN.out]; simp [refTo, oneIf]⟩
        case measure => simp [intOf]
      · go_wp2
        go_round
        case rel => exact ⟨5, by omega, by go_num, by rw [HN.out]; simp [refTo, oneIf]⟩
        case measure => simp [intOf]
    · subst h
      go_wp2
      go_ret
      exact ⟨ret_i HN.out, (Below.refl _ _).alloc (Nat.le_refl _) _⟩
theorem gatelineref10_Of.calls (a0_0 : Bool) (a0_1 : Bool) (a0_2 : Bool) (a0_3 : Bool) (a0_4 : Bool) (r : Int) (w : World) (h : gatelineref10_Of.f a0_0 a0_1 a0_2 a0_3 a0_4 = some r) :
    Calls Try.prog 33 #[.agg #[.bool a0_0, .bool a0_1, .bool a0_2, .bool a0_3, .bool a0_4]] w fun e w' => e = .returned (.int .i64 r) ∧ Below w.heap.size w w' := by
  obtain rfl := Option.some.inj h
  exact refof_walk _ _ _ _ _ w
end Go.Proofs.Ytfmpeojlaibblaa.S
