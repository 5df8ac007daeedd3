/- Written for this claim by a program of this session (handprint.py, over the kit's print). Lean checks it. -/
import Derived.Test.YtfmpeojlaibblaaS0
namespace Go.Proofs.Ytfmpeojlaibblaa.S
open Go.RowKit Go.Proofs.YtfmpeojlaibblaaW.PrintWords Go.Proofs.YtfmpeojlaibblaaW.PrintLast Go.Proofs.YtfmpeojlaibblaaW.PrintMore
attribute [local go_sem] max2_int min2_int max_two min_two max_three min_three max_four min_four   -- for this text's walks alone
set_option linter.unusedVariables false
set_option linter.unusedSimpArgs false

theorem eqA36_at (b0 b1 b2 b3 b4 : Bool) (w : World) : (part 4 #[.bool b0, .bool b1, .bool b2, .bool b3, .bool b4] 0).run Try.prog w = .ok (.bool b0) w ∧ (part 4 #[.bool b0, .bool b1, .bool b2, .bool b3, .bool b4] 1).run Try.prog w = .ok (.bool b1) w ∧
    (part 4 #[.bool b0, .bool b1, .bool b2, .bool b3, .bool b4] 2).run Try.prog w = .ok (.bool b2) w ∧ (part 4 #[.bool b0, .bool b1, .bool b2, .bool b3, .bool b4] 3).run Try.prog w = .ok (.bool b3) w ∧ (part 4 #[.bool b0, .bool b1, .bool b2, .bool b3, .bool b4] 4).run Try.prog w = .ok (.bool b4) w :=
  ⟨by kernel_rfl, by kernel_rfl, by kernel_rfl, by kernel_rfl, by kernel_rfl⟩
theorem eqA36_one (d : Nat) (w : World) (a b : Bool) : (Op.equalIn (d + 1) 4 (.bool a) (.bool b)).run Try.prog w = .ok (a == b) w := by
  simp [Op.equalIn, run_underlying Try.underlying4]
theorem eqA36 (d : Nat) (w : World) (x0 x1 x2 x3 x4 y0 y1 y2 y3 y4 : Bool) : (Op.equalIn (d + 2) 36 (.agg #[.bool x0, .bool x1, .bool x2, .bool x3, .bool x4]) (.agg #[.bool y0, .bool y1, .bool y2, .bool y3, .bool y4])).run Try.prog w = .ok (x0 == y0 && (x1 == y1 && (x2 == y2 && (x3 == y3 && (x4 == y4))))) w := by
  rw [Op.equalIn]
  simp only [Sem.run_bind, run_underlying Try.underlying36, Result.andThen_ok]
  simp [Std.Legacy.Range.forIn_eq_forIn_range', List.range', eqA36_at, eqA36_one]
  by_cases h0 : x0 = y0 <;> by_cases h1 : x1 = y1 <;> by_cases h2 : x2 = y2 <;> by_cases h3 : x3 = y3 <;> by_cases h4 : x4 = y4 <;> simp [h0, h1, h2, h3, h4]

end Go.Proofs.Ytfmpeojlaibblaa.S
