/-
  DayBack, the plain part.
-/
import Derived.Test.YtajlohhphjlgbaaSF8
import Derived.Test.YtajlohhphjlgbaaPureD0
namespace Go.Proofs.Ytajlohhphjlgbaa.Pure
open Go.RowKit Go.Proofs.Ytajlohhphjlgbaa.S Go.Proofs.YtajlohhphjlgbaaW.PrintWords Go.Proofs.YtajlohhphjlgbaaW.PrintLast

theorem back_j (y m d : Int) (k : Nat) : gatelinelaw06_DayBack.j0 (k + 1) y m d = some true := by
  rw [gatelinelaw06_DayBack.j0]
  rcases of_is y m d with ⟨n, hi, hn, ho⟩ | ho
  · rw [ho]
    simp only [Option.bind_some]
    rw [date_of hi hn, dated_eq]
    simp
  · rw [ho, dated_eq]
    simp
theorem DayBack_f (n y m d : Int) : gatelinelaw06_DayBack.f 1 n y m d = some true := by
  unfold gatelinelaw06_DayBack.f
  rw [back_j]
  by_cases h : n < 0 ∨ 99999 < n
  · rw [date_no n h]
    simp
  · obtain ⟨y', m', d', hi, hd⟩ := date_yes n h
    rw [hd]
    simp only [Option.bind_some]
    rw [of_yes hi (by omega)]
    simp
theorem DayBack_walk (n y m d : Int) (w : World) : Calls Try.prog 8 #[.int .i64 n, .agg #[.int .i64 y, .int .i64 m, .int .i64 d]] w fun e w' => e = .returned (.bool true) ∧ Below w.heap.size w w' :=
  gatelinelaw06_DayBack.calls 1 n y m d true w (DayBack_f n y m d)
end Go.Proofs.Ytajlohhphjlgbaa.Pure
