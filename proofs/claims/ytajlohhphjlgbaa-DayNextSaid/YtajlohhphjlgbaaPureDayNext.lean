/-
  DayNext, the plain part.
-/
import Derived.Test.YtajlohhphjlgbaaSF9
import Derived.Test.YtajlohhphjlgbaaPureD0
namespace Go.Proofs.Ytajlohhphjlgbaa.Pure
open Go.RowKit Go.Proofs.Ytajlohhphjlgbaa.S Go.Proofs.YtajlohhphjlgbaaW.PrintWords Go.Proofs.YtajlohhphjlgbaaW.PrintLast

theorem next_last (n y m d : Int) : gatelinelaw06_DayNext.j0 1 n (Int.tmod (wrap64 (n + 5)) 7) 0 true y m d = some true := by
  rw [gatelinelaw06_DayNext.j0, dated_eq]
  simp
theorem next_yes {n y m d : Int} (h : IsD n y m d) (hn : n < 99999) : gatelinelaw06_DayNext.j0 1 n (Int.tmod (wrap64 (n + 5)) 7) 0 false y m d = some true := by
  have h0 := h.nonneg
  have hy := h.upto (by omega)
  have hy0 := h.y0; have hm0 := h.m0; have hm1 := h.m1; have hd0 := h.d0; have hd1 := h.d1
  have hb := ml_bd y m
  rw [gatelinelaw06_DayNext.j0, dated_eq, wrap_in (n := n + 1) (by omega) (by omega), wrap_in (n := y + 1) (by omega) (by omega), wrap_in (n := m + 1) (by omega) (by omega), wrap_in (n := d + 1) (by omega) (by omega)]
  simp only [Option.bind_some, if_true, if_neg (by simp : ¬ (false = true))]
  rcases isD_next h with hx | ⟨hx, hd, hm⟩ | ⟨hx, hm, hd⟩
  · rw [date_of hx (by omega)]
    simp only [Option.bind_some, if_true, if_neg (by omega : ¬ m = m + 1), if_neg (by omega : ¬ y = y + 1)]
    repeat' split
    all_goals first | rfl | omega
  · rw [date_of hx (by omega)]
    simp only [Option.bind_some, if_true, if_neg (by omega : ¬ m + 1 = m), if_neg (by omega : ¬ y = y + 1), if_pos (show d ≥ 28 from hd)]
    repeat' split
    all_goals first | rfl | omega
  · rw [date_of hx (by omega)]
    subst hm
    subst hd
    simp only [Option.bind_some, if_true, if_neg (by omega : ¬ y + 1 = y)]
    simp
theorem DayNext_f (n : Int) : gatelinelaw06_DayNext.f 1 n = some true := by
  unfold gatelinelaw06_DayNext.f
  rw [week]
  by_cases h : n < 0 ∨ 99999 < n
  · rw [date_no n h, if_pos h, dated_eq]
    simp
    omega
  · rw [if_neg h]
    obtain ⟨y, m, d, hi, hd⟩ := date_yes n h
    rw [hd]
    simp only [Option.bind_some, if_true]
    by_cases he : n = 99999
    · rw [show (n == 99999) = true from beq_iff_eq.mpr he]
      exact next_last n y m d
    · rw [show (n == 99999) = false from beq_false_of_ne he]
      exact next_yes hi (by omega)
theorem DayNext : gatelinelaw06_DayNext.Pure := fun n _ => ⟨1, DayNext_f n⟩
end Go.Proofs.Ytajlohhphjlgbaa.Pure
