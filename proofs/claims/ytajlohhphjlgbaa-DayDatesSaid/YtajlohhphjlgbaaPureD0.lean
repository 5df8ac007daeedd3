/-
  Days and dates, the plain part: every day has its date, the next day the next date; what day.Of and day.Date answer.
-/
import Derived.Test.YtajlohhphjlgbaaSF24
import Derived.Test.YtajlohhphjlgbaaPure0
namespace Go.Proofs.Ytajlohhphjlgbaa.Pure
open Go.RowKit Go.Proofs.Ytajlohhphjlgbaa.S Go.Proofs.YtajlohhphjlgbaaW.PrintWords Go.Proofs.YtajlohhphjlgbaaW.PrintLast

theorem ml_dec (y : Int) : ml y 12 = 31 := rfl
theorem isD_next {n y m d : Int} (h : IsD n y m d) :
    (IsD (n + 1) y m (d + 1)) ∨ (IsD (n + 1) y (m + 1) 1 ∧ 28 ≤ d ∧ m + 1 ≤ 12) ∨ (IsD (n + 1) (y + 1) 1 1 ∧ m = 12 ∧ d = 31) := by
  have hb := ml_bd y m
  by_cases h1 : d < ml y m
  · exact .inl ⟨h.y0, h.m0, h.m1, by have := h.d0; omega, by omega, by have := h.eq; omega⟩
  · have hd : d = ml y m := by have := h.d1; omega
    by_cases h2 : m < 12
    · have hc := cum_succ (y := y) h.m0 h.m1
      have hb' := ml_bd y (m + 1)
      exact .inr (.inl ⟨⟨h.y0, by have := h.m0; omega, by omega, by omega, by omega, by have := h.eq; omega⟩, by omega, by omega⟩)
    · obtain rfl : m = 12 := by have := h.m1; omega
      have hc := cum_succ (y := y) (m := 12) (by omega) (by omega)
      have ha := cum_all y
      have hf := first_succ y
      have hb' := ml_bd (y + 1) 1
      rw [ml_dec] at hd hc
      refine .inr (.inr ⟨⟨by have := h.y0; omega, by omega, by omega, by omega, by omega, ?_⟩, rfl, hd⟩)
      have := h.eq
      have h12 : cum y (12 + 1) = cum y 13 := rfl
      rw [cum_one]
      omega
theorem isD_ex (n : Nat) : ∃ y m d, IsD (n : Int) y m d := by
  induction n with
  | zero => exact ⟨2000, 1, 1, by decide, by decide, by decide, by decide, by decide, by decide⟩
  | succ n ih =>
    obtain ⟨y, m, d, h⟩ := ih
    rcases isD_next h with h | ⟨h, _⟩ | ⟨h, _⟩
    · exact ⟨_, _, _, by simpa using h⟩
    · exact ⟨_, _, _, by simpa using h⟩
    · exact ⟨_, _, _, by simpa using h⟩
theorem date_no (n : Int) (h : n < 0 ∨ 99999 < n) : day_Date.f n = some (0, 0, 0, 1) := by unfold day_Date.f; rw [if_pos h]
theorem date_yes (n : Int) (h : ¬ (n < 0 ∨ 99999 < n)) : ∃ y m d, IsD n y m d ∧ day_Date.f n = some (y, m, d, 0) := by
  obtain ⟨y, m, d, hd⟩ := isD_ex n.toNat
  rw [Int.toNat_of_nonneg (by omega)] at hd
  exact ⟨y, m, d, hd, date_of hd (by omega)⟩
theorem of_yes {n y m d : Int} (h : IsD n y m d) (hn : n ≤ 99999) : day_Of.f y m d = some (n, 0) := by
  have := h.upto hn
  have := h.y0; have := h.m0; have := h.m1; have := h.d0; have := h.d1; have := h.eq
  unfold day_Of.f
  rw [if_neg (by omega), if_neg (by omega), if_neg (by omega), h.eq]
/-- What day.Of answers: the date's day, or that there is none. -/
theorem of_is (y m d : Int) : (∃ n, IsD n y m d ∧ n ≤ 99999 ∧ day_Of.f y m d = some (n, 0)) ∨ (day_Of.f y m d = some (0, 1)) := by
  by_cases h0 : y < 2000 ∨ 2273 < y ∨ m < 1 ∨ 12 < m
  · exact .inr (by unfold day_Of.f; rw [if_pos h0])
  by_cases h1 : d < 1 ∨ ml y m < d
  · exact .inr (by unfold day_Of.f; rw [if_neg h0, if_pos h1])
  by_cases h2 : 99999 < firstY y + cum y m + d - 1
  · exact .inr (by unfold day_Of.f; rw [if_neg h0, if_neg h1, if_pos h2])
  have hi : IsD (firstY y + cum y m + d - 1) y m d := ⟨by omega, by omega, by omega, by omega, by omega, rfl⟩
  exact .inl ⟨_, hi, by omega, of_yes hi (by omega)⟩
theorem dated_eq : gatelinelaw06_dated.f = some true := by
  unfold gatelinelaw06_dated.f
  rw [show day_Of.f 2000 3 1 = some (60, 0) by decide +kernel, show day_Of.f 2001 2 29 = some (0, 1) by decide +kernel, date_no 100000 (by omega),
    date_of (n := 59) (y := 2000) (m := 2) (d := 29) ⟨by decide, by decide, by decide, by decide, by decide, by decide⟩ (by omega),
    date_of (n := 99999) (y := 2273) (m := 10) (d := 15) ⟨by decide, by decide, by decide, by decide, by decide, by decide⟩ (by omega),
    show day_Weekday.f 2 = some (0, 0) by decide +kernel, show day_Leap.f 2000 = some true by decide +kernel, show day_Leap.f 1900 = some false by decide +kernel, show day_Leap.f (-4) = some true by decide +kernel]
  rfl
theorem week (n : Int) : day_Weekday.f n = if n < 0 ∨ 99999 < n then some (0, 1) else some (Int.tmod (wrap64 (n + 5)) 7, 0) := by
  unfold day_Weekday.f
  by_cases h : n < 0
  · rw [if_pos h, if_pos (.inl h)]
  · rw [if_neg h]
    by_cases h' : n > 99999
    · rw [if_pos h', if_pos (.inr h')]
    · rw [if_neg h', if_neg (by omega)]
end Go.Proofs.Ytajlohhphjlgbaa.Pure
