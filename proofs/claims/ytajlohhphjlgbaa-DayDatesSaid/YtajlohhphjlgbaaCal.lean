/-
  The calendar in plain Lean: years, months, and which day a date is. No Go.
-/
import Derived.RowKit
namespace Go.Proofs.Ytajlohhphjlgbaa.S

/-- Is a year a leap year: one day more, or none. -/
def lp (y : Int) : Int := if y % 4 = 0 ∧ (y % 100 ≠ 0 ∨ y % 400 = 0) then 1 else 0
/-- The day on which a year begins. -/
def firstY (y : Int) : Int := 365 * y + (y - 1) / 4 - (y - 1) / 100 + (y - 1) / 400 - 730484
/-- How many days of a year lie before a month; of month 13: all. -/
def cum (y m : Int) : Int :=
  if m = 1 then 0 else if m = 2 then 31 else if m = 3 then 59 + lp y else if m = 4 then 90 + lp y else if m = 5 then 120 + lp y else if m = 6 then 151 + lp y else if m = 7 then 181 + lp y else
  if m = 8 then 212 + lp y else if m = 9 then 243 + lp y else if m = 10 then 273 + lp y else if m = 11 then 304 + lp y else if m = 12 then 334 + lp y else 365 + lp y
/-- How many days a month has. -/
def ml (y m : Int) : Int := if m = 2 then 28 + lp y else if m = 4 ∨ m = 6 ∨ m = 9 ∨ m = 11 then 30 else 31

theorem lp_bd (y : Int) : 0 ≤ lp y ∧ lp y ≤ 1 := by unfold lp; split <;> omega
theorem first_succ (y : Int) : firstY (y + 1) = firstY y + 365 + lp y := by
  unfold firstY lp
  split <;> omega
theorem first_mono {a b : Int} (h : a ≤ b) : firstY a ≤ firstY b := by
  rcases Int.lt_or_eq_of_le h with h | h
  · unfold firstY; omega
  · rw [h]; exact Int.le_refl _
theorem first_year {a b : Int} (h : a < b) : firstY a + 365 + lp a ≤ firstY b := by
  rw [← first_succ]
  exact first_mono (by omega)
theorem mcases {m : Int} (h0 : 1 ≤ m) (h1 : m ≤ 12) : m = 1 ∨ m = 2 ∨ m = 3 ∨ m = 4 ∨ m = 5 ∨ m = 6 ∨ m = 7 ∨ m = 8 ∨ m = 9 ∨ m = 10 ∨ m = 11 ∨ m = 12 := by omega
theorem cum_one (y : Int) : cum y 1 = 0 := rfl
theorem cum_all (y : Int) : cum y 13 = 365 + lp y := rfl
theorem cum_succ {y m : Int} (h0 : 1 ≤ m) (h1 : m ≤ 12) : cum y (m + 1) = cum y m + ml y m := by
  rcases mcases h0 h1 with rfl | rfl | rfl | rfl | rfl | rfl | rfl | rfl | rfl | rfl | rfl | rfl <;> simp [cum, ml] <;> omega
theorem ml_bd (y m : Int) : 28 ≤ ml y m ∧ ml y m ≤ 31 := by
  have := lp_bd y
  unfold ml
  split
  · omega
  · split <;> omega
theorem cum_le (y m : Int) (h0 : 1 ≤ m) : ∀ k : Nat, m + k ≤ 13 → cum y m ≤ cum y (m + k)
  | 0, _ => by simp
  | k + 1, h => by
    have h1 := cum_le y m h0 k (by omega)
    have h2 := cum_succ (y := y) (m := m + k) (by omega) (by omega)
    have h3 := ml_bd y (m + k)
    rw [show m + ((k + 1 : Nat) : Int) = m + k + 1 by omega, h2]
    omega
theorem cum_mono {y m m' : Int} (h0 : 1 ≤ m) (h : m ≤ m') (h1 : m' ≤ 13) : cum y m ≤ cum y m' := by
  have := cum_le y m h0 (m' - m).toNat (by omega)
  rwa [show m + ((m' - m).toNat : Int) = m' by omega] at this
theorem cum_bd {y m : Int} (h0 : 1 ≤ m) (h1 : m ≤ 13) : 0 ≤ cum y m ∧ cum y m ≤ 365 + lp y := by
  have a := cum_mono (y := y) (m := 1) (m' := m) (by omega) h0 h1
  have b := cum_mono (y := y) (m := m) (m' := 13) h0 h1 (by omega)
  rw [cum_one] at a
  rw [cum_all] at b
  exact ⟨a, b⟩
theorem cum_lt {y m m' : Int} (h0 : 1 ≤ m) (h : m < m') (h1 : m' ≤ 13) : cum y m + ml y m ≤ cum y m' := by
  rw [← cum_succ h0 (by omega)]
  exact cum_mono (by omega) (by omega) h1

/-- Day n is the date y, m, d. -/
structure IsD (n y m d : Int) : Prop where
  y0 : 2000 ≤ y
  m0 : 1 ≤ m
  m1 : m ≤ 12
  d0 : 1 ≤ d
  d1 : d ≤ ml y m
  eq : firstY y + cum y m + d - 1 = n
theorem IsD.year {n y m d : Int} (h : IsD n y m d) : firstY y ≤ n ∧ n < firstY (y + 1) := by
  have h1 := cum_bd (y := y) (m := m) h.m0 (by have := h.m1; omega)
  have h2 := cum_lt (y := y) (m := m) (m' := 13) h.m0 (by have := h.m1; omega) (by omega)
  rw [cum_all] at h2
  have := h.eq
  have := h.d0
  have := h.d1
  rw [first_succ]
  omega
/-- The order of dates is that of their days. -/
theorem IsD.lt {n y m d n' y' m' d' : Int} (h : IsD n y m d) (h' : IsD n' y' m' d') (hl : y < y' ∨ y = y' ∧ (m < m' ∨ m = m' ∧ d < d')) : n < n' := by
  rcases hl with hy | ⟨rfl, hm | ⟨rfl, hd⟩⟩
  · have := h.year
    have := h'.year
    have := first_mono (a := y + 1) (b := y') (by omega)
    omega
  · have := cum_lt (y := y) h.m0 hm (by have := h'.m1; omega)
    have := h.eq
    have := h'.eq
    have := h.d1
    have := h'.d0
    omega
  · have := h.eq
    have := h'.eq
    omega
theorem IsD.one {n y m d y' m' d' : Int} (h : IsD n y m d) (h' : IsD n y' m' d') : y = y' ∧ m = m' ∧ d = d' := by
  rcases Int.lt_trichotomy y y' with hy | hy | hy
  · exact absurd (h.lt h' (.inl hy)) (by omega)
  · rcases Int.lt_trichotomy m m' with hm | hm | hm
    · exact absurd (h.lt h' (.inr ⟨hy, .inl hm⟩)) (by omega)
    · rcases Int.lt_trichotomy d d' with hd | hd | hd
      · exact absurd (h.lt h' (.inr ⟨hy, .inr ⟨hm, hd⟩⟩)) (by omega)
      · exact ⟨hy, hm, hd⟩
      · exact absurd (h'.lt h (.inr ⟨hy.symm, .inr ⟨hm.symm, hd⟩⟩)) (by omega)
    · exact absurd (h'.lt h (.inr ⟨hy.symm, .inl hm⟩)) (by omega)
  · exact absurd (h'.lt h (.inl hy)) (by omega)
theorem first_2000 : firstY 2000 = 0 := by decide
theorem first_2274 : firstY 2274 = 100077 := by decide
theorem IsD.upto {n y m d : Int} (h : IsD n y m d) (hn : n ≤ 99999) : y ≤ 2273 := by
  have := h.year
  by_cases hy : y ≤ 2273
  · exact hy
  · have := first_mono (a := 2274) (b := y) (by omega)
    rw [first_2274] at this
    omega
theorem IsD.nonneg {n y m d : Int} (h : IsD n y m d) : 0 ≤ n := by
  have := h.year
  have := first_mono h.y0
  rw [first_2000] at this
  omega
end Go.Proofs.Ytajlohhphjlgbaa.S
