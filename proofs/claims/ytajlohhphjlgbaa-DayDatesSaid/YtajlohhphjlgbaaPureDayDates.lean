/-
  DayDates, the plain part: the document's leap years, dates and days are the program's.
-/
import Derived.Test.YtajlohhphjlgbaaSF7
import Derived.Test.YtajlohhphjlgbaaPureD0
import Derived.Laws.BitsLemmas
namespace Go.Proofs.Ytajlohhphjlgbaa.Pure
open Go.RowKit Go.Proofs.Ytajlohhphjlgbaa.S Go.Proofs.YtajlohhphjlgbaaW.PrintWords Go.Proofs.YtajlohhphjlgbaaW.PrintLast

theorem and3 (y : Int) : Go.bits .and .i64 y 3 = y % 4 := by
  have h3 : ∀ n : Nat, n &&& (3 % ((2 ^ 64 : Nat) : Int)).toNat = n % 4 := fun n => Nat.and_two_pow_sub_one_eq_mod n 2
  simp only [bits, show IntKind.i64.bits = 64 from rfl, BitVec.toNat_and, BitVec.toNat_ofInt, h3]
  rw [IntKind.wrap_i64]
  omega
theorem tmod4 (y : Int) : Int.tmod y 4 = 0 ↔ y % 4 = 0 := by
  constructor
  · intro h
    have := Int.dvd_of_tmod_eq_zero h
    omega
  · intro h
    exact Int.tmod_eq_zero_of_dvd (by omega)
theorem leap_ref (y : Int) : ∃ b, day_Leap.f y = some b ∧ gatelineref06_Leap.f y = some b := by
  unfold day_Leap.f gatelineref06_Leap.f
  rw [and3]
  simp only [tmod4]
  by_cases h : y % 4 = 0
  · rw [if_pos h]
    by_cases h' : Int.tmod y 100 = 0
    · rw [if_pos h']; exact ⟨_, rfl, rfl⟩
    · rw [if_neg h']; exact ⟨_, rfl, rfl⟩
  · rw [if_neg h]; exact ⟨_, rfl, rfl⟩

theorem refof_l (Y M D : Int) (hY : Y ≤ 2300) (hM0 : 1 ≤ M) (hM1 : M ≤ 12) (hD0 : 1 ≤ D) (hD : D ≤ 31) : ∀ (j : Nat) (y m : Int), (12 * (Y - y) + (M - m)).toNat = j → 2000 ≤ y → y ≤ Y → 1 ≤ m → m ≤ 12 → (y = Y → m ≤ M) →
    Ev (fun k => gatelineref06_Of.l0 k (firstY y + cum y m + D - 1) y m Y M D) (if 99999 < firstY Y + cum Y M + D - 1 then (0, 1) else (firstY Y + cum Y M + D - 1, 0)) := by
  intro j
  induction j with
  | zero =>
    intro y m hj h0 h1 h2 h3 h4
    obtain rfl : y = Y := by omega
    obtain rfl : m = M := by have := h4 rfl; omega
    refine Ev.step (f := fun k => gatelineref06_Of.j2 k (firstY y + cum y m + D - 1) y m false y m D) (fun k => ?_) ⟨1, fun k hk => ?_⟩
    · show gatelineref06_Of.l0 (k + 1) _ _ _ _ _ _ = _
      rw [gatelineref06_Of.l0, if_neg (by omega), decide_eq_false (by omega)]
    · obtain ⟨k, rfl⟩ : ∃ m, k = m + 1 := ⟨k - 1, by omega⟩
      show gatelineref06_Of.j2 (k + 1) _ _ _ _ _ _ _ = _
      rw [gatelineref06_Of.j2, if_neg (by simp)]
      by_cases h : 99999 < firstY y + cum y m + D - 1
      · rw [if_pos h, if_pos h]
      · rw [if_neg h, if_neg h]
  | succ j ih =>
    intro y m hj h0 h1 h2 h3 h4
    have hb := ml_bd y m
    have hc := cum_succ (y := y) h2 h3
    have hcb := cum_bd (y := y) (m := m) h2 (by omega)
    have hf0 := first_mono h0
    have hf1 := first_mono (a := y) (b := 2300) (by omega)
    have hl := lp_bd y
    rw [first_2000] at hf0
    rw [show firstY 2300 = 109573 by decide] at hf1
    refine Ev.step (f := fun k => gatelineref06_Of.j2 k (firstY y + cum y m + D - 1) y m true Y M D) (fun k => ?_) ?_
    · show gatelineref06_Of.l0 (k + 1) _ _ _ _ _ _ = _
      rw [gatelineref06_Of.l0]
      by_cases hy : y < Y
      · rw [if_pos hy]
      · rw [if_neg hy, decide_eq_true (by omega)]
    · by_cases hm : 12 < m + 1
      · have hx := ih (y + 1) 1 (by omega) (by omega) (by omega) (by omega) (by omega) (by omega)
        obtain rfl : m = 12 := by omega
        have ha := cum_all y
        have hs := first_succ y
        have h12 : cum y (12 + 1) = cum y 13 := rfl
        rw [show firstY (y + 1) + cum (y + 1) 1 + D - 1 = firstY y + cum y 12 + D - 1 + ml y 12 by rw [cum_one]; omega] at hx
        refine Ev.step (fun k => ?_) hx
        show gatelineref06_Of.j2 (k + 1) _ _ _ _ _ _ _ = _
        rw [gatelineref06_Of.j2, if_pos rfl, reflength y 12 (by omega), Option.bind_some, wrap_in (n := 12 + 1) (by omega) (by omega), wrap_in (n := y + 1) (by omega) (by omega), wrap_in (n := firstY y + cum y 12 + D - 1 + ml y 12) (by omega) (by omega), if_pos (by omega)]
      · have hx := ih y (m + 1) (by omega) (by omega) (by omega) (by omega) (by omega) (by omega)
        rw [show firstY y + cum y (m + 1) + D - 1 = firstY y + cum y m + D - 1 + ml y m by omega] at hx
        refine Ev.step (fun k => ?_) hx
        show gatelineref06_Of.j2 (k + 1) _ _ _ _ _ _ _ = _
        rw [gatelineref06_Of.j2, if_pos rfl, reflength y m (by omega), Option.bind_some, wrap_in (n := m + 1) (by omega) (by omega), wrap_in (n := firstY y + cum y m + D - 1 + ml y m) (by omega) (by omega), if_neg (by omega)]
theorem refof_ev (y m d : Int) : ∃ r, day_Of.f y m d = some r ∧ Ev (fun k => gatelineref06_Of.f k y m d) r := by
  have hno : Ev (fun k => gatelineref06_Of.j0 k true y m d) (0, 1) := ⟨1, fun k hk => by
    obtain ⟨k, rfl⟩ : ∃ m, k = m + 1 := ⟨k - 1, by omega⟩
    show gatelineref06_Of.j0 (k + 1) _ _ _ _ = _
    rw [gatelineref06_Of.j0, if_pos rfl]⟩
  unfold gatelineref06_Of.f
  by_cases h0 : y < 2000
  · exact ⟨(0, 1), by unfold day_Of.f; rw [if_pos (.inl h0)], by simpa only [if_pos h0] using hno⟩
  simp only [if_neg h0]
  by_cases h1 : y > 2300
  · exact ⟨(0, 1), by unfold day_Of.f; rw [if_pos (by omega)], by simpa only [if_pos h1] using hno⟩
  simp only [if_neg h1]
  by_cases h2 : m < 1
  · exact ⟨(0, 1), by unfold day_Of.f; rw [if_pos (by omega)], by simpa only [if_pos h2] using hno⟩
  simp only [if_neg h2]
  by_cases h3 : m > 12
  · exact ⟨(0, 1), by unfold day_Of.f; rw [if_pos (by omega)], by simpa only [if_pos h3] using hno⟩
  simp only [if_neg h3]
  by_cases h4 : d < 1
  · refine ⟨(0, 1), ?_, by simpa only [if_pos h4] using hno⟩
    unfold day_Of.f
    by_cases h5 : y < 2000 ∨ 2273 < y ∨ m < 1 ∨ 12 < m
    · rw [if_pos h5]
    · rw [if_neg h5, if_pos (.inl h4)]
  simp only [if_neg h4, reflength y m (by omega), Option.bind_some]
  by_cases h5 : d > ml y m
  · refine ⟨(0, 1), ?_, by simpa only [decide_eq_true h5] using hno⟩
    unfold day_Of.f
    by_cases h6 : y < 2000 ∨ 2273 < y ∨ m < 1 ∨ 12 < m
    · rw [if_pos h6]
    · rw [if_neg h6, if_pos (.inr h5)]
  simp only [decide_eq_false h5]
  have hb := ml_bd y m
  have hl := refof_l y m d (by omega) (by omega) (by omega) (by omega) (by omega) _ 2000 1 rfl (by omega) (by omega) (by omega) (by omega) (by omega)
  rw [show firstY 2000 + cum 2000 1 + d - 1 = d - 1 by rw [first_2000, cum_one]; omega] at hl
  refine ⟨_, ?_, Ev.step (fun k => ?_) hl⟩
  · unfold day_Of.f
    by_cases h6 : 2273 < y
    · rw [if_pos (by omega)]
      have hf := first_mono (a := 2274) (b := y) (by omega)
      rw [first_2274] at hf
      have hcb := cum_bd (y := y) (m := m) (by omega) (by omega)
      rw [if_pos (by omega)]
    · rw [if_neg (by omega), if_neg (by omega)]
      by_cases h7 : 99999 < firstY y + cum y m + d - 1
      · rw [if_pos h7, if_pos h7]
      · rw [if_neg h7, if_neg h7]
  · show gatelineref06_Of.j0 (k + 1) _ _ _ _ = _
    rw [gatelineref06_Of.j0, if_neg (by simp), wrap_in (n := d - 1) (by omega) (by omega)]
theorem DayDates_f (n y m d : Int) : ∃ k, gatelinelaw06_DayDates.f k n y m d = some true := by
  have hd : ∃ r, day_Date.f n = some r := by
    by_cases h : n < 0 ∨ 99999 < n
    · exact ⟨_, date_no n h⟩
    · obtain ⟨_, _, _, _, h⟩ := date_yes n h
      exact ⟨_, h⟩
  obtain ⟨r, hr⟩ := hd
  obtain ⟨q, hq, k, hk⟩ := refof_ev y m d
  obtain ⟨b, hb, hb'⟩ := leap_ref n
  obtain ⟨c, hc, hc'⟩ := leap_ref y
  refine ⟨k, ?_⟩
  unfold gatelinelaw06_DayDates.f gatelineref06_Date.f
  have hk' := hk k (Nat.le_refl _)
  simp only at hk'
  rw [hr, Option.bind_some, Option.bind_some, hq, Option.bind_some, hk', Option.bind_some, dated_eq, Option.bind_some, hb, hb', hc, hc']
  simp
theorem DayDates_walk (n y m d : Int) (w : World) : Calls Try.prog 7 #[.int .i64 n, .agg #[.int .i64 y, .int .i64 m, .int .i64 d]] w fun e w' => e = .returned (.bool true) ∧ Below w.heap.size w w' := by
  obtain ⟨k, hk⟩ := DayDates_f n y m d
  exact gatelinelaw06_DayDates.calls k n y m d true w hk
end Go.Proofs.Ytajlohhphjlgbaa.Pure
