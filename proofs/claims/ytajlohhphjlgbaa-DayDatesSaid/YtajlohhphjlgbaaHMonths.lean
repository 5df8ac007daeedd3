/-
  day.months: the months' lengths of a year, and that the Go code answers just these.
-/
import Derived.Test.YtajlohhphjlgbaaS0
import Derived.Test.YtajlohhphjlgbaaCal
import Derived.Test.YtajlohhphjlgbaaSF25
import Derived.Lib.Hide
import Derived.Laws.BitsLemmas
namespace Go.Proofs.Ytajlohhphjlgbaa.S
open Go.RowKit Go.Proofs.YtajlohhphjlgbaaW.PrintWords Go.Proofs.YtajlohhphjlgbaaW.PrintLast Go.Proofs.YtajlohhphjlgbaaW.PrintMore

theorem leap_at (y : Int) (h0 : 2000 ≤ y) (h1 : y ≤ 2300) : day_Leap.f y = some (decide (lp y = 1)) := by
  have hb : Go.bits .and .i64 y 3 = y % 4 := bits_mask .i64 63 (by decide) (fun n h1 h2 => by rw [IntKind.wrap_i64]; omega) 2 (by decide) y (by omega) (by omega)
  unfold day_Leap.f lp
  rw [hb, Int.tmod_eq_emod_of_nonneg (by omega), Int.tmod_eq_emod_of_nonneg (by omega)]
  by_cases c1 : y % 4 = 0
  · rw [if_pos c1]
    by_cases c2 : y % 100 = 0
    · rw [if_pos c2]
      by_cases c3 : y % 400 = 0 <;> simp [c1, c2, c3]
    · rw [if_neg c2]
      simp [c1, c2]
  · rw [if_neg c1]
    simp [c1]
theorem leap_walk (y : Int) (h0 : 2000 ≤ y) (h1 : y ≤ 2300) (w : World) : Calls Try.prog 25 #[.int .i64 y] w fun e w' => e = .returned (.bool (decide (lp y = 1))) ∧ w = w' := by
  have hl := leap_at y h0 h1
  unfold day_Leap.f at hl
  by_cases c1 : Go.bits .and .i64 y 3 = 0
  · rw [if_pos c1] at hl
    have a1 : (Go.bits .and .i64 y 3 == 0) = true := beq_iff_eq.mpr c1
    have a2 : (Go.bits .and .i64 y 3 != 0) = false := bne_eq_false_iff_eq.mpr c1
    by_cases c2 : Int.tmod y 100 = 0
    · rw [if_pos c2] at hl
      have b1 : (Int.tmod y 100 == 0) = true := beq_iff_eq.mpr c2
      have b2 : (Int.tmod y 100 != 0) = false := bne_eq_false_iff_eq.mpr c2
      rw [← Option.some.inj hl]
      rw [Int.tmod_eq_emod_of_nonneg (by omega)] at b1 b2
      rw [Int.tmod_eq_emod_of_nonneg (by omega)]
      clear c1 c2 hl
      go_enter Try.func25, Try.ntmps25
      go_wp2
      go_ret
      exact ⟨rfl, rfl⟩
    · rw [if_neg c2] at hl
      have b1 : (Int.tmod y 100 == 0) = false := beq_eq_false_iff_ne.mpr c2
      have b2 : (Int.tmod y 100 != 0) = true := bne_iff_ne.mpr c2
      rw [← Option.some.inj hl]
      rw [Int.tmod_eq_emod_of_nonneg (by omega)] at b1 b2
      clear c1 c2 hl
      go_enter Try.func25, Try.ntmps25
      go_wp2
      go_ret
      exact ⟨rfl, rfl⟩
  · rw [if_neg c1] at hl
    have a1 : (Go.bits .and .i64 y 3 == 0) = false := beq_eq_false_iff_ne.mpr c1
    have a2 : (Go.bits .and .i64 y 3 != 0) = true := bne_iff_ne.mpr c1
    rw [← Option.some.inj hl]
    clear c1 hl
    go_enter Try.func25, Try.ntmps25
    go_wp2
    go_ret
    exact ⟨rfl, rfl⟩
set_option maxHeartbeats 1000000 in
theorem months_at (y : Int) (h0 : 2000 ≤ y) (h1 : y ≤ 2300) (w : World) : Calls Try.prog 31 #[.int .i64 y] w fun e w' => e = .returned (.agg #[.int .i64 31, .int .i64 (28 + lp y), .int .i64 31, .int .i64 30, .int .i64 31, .int .i64 30, .int .i64 31, .int .i64 31, .int .i64 30, .int .i64 31, .int .i64 30, .int .i64 31]) ∧ Below w.heap.size w w' := by
  have hl := leap_walk y h0 h1
  have hb := lp_bd y
  by_cases h : lp y = 1
  · have h29 : 28 + lp y = 29 := by omega
    have e1 : decide (lp y = 1) = true := decide_eq_true h
    rw [e1] at hl
    rw [h29]
    clear h29 e1 h hb
    go_enter Try.func31, Try.ntmps31
    go_wp2_with (go_at_call 25; refine (hl _).mono ?_; rintro e w' ⟨rfl, rfl⟩)
    refine bodyPost_ret (v := .agg #[.int .i64 31, .int .i64 29, .int .i64 31, .int .i64 30, .int .i64 31, .int .i64 30, .int .i64 31, .int .i64 31, .int .i64 30, .int .i64 31, .int .i64 30, .int .i64 31]) (by simp [results, Try.results31, go_sem]) rfl ⟨rfl, ?_⟩
    exact ((Below.refl _ _).alloc (Nat.le_refl _) _).alloc (by simp) _
  · have h28 : 28 + lp y = 28 := by omega
    have e1 : decide (lp y = 1) = false := decide_eq_false h
    rw [e1] at hl
    rw [h28]
    clear h28 e1 h hb
    go_enter Try.func31, Try.ntmps31
    go_wp2_with (go_at_call 25; refine (hl _).mono ?_; rintro e w' ⟨rfl, rfl⟩)
    refine bodyPost_ret (v := .agg #[.int .i64 31, .int .i64 28, .int .i64 31, .int .i64 30, .int .i64 31, .int .i64 30, .int .i64 31, .int .i64 31, .int .i64 30, .int .i64 31, .int .i64 30, .int .i64 31]) (by simp [results, Try.results31, go_sem]) rfl ⟨rfl, ?_⟩
    exact ((Below.refl _ _).alloc (Nat.le_refl _) _).alloc (by simp) _
end Go.Proofs.Ytajlohhphjlgbaa.S
