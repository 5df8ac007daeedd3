/-
  gatelineref06.Date: that the Go code answers what day.Date answers: the one date of a day.
-/
import Derived.Test.YtajlohhphjlgbaaHDate
import Derived.Test.YtajlohhphjlgbaaSF32
namespace Go.Proofs.Ytajlohhphjlgbaa.S
open Go.RowKit Go.Proofs.YtajlohhphjlgbaaW.PrintWords Go.Proofs.YtajlohhphjlgbaaW.PrintLast Go.Proofs.YtajlohhphjlgbaaW.PrintMore

noncomputable def gatelineref06_Date.f (a0 : Int) : Option (Int × Int × Int × Int) := day_Date.f a0

theorem refleap (y : Int) (h0 : 0 ≤ y) : gatelineref06_Leap.f y = some (decide (lp y = 1)) := by
  unfold gatelineref06_Leap.f lp
  rw [Int.tmod_eq_emod_of_nonneg h0, Int.tmod_eq_emod_of_nonneg h0, Int.tmod_eq_emod_of_nonneg h0]
  by_cases c1 : y % 4 = 0
  · rw [if_pos c1]
    by_cases c2 : y % 100 = 0
    · rw [if_pos c2]
      by_cases c3 : y % 400 = 0 <;> simp [c1, c2, c3]
    · rw [if_neg c2]
      simp [c1, c2]
  · rw [if_neg c1]
    simp [c1]
theorem reflength (y m : Int) (h0 : 0 ≤ y) : gatelineref06_Length.f y m = some (ml y m) := by
  unfold gatelineref06_Length.f ml
  rw [refleap y h0]
  have := lp_bd y
  by_cases c1 : m = 2
  · rw [if_pos c1, if_pos c1]
    by_cases h : lp y = 1
    · simp [h]
    · have h2 : lp y = 0 := by omega
      simp [h2]
  · rw [if_neg c1, if_neg c1]
    repeat' split
    all_goals first | rfl | (exfalso; omega)
theorem length_at (y m : Int) (h0 : 0 ≤ y) (w : World) : Calls Try.prog 32 #[.int .i64 y, .int .i64 m] w fun e w' => e = .returned (.int .i64 (ml y m)) ∧ Drawn0 w w' :=
  gatelineref06_Length.calls y m (ml y m) w (reflength y m h0)

theorem blk_far {w : World} {g : Nat} {o : Obj} (h : w.heap[g]? = some o) {p : Addr} (hp : g ≠ p.block) (u : Value) : (w.setCell p u).heap[g]? = some o := (Below.heap_setCell w p u g hp).trans h

set_option maxHeartbeats 2000000 in
theorem refdate_walk (n : Int) (w : World) (h0 : 0 ≤ n) (h1 : n ≤ 99999) :
    Calls Try.prog 21 #[.int .i64 n] w fun e w' => ∃ y m d : Int, e = .returned (.tuple #[.agg #[.int .i64 y, .int .i64 m, .int .i64 d], .int .i64 0]) ∧ IsD n y m d ∧ Below w.heap.size w w' := by
  have d0 : decide (n < 0) = false := decide_eq_false (by omega)
  have d1 : decide (99999 < n) = false := decide_eq_false (by omega)
  go_enter Try.func21, Try.ntmps21
  go_wp2
  go_loopw [0] (fun a wr => ∃ y m r : Int, 2000 ≤ y ∧ y ≤ 2300 ∧ 1 ≤ m ∧ m ≤ 12 ∧ 0 ≤ r ∧ r ≤ 99999 ∧ a = .int .i64 r ∧ Hid (r = n - firstY y - cum y m) ∧
      Aside0 (wr.heap[w.heap.size]? = some (.cells #[.int .i64 0, .int .i64 0, .int .i64 0] 36 (0, 0))) ∧ Aside0 (wr.heap[w.heap.size + 1]? = some (.cells #[.int .i64 y, .int .i64 m, .int .i64 1] 36 (0, 0))) ∧ Aside0 (Below w.heap.size w wr)) (fun a _ => (intOf a).toNat)
  case atStart => exact ⟨2000, 1, n, by omega, by omega, by omega, by omega, by omega, by omega, rfl, Lib.hid (by rw [first_2000, cum_one]; omega), ⟨blk_alloc (blk_new w _) _⟩, ⟨by have h := blk_new (w.alloc (.cells #[.int .i64 0, .int .i64 0, .int .i64 0] 36)) (.cells #[.int .i64 2000, .int .i64 1, .int .i64 1] 36); rw [World.size_alloc] at h; exact h⟩, ⟨((Below.refl _ _).alloc (Nat.le_refl _) _).alloc (by simp) _⟩⟩
  case round =>
    obtain ⟨y, m, r, hy0, hy1, hm0, hm1, hr0, hr1, rfl, HE, HR, HG, HB⟩ := hrel
    obtain ⟨l0, l1⟩ := ml_bd y m
    have c0 : wr.cell? ⟨w.heap.size + 1, 0, none⟩ = some (.int .i64 y) := by simp [World.cell?, HG.out]
    have c1 : wr.cell? ⟨w.heap.size + 1, 1, none⟩ = some (.int .i64 m) := by simp [World.cell?, HG.out]
    have c2 : wr.cell? ⟨w.heap.size + 1, 2, none⟩ = some (.int .i64 1) := by simp [World.cell?, HG.out]
    have z0 : wr.frozen? ⟨w.heap.size + 1, 0, none⟩ = false := by simp [World.frozen?, HG.out]
    have z1 : wr.frozen? ⟨w.heap.size + 1, 1, none⟩ = false := by simp [World.frozen?, HG.out]
    have z2 : wr.frozen? ⟨w.heap.size + 1, 2, none⟩ = false := by simp [World.frozen?, HG.out]
    have b0 : wr.cell? ⟨w.heap.size, 0, none⟩ = some (.int .i64 0) := by simp [World.cell?, HR.out]
    have b1 : wr.cell? ⟨w.heap.size, 1, none⟩ = some (.int .i64 0) := by simp [World.cell?, HR.out]
    have b2 : wr.cell? ⟨w.heap.size, 2, none⟩ = some (.int .i64 0) := by simp [World.cell?, HR.out]
    have x0 : wr.frozen? ⟨w.heap.size, 0, none⟩ = false := by simp [World.frozen?, HR.out]
    have x1 : wr.frozen? ⟨w.heap.size, 1, none⟩ = false := by simp [World.frozen?, HR.out]
    have x2 : wr.frozen? ⟨w.heap.size, 2, none⟩ = false := by simp [World.frozen?, HR.out]
    have HY : Hid (y ≤ 2273) := Lib.hid (by
      by_cases h : y ≤ 2273
      · exact h
      · have h2 := first_mono (a := 2274) (b := y) (by omega)
        rw [first_2274] at h2
        have h3 := (cum_bd (y := y) hm0 (by omega)).1
        have e := HE.out
        omega)
    by_cases hd : r < ml y m
    · have hle : ¬ ml y m ≤ r := by omega
      go_wp2_with (go_at_call 32; refine (length_at _ _ (by omega) _).mono ?_; rintro e w' ⟨rfl, ⟨nd, rfl⟩⟩)
      refine bodyPost_ret (results_ct rfl _ _ w.heap.size 36 #[.int .i64 y, .int .i64 m, .int .i64 (1 + r)] (0, 0) _ rfl (blk_put (cs := #[.int .i64 y, .int .i64 m, .int .i64 0]) (blk_put (cs := #[.int .i64 y, .int .i64 0, .int .i64 0]) (blk_put (cs := #[.int .i64 0, .int .i64 0, .int .i64 0]) (blk_far (blk_drewN HR.out _) (by simp) _) 0 _ rfl) 1 _ rfl) 2 _ rfl) Try.underlying36 rfl (by kernel_rfl)) rfl ?_
      exact ⟨y, m, 1 + r, rfl, ⟨hy0, hm0, hm1, by omega, by omega, by have e := HE.out; omega⟩, (((pw_below_drewN HB.out _).setCell (p := ⟨w.heap.size + 1, 2, none⟩) (by simp) _).setCell (p := ⟨w.heap.size, 0, none⟩) (Nat.le_refl _) _).setCell (p := ⟨w.heap.size, 1, none⟩) (Nat.le_refl _) _ |>.setCell (p := ⟨w.heap.size, 2, none⟩) (Nat.le_refl _) _⟩
    · have hd' : ml y m ≤ r := by omega
      have HS : Hid (cum y (m + 1) = cum y m + ml y m) := Lib.hid (cum_succ hm0 hm1)
      by_cases h12 : m = 12
      · subst h12
        go_wp2_with (go_at_call 32; refine (length_at _ _ (by omega) _).mono ?_; rintro e w' ⟨rfl, ⟨nd, rfl⟩⟩)
        go_roundw
        case rel => exact ⟨y + 1, 1, r - ml y 12, by omega, by have := HY.out; omega, by omega, by omega, by omega, by omega, rfl, Lib.hid (by rw [cum_one, first_succ]; have e := HE.out; have e2 := HS.out; rw [show (12 : Int) + 1 = 13 by omega, cum_all] at e2; omega),
          ⟨blk_far (blk_far (blk_far (blk_drewN HR.out _) (by simp) _) (by simp) _) (by simp) _⟩,
          ⟨blk_put (cs := #[.int .i64 y, .int .i64 1, .int .i64 1]) (blk_put (cs := #[.int .i64 y, .int .i64 13, .int .i64 1]) (blk_put (cs := #[.int .i64 y, .int .i64 12, .int .i64 1]) (blk_drewN HG.out _) 1 _ rfl) 1 _ rfl) 0 _ rfl⟩,
          ⟨(((pw_below_drewN HB.out _).setCell (p := ⟨w.heap.size + 1, 1, none⟩) (by simp) _).setCell (p := ⟨w.heap.size + 1, 1, none⟩) (by simp) _).setCell (p := ⟨w.heap.size + 1, 0, none⟩) (by simp) _⟩⟩
        case measure => simp [intOf]; omega
      · have hm2 : m ≤ 11 := by omega
        clear h12
        go_wp2_with (go_at_call 32; refine (length_at _ _ (by omega) _).mono ?_; rintro e w' ⟨rfl, ⟨nd, rfl⟩⟩)
        go_roundw
        case rel => exact ⟨y, m + 1, r - ml y m, by omega, by omega, by omega, by omega, by omega, by omega, rfl, Lib.hid (by have e := HE.out; have e2 := HS.out; omega),
          ⟨blk_far (blk_drewN HR.out _) (by simp) _⟩,
          ⟨blk_put (cs := #[.int .i64 y, .int .i64 m, .int .i64 1]) (blk_drewN HG.out _) 1 _ rfl⟩,
          ⟨(pw_below_drewN HB.out _).setCell (p := ⟨w.heap.size + 1, 1, none⟩) (by simp) _⟩⟩
        case measure => simp [intOf]; omega
theorem refdate_no (n : Int) (w : World) (h : n < 0 ∨ 99999 < n) :
    Calls Try.prog 21 #[.int .i64 n] w fun e w' => e = .returned (.tuple #[.agg #[.int .i64 0, .int .i64 0, .int .i64 0], .int .i64 1]) ∧ Below w.heap.size w w' := by
  by_cases h0 : n < 0
  · have d0 : decide (n < 0) = true := decide_eq_true h0
    go_enter Try.func21, Try.ntmps21
    go_wp2
    refine bodyPost_ret (v := .tuple #[.agg #[.int .i64 0, .int .i64 0, .int .i64 0], .int .i64 1]) (by simp [results, Try.results21, go_sem]) rfl ⟨rfl, (Below.refl _ _).alloc (Nat.le_refl _) _⟩
  · have d0 : decide (n < 0) = false := decide_eq_false h0
    have d1 : decide (99999 < n) = true := decide_eq_true (by omega)
    go_enter Try.func21, Try.ntmps21
    go_wp2
    refine bodyPost_ret (v := .tuple #[.agg #[.int .i64 0, .int .i64 0, .int .i64 0], .int .i64 1]) (by simp [results, Try.results21, go_sem]) rfl ⟨rfl, (Below.refl _ _).alloc (Nat.le_refl _) _⟩
theorem gatelineref06_Date.calls (a0 : Int) (r1 : Int) (r2 : Int) (r3 : Int) (r4 : Int) (w : World) (h : gatelineref06_Date.f a0 = some (r1, r2, r3, r4)) :
    Calls Try.prog 21 #[.int .i64 a0] w fun e w' => e = .returned (.tuple #[.agg #[.int .i64 r1, .int .i64 r2, .int .i64 r3], .int .i64 r4]) ∧ Below w.heap.size w w' := by
  unfold gatelineref06_Date.f at h
  by_cases hn : a0 < 0 ∨ 99999 < a0
  · unfold day_Date.f at h
    rw [if_pos hn] at h
    simp only [Option.some.injEq, Prod.mk.injEq] at h
    obtain ⟨rfl, rfl, rfl, rfl⟩ := h
    exact refdate_no a0 w hn
  · refine (refdate_walk a0 w (by omega) (by omega)).mono ?_
    rintro e w' ⟨y, m, d, rfl, hi, hb⟩
    rw [date_of hi (by omega)] at h
    simp only [Option.some.injEq, Prod.mk.injEq] at h
    obtain ⟨rfl, rfl, rfl, rfl⟩ := h
    exact ⟨rfl, hb⟩
end Go.Proofs.Ytajlohhphjlgbaa.S
