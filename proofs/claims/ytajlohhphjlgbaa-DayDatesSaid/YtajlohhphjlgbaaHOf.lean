/-
  day.Of: what it answers, as a Lean function, and that the Go code answers just this.
-/
import Derived.Test.YtajlohhphjlgbaaHDate
import Derived.Deep.QuietTactic
import Derived.BigQuiet
import Derived.IntWalk
namespace Go.Proofs.Ytajlohhphjlgbaa.S
open Go.RowKit Go.Proofs.YtajlohhphjlgbaaW.PrintWords Go.Proofs.YtajlohhphjlgbaaW.PrintLast Go.Proofs.YtajlohhphjlgbaaW.PrintMore

def day_Of.f (a0_0 : Int) (a0_1 : Int) (a0_2 : Int) : Option (Int × Int) :=
  if a0_0 < 2000 ∨ 2273 < a0_0 ∨ a0_1 < 1 ∨ 12 < a0_1 then some (0, 1)
  else if a0_2 < 1 ∨ ml a0_0 a0_1 < a0_2 then some (0, 1)
  else if 99999 < firstY a0_0 + cum a0_0 a0_1 + a0_2 - 1 then some (0, 1) else some (firstY a0_0 + cum a0_0 a0_1 + a0_2 - 1, 0)

theorem first_at' (y : Int) (h0 : 2000 ≤ y) (h1 : y ≤ 2300) (w : World) : Calls Try.prog 30 #[.int .i64 y] w fun e w' => e = .returned (.int .i64 (firstY y)) ∧ w' = w :=
  (first_at y h0 h1 w).mono fun _ _ ⟨he, hw⟩ => ⟨he, hw.symm⟩
theorem ret_ii {k q : IntKind} {a a' b b' : Int} (h : a = a') (h' : b = b') : Ending.returned (.tuple #[.int k a, .int q b]) = .returned (.tuple #[.int k a', .int q b']) := by rw [h, h']
/-- The months' lengths, by their place. -/
theorem month_cell (y : Int) (k : Nat) (hk : k ≤ 11) : (#[Value.int .i64 31, .int .i64 (28 + lp y), .int .i64 31, .int .i64 30, .int .i64 31, .int .i64 30, .int .i64 31, .int .i64 31, .int .i64 30, .int .i64 31, .int .i64 30, .int .i64 31] : Array Value)[k]? = some (.int .i64 (ml y ((k : Int) + 1))) := by
  obtain h | h | h | h | h | h | h | h | h | h | h | h : k = 0 ∨ k = 1 ∨ k = 2 ∨ k = 3 ∨ k = 4 ∨ k = 5 ∨ k = 6 ∨ k = 7 ∨ k = 8 ∨ k = 9 ∨ k = 10 ∨ k = 11 := by omega
  all_goals (subst h; rfl)

theorem quiet_add_same {P : Program} {f : FuncId} {args : Array Value} {w : World} {a n : Nat} {v : Value}
    (h : Calls P f args (w.drewN (a + n)) fun e w' => e = .returned v ∧ w' = w.drewN (a + n)) :
    Calls P f args (w.drewN (a + n)) fun e w'' => e = .returned v ∧ ∃ m, w'' = w.drewN (a + m) :=
  h.mono fun _ _ ⟨he, hm⟩ => ⟨he, n, hm⟩

set_option maxHeartbeats 2000000 in
theorem of_day (y d : Int) (k : Nat) (w : World) (y0 : 2000 ≤ y) (y1 : y ≤ 2273) (hk : k ≤ 11) (d0 : 1 ≤ d) (d1 : d ≤ ml y ((k : Int) + 1)) (q r : Int) (hr : (q, r) = if 99999 < firstY y + cum y ((k : Int) + 1) + d - 1 then ((0 : Int), (1 : Int)) else (firstY y + cum y ((k : Int) + 1) + d - 1, 0)) :
    Calls Try.prog 22 #[.agg #[.int .i64 y, .int .i64 ((k : Int) + 1), .int .i64 d]] w fun e w' =>
      e = .returned (.tuple #[.int .i64 q, .int .i64 r]) ∧ Below w.heap.size w w' := by
  have HR := Lib.hid hr
  clear hr
  have e0 : decide (y < 2000) = false := decide_eq_false (by omega)
  have e1 : decide (2273 < y) = false := decide_eq_false (by omega)
  have e2 : decide ((k : Int) + 1 < 1) = false := decide_eq_false (by omega)
  have e3 : decide (12 < (k : Int) + 1) = false := decide_eq_false (by omega)
  have e4 : decide (d < 1) = false := decide_eq_false (by omega)
  go_enter Try.func22, Try.ntmps22
  go_wp2_with (go_at_call 31; refine (months_at _ (by omega) (by omega) _).mono ?_; rintro e w5 ⟨rfl, hb5⟩)
  have hO := heap_alloc_new w5 (.cells #[.int .i64 31, .int .i64 (28 + lp y), .int .i64 31, .int .i64 30, .int .i64 31, .int .i64 30, .int .i64 31, .int .i64 31, .int .i64 30, .int .i64 31, .int .i64 30, .int .i64 31] 49)
  have hX : (w5.alloc (.cells #[.int .i64 31, .int .i64 (28 + lp y), .int .i64 31, .int .i64 30, .int .i64 31, .int .i64 30, .int .i64 31, .int .i64 31, .int .i64 30, .int .i64 31, .int .i64 30, .int .i64 31] 49)).heap[w.heap.size]? = some (.cells #[.int .i64 y, .int .i64 ((k : Int) + 1), .int .i64 d] 36) := blk_alloc ((hb5.block w.heap.size (by simp)).trans (heap_alloc_new w _)) _
  have hB : Below w.heap.size w (w5.alloc (.cells #[.int .i64 31, .int .i64 (28 + lp y), .int .i64 31, .int .i64 30, .int .i64 31, .int .i64 30, .int .i64 31, .int .i64 31, .int .i64 30, .int .i64 31, .int .i64 30, .int .i64 31] 49)) := (((Below.refl w.heap.size w).alloc (Nat.le_refl _) (.cells #[.int .i64 y, .int .i64 ((k : Int) + 1), .int .i64 d] 36)).trans (hb5.mono (by simp))).alloc (by have := hb5.size; simp at this; omega) _
  obtain ⟨g, hg⟩ : ∃ g, g = w5.heap.size := ⟨_, rfl⟩
  rw [← hg] at hO ⊢
  obtain ⟨W, hW⟩ : ∃ W, W = w5.alloc (.cells #[.int .i64 31, .int .i64 (28 + lp y), .int .i64 31, .int .i64 30, .int .i64 31, .int .i64 30, .int .i64 31, .int .i64 31, .int .i64 30, .int .i64 31, .int .i64 30, .int .i64 31] 49) := ⟨_, rfl⟩
  rw [← hW] at hO hX hB ⊢
  have HO := Lib.hid hO
  have HX := Lib.hid hX
  have HB := Lib.hid hB
  clear hO hX hB hW hg hb5
  have c0 : W.cell? ⟨w.heap.size, 0, none⟩ = some (.int .i64 y) := cell_of_row W w.heap.size 0 _ _ _ HX.out
  have c1 : W.cell? ⟨w.heap.size, 1, none⟩ = some (.int .i64 ((k : Int) + 1)) := cell_of_row W w.heap.size 1 _ _ _ HX.out
  have c2 : W.cell? ⟨w.heap.size, 2, none⟩ = some (.int .i64 d) := cell_of_row W w.heap.size 2 _ _ _ HX.out
  have cm : W.cell? ⟨g, k, none⟩ = some (.int .i64 (ml y ((k : Int) + 1))) := (cell_of_row W g k _ _ _ HO.out).trans (month_cell y k hk)
  have e5 : decide (ml y ((k : Int) + 1) < d) = false := decide_eq_false (by omega)
  go_quiet (fail)
  go_wp2
  have b0 : 0 ≤ firstY y := by have := first_mono y0; rw [first_2000] at this; exact this
  have b1 : firstY y ≤ 100077 := by have := first_mono (a := y) (b := 2274) (by omega); rw [first_2274] at this; exact this
  have b2 : d ≤ 31 := by have := (ml_bd y ((k : Int) + 1)).2; omega
  have s1 : IntKind.i64.wrap (firstY y + d) = firstY y + d := IntWalk.i64_in _ (by omega)
  have s2 : IntKind.i64.wrap (firstY y + d - 1) = firstY y + d - 1 := IntWalk.i64_in _ (by omega)
  go_quiet ((go_at_call 30; exact quiet_add_same (first_at' y (by omega) (by omega) _)))
  clear s1 s2
  go_wp2
  go_loop [5, 51] (fun a t => ∃ i : Nat, i ≤ k ∧ t = .int .i64 i ∧ a = .int .i64 (firstY y + d - 1 + cum y ((i : Int) + 1))) (fun _ t => k - (intOf t).toNat)
  case atStart => exact ⟨0, by omega, rfl, by simp [cum_one]⟩
  case round =>
    obtain ⟨i, hi, rfl, rfl⟩ := hrel
    have hc := cum_bd (y := y) (m := (i : Int) + 1) (by omega) (by omega)
    have hl := lp_bd y
    obtain ⟨hc0, hc1⟩ := hc
    obtain ⟨hl0, hl1⟩ := hl
    by_cases hlt : i < k
    · have ci : W.cell? ⟨g, i, none⟩ = some (.int .i64 (ml y ((i : Int) + 1))) := (cell_of_row W g i _ _ _ HO.out).trans (month_cell y i (by omega))
      have hm := ml_bd y ((i : Int) + 1)
      obtain ⟨hm0, hm1⟩ := hm
      have HS := Lib.hid (cum_succ (y := y) (m := (i : Int) + 1) (by omega) (by omega))
      go_wp2
      go_round
      case rel => exact ⟨i + 1, by omega, by go_num, by rw [show (((i + 1 : Nat) : Int) + 1) = (i : Int) + 1 + 1 by omega, HS.out, Int.add_assoc]⟩
      case measure => simp [intOf]; omega
    · obtain rfl : i = k := by omega
      by_cases hbig : 99999 < firstY y + cum y ((i : Int) + 1) + d - 1
      · have HQ := Lib.hid (HR.out.trans (if_pos hbig))
        have hb2 : 99999 < firstY y + d - 1 + cum y ((i : Int) + 1) := by omega
        go_wp2
        go_ret2
        exact ⟨ret_ii (congrArg Prod.fst HQ.out).symm (congrArg Prod.snd HQ.out).symm, pw_below_drewN HB.out _⟩
      · have HQ := Lib.hid (HR.out.trans (if_neg hbig))
        have hb2 : ¬ 99999 < firstY y + d - 1 + cum y ((i : Int) + 1) := by omega
        have HZ := Lib.hid (show firstY y + d - 1 + cum y ((i : Int) + 1) = firstY y + cum y ((i : Int) + 1) + d - 1 by omega)
        go_wp2
        go_ret2
        exact ⟨ret_ii (HZ.out.trans (congrArg Prod.fst HQ.out).symm) (congrArg Prod.snd HQ.out).symm, pw_below_drewN HB.out _⟩

theorem of_out (y m d : Int) (w : World) (h : y < 2000 ∨ 2273 < y ∨ m < 1 ∨ 12 < m) :
    Calls Try.prog 22 #[.agg #[.int .i64 y, .int .i64 m, .int .i64 d]] w fun e w' =>
      e = .returned (.tuple #[.int .i64 0, .int .i64 1]) ∧ Below w.heap.size w w' := by
  by_cases h0 : y < 2000
  · have e0 : decide (y < 2000) = true := decide_eq_true h0
    go_enter Try.func22, Try.ntmps22
    go_wp2
    go_ret2
    exact ⟨rfl, (Below.refl _ _).alloc (Nat.le_refl _) _⟩
  have e0 : decide (y < 2000) = false := decide_eq_false h0
  by_cases h1 : 2273 < y
  · have e1 : decide (2273 < y) = true := decide_eq_true h1
    go_enter Try.func22, Try.ntmps22
    go_wp2
    go_ret2
    exact ⟨rfl, (Below.refl _ _).alloc (Nat.le_refl _) _⟩
  have e1 : decide (2273 < y) = false := decide_eq_false h1
  by_cases h2 : m < 1
  · have e2 : decide (m < 1) = true := decide_eq_true h2
    go_enter Try.func22, Try.ntmps22
    go_wp2
    go_ret2
    exact ⟨rfl, (Below.refl _ _).alloc (Nat.le_refl _) _⟩
  have e2 : decide (m < 1) = false := decide_eq_false h2
  have e3 : decide (12 < m) = true := decide_eq_true (by omega)
  go_enter Try.func22, Try.ntmps22
  go_wp2
  go_ret2
  exact ⟨rfl, (Below.refl _ _).alloc (Nat.le_refl _) _⟩

set_option maxHeartbeats 2000000 in
theorem of_day_out (y d : Int) (k : Nat) (w : World) (y0 : 2000 ≤ y) (y1 : y ≤ 2273) (hk : k ≤ 11) (hd : d < 1 ∨ ml y ((k : Int) + 1) < d) :
    Calls Try.prog 22 #[.agg #[.int .i64 y, .int .i64 ((k : Int) + 1), .int .i64 d]] w fun e w' =>
      e = .returned (.tuple #[.int .i64 0, .int .i64 1]) ∧ Below w.heap.size w w' := by
  have e0 : decide (y < 2000) = false := decide_eq_false (by omega)
  have e1 : decide (2273 < y) = false := decide_eq_false (by omega)
  have e2 : decide ((k : Int) + 1 < 1) = false := decide_eq_false (by omega)
  have e3 : decide (12 < (k : Int) + 1) = false := decide_eq_false (by omega)
  go_enter Try.func22, Try.ntmps22
  go_wp2_with (go_at_call 31; refine (months_at _ (by omega) (by omega) _).mono ?_; rintro e w5 ⟨rfl, hb5⟩)
  have hO := heap_alloc_new w5 (.cells #[.int .i64 31, .int .i64 (28 + lp y), .int .i64 31, .int .i64 30, .int .i64 31, .int .i64 30, .int .i64 31, .int .i64 31, .int .i64 30, .int .i64 31, .int .i64 30, .int .i64 31] 49)
  have hX : (w5.alloc (.cells #[.int .i64 31, .int .i64 (28 + lp y), .int .i64 31, .int .i64 30, .int .i64 31, .int .i64 30, .int .i64 31, .int .i64 31, .int .i64 30, .int .i64 31, .int .i64 30, .int .i64 31] 49)).heap[w.heap.size]? = some (.cells #[.int .i64 y, .int .i64 ((k : Int) + 1), .int .i64 d] 36) := blk_alloc ((hb5.block w.heap.size (by simp)).trans (heap_alloc_new w _)) _
  have hB : Below w.heap.size w (w5.alloc (.cells #[.int .i64 31, .int .i64 (28 + lp y), .int .i64 31, .int .i64 30, .int .i64 31, .int .i64 30, .int .i64 31, .int .i64 31, .int .i64 30, .int .i64 31, .int .i64 30, .int .i64 31] 49)) := (((Below.refl w.heap.size w).alloc (Nat.le_refl _) (.cells #[.int .i64 y, .int .i64 ((k : Int) + 1), .int .i64 d] 36)).trans (hb5.mono (by simp))).alloc (by have := hb5.size; simp at this; omega) _
  obtain ⟨g, hg⟩ : ∃ g, g = w5.heap.size := ⟨_, rfl⟩
  rw [← hg] at hO ⊢
  obtain ⟨W, hW⟩ : ∃ W, W = w5.alloc (.cells #[.int .i64 31, .int .i64 (28 + lp y), .int .i64 31, .int .i64 30, .int .i64 31, .int .i64 30, .int .i64 31, .int .i64 31, .int .i64 30, .int .i64 31, .int .i64 30, .int .i64 31] 49) := ⟨_, rfl⟩
  rw [← hW] at hO hX hB ⊢
  have HO := Lib.hid hO
  have HX := Lib.hid hX
  have HB := Lib.hid hB
  clear hO hX hB hW hg hb5
  have c0 : W.cell? ⟨w.heap.size, 0, none⟩ = some (.int .i64 y) := cell_of_row W w.heap.size 0 _ _ _ HX.out
  have c1 : W.cell? ⟨w.heap.size, 1, none⟩ = some (.int .i64 ((k : Int) + 1)) := cell_of_row W w.heap.size 1 _ _ _ HX.out
  have c2 : W.cell? ⟨w.heap.size, 2, none⟩ = some (.int .i64 d) := cell_of_row W w.heap.size 2 _ _ _ HX.out
  have cm : W.cell? ⟨g, k, none⟩ = some (.int .i64 (ml y ((k : Int) + 1))) := (cell_of_row W g k _ _ _ HO.out).trans (month_cell y k hk)
  by_cases hd1 : d < 1
  · have e4 : decide (d < 1) = true := decide_eq_true hd1
    go_quiet (fail)
    go_wp2
    go_ret2
    exact ⟨rfl, pw_below_drewN HB.out _⟩
  · have e4 : decide (d < 1) = false := decide_eq_false hd1
    have e5 : decide (ml y ((k : Int) + 1) < d) = true := decide_eq_true (by omega)
    go_quiet (fail)
    go_wp2
    go_ret2
    exact ⟨rfl, pw_below_drewN HB.out _⟩

theorem day_Of.calls (a0_0 : Int) (a0_1 : Int) (a0_2 : Int) (r1 : Int) (r2 : Int) (w : World) (h : day_Of.f a0_0 a0_1 a0_2 = some (r1, r2)) :
    Calls Try.prog 22 #[.agg #[.int .i64 a0_0, .int .i64 a0_1, .int .i64 a0_2]] w fun e w' => e = .returned (.tuple #[.int .i64 r1, .int .i64 r2]) ∧ Below w.heap.size w w' := by
  unfold day_Of.f at h
  by_cases h0 : a0_0 < 2000 ∨ 2273 < a0_0 ∨ a0_1 < 1 ∨ 12 < a0_1
  · rw [if_pos h0] at h
    simp only [Option.some.injEq, Prod.mk.injEq] at h
    obtain ⟨rfl, rfl⟩ := h
    exact of_out _ _ _ w h0
  rw [if_neg h0] at h
  obtain ⟨k, hk, rfl⟩ : ∃ k : Nat, k ≤ 11 ∧ a0_1 = (k : Int) + 1 := ⟨(a0_1 - 1).toNat, by omega, by omega⟩
  by_cases h1 : a0_2 < 1 ∨ ml a0_0 ((k : Int) + 1) < a0_2
  · rw [if_pos h1] at h
    simp only [Option.some.injEq, Prod.mk.injEq] at h
    obtain ⟨rfl, rfl⟩ := h
    exact of_day_out _ _ k w (by omega) (by omega) hk h1
  rw [if_neg h1] at h
  refine of_day _ _ k w (by omega) (by omega) hk (by omega) (by omega) r1 r2 ?_
  split at h
  · rw [if_pos (by assumption)]; simpa [eq_comm] using h
  · rw [if_neg (by assumption)]; simpa [eq_comm] using h
end Go.Proofs.Ytajlohhphjlgbaa.S
