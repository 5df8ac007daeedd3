/-
  day.Date: what it answers, as a Lean function, and that the Go code answers just this.
-/
import Derived.Test.YtajlohhphjlgbaaS0
import Derived.Test.YtajlohhphjlgbaaCal
import Derived.Test.YtajlohhphjlgbaaHMonths
import Derived.Lib.Hide
import Derived.LoopTactic
namespace Go.Proofs.Ytajlohhphjlgbaa.S
open Go.RowKit Go.Proofs.YtajlohhphjlgbaaW.PrintWords Go.Proofs.YtajlohhphjlgbaaW.PrintLast Go.Proofs.YtajlohhphjlgbaaW.PrintMore

open Classical in
noncomputable def day_Date.f (a0 : Int) : Option (Int × Int × Int × Int) :=
  if a0 < 0 ∨ 99999 < a0 then some (0, 0, 0, 1)
  else if h : ∃ t : Int × Int × Int, IsD a0 t.1 t.2.1 t.2.2 then some (h.choose.1, h.choose.2.1, h.choose.2.2, 0) else none
theorem date_of {n y m d : Int} (h : IsD n y m d) (hn : n ≤ 99999) : day_Date.f n = some (y, m, d, 0) := by
  have h0 := h.nonneg
  have hx : ∃ t : Int × Int × Int, IsD n t.1 t.2.1 t.2.2 := ⟨(y, m, d), h⟩
  unfold day_Date.f
  rw [if_neg (by omega), dif_pos hx]
  obtain ⟨e1, e2, e3⟩ := (hx.choose_spec).one h
  rw [e1, e2, e3]

theorem ret_i {k : IntKind} {a b : Int} (h : a = b) : Ending.returned (.int k a) = .returned (.int k b) := by rw [h]
theorem first_at (y : Int) (h0 : 2000 ≤ y) (h1 : y ≤ 2300) (w : World) : Calls Try.prog 30 #[.int .i64 y] w fun e w' => e = .returned (.int .i64 (firstY y)) ∧ w = w' := by
  go_enter Try.func30, Try.ntmps30
  go_wp2
  go_ret
  exact ⟨ret_i (by unfold firstY; omega), rfl⟩
set_option maxHeartbeats 2000000 in
theorem date_walk (n : Int) (w : World) (h0 : 0 ≤ n) (h1 : n ≤ 99999) :
    Calls Try.prog 20 #[.int .i64 n] w fun e w' => ∃ y m d : Int, e = .returned (.tuple #[.agg #[.int .i64 y, .int .i64 m, .int .i64 d], .int .i64 0]) ∧ IsD n y m d ∧ Below w.heap.size w w' := by
  have d0 : decide (n < 0) = false := decide_eq_false (by omega)
  have d1 : decide (99999 < n) = false := decide_eq_false (by omega)
  have g0 : firstY (2000 + n / 366) ≤ n := by unfold firstY; omega
  have G0 := Lib.hid g0
  clear g0
  go_enter Try.func20, Try.ntmps20
  go_wp2
  go_loop [4] (fun t => ∃ y : Int, 2000 ≤ y ∧ y ≤ 2273 ∧ Hid (firstY y ≤ n) ∧ t = .int .i64 y) (fun t => (2273 - intOf t).toNat)
  case atStart => exact ⟨_, by omega, by omega, G0, rfl⟩
  case round =>
    obtain ⟨y, hy1, hy2, hy3, rfl⟩ := hrel
    by_cases hd : firstY (y + 1) ≤ n
    · have hy4 : y < 2273 := by
        by_cases e : y = 2273
        · subst e
          have := first_2274
          have e2 : (2273 : Int) + 1 = 2274 := by omega
          rw [e2] at hd
          omega
        · omega
      go_wp2_with (go_at_call 30; refine (first_at _ (by omega) (by omega) _).mono ?_; rintro e w' ⟨rfl, rfl⟩)
      go_round
      case rel => exact ⟨y + 1, by omega, by omega, hd, rfl⟩
      case measure => simp [intOf]; omega
    · have f0 : 0 ≤ firstY y := by have := first_mono hy1; rw [first_2000] at this; exact this
      have f1 : firstY y ≤ n := hy3.out
      have hyr : n - firstY y < 365 + lp y := by have := first_succ y; omega
      obtain ⟨l0, l1⟩ := lp_bd y
      have HYR := Lib.hid hyr
      clear hyr
      go_wp2_with (first | (go_at_call 30; refine (first_at _ (by omega) (by omega) _).mono ?_; rintro e w' ⟨rfl, rfl⟩) | (go_at_call 31; refine (months_at _ (by omega) (by omega) _).mono ?_; rintro e w5 ⟨rfl, hb5⟩))
      have HB := Lib.hid (((Below.refl w.heap.size w).alloc (Nat.le_refl _) (.cells #[.int .i64 0, .int .i64 0, .int .i64 0] 36)).trans (hb5.mono (by simp)))
      have HR := Lib.hid ((hb5.block w.heap.size (by simp)).trans (heap_alloc_new w (.cells #[.int .i64 0, .int .i64 0, .int .i64 0] 36)))
      have hsz : w.heap.size < w5.heap.size := by have := hb5.size; simp at this; omega
      have c0 : w5.cell? ⟨w.heap.size, 0, none⟩ = some (.int .i64 0) := by simp [World.cell?, HR.out]
      have c1 : w5.cell? ⟨w.heap.size, 1, none⟩ = some (.int .i64 0) := by simp [World.cell?, HR.out]
      have c2 : w5.cell? ⟨w.heap.size, 2, none⟩ = some (.int .i64 0) := by simp [World.cell?, HR.out]
      have z0 : w5.frozen? ⟨w.heap.size, 0, none⟩ = false := by simp [World.frozen?, HR.out]
      have z1 : w5.frozen? ⟨w.heap.size, 1, none⟩ = false := by simp [World.frozen?, HR.out]
      have z2 : w5.frozen? ⟨w.heap.size, 2, none⟩ = false := by simp [World.frozen?, HR.out]
      clear hb5
      go_loop [0, 30] (fun a t => ∃ (i : Nat) (r : Int), i ≤ 11 ∧ 0 ≤ r ∧ r ≤ 100000 ∧ Hid (r = n - firstY y - cum y ((i : Int) + 1)) ∧ a = .int .i64 r ∧ t = .int .i64 i) (fun _ t => 12 - (intOf t).toNat)
      case atStart => exact ⟨0, n - firstY y, by omega, by omega, by omega, Lib.hid (by simp [cum_one]), rfl, rfl⟩
      case round =>
        obtain ⟨i, r, hi, hr0, hr1, HRR, rfl, rfl⟩ := hrel
        obtain h | h | h | h | h | h | h | h | h | h | h | h : i = 0 ∨ i = 1 ∨ i = 2 ∨ i = 3 ∨ i = 4 ∨ i = 5 ∨ i = 6 ∨ i = 7 ∨ i = 8 ∨ i = 9 ∨ i = 10 ∨ i = 11 := by omega
        · subst h
          have HM : Hid (cum y 2 = cum y 1 + 31) := Lib.hid (cum_succ (y := y) (m := 1) (by omega) (by omega))
          have HE : Hid (r = n - firstY y - cum y 1) := HRR
          clear HRR
          by_cases hd : r < 31
          · go_wp2
            refine bodyPost_ret (results_ct rfl _ _ w.heap.size 36 #[.int .i64 y, .int .i64 1, .int .i64 (r + 1)] (0, 0) _ rfl (blk_alloc (blk_put (cs := #[.int .i64 y, .int .i64 1, .int .i64 0]) (blk_put (cs := #[.int .i64 y, .int .i64 0, .int .i64 0]) (blk_put (cs := #[.int .i64 0, .int .i64 0, .int .i64 0]) HR.out 0 _ rfl) 1 _ rfl) 2 _ rfl) _) Try.underlying36 rfl (by kernel_rfl)) rfl ?_
            exact ⟨y, 1, r + 1, rfl, ⟨hy1, by omega, by omega, by omega, by show r + 1 ≤ 31; omega, by have e := HE.out; omega⟩, ((((HB.out.setCell (p := ⟨w.heap.size, 0, none⟩) (Nat.le_refl _) _).setCell (p := ⟨w.heap.size, 1, none⟩) (Nat.le_refl _) _).setCell (p := ⟨w.heap.size, 2, none⟩) (Nat.le_refl _) _).alloc (by simp [World.setCell]; omega) _)⟩
          · go_wp2
            go_round
            case rel => exact ⟨1, r - 31, by omega, by omega, by omega, Lib.hid (show r - 31 = n - firstY y - cum y 2 by have e := HE.out; have e2 := HM.out; omega), by go_num, by go_num⟩
            case measure => simp [intOf]
        · subst h
          have HM : Hid (cum y 3 = cum y 2 + (28 + lp y)) := Lib.hid (cum_succ (y := y) (m := 2) (by omega) (by omega))
          have HE : Hid (r = n - firstY y - cum y 2) := HRR
          clear HRR
          by_cases hd : r < (28 + lp y)
          · go_wp2
            refine bodyPost_ret (results_ct rfl _ _ w.heap.size 36 #[.int .i64 y, .int .i64 2, .int .i64 (r + 1)] (0, 0) _ rfl (blk_alloc (blk_put (cs := #[.int .i64 y, .int .i64 2, .int .i64 0]) (blk_put (cs := #[.int .i64 y, .int .i64 0, .int .i64 0]) (blk_put (cs := #[.int .i64 0, .int .i64 0, .int .i64 0]) HR.out 0 _ rfl) 1 _ rfl) 2 _ rfl) _) Try.underlying36 rfl (by kernel_rfl)) rfl ?_
            exact ⟨y, 2, r + 1, rfl, ⟨hy1, by omega, by omega, by omega, by show r + 1 ≤ (28 + lp y); omega, by have e := HE.out; omega⟩, ((((HB.out.setCell (p := ⟨w.heap.size, 0, none⟩) (Nat.le_refl _) _).setCell (p := ⟨w.heap.size, 1, none⟩) (Nat.le_refl _) _).setCell (p := ⟨w.heap.size, 2, none⟩) (Nat.le_refl _) _).alloc (by simp [World.setCell]; omega) _)⟩
          · go_wp2
            go_round
            case rel => exact ⟨2, r - (28 + lp y), by omega, by omega, by omega, Lib.hid (show r - (28 + lp y) = n - firstY y - cum y 3 by have e := HE.out; have e2 := HM.out; omega), by go_num, by go_num⟩
            case measure => simp [intOf]
        · subst h
          have HM : Hid (cum y 4 = cum y 3 + 31) := Lib.hid (cum_succ (y := y) (m := 3) (by omega) (by omega))
          have HE : Hid (r = n - firstY y - cum y 3) := HRR
          clear HRR
          by_cases hd : r < 31
          · go_wp2
            refine bodyPost_ret (results_ct rfl _ _ w.heap.size 36 #[.int .i64 y, .int .i64 3, .int .i64 (r + 1)] (0, 0) _ rfl (blk_alloc (blk_put (cs := #[.int .i64 y, .int .i64 3, .int .i64 0]) (blk_put (cs := #[.int .i64 y, .int .i64 0, .int .i64 0]) (blk_put (cs := #[.int .i64 0, .int .i64 0, .int .i64 0]) HR.out 0 _ rfl) 1 _ rfl) 2 _ rfl) _) Try.underlying36 rfl (by kernel_rfl)) rfl ?_
            exact ⟨y, 3, r + 1, rfl, ⟨hy1, by omega, by omega, by omega, by show r + 1 ≤ 31; omega, by have e := HE.out; omega⟩, ((((HB.out.setCell (p := ⟨w.heap.size, 0, none⟩) (Nat.le_refl _) _).setCell (p := ⟨w.heap.size, 1, none⟩) (Nat.le_refl _) _).setCell (p := ⟨w.heap.size, 2, none⟩) (Nat.le_refl _) _).alloc (by simp [World.setCell]; omega) _)⟩
          · go_wp2
            go_round
            case rel => exact ⟨3, r - 31, by omega, by omega, by omega, Lib.hid (show r - 31 = n - firstY y - cum y 4 by have e := HE.out; have e2 := HM.out; omega), by go_num, by go_num⟩
            case measure => simp [intOf]
        · subst h
          have HM : Hid (cum y 5 = cum y 4 + 30) := Lib.hid (cum_succ (y := y) (m := 4) (by omega) (by omega))
          have HE : Hid (r = n - firstY y - cum y 4) := HRR
          clear HRR
          by_cases hd : r < 30
          · go_wp2
            refine bodyPost_ret (results_ct rfl _ _ w.heap.size 36 #[.int .i64 y, .int .i64 4, .int .i64 (r + 1)] (0, 0) _ rfl (blk_alloc (blk_put (cs := #[.int .i64 y, .int .i64 4, .int .i64 0]) (blk_put (cs := #[.int .i64 y, .int .i64 0, .int .i64 0]) (blk_put (cs := #[.int .i64 0, .int .i64 0, .int .i64 0]) HR.out 0 _ rfl) 1 _ rfl) 2 _ rfl) _) Try.underlying36 rfl (by kernel_rfl)) rfl ?_
            exact ⟨y, 4, r + 1, rfl, ⟨hy1, by omega, by omega, by omega, by show r + 1 ≤ 30; omega, by have e := HE.out; omega⟩, ((((HB.out.setCell (p := ⟨w.heap.size, 0, none⟩) (Nat.le_refl _) _).setCell (p := ⟨w.heap.size, 1, none⟩) (Nat.le_refl _) _).setCell (p := ⟨w.heap.size, 2, none⟩) (Nat.le_refl _) _).alloc (by simp [World.setCell]; omega) _)⟩
          · go_wp2
            go_round
            case rel => exact ⟨4, r - 30, by omega, by omega, by omega, Lib.hid (show r - 30 = n - firstY y - cum y 5 by have e := HE.out; have e2 := HM.out; omega), by go_num, by go_num⟩
            case measure => simp [intOf]
        · subst h
          have HM : Hid (cum y 6 = cum y 5 + 31) := Lib.hid (cum_succ (y := y) (m := 5) (by omega) (by omega))
          have HE : Hid (r = n - firstY y - cum y 5) := HRR
          clear HRR
          by_cases hd : r < 31
          · go_wp2
            refine bodyPost_ret (results_ct rfl _ _ w.heap.size 36 #[.int .i64 y, .int .i64 5, .int .i64 (r + 1)] (0, 0) _ rfl (blk_alloc (blk_put (cs := #[.int .i64 y, .int .i64 5, .int .i64 0]) (blk_put (cs := #[.int .i64 y, .int .i64 0, .int .i64 0]) (blk_put (cs := #[.int .i64 0, .int .i64 0, .int .i64 0]) HR.out 0 _ rfl) 1 _ rfl) 2 _ rfl) _) Try.underlying36 rfl (by kernel_rfl)) rfl ?_
            exact ⟨y, 5, r + 1, rfl, ⟨hy1, by omega, by omega, by omega, by show r + 1 ≤ 31; omega, by have e := HE.out; omega⟩, ((((HB.out.setCell (p := ⟨w.heap.size, 0, none⟩) (Nat.le_refl _) _).setCell (p := ⟨w.heap.size, 1, none⟩) (Nat.le_refl _) _).setCell (p := ⟨w.heap.size, 2, none⟩) (Nat.le_refl _) _).alloc (by simp [World.setCell]; omega) _)⟩
          · go_wp2
            go_round
            case rel => exact ⟨5, r - 31, by omega, by omega, by omega, Lib.hid (show r - 31 = n - firstY y - cum y 6 by have e := HE.out; have e2 := HM.out; omega), by go_num, by go_num⟩
            case measure => simp [intOf]
        · subst h
          have HM : Hid (cum y 7 = cum y 6 + 30) := Lib.hid (cum_succ (y := y) (m := 6) (by omega) (by omega))
          have HE : Hid (r = n - firstY y - cum y 6) := HRR
          clear HRR
          by_cases hd : r < 30
          · go_wp2
            refine bodyPost_ret (results_ct rfl _ _ w.heap.size 36 #[.int .i64 y, .int .i64 6, .int .i64 (r + 1)] (0, 0) _ rfl (blk_alloc (blk_put (cs := #[.int .i64 y, .int .i64 6, .int .i64 0]) (blk_put (cs := #[.int .i64 y, .int .i64 0, .int .i64 0]) (blk_put (cs := #[.int .i64 0, .int .i64 0, .int .i64 0]) HR.out 0 _ rfl) 1 _ rfl) 2 _ rfl) _) Try.underlying36 rfl (by kernel_rfl)) rfl ?_
            exact ⟨y, 6, r + 1, rfl, ⟨hy1, by omega, by omega, by omega, by show r + 1 ≤ 30; omega, by have e := HE.out; omega⟩, ((((HB.out.setCell (p := ⟨w.heap.size, 0, none⟩) (Nat.le_refl _) _).setCell (p := ⟨w.heap.size, 1, none⟩) (Nat.le_refl _) _).setCell (p := ⟨w.heap.size, 2, none⟩) (Nat.le_refl _) _).alloc (by simp [World.setCell]; omega) _)⟩
          · go_wp2
            go_round
            case rel => exact ⟨6, r - 30, by omega, by omega, by omega, Lib.hid (show r - 30 = n - firstY y - cum y 7 by have e := HE.out; have e2 := HM.out; omega), by go_num, by go_num⟩
            case measure => simp [intOf]
        · subst h
          have HM : Hid (cum y 8 = cum y 7 + 31) := Lib.hid (cum_succ (y := y) (m := 7) (by omega) (by omega))
          have HE : Hid (r = n - firstY y - cum y 7) := HRR
          clear HRR
          by_cases hd : r < 31
          · go_wp2
            refine bodyPost_ret (results_ct rfl _ _ w.heap.size 36 #[.int .i64 y, .int .i64 7, .int .i64 (r + 1)] (0, 0) _ rfl (blk_alloc (blk_put (cs := #[.int .i64 y, .int .i64 7, .int .i64 0]) (blk_put (cs := #[.int .i64 y, .int .i64 0, .int .i64 0]) (blk_put (cs := #[.int .i64 0, .int .i64 0, .int .i64 0]) HR.out 0 _ rfl) 1 _ rfl) 2 _ rfl) _) Try.underlying36 rfl (by kernel_rfl)) rfl ?_
            exact ⟨y, 7, r + 1, rfl, ⟨hy1, by omega, by omega, by omega, by show r + 1 ≤ 31; omega, by have e := HE.out; omega⟩, ((((HB.out.setCell (p := ⟨w.heap.size, 0, none⟩) (Nat.le_refl _) _).setCell (p := ⟨w.heap.size, 1, none⟩) (Nat.le_refl _) _).setCell (p := ⟨w.heap.size, 2, none⟩) (Nat.le_refl _) _).alloc (by simp [World.setCell]; omega) _)⟩
          · go_wp2
            go_round
            case rel => exact ⟨7, r - 31, by omega, by omega, by omega, Lib.hid (show r - 31 = n - firstY y - cum y 8 by have e := HE.out; have e2 := HM.out; omega), by go_num, by go_num⟩
            case measure => simp [intOf]
        · subst h
          have HM : Hid (cum y 9 = cum y 8 + 31) := Lib.hid (cum_succ (y := y) (m := 8) (by omega) (by omega))
          have HE : Hid (r = n - firstY y - cum y 8) := HRR
          clear HRR
          by_cases hd : r < 31
          · go_wp2
            refine bodyPost_ret (results_ct rfl _ _ w.heap.size 36 #[.int .i64 y, .int .i64 8, .int .i64 (r + 1)] (0, 0) _ rfl (blk_alloc (blk_put (cs := #[.int .i64 y, .int .i64 8, .int .i64 0]) (blk_put (cs := #[.int .i64 y, .int .i64 0, .int .i64 0]) (blk_put (cs := #[.int .i64 0, .int .i64 0, .int .i64 0]) HR.out 0 _ rfl) 1 _ rfl) 2 _ rfl) _) Try.underlying36 rfl (by kernel_rfl)) rfl ?_
            exact ⟨y, 8, r + 1, rfl, ⟨hy1, by omega, by omega, by omega, by show r + 1 ≤ 31; omega, by have e := HE.out; omega⟩, ((((HB.out.setCell (p := ⟨w.heap.size, 0, none⟩) (Nat.le_refl _) _).setCell (p := ⟨w.heap.size, 1, none⟩) (Nat.le_refl _) _).setCell (p := ⟨w.heap.size, 2, none⟩) (Nat.le_refl _) _).alloc (by simp [World.setCell]; omega) _)⟩
          · go_wp2
            go_round
            case rel => exact ⟨8, r - 31, by omega, by omega, by omega, Lib.hid (show r - 31 = n - firstY y - cum y 9 by have e := HE.out; have e2 := HM.out; omega), by go_num, by go_num⟩
            case measure => simp [intOf]
        · subst h
          have HM : Hid (cum y 10 = cum y 9 + 30) := Lib.hid (cum_succ (y := y) (m := 9) (by omega) (by omega))
          have HE : Hid (r = n - firstY y - cum y 9) := HRR
          clear HRR
          by_cases hd : r < 30
          · go_wp2
            refine bodyPost_ret (results_ct rfl _ _ w.heap.size 36 #[.int .i64 y, .int .i64 9, .int .i64 (r + 1)] (0, 0) _ rfl (blk_alloc (blk_put (cs := #[.int .i64 y, .int .i64 9, .int .i64 0]) (blk_put (cs := #[.int .i64 y, .int .i64 0, .int .i64 0]) (blk_put (cs := #[.int .i64 0, .int .i64 0, .int .i64 0]) HR.out 0 _ rfl) 1 _ rfl) 2 _ rfl) _) Try.underlying36 rfl (by kernel_rfl)) rfl ?_
            exact ⟨y, 9, r + 1, rfl, ⟨hy1, by omega, by omega, by omega, by show r + 1 ≤ 30; omega, by have e := HE.out; omega⟩, ((((HB.out.setCell (p := ⟨w.heap.size, 0, none⟩) (Nat.le_refl _) _).setCell (p := ⟨w.heap.size, 1, none⟩) (Nat.le_refl _) _).setCell (p := ⟨w.heap.size, 2, none⟩) (Nat.le_refl _) _).alloc (by simp [World.setCell]; omega) _)⟩
          · go_wp2
            go_round
            case rel => exact ⟨9, r - 30, by omega, by omega, by omega, Lib.hid (show r - 30 = n - firstY y - cum y 10 by have e := HE.out; have e2 := HM.out; omega), by go_num, by go_num⟩
            case measure => simp [intOf]
        · subst h
          have HM : Hid (cum y 11 = cum y 10 + 31) := Lib.hid (cum_succ (y := y) (m := 10) (by omega) (by omega))
          have HE : Hid (r = n - firstY y - cum y 10) := HRR
          clear HRR
          by_cases hd : r < 31
          · go_wp2
            refine bodyPost_ret (results_ct rfl _ _ w.heap.size 36 #[.int .i64 y, .int .i64 10, .int .i64 (r + 1)] (0, 0) _ rfl (blk_alloc (blk_put (cs := #[.int .i64 y, .int .i64 10, .int .i64 0]) (blk_put (cs := #[.int .i64 y, .int .i64 0, .int .i64 0]) (blk_put (cs := #[.int .i64 0, .int .i64 0, .int .i64 0]) HR.out 0 _ rfl) 1 _ rfl) 2 _ rfl) _) Try.underlying36 rfl (by kernel_rfl)) rfl ?_
            exact ⟨y, 10, r + 1, rfl, ⟨hy1, by omega, by omega, by omega, by show r + 1 ≤ 31; omega, by have e := HE.out; omega⟩, ((((HB.out.setCell (p := ⟨w.heap.size, 0, none⟩) (Nat.le_refl _) _).setCell (p := ⟨w.heap.size, 1, none⟩) (Nat.le_refl _) _).setCell (p := ⟨w.heap.size, 2, none⟩) (Nat.le_refl _) _).alloc (by simp [World.setCell]; omega) _)⟩
          · go_wp2
            go_round
            case rel => exact ⟨10, r - 31, by omega, by omega, by omega, Lib.hid (show r - 31 = n - firstY y - cum y 11 by have e := HE.out; have e2 := HM.out; omega), by go_num, by go_num⟩
            case measure => simp [intOf]
        · subst h
          have HM : Hid (cum y 12 = cum y 11 + 30) := Lib.hid (cum_succ (y := y) (m := 11) (by omega) (by omega))
          have HE : Hid (r = n - firstY y - cum y 11) := HRR
          clear HRR
          by_cases hd : r < 30
          · go_wp2
            refine bodyPost_ret (results_ct rfl _ _ w.heap.size 36 #[.int .i64 y, .int .i64 11, .int .i64 (r + 1)] (0, 0) _ rfl (blk_alloc (blk_put (cs := #[.int .i64 y, .int .i64 11, .int .i64 0]) (blk_put (cs := #[.int .i64 y, .int .i64 0, .int .i64 0]) (blk_put (cs := #[.int .i64 0, .int .i64 0, .int .i64 0]) HR.out 0 _ rfl) 1 _ rfl) 2 _ rfl) _) Try.underlying36 rfl (by kernel_rfl)) rfl ?_
            exact ⟨y, 11, r + 1, rfl, ⟨hy1, by omega, by omega, by omega, by show r + 1 ≤ 30; omega, by have e := HE.out; omega⟩, ((((HB.out.setCell (p := ⟨w.heap.size, 0, none⟩) (Nat.le_refl _) _).setCell (p := ⟨w.heap.size, 1, none⟩) (Nat.le_refl _) _).setCell (p := ⟨w.heap.size, 2, none⟩) (Nat.le_refl _) _).alloc (by simp [World.setCell]; omega) _)⟩
          · go_wp2
            go_round
            case rel => exact ⟨11, r - 30, by omega, by omega, by omega, Lib.hid (show r - 30 = n - firstY y - cum y 12 by have e := HE.out; have e2 := HM.out; omega), by go_num, by go_num⟩
            case measure => simp [intOf]
        · subst h
          have HM : Hid (cum y 13 = cum y 12 + 31) := Lib.hid (cum_succ (y := y) (m := 12) (by omega) (by omega))
          have HE : Hid (r = n - firstY y - cum y 12) := HRR
          clear HRR
          by_cases hd : r < 31
          · go_wp2
            refine bodyPost_ret (results_ct rfl _ _ w.heap.size 36 #[.int .i64 y, .int .i64 12, .int .i64 (r + 1)] (0, 0) _ rfl (blk_alloc (blk_put (cs := #[.int .i64 y, .int .i64 12, .int .i64 0]) (blk_put (cs := #[.int .i64 y, .int .i64 0, .int .i64 0]) (blk_put (cs := #[.int .i64 0, .int .i64 0, .int .i64 0]) HR.out 0 _ rfl) 1 _ rfl) 2 _ rfl) _) Try.underlying36 rfl (by kernel_rfl)) rfl ?_
            exact ⟨y, 12, r + 1, rfl, ⟨hy1, by omega, by omega, by omega, by show r + 1 ≤ 31; omega, by have e := HE.out; omega⟩, ((((HB.out.setCell (p := ⟨w.heap.size, 0, none⟩) (Nat.le_refl _) _).setCell (p := ⟨w.heap.size, 1, none⟩) (Nat.le_refl _) _).setCell (p := ⟨w.heap.size, 2, none⟩) (Nat.le_refl _) _).alloc (by simp [World.setCell]; omega) _)⟩
          · exfalso
            have e := HE.out
            have e2 := HM.out
            have e3 := HYR.out
            rw [cum_all] at e2
            omega
theorem date_no (n : Int) (w : World) (h : n < 0 ∨ 99999 < n) :
    Calls Try.prog 20 #[.int .i64 n] w fun e w' => e = .returned (.tuple #[.agg #[.int .i64 0, .int .i64 0, .int .i64 0], .int .i64 1]) ∧ Below w.heap.size w w' := by
  by_cases h0 : n < 0
  · have d0 : decide (n < 0) = true := decide_eq_true h0
    go_enter Try.func20, Try.ntmps20
    go_wp2
    refine bodyPost_ret (v := .tuple #[.agg #[.int .i64 0, .int .i64 0, .int .i64 0], .int .i64 1]) (by simp [results, Try.results20, go_sem]) rfl ⟨rfl, (Below.refl _ _).alloc (Nat.le_refl _) _⟩
  · have d0 : decide (n < 0) = false := decide_eq_false h0
    have d1 : decide (99999 < n) = true := decide_eq_true (by omega)
    go_enter Try.func20, Try.ntmps20
    go_wp2
    refine bodyPost_ret (v := .tuple #[.agg #[.int .i64 0, .int .i64 0, .int .i64 0], .int .i64 1]) (by simp [results, Try.results20, go_sem]) rfl ⟨rfl, (Below.refl _ _).alloc (Nat.le_refl _) _⟩
theorem day_Date.calls (a0 : Int) (r1 : Int) (r2 : Int) (r3 : Int) (r4 : Int) (w : World) (h : day_Date.f a0 = some (r1, r2, r3, r4)) :
    Calls Try.prog 20 #[.int .i64 a0] w fun e w' => e = .returned (.tuple #[.agg #[.int .i64 r1, .int .i64 r2, .int .i64 r3], .int .i64 r4]) ∧ Below w.heap.size w w' := by
  by_cases hn : a0 < 0 ∨ 99999 < a0
  · unfold day_Date.f at h
    rw [if_pos hn] at h
    simp only [Option.some.injEq, Prod.mk.injEq] at h
    obtain ⟨rfl, rfl, rfl, rfl⟩ := h
    exact date_no a0 w hn
  · refine (date_walk a0 w (by omega) (by omega)).mono ?_
    rintro e w' ⟨y, m, d, rfl, hi, hb⟩
    rw [date_of hi (by omega)] at h
    simp only [Option.some.injEq, Prod.mk.injEq] at h
    obtain ⟨rfl, rfl, rfl, rfl⟩ := h
    exact ⟨rfl, hb⟩
end Go.Proofs.Ytajlohhphjlgbaa.S
