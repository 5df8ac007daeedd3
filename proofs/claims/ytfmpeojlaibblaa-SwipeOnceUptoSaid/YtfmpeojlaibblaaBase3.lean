import Derived.Test.YtfmpeojlaibblaaBase2
import Derived.Laws.BitsAllLaws
import Derived.Laws.BitsLemmas
set_option linter.unusedVariables false
set_option linter.unusedSimpArgs false

/-
  ParityFlips: the walk of the law's Go code: one bit of a value's character that is changed is told.
-/
namespace Go.Proofs.Ytfmpeojlaibblaa.S
open Go.RowKit Go.Proofs.YtfmpeojlaibblaaW.PrintWords Go.Proofs.YtfmpeojlaibblaaW.PrintLast Go.Proofs.YtfmpeojlaibblaaW.PrintMore

theorem odd_ok : gatelinelaw10_odd.f = some true := by decide +kernel
theorem odd_at (w : World) : Calls Try.prog 27 #[] w fun e w' => e = .returned (.bool true) ∧ Below w.heap.size w w' := gatelinelaw10_odd.calls true w odd_ok
theorem pchar_no (v : Int) (h : ¬ (0 ≤ v ∧ v ≤ 15)) (w : World) : Calls Try.prog 23 #[.int .i64 v] w fun e w' => e = .returned (.tuple #[.int .i64 0, .int .i64 1]) ∧ Drawn0 w w' := by
  refine parity_Char.calls v 0 1 w ?_
  have hw : parity_within.f v 15 = some false := by
    unfold parity_within.f
    by_cases h0 : v ≥ 0
    · rw [if_pos h0]; simp; omega
    · rw [if_neg h0]
  unfold parity_Char.f
  rw [hw]
  rfl
def bq (n : Nat) (i : Nat) : Bool := (andBit (chr (n : Int))).getD i false
theorem flip_0 : ∀ n : Fin 16, parity_Value.f (ofTo (!bq n 0) (bq n 1) (bq n 2) (bq n 3) (bq n 4) 5) = some (0, 3) := by decide +kernel
theorem flip_1 : ∀ n : Fin 16, parity_Value.f (ofTo (bq n 0) (!bq n 1) (bq n 2) (bq n 3) (bq n 4) 5) = some (0, 3) := by decide +kernel
theorem flip_2 : ∀ n : Fin 16, parity_Value.f (ofTo (bq n 0) (bq n 1) (!bq n 2) (bq n 3) (bq n 4) 5) = some (0, 3) := by decide +kernel
theorem flip_3 : ∀ n : Fin 16, parity_Value.f (ofTo (bq n 0) (bq n 1) (bq n 2) (!bq n 3) (bq n 4) 5) = some (0, 3) := by decide +kernel
theorem flip_4 : ∀ n : Fin 16, parity_Value.f (ofTo (bq n 0) (bq n 1) (bq n 2) (bq n 3) (!bq n 4) 5) = some (0, 3) := by decide +kernel
theorem pbits_at (n : Nat) (hn : n < 16) (W : World) : Calls Try.prog 30 #[.int .i64 (chr (n : Int))] W fun e w' => e = .returned (.tuple #[.agg #[.bool (bq n 0), .bool (bq n 1), .bool (bq n 2), .bool (bq n 3), .bool (bq n 4)], .int .i64 0]) ∧ Below W.heap.size W w' :=
  bits_yes _ W (chr_bd _).1 (chr_bd _).2
theorem pbits_zero (W : World) : Calls Try.prog 30 #[.int .i64 0] W fun e w' => e = .returned (.tuple #[.agg #[.bool false, .bool false, .bool false, .bool false, .bool false], .int .i64 0]) ∧ Below W.heap.size W w' :=
  parity_Bits.calls 0 false false false false false 0 W (by decide +kernel)

set_option maxHeartbeats 2000000 in
theorem flips_bad (v bit : Int) (w : World) (h : ¬ (0 ≤ v ∧ v ≤ 15)) :
    Calls Try.prog 8 #[.int .i64 v, .int .i64 bit] w fun e w' => e = .returned (.bool true) ∧ Below w.heap.size w w' := by
  go_enter Try.func8, Try.ntmps8
  go_wp2_with (first | (go_at_call 23; refine (pchar_no v h _).mono ?_; rintro e w1 ⟨rfl, ⟨nd, rfl⟩⟩) | (go_at_call 30; refine (pbits_zero _).mono ?_; rintro e w2 ⟨rfl, hb2⟩) | (go_at_call 27; refine (odd_at _).mono ?_; rintro e w3 ⟨rfl, hb3⟩))
  go_ret
  exact ⟨rfl, below_step (below_alloc (below_step (pw_below_drewN (Below.refl _ w) nd) hb2) _) hb3⟩
set_option maxHeartbeats 2000000 in
theorem flips_out (n : Nat) (hn : n < 16) (bit : Int) (w : World) (h : bit < 0 ∨ 4 < bit) :
    Calls Try.prog 8 #[.int .i64 n, .int .i64 bit] w fun e w' => e = .returned (.bool true) ∧ Below w.heap.size w w' := by
  rcases h with h | h
  · have d0 : decide (bit < 0) = true := decide_eq_true h
    go_enter Try.func8, Try.ntmps8
    go_wp2_with (first | (go_at_call 23; refine (pchar_at _ (by omega) (by omega) _).mono ?_; rintro e w1 ⟨rfl, ⟨nd, rfl⟩⟩) | (go_at_call 30; refine (pbits_at n hn _).mono ?_; rintro e w2 ⟨rfl, hb2⟩) | (go_at_call 27; refine (odd_at _).mono ?_; rintro e w3 ⟨rfl, hb3⟩))
    go_ret
    exact ⟨rfl, below_step (below_alloc (below_step (pw_below_drewN (Below.refl _ w) nd) hb2) _) hb3⟩
  · have d0 : decide (bit < 0) = false := decide_eq_false (by omega)
    have d1 : decide (4 < bit) = true := decide_eq_true h
    go_enter Try.func8, Try.ntmps8
    go_wp2_with (first | (go_at_call 23; refine (pchar_at _ (by omega) (by omega) _).mono ?_; rintro e w1 ⟨rfl, ⟨nd, rfl⟩⟩) | (go_at_call 30; refine (pbits_at n hn _).mono ?_; rintro e w2 ⟨rfl, hb2⟩) | (go_at_call 27; refine (odd_at _).mono ?_; rintro e w3 ⟨rfl, hb3⟩))
    go_ret
    exact ⟨rfl, below_step (below_alloc (below_step (pw_below_drewN (Below.refl _ w) nd) hb2) _) hb3⟩
set_option maxHeartbeats 2000000 in
theorem flips_at_0 (n : Nat) (hn : n < 16) (w : World) :
    Calls Try.prog 8 #[.int .i64 n, .int .i64 0] w fun e w' => e = .returned (.bool true) ∧ Below w.heap.size w w' := by
  have hB := pbits_at n hn
  have hF := flip_0 ⟨n, hn⟩
  simp only at hF
  generalize bq n 0 = b0 at hB hF
  generalize bq n 1 = b1 at hB hF
  generalize bq n 2 = b2 at hB hF
  generalize bq n 3 = b3 at hB hF
  generalize bq n 4 = b4 at hB hF
  have HF := Lib.hid hF
  clear hF
  go_enter Try.func8, Try.ntmps8
  go_wp2_with (first | (go_at_call 23; refine (pchar_at _ (by omega) (by omega) _).mono ?_; rintro e w1 ⟨rfl, ⟨nd, rfl⟩⟩) | (go_at_call 30; refine (hB _).mono ?_; rintro e w2 ⟨rfl, hb2⟩) | (go_at_call 32; refine (of_walk _ _ _ _ _ _).mono ?_; rintro e w4 ⟨rfl, hb4⟩) | (go_at_call 25; refine (parity_Value.calls _ _ _ _ HF.out).mono ?_; rintro e w5 ⟨rfl, ⟨nd5, rfl⟩⟩) | (go_at_call 27; refine (odd_at _).mono ?_; rintro e w3 ⟨rfl, hb3⟩))
  go_ret
  refine ⟨rfl, below_step (pw_below_drewN (below_step ?_ hb4) nd5) hb3⟩
  first | exact below_alloc (below_step (pw_below_drewN (Below.refl _ w) nd) hb2) _ | exact (below_alloc (below_step (pw_below_drewN (Below.refl _ w) nd) hb2) _).setCell (below_step (pw_below_drewN (Below.refl _ w) nd) hb2).size _
set_option maxHeartbeats 2000000 in
theorem flips_at_1 (n : Nat) (hn : n < 16) (w : World) :
    Calls Try.prog 8 #[.int .i64 n, .int .i64 1] w fun e w' => e = .returned (.bool true) ∧ Below w.heap.size w w' := by
  have hB := pbits_at n hn
  have hF := flip_1 ⟨n, hn⟩
  simp only at hF
  generalize bq n 0 = b0 at hB hF
  generalize bq n 1 = b1 at hB hF
  generalize bq n 2 = b2 at hB hF
  generalize bq n 3 = b3 at hB hF
  generalize bq n 4 = b4 at hB hF
  have HF := Lib.hid hF
  clear hF
  go_enter Try.func8, Try.ntmps8
  go_wp2_with (first | (go_at_call 23; refine (pchar_at _ (by omega) (by omega) _).mono ?_; rintro e w1 ⟨rfl, ⟨nd, rfl⟩⟩) | (go_at_call 30; refine (hB _).mono ?_; rintro e w2 ⟨rfl, hb2⟩) | (go_at_call 32; refine (of_walk _ _ _ _ _ _).mono ?_; rintro e w4 ⟨rfl, hb4⟩) | (go_at_call 25; refine (parity_Value.calls _ _ _ _ HF.out).mono ?_; rintro e w5 ⟨rfl, ⟨nd5, rfl⟩⟩) | (go_at_call 27; refine (odd_at _).mono ?_; rintro e w3 ⟨rfl, hb3⟩))
  go_ret
  refine ⟨rfl, below_step (pw_below_drewN (below_step ?_ hb4) nd5) hb3⟩
  first | exact below_alloc (below_step (pw_below_drewN (Below.refl _ w) nd) hb2) _ | exact (below_alloc (below_step (pw_below_drewN (Below.refl _ w) nd) hb2) _).setCell (below_step (pw_below_drewN (Below.refl _ w) nd) hb2).size _
set_option maxHeartbeats 2000000 in
theorem flips_at_2 (n : Nat) (hn : n < 16) (w : World) :
    Calls Try.prog 8 #[.int .i64 n, .int .i64 2] w fun e w' => e = .returned (.bool true) ∧ Below w.heap.size w w' := by
  have hB := pbits_at n hn
  have hF := flip_2 ⟨n, hn⟩
  simp only at hF
  generalize bq n 0 = b0 at hB hF
  generalize bq n 1 = b1 at hB hF
  generalize bq n 2 = b2 at hB hF
  generalize bq n 3 = b3 at hB hF
  generalize bq n 4 = b4 at hB hF
  have HF := Lib.hid hF
  clear hF
  go_enter Try.func8, Try.ntmps8
  go_wp2_with (first | (go_at_call 23; refine (pchar_at _ (by omega) (by omega) _).mono ?_; rintro e w1 ⟨rfl, ⟨nd, rfl⟩⟩) | (go_at_call 30; refine (hB _).mono ?_; rintro e w2 ⟨rfl, hb2⟩) | (go_at_call 32; refine (of_walk _ _ _ _ _ _).mono ?_; rintro e w4 ⟨rfl, hb4⟩) | (go_at_call 25; refine (parity_Value.calls _ _ _ _ HF.out).mono ?_; rintro e w5 ⟨rfl, ⟨nd5, rfl⟩⟩) | (go_at_call 27; refine (odd_at _).mono ?_; rintro e w3 ⟨rfl, hb3⟩))
  go_ret
  refine ⟨rfl, below_step (pw_below_drewN (below_step ?_ hb4) nd5) hb3⟩
  first | exact below_alloc (below_step (pw_below_drewN (Below.refl _ w) nd) hb2) _ | exact (below_alloc (below_step (pw_below_drewN (Below.refl _ w) nd) hb2) _).setCell (below_step (pw_below_drewN (Below.refl _ w) nd) hb2).size _
set_option maxHeartbeats 2000000 in
theorem flips_at_3 (n : Nat) (hn : n < 16) (w : World) :
    Calls Try.prog 8 #[.int .i64 n, .int .i64 3] w fun e w' => e = .returned (.bool true) ∧ Below w.heap.size w w' := by
  have hB := pbits_at n hn
  have hF := flip_3 ⟨n, hn⟩
  simp only at hF
  generalize bq n 0 = b0 at hB hF
  generalize bq n 1 = b1 at hB hF
  generalize bq n 2 = b2 at hB hF
  generalize bq n 3 = b3 at hB hF
  generalize bq n 4 = b4 at hB hF
  have HF := Lib.hid hF
  clear hF
  go_enter Try.func8, Try.ntmps8
  go_wp2_with (first | (go_at_call 23; refine (pchar_at _ (by omega) (by omega) _).mono ?_; rintro e w1 ⟨rfl, ⟨nd, rfl⟩⟩) | (go_at_call 30; refine (hB _).mono ?_; rintro e w2 ⟨rfl, hb2⟩) | (go_at_call 32; refine (of_walk _ _ _ _ _ _).mono ?_; rintro e w4 ⟨rfl, hb4⟩) | (go_at_call 25; refine (parity_Value.calls _ _ _ _ HF.out).mono ?_; rintro e w5 ⟨rfl, ⟨nd5, rfl⟩⟩) | (go_at_call 27; refine (odd_at _).mono ?_; rintro e w3 ⟨rfl, hb3⟩))
  go_ret
  refine ⟨rfl, below_step (pw_below_drewN (below_step ?_ hb4) nd5) hb3⟩
  first | exact below_alloc (below_step (pw_below_drewN (Below.refl _ w) nd) hb2) _ | exact (below_alloc (below_step (pw_below_drewN (Below.refl _ w) nd) hb2) _).setCell (below_step (pw_below_drewN (Below.refl _ w) nd) hb2).size _
set_option maxHeartbeats 2000000 in
theorem flips_at_4 (n : Nat) (hn : n < 16) (w : World) :
    Calls Try.prog 8 #[.int .i64 n, .int .i64 4] w fun e w' => e = .returned (.bool true) ∧ Below w.heap.size w w' := by
  have hB := pbits_at n hn
  have hF := flip_4 ⟨n, hn⟩
  simp only at hF
  generalize bq n 0 = b0 at hB hF
  generalize bq n 1 = b1 at hB hF
  generalize bq n 2 = b2 at hB hF
  generalize bq n 3 = b3 at hB hF
  generalize bq n 4 = b4 at hB hF
  have HF := Lib.hid hF
  clear hF
  go_enter Try.func8, Try.ntmps8
  go_wp2_with (first | (go_at_call 23; refine (pchar_at _ (by omega) (by omega) _).mono ?_; rintro e w1 ⟨rfl, ⟨nd, rfl⟩⟩) | (go_at_call 30; refine (hB _).mono ?_; rintro e w2 ⟨rfl, hb2⟩) | (go_at_call 32; refine (of_walk _ _ _ _ _ _).mono ?_; rintro e w4 ⟨rfl, hb4⟩) | (go_at_call 25; refine (parity_Value.calls _ _ _ _ HF.out).mono ?_; rintro e w5 ⟨rfl, ⟨nd5, rfl⟩⟩) | (go_at_call 27; refine (odd_at _).mono ?_; rintro e w3 ⟨rfl, hb3⟩))
  go_ret
  refine ⟨rfl, below_step (pw_below_drewN (below_step ?_ hb4) nd5) hb3⟩
  first | exact below_alloc (below_step (pw_below_drewN (Below.refl _ w) nd) hb2) _ | exact (below_alloc (below_step (pw_below_drewN (Below.refl _ w) nd) hb2) _).setCell (below_step (pw_below_drewN (Below.refl _ w) nd) hb2).size _
theorem flips_walk (v bit : Int) (w : World) : Calls Try.prog 8 #[.int .i64 v, .int .i64 bit] w fun e w' => e = .returned (.bool true) ∧ Below w.heap.size w w' := by
  by_cases hv : 0 ≤ v ∧ v ≤ 15
  · obtain ⟨n, rfl⟩ := Int.eq_ofNat_of_zero_le hv.1
    by_cases hb : bit < 0 ∨ 4 < bit
    · exact flips_out n (by omega) bit w hb
    · obtain h | h | h | h | h : bit = 0 ∨ bit = 1 ∨ bit = 2 ∨ bit = 3 ∨ bit = 4 := by omega
      · subst h; exact flips_at_0 n (by omega) w
      · subst h; exact flips_at_1 n (by omega) w
      · subst h; exact flips_at_2 n (by omega) w
      · subst h; exact flips_at_3 n (by omega) w
      · subst h; exact flips_at_4 n (by omega) w
  · exact flips_bad v bit w hv
end Go.Proofs.Ytfmpeojlaibblaa.S

/- Written for this claim by a program of this session (handprint.py, over the kit's print). Lean checks it. -/
namespace Go.Proofs.Ytfmpeojlaibblaa.S
open Go.RowKit Go.Proofs.YtfmpeojlaibblaaW.PrintWords Go.Proofs.YtfmpeojlaibblaaW.PrintLast Go.Proofs.YtfmpeojlaibblaaW.PrintMore
attribute [local go_sem] max2_int min2_int max_two min_two max_three min_three max_four min_four   -- for this text's walks alone
set_option linter.unusedVariables false
set_option linter.unusedSimpArgs false

/-! ### gatelineref10_Value: function 26 -/
def gatelineref10_Value.j0 : Nat → Int → Bool → Option (Int × Int)
  | 0, _, _ => none
  | k + 1, x0, x9 => if x9 = true then (some (0, 1)) else ((gatelineref10_ones.f k x0).bind fun t107 => (if (Int.tmod t107 2) = 0 then (some (0, 3)) else (some (Int.tmod x0 16, 0))))
def gatelineref10_Value.f (k : Nat) (a0 : Int) : Option (Int × Int) := if a0 < 0 then (gatelineref10_Value.j0 k a0 true) else (gatelineref10_Value.j0 k a0 (decide (a0 > 31)))
theorem gatelineref10_Value.mono_l : ∀ k, (∀ y0 y1, LeO (gatelineref10_Value.j0 k y0 y1) (gatelineref10_Value.j0 (k + 1) y0 y1))
  | 0 => fun _ _ r h => by simp [gatelineref10_Value.j0] at h
  | k + 1 => by
    have ih0 := gatelineref10_Value.mono_l k
    · intro y0 y1
      unfold gatelineref10_Value.j0
      repeat' first
      | (with_reducible exact ih0 _ _)
      | (with_reducible exact gatelineref10_ones.mono _ _)
      | (with_reducible exact LeO.refl _)
      | (with_reducible exact LeO.none _)
      | (with_reducible refine LeO.ite ?_ ?_)
      | (with_reducible refine LeO.bind ?_ (fun _ => ?_))
      | exact ih0 _ _
      | exact gatelineref10_ones.mono _ _
      | exact LeO.none _
      | refine LeO.ite ?_ ?_
      | refine LeO.bind ?_ (fun _ => ?_)
theorem gatelineref10_Value.mono : ∀ a0 k, LeO (gatelineref10_Value.f k a0) (gatelineref10_Value.f (k + 1) a0) := by
  intro a0 k
  have ih0 := gatelineref10_Value.mono_l k
  unfold gatelineref10_Value.f
  repeat' first
      | (with_reducible exact ih0 _ _)
      | (with_reducible exact gatelineref10_ones.mono _ _)
      | (with_reducible exact LeO.refl _)
      | (with_reducible exact LeO.none _)
      | (with_reducible refine LeO.ite ?_ ?_)
      | (with_reducible refine LeO.bind ?_ (fun _ => ?_))
      | exact ih0 _ _
      | exact gatelineref10_ones.mono _ _
      | exact LeO.none _
      | refine LeO.ite ?_ ?_
      | refine LeO.bind ?_ (fun _ => ?_)
set_option maxHeartbeats 8000000 in
set_option maxRecDepth 100000 in
theorem gatelineref10_Value.calls (k : Nat) (a0 : Int) (r1 : Int) (r2 : Int) (w : World) (h : gatelineref10_Value.f k a0 = some (r1, r2)) :
    Calls Try.prog 26 #[.int .i64 a0] w fun e w' => e = .returned (.tuple #[.int .i64 r1, .int .i64 r2]) ∧ Drawn0 w w' := by
  have H : (if a0 < 0 then (gatelineref10_Value.j0 k a0 true) else (gatelineref10_Value.j0 k a0 (decide (a0 > 31)))) = some (r1, r2) := h
  clear h
  have HC2 := Aside0.mk H
  clear H
  go_enter Try.func26, Try.ntmps26
  go_upto_region 1 with (fail)
  go_cut [9] (fun v9 wc => ∃ (kq : Nat) (x9_1 : Bool), v9 = .bool x9_1 ∧ Aside0 (gatelineref10_Value.j0 kq a0 x9_1 = some (r1, r2)) ∧ Aside0 (kq ≤ k) ∧ Drawn0 w wc)
  case first =>
    have H := HC2.out
    clear HC2
    by_cases c3 : a0 < 0
    · rw [if_pos c3] at H
      have c3b0 : decide (a0 < 0) = true := decide_eq_true c3
      clear c3
      (first | rw [c3b0] | (simp only [i64_w, i32_w]; rw [c3b0]) | skip)
      have H' := Aside0.mk H
      clear H
      go_wp2
      go_meet
      case rel => exact ⟨_, (true), (by first | rfl | (simp; done) | (simp [*]; done)), H', ⟨by first | omega | exact Nat.le_refl _⟩, by repeat (first | exact Drawn0.refl _ | apply Drawn0.step)⟩
    · rw [if_neg c3] at H
      have c3b0 : decide (a0 < 0) = false := decide_eq_false c3
      clear c3
      (first | rw [c3b0] | (simp only [i64_w, i32_w]; rw [c3b0]) | skip)
      have H' := Aside0.mk H
      clear H
      go_wp2
      go_meet
      case rel => exact ⟨_, (decide (a0 > 31)), (by first | rfl | (simp; done) | (simp [*]; done)), H', ⟨by first | omega | exact Nat.le_refl _⟩, by repeat (first | exact Drawn0.refl _ | apply Drawn0.step)⟩
  case rest =>
    clear HC2
    try clear c2
    try clear p2
    try clear c3
    try clear c3b0
    obtain ⟨kq, x9_1, rfl, HA, HJ1, ⟨mc1, rfl⟩⟩ := hcut
    cases kq with
    | zero => exact absurd HA.out (by simp [gatelineref10_Value.j0])
    | succ kj1 =>
      have H := HA.out
      clear HA
      simp only [gatelineref10_Value.j0] at H
      by_cases c4 : x9_1 = true
      · subst c4
        have H1 : (some (0, 1)) = some (r1, r2) := by rw [if_pos rfl] at H; exact H
        clear H
        have H := H1
        clear H1
        simp only [Option.some.injEq, Prod.mk.injEq] at H
        obtain ⟨rfl, rfl⟩ := H
        go_wp2
        go_ret2
        exact ⟨by first | rfl | (simp; done) | (simp [*]; done), by repeat (first | exact Drawn0.refl _ | apply Drawn0.step)⟩
      · replace c4 := Bool.eq_false_iff.mpr c4
        subst c4
        have H1 : ((gatelineref10_ones.f kj1 a0).bind fun t107 => (if (Int.tmod t107 2) = 0 then (some (0, 3)) else (some (Int.tmod a0 16, 0)))) = some (r1, r2) := by rw [if_neg (show ¬ (false = true) by decide)] at H; exact H
        clear H
        have H := H1
        clear H1
        replace H := Option.bind_eq_some_iff.mp H
        obtain ⟨t107, A50, H⟩ := H
        replace H : (if (Int.tmod t107 2) = 0 then (some (0, 3)) else (some (Int.tmod a0 16, 0))) = some (r1, r2) := H
        have A5 := Aside0.mk A50
        clear A50
        by_cases c6 : (Int.tmod t107 2) = 0
        · rw [if_pos c6] at H
          have c6b0 : ((Int.tmod t107 2) == 0) = true := beq_iff_eq.mpr c6
          have c6b1 : ((Int.tmod t107 2) != 0) = false := bne_eq_false_iff_eq.mpr c6
          clear c6
          simp only [Option.some.injEq, Prod.mk.injEq] at H
          obtain ⟨rfl, rfl⟩ := H
          go_wp2_with (first | ((with_reducible refine gate_callee (f := 52) rfl ?_); refine goesL_ (some 11) rfl rfl Try.func52 (by kernel_rfl) rfl #[.int .i64 a0] rfl (by (try simp only [List.map_toArray, List.map_cons, List.map_nil]); first | done | rfl | (simp only [List.length_drop, List.length_take]; rfl)) ?_; (with_reducible refine (gatelineref10_ones.calls kj1 a0 t107 _ A5.out).mono ?_); rintro e w' ⟨rfl, ⟨nd, rfl⟩⟩; refine ⟨_, rfl, ?_⟩))
          go_ret2
          exact ⟨by first | rfl | (simp; done) | (simp [*]; done), by repeat (first | exact Drawn0.refl _ | apply Drawn0.step)⟩
        · rw [if_neg c6] at H
          have c6b0 : ((Int.tmod t107 2) == 0) = false := beq_eq_false_iff_ne.mpr c6
          have c6b1 : ((Int.tmod t107 2) != 0) = true := bne_iff_ne.mpr c6
          simp only [Option.some.injEq, Prod.mk.injEq] at H
          obtain ⟨rfl, rfl⟩ := H
          go_wp2_with (first | ((with_reducible refine gate_callee (f := 52) rfl ?_); refine goesL_ (some 11) rfl rfl Try.func52 (by kernel_rfl) rfl #[.int .i64 a0] rfl (by (try simp only [List.map_toArray, List.map_cons, List.map_nil]); first | done | rfl | (simp only [List.length_drop, List.length_take]; rfl)) ?_; (with_reducible refine (gatelineref10_ones.calls kj1 a0 t107 _ A5.out).mono ?_); rintro e w' ⟨rfl, ⟨nd, rfl⟩⟩; refine ⟨_, rfl, ?_⟩))
          go_ret2
          exact ⟨by first | rfl | (simp; done) | (simp [*]; done), by repeat (first | exact Drawn0.refl _ | apply Drawn0.step)⟩

end Go.Proofs.Ytfmpeojlaibblaa.S

/-
  Plain lemmas on the parity functions: characters, values, sums, bits.
-/
namespace Go.Proofs.Ytfmpeojlaibblaa.Pure
open Go.RowKit Go.Proofs.Ytfmpeojlaibblaa.S Go.Proofs.YtfmpeojlaibblaaW.PrintWords Go.Proofs.YtfmpeojlaibblaaW.PrintLast

theorem pchar_yes (v : Int) (h0 : 0 ≤ v) (h1 : v ≤ 15) : parity_Char.f v = some (chr v, 0) := by
  obtain ⟨n, rfl⟩ := Int.eq_ofNat_of_zero_le h0
  exact pchar_all ⟨n, by omega⟩
theorem within_false (v m : Int) (h : ¬ (0 ≤ v ∧ v ≤ m)) : parity_within.f v m = some false := by
  unfold parity_within.f
  by_cases h0 : v ≥ 0
  · rw [if_pos h0]; simp; omega
  · rw [if_neg h0]
theorem pchar_bad (v : Int) (h : ¬ (0 ≤ v ∧ v ≤ 15)) : parity_Char.f v = some (0, 1) := by
  unfold parity_Char.f
  rw [within_false v 15 h]
  rfl
theorem rchar_yes (v : Int) (h0 : 0 ≤ v) (h1 : v ≤ 15) : Ev (fun k => gatelineref10_Char.f k v) (chr v, 0) := by
  obtain ⟨n, rfl⟩ := Int.eq_ofNat_of_zero_le h0
  exact Ev.of (fun k => gatelineref10_Char.mono _ k) (char_all ⟨n, by omega⟩)
theorem rchar_bad (v : Int) (h : ¬ (0 ≤ v ∧ v ≤ 15)) : Ev (fun k => gatelineref10_Char.f k v) (0, 1) := by
  refine ⟨1, fun k hk => ?_⟩
  obtain ⟨k, rfl⟩ : ∃ m, k = m + 1 := ⟨k - 1, by omega⟩
  show gatelineref10_Char.f (k + 1) v = _
  unfold gatelineref10_Char.f
  split
  · rw [gatelineref10_Char.j0, if_pos rfl]
  · rw [decide_eq_true (by omega), gatelineref10_Char.j0, if_pos rfl]
/-- What both say of a number as a value: one pair. -/
theorem char_both (v : Int) : ∃ p, parity_Char.f v = some p ∧ Ev (fun k => gatelineref10_Char.f k v) p := by
  by_cases h : 0 ≤ v ∧ v ≤ 15
  · exact ⟨_, pchar_yes v h.1 h.2, rchar_yes v h.1 h.2⟩
  · exact ⟨_, pchar_bad v h, rchar_bad v h⟩
theorem value_all : ∀ c : Fin 32, ∃ p, parity_Value.f (c.val : Int) = some p ∧ gatelineref10_Value.f 20 (c.val : Int) = some p := by
  have h : ∀ c : Fin 32, (parity_Value.f (c.val : Int)).isSome = true ∧ parity_Value.f (c.val : Int) = gatelineref10_Value.f 20 (c.val : Int) := by decide +kernel
  intro c
  obtain ⟨p, hp⟩ := Option.isSome_iff_exists.1 (h c).1
  exact ⟨p, hp, (h c).2 ▸ hp⟩
theorem pvalue_bad (c : Int) (h : ¬ (0 ≤ c ∧ c ≤ 31)) : parity_Value.f c = some (0, 1) := by
  unfold parity_Value.f
  rw [within_false c 31 h]
  rfl
theorem rvalue_bad (c : Int) (h : ¬ (0 ≤ c ∧ c ≤ 31)) : Ev (fun k => gatelineref10_Value.f k c) (0, 1) := by
  refine ⟨1, fun k hk => ?_⟩
  obtain ⟨k, rfl⟩ : ∃ m, k = m + 1 := ⟨k - 1, by omega⟩
  show gatelineref10_Value.f (k + 1) c = _
  unfold gatelineref10_Value.f
  split
  · rw [gatelineref10_Value.j0, if_pos rfl]
  · rw [decide_eq_true (by omega), gatelineref10_Value.j0, if_pos rfl]
theorem value_both (c : Int) : ∃ p, parity_Value.f c = some p ∧ Ev (fun k => gatelineref10_Value.f k c) p := by
  by_cases h : 0 ≤ c ∧ c ≤ 31
  · obtain ⟨n, rfl⟩ := Int.eq_ofNat_of_zero_le h.1
    obtain ⟨p, h1, h2⟩ := value_all ⟨n, by omega⟩
    exact ⟨p, h1, Ev.of (fun k => gatelineref10_Value.mono _ k) h2⟩
  · exact ⟨_, pvalue_bad c h, rvalue_bad c h⟩

/-! ### sums -/
theorem sumOk_iff (l : List Int) : ∀ k : Nat, sumOk l k = true ↔ ∀ j : Nat, j < k → 0 ≤ rd l (j : Int) ∧ rd l (j : Int) ≤ 15
  | 0 => by simp [sumOk]
  | k + 1 => by
    simp only [sumOk, Bool.and_eq_true, sumOk_iff l k, okVal, decide_eq_true_eq]
    constructor
    · rintro ⟨h1, h2⟩ j hj
      rcases Nat.lt_or_ge j k with h | h
      · exact h1 j h
      · obtain rfl : j = k := by omega
        exact h2
    · intro h
      exact ⟨fun j hj => h j (by omega), h k (by omega)⟩
/-- The sum and whether the values are right. -/
def sumP (l : List Int) : Int × Int := if sumOk l l.length = true then (sumAll l l.length, 0) else (0, 1)
theorem psum (l : List Int) (h : l.length ≤ 140737488355328) : parity_Sum.f l = some (sumP l) := by
  unfold parity_Sum.f sumP
  rw [if_pos h]
  split <;> rfl
theorem rsum_l (l : List Int) (hm : l.length ≤ 140737488355328) : ∀ (d i k : Nat), l.length - i = d → i ≤ l.length → d < k → sumOk l i = true →
    gatelineref10_Sum.l0 k l (sumAll l i) (i : Int) = some (sumP l) := by
  intro d
  induction d with
  | zero =>
    intro i k hd hi hk ho
    obtain ⟨k, rfl⟩ : ∃ m, k = m + 1 := ⟨k - 1, by omega⟩
    obtain rfl : i = l.length := by omega
    simp only [gatelineref10_Sum.l0]
    rw [if_neg (by omega)]
    simp only [sumP, ho, if_true]
  | succ d ih =>
    intro i k hd hi hk ho
    obtain ⟨k, rfl⟩ : ∃ m, k = m + 1 := ⟨k - 1, by omega⟩
    simp only [gatelineref10_Sum.l0]
    rw [if_pos (by omega), if_pos (by omega)]
    have bad : ¬ (0 ≤ rd l (i : Int) ∧ rd l (i : Int) ≤ 15) → sumP l = (0, 1) := by
      intro hb
      unfold sumP
      rw [if_neg]
      intro h
      exact hb ((sumOk_iff l _).1 h i (by omega))
    by_cases h0 : rd l (i : Int) < 0
    · rw [if_pos h0, bad (by omega)]
    · rw [if_neg h0]
      by_cases h1 : rd l (i : Int) > 15
      · rw [if_pos h1, bad (by omega)]
      · rw [if_neg h1, wrap_in (by omega) (by omega), show ((i : Int) + 1) = ((i + 1 : Nat) : Int) by omega]
        exact ih (i + 1) k (by omega) (by omega) (by omega) (by simp only [sumOk, ho, okVal, Bool.true_and, decide_eq_true_eq]; omega)
theorem rsum (l : List Int) (hm : l.length ≤ 140737488355328) : Ev (fun k => gatelineref10_Sum.f k l) (sumP l) :=
  ⟨l.length + 1, fun k hk => rsum_l l hm l.length 0 k (by omega) (by omega) (by omega) rfl⟩

/-! ### sums of values, as natural numbers -/
def nsum (f : Nat → Nat) : Nat → Nat
  | 0 => 0
  | k + 1 => nsum f k ^^^ f k
theorem nsum_lt (f : Nat → Nat) : ∀ k : Nat, (∀ j, j < k → f j < 16) → nsum f k < 16
  | 0, _ => by show (0 : Nat) < 16; decide
  | k + 1, h => Nat.xor_lt_two_pow (n := 4) (nsum_lt f k (fun j hj => h j (by omega))) (h k (by omega))
theorem ofInt_i64 (a : Nat) (ha : a < 9223372036854775808) : (BitVec.ofInt 64 (a : Int)).toNat = a := by
  rw [BitVec.ofInt_natCast, BitVec.toNat_ofNat]; exact Nat.mod_eq_of_lt (by omega)
theorem i64_xor_nat (a b : Nat) (ha : a < 9223372036854775808) (hb : b < 9223372036854775808) : Go.bits .xor .i64 (a : Int) (b : Int) = ((a ^^^ b : Nat) : Int) := by
  have hx : a ^^^ b < 2 ^ 63 := Nat.xor_lt_two_pow (by omega) (by omega)
  show IntKind.i64.wrap ((BitVec.ofInt 64 (a : Int) ^^^ BitVec.ofInt 64 (b : Int)).toNat : Int) = _
  rw [BitVec.toNat_xor, ofInt_i64 a ha, ofInt_i64 b hb, IntKind.wrap_i64]
  omega
theorem sumAll_nat (l : List Int) : ∀ k : Nat, sumOk l k = true → sumAll l k = ((nsum (fun j => (rd l (j : Int)).toNat) k : Nat) : Int)
  | 0, _ => rfl
  | k + 1, h => by
    have hk := (sumOk_iff l (k + 1)).1 h
    have h1 : sumOk l k = true := (sumOk_iff l k).2 fun j hj => hk j (by omega)
    have h2 := hk k (by omega)
    have h3 := nsum_lt (fun j => (rd l (j : Int)).toNat) k (fun j hj => by have := hk j (by omega); show (rd l (j : Int)).toNat < 16; omega)
    simp only [sumAll, nsum]
    rw [sumAll_nat l k h1]
    have e : rd l (k : Int) = (((rd l (k : Int)).toNat : Nat) : Int) := by omega
    rw [show Go.bits .xor .i64 ((nsum (fun j => (rd l (j : Int)).toNat) k : Nat) : Int) (rd l (k : Int)) = Go.bits .xor .i64 ((nsum (fun j => (rd l (j : Int)).toNat) k : Nat) : Int) (((rd l (k : Int)).toNat : Nat) : Int) by rw [← e]]
    exact i64_xor_nat _ _ (by omega) (by omega)
theorem nsum_turn (f g : Nat → Nat) (i v : Nat) (hg : g i = v) (hf : ∀ j, j ≠ i → g j = f j) : ∀ k, nsum g k = if i < k then nsum f k ^^^ (f i ^^^ v) else nsum f k
  | 0 => by simp [nsum]
  | k + 1 => by
    simp only [nsum]
    rw [nsum_turn f g i v hg hf k]
    rcases Nat.lt_trichotomy i k with h | h | h
    · rw [if_pos h, if_pos (by omega), hf k (by omega), Nat.xor_assoc (nsum f k) (f i ^^^ v) (f k), Nat.xor_comm (f i ^^^ v) (f k), ← Nat.xor_assoc]
    · subst h
      rw [if_neg (by omega), if_pos (by omega), hg, Nat.xor_assoc, ← Nat.xor_assoc (f i) (f i) v, Nat.xor_self, Nat.zero_xor]
    · rw [if_neg (by omega), if_neg (by omega), hf k (by omega)]
theorem nat_xor_zero (a b : Nat) : a ^^^ b = 0 ↔ a = b := by
  constructor
  · intro h
    have h2 : a ^^^ (a ^^^ b) = a ^^^ 0 := by rw [h]
    rw [← Nat.xor_assoc, Nat.xor_self, Nat.zero_xor, Nat.xor_zero] at h2
    exact h2.symm
  · rintro rfl
    exact Nat.xor_self a
theorem xor_stays (a b : Nat) : a = a ^^^ b ↔ b = 0 := by
  constructor
  · intro h
    have h2 : a ^^^ a = a ^^^ (a ^^^ b) := by rw [← h]
    rw [← Nat.xor_assoc, Nat.xor_self, Nat.zero_xor] at h2
    exact h2.symm
  · rintro rfl
    rw [Nat.xor_zero]

/-! ### bits -/
theorem bits_all : ∀ c : Fin 32, (Go.bits .and .i64 (c.val : Int) 1 == 1) = ((c.val : Int) % 2 == 1) ∧ (Go.bits .and .i64 ((c.val : Int) / 2) 1 == 1) = ((c.val : Int) / 2 % 2 == 1) ∧ (Go.bits .and .i64 ((c.val : Int) / 4) 1 == 1) = ((c.val : Int) / 2 / 2 % 2 == 1) ∧
    (Go.bits .and .i64 ((c.val : Int) / 8) 1 == 1) = ((c.val : Int) / 2 / 2 / 2 % 2 == 1) ∧ (Go.bits .and .i64 ((c.val : Int) / 16) 1 == 1) = ((c.val : Int) / 2 / 2 / 2 / 2 % 2 == 1) := by decide +kernel
theorem bits_same (c : Int) : parity_Bits.f c = gatelineref10_Bits.f c := by
  by_cases h : 0 ≤ c ∧ c ≤ 31
  · obtain ⟨n, rfl⟩ := Int.eq_ofNat_of_zero_le h.1
    obtain ⟨h0, h1, h2, h3, h4⟩ := bits_all ⟨n, by omega⟩
    simp only at h0 h1 h2 h3 h4
    unfold parity_Bits.f gatelineref10_Bits.f
    rw [if_pos h, if_pos h, h0, h1, h2, h3, h4]
  · unfold parity_Bits.f gatelineref10_Bits.f
    rw [if_neg h, if_neg h]
theorem of_same : ∀ b0 b1 b2 b3 b4 : Bool, ofTo b0 b1 b2 b3 b4 5 = refTo b0 b1 b2 b3 b4 5 := by decide +kernel
theorem bits_of_all : ∀ b0 b1 b2 b3 b4 : Bool, (0 ≤ ofTo b0 b1 b2 b3 b4 5 ∧ ofTo b0 b1 b2 b3 b4 5 ≤ 31) ∧ (Go.bits .and .i64 (ofTo b0 b1 b2 b3 b4 5) 1 == 1) = b0 ∧ (Go.bits .and .i64 (ofTo b0 b1 b2 b3 b4 5 / 2) 1 == 1) = b1 ∧
    (Go.bits .and .i64 (ofTo b0 b1 b2 b3 b4 5 / 4) 1 == 1) = b2 ∧ (Go.bits .and .i64 (ofTo b0 b1 b2 b3 b4 5 / 8) 1 == 1) = b3 ∧ (Go.bits .and .i64 (ofTo b0 b1 b2 b3 b4 5 / 16) 1 == 1) = b4 := by decide +kernel
theorem bits_of (b0 b1 b2 b3 b4 : Bool) : parity_Bits.f (ofTo b0 b1 b2 b3 b4 5) = some (b0, b1, b2, b3, b4, 0) := by
  obtain ⟨h, h0, h1, h2, h3, h4⟩ := bits_of_all b0 b1 b2 b3 b4
  unfold parity_Bits.f
  rw [if_pos h, h0, h1, h2, h3, h4]
theorem value_chr : ∀ v : Fin 16, parity_Value.f (chr (v.val : Int)) = some ((v.val : Int), 0) := by decide +kernel
end Go.Proofs.Ytfmpeojlaibblaa.Pure

/- Written for this claim by a program of this session (handprint.py, over the kit's print). Lean checks it. -/
namespace Go.Proofs.Ytfmpeojlaibblaa.S
open Go.RowKit Go.Proofs.YtfmpeojlaibblaaW.PrintWords Go.Proofs.YtfmpeojlaibblaaW.PrintLast Go.Proofs.YtfmpeojlaibblaaW.PrintMore
attribute [local go_sem] max2_int min2_int max_two min_two max_three min_three max_four min_four   -- for this text's walks alone
set_option linter.unusedVariables false
set_option linter.unusedSimpArgs false

/-! ### gatelineref11_Unpack: function 39 -/
mutual
def gatelineref11_Unpack.l0 : Nat → List Int → List Bool → Int → Option (List Bool)
  | 0, _, _, _ => none
  | k + 1, x0, x3, x4 => if x4 < (x0.length : Int) then (gatelineref11_Unpack.l1 k x0 x3 x4 128 0) else (some x3)
def gatelineref11_Unpack.l1 : Nat → List Int → List Bool → Int → Int → Int → Option (List Bool)
  | 0, _, _, _, _, _ => none
  | k + 1, x0, x3, x4, x5, x6 => if x6 < 8 then (if 0 ≤ x4 then (if x4 < (x0.length : Int) then (if x5 = 0 then (none) else (if x3.length < 140737488355328 then (gatelineref11_Unpack.l1 k x0 (x3 ++ [((Int.tmod (wrap64 (Int.tdiv (wrap64 (rd x0 x4)) x5)) 2) == 1)]) x4 (wrap64 (Int.tdiv x5 2)) (wrap64 (x6 + 1))) else (none))) else (none)) else (none)) else (gatelineref11_Unpack.l0 k x0 x3 (wrap64 (x4 + 1)))
end
def gatelineref11_Unpack.f (k : Nat) (l0 : List Int) : Option (List Bool) := gatelineref11_Unpack.l0 k l0 (([] : List Bool)) 0
theorem gatelineref11_Unpack.mono_l : ∀ k, (∀ y0 y1 y2, LeO (gatelineref11_Unpack.l0 k y0 y1 y2) (gatelineref11_Unpack.l0 (k + 1) y0 y1 y2)) ∧ (∀ y0 y1 y2 y3 y4, LeO (gatelineref11_Unpack.l1 k y0 y1 y2 y3 y4) (gatelineref11_Unpack.l1 (k + 1) y0 y1 y2 y3 y4))
  | 0 => ⟨fun _ _ _ r h => by simp [gatelineref11_Unpack.l0] at h, fun _ _ _ _ _ r h => by simp [gatelineref11_Unpack.l1] at h⟩
  | k + 1 => by
    obtain ⟨ih0, ih1⟩ := gatelineref11_Unpack.mono_l k
    refine ⟨?_, ?_⟩
    · intro y0 y1 y2
      unfold gatelineref11_Unpack.l0
      repeat' first
      | (with_reducible exact ih0 _ _ _)
      | (with_reducible exact ih1 _ _ _ _ _)
      | (with_reducible exact LeO.refl _)
      | (with_reducible exact LeO.none _)
      | (with_reducible refine LeO.ite ?_ ?_)
      | (with_reducible refine LeO.bind ?_ (fun _ => ?_))
      | exact ih0 _ _ _
      | exact ih1 _ _ _ _ _
      | exact LeO.none _
      | refine LeO.ite ?_ ?_
      | refine LeO.bind ?_ (fun _ => ?_)
    · intro y0 y1 y2 y3 y4
      unfold gatelineref11_Unpack.l1
      repeat' first
      | (with_reducible exact ih0 _ _ _)
      | (with_reducible exact ih1 _ _ _ _ _)
      | (with_reducible exact LeO.refl _)
      | (with_reducible exact LeO.none _)
      | (with_reducible refine LeO.ite ?_ ?_)
      | (with_reducible refine LeO.bind ?_ (fun _ => ?_))
      | exact ih0 _ _ _
      | exact ih1 _ _ _ _ _
      | exact LeO.none _
      | refine LeO.ite ?_ ?_
      | refine LeO.bind ?_ (fun _ => ?_)
theorem gatelineref11_Unpack.mono : ∀ a0 k, LeO (gatelineref11_Unpack.f k a0) (gatelineref11_Unpack.f (k + 1) a0) := by
  intro a0 k
  obtain ⟨ih0, ih1⟩ := gatelineref11_Unpack.mono_l k
  unfold gatelineref11_Unpack.f
  repeat' first
      | (with_reducible exact ih0 _ _ _)
      | (with_reducible exact ih1 _ _ _ _ _)
      | (with_reducible exact LeO.refl _)
      | (with_reducible exact LeO.none _)
      | (with_reducible refine LeO.ite ?_ ?_)
      | (with_reducible refine LeO.bind ?_ (fun _ => ?_))
      | exact ih0 _ _ _
      | exact ih1 _ _ _ _ _
      | exact LeO.none _
      | refine LeO.ite ?_ ?_
      | refine LeO.bind ?_ (fun _ => ?_)
set_option maxHeartbeats 8000000 in
set_option maxRecDepth 100000 in
theorem gatelineref11_Unpack.calls (k : Nat) (A0 : Option Addr) (c0 : Nat) (l0 : List Int) (r : List Bool) (w : World) (hr0 : Kd.C (Kd.int .u8) w A0 l0.length l0) (hc0 : l0.length ≤ c0) (h : gatelineref11_Unpack.f k l0 = some r) :
    Calls Try.prog 39 #[.slice A0 l0.length c0] w fun e w' => ∃ v0_ : Value, e = .returned (v0_) ∧ Kd.R Kd.bool 4 w' w.heap.size (fun _ => True) v0_ r ∧ Below w.heap.size w w' := by
  have HR0 := Aside0.mk hr0
  have HC0 := Aside0.mk hc0
  clear hr0 hc0
  have HB := Aside0.mk (Below.refl w.heap.size w)
  have H : (gatelineref11_Unpack.l0 k l0 (([] : List Bool)) 0) = some r := h
  clear h
  obtain ⟨y333, hy333⟩ : ∃ y_ : List Bool, y_ = (([] : List Bool)) := ⟨_, rfl⟩
  replace H : (gatelineref11_Unpack.l0 k l0 y333 0) = some r := by first | (rw [hy333]; with_reducible exact H) | (have H2_ := (Option.bind_some _ _).symm.trans H; rw [hy333]; with_reducible exact H2_) | (have H2_ := (Option.bind_some _ _).symm.trans H; with_reducible exact H2_) | with_reducible exact H | (rw [hy333]; exact H) | exact H
  have Ny333 := Aside0.mk hy333
  clear hy333
  have H' := Aside0.mk H
  clear H
  go_enter Try.func39, Try.ntmps39
  go_wp2_with (first | ((with_reducible refine gate_dst (N := 7) rfl ?_); refine Kd.R_lit Kd.bool _ 4 ?hg (N := 7) ?hd (xs := ([] : List Bool)) (inner := []) (ok := fun _ => True) (okp := fun _ => True) ?hr ?hp (fun _ hk => hk) trivial (Below.refl _ _) (Nat.le_refl _) (by simp) ?_; (case hd => rfl); (case hg => rfl); (case hr => first | (go_simp; done) | (go_simp; rfl)); (case hp => exact (Reps.none _ _)); intro v334 w2 ho3 hb hg_ hnew_; clear hg_ hnew_; (first | rw [← Ny333.out] at ho3 | (simp only [Int.reduceToNat] at ho3; rw [← Ny333.out] at ho3)); have n0_ := Aside0.mk (Kd.R_lower ho3 (below_size (by repeat (first | (with_reducible first | exact HB.out | apply below_alloc | apply pw_below_drewN | apply below_drew1) | exact HB.out)))); have n1_ := Aside0.mk (below_step (by repeat (first | (with_reducible first | exact HB.out | apply below_alloc | apply pw_below_drewN | apply below_drew1) | exact HB.out)) hb); clear HB; have HO335 := n0_; have HB := n1_; clear n0_ n1_; clear hb ho3))
  go_loopg [3, 4] k (fun kq v3 v4 w' => ∃ (x3_1 : List Bool) (x4_1 : Int), v4 = .int .i64 x4_1 ∧ Aside0 (gatelineref11_Unpack.l0 kq l0 x3_1 x4_1 = some r) ∧ Aside0 (kq ≤ k) ∧ Aside0 (Kd.R Kd.bool 4 w' w.heap.size (fun _ => True) v3 x3_1) ∧ Aside0 (Below w.heap.size w w'))
  case atStart => exact ⟨(y333), (0), (by first | rfl | (simp; done) | (simp [*]; done)), H', ⟨Nat.le_refl _⟩, ⟨by (with_reducible repeat (first | apply Kd.R_alloc | apply Kd.R_drewN | apply Kd.R_drew)); exact HO335.out⟩, ⟨by repeat (first | (with_reducible first | exact HB.out | apply below_alloc | apply pw_below_drewN | apply below_drew1) | exact HB.out)⟩⟩
  case round =>
    clear H'
    try clear p2
    try clear c3
    obtain ⟨x3_1, x4_1, rfl, HA, HK1, HO_3, HB⟩ := hrel
    cases gk with
    | zero => exact absurd HA.out (by simp [gatelineref11_Unpack.l0])
    | succ k1 =>
      have H := HA.out
      clear HA
      simp only [gatelineref11_Unpack.l0] at H
      by_cases c4 : x4_1 < (l0.length : Int)
      · rw [if_pos c4] at H
        have c4b0 : decide (x4_1 < (l0.length : Int)) = true := decide_eq_true c4
        clear c4
        have H' := Aside0.mk H
        clear H
        go_wp2
        go_loopg [3, 5, 6] k1 (fun kq v3 v5 v6 w' => ∃ (x3_2 : List Bool) (x5_2 : Int) (x6_2 : Int), v5 = .int .i64 x5_2 ∧ v6 = .int .i64 x6_2 ∧ Aside0 (gatelineref11_Unpack.l1 kq l0 x3_2 x4_1 x5_2 x6_2 = some r) ∧ Aside0 (kq ≤ k1) ∧ Aside0 (Kd.R Kd.bool 4 w' w.heap.size (fun _ => True) v3 x3_2) ∧ Aside0 (Below w.heap.size w w'))
        case atStart => exact ⟨(x3_1), (128), (0), (by first | rfl | (simp; done) | (simp [*]; done)), (by first | rfl | (simp; done) | (simp [*]; done)), H', ⟨Nat.le_refl _⟩, ⟨by (with_reducible repeat (first | apply Kd.R_alloc | apply Kd.R_drewN | apply Kd.R_drew)); exact HO_3.out⟩, ⟨by repeat (first | (with_reducible first | exact HB.out | apply below_alloc | apply pw_below_drewN | apply below_drew1) | exact HB.out)⟩⟩
        case round =>
          clear H'
          try clear p2
          try clear c3
          try clear c4
          try clear c4b0
          try clear p2
          obtain ⟨x3_2, x5_2, x6_2, rfl, rfl, HA, HK2, HO_3, HB⟩ := hrel
          cases gk with
          | zero => exact absurd HA.out (by simp [gatelineref11_Unpack.l1])
          | succ k2 =>
            have H := HA.out
            clear HA
            simp only [gatelineref11_Unpack.l1] at H
            by_cases c5 : x6_2 < 8
            · rw [if_pos c5] at H
              have c5b0 : decide (x6_2 < 8) = true := decide_eq_true c5
              clear c5
              by_cases c6 : 0 ≤ x4_1
              · rw [if_pos c6] at H
                have c6b0 : decide (0 ≤ x4_1) = true := decide_eq_true c6
                clear c6
                by_cases c7 : x4_1 < (l0.length : Int)
                · rw [if_pos c7] at H
                  have c7b0 : decide (x4_1 < (l0.length : Int)) = true := decide_eq_true c7
                  clear c7
                  by_cases c8 : x5_2 = 0
                  · rw [if_pos c8] at H
                    exact absurd H (by simp)
                  · rw [if_neg c8] at H
                    have c8b0 : (x5_2 == 0) = false := beq_eq_false_iff_ne.mpr c8
                    have c8b1 : (x5_2 != 0) = true := bne_iff_ne.mpr c8
                    by_cases c9 : x3_2.length < 140737488355328
                    · rw [if_pos c9] at H
                      have LMc9 := Aside0.mk c9
                      clear c9
                      obtain ⟨y337, hy337⟩ : ∃ y_ : List Bool, y_ = (x3_2 ++ [((Int.tmod (wrap64 (Int.tdiv (wrap64 (rd l0 x4_1)) x5_2)) 2) == 1)]) := ⟨_, rfl⟩
                      replace H : (gatelineref11_Unpack.l1 k2 l0 y337 x4_1 (wrap64 (Int.tdiv x5_2 2)) (wrap64 (x6_2 + 1))) = some r := by first | (rw [hy337]; with_reducible exact H) | (have H2_ := (Option.bind_some _ _).symm.trans H; rw [hy337]; with_reducible exact H2_) | (have H2_ := (Option.bind_some _ _).symm.trans H; with_reducible exact H2_) | with_reducible exact H | (rw [hy337]; exact H) | exact H
                      have Ny337 := Aside0.mk hy337
                      clear hy337
                      have H' := Aside0.mk H
                      clear H
                      have p336 : 0 ≤ (x4_1 : Int) := of_decide_eq_true (by first | (with_reducible assumption) | assumption)
                      have q336 : x4_1 < (l0.length : Int) := of_decide_eq_true (by first | (with_reducible assumption) | assumption)
                      obtain ⟨ad336, e336, hx336_0⟩ := Kd.at_int HR0.out x4_1 p336 q336
                      cases e336
                      replace hx336_0 := (HB.out.cell (World.block_lt_of_cell? w _ hx336_0)).trans hx336_0
                      replace p336 := eq_true p336
                      replace q336 := eq_true q336
                      go_wp2_with (first | ((with_reducible refine gate_builtin (b := .append) (xs := #[.tmp 18, .tmp 28]) rfl ?_); at_builtin; refine Kd.R_append Kd.bool (w0 := w) w.heap.size rfl (.tmp 18) (.tmp 28) 44 4 (.bool false) 1 rfl Try.underlying44 info4 rfl (by decide) (by omega) u3 x3_2 ((Int.tmod (wrap64 (Int.tdiv (wrap64 (rd l0 x4_1)) x5_2)) 2) == 1) [.bool ((Int.tmod (wrap64 (Int.tdiv (wrap64 (rd l0 x4_1)) x5_2)) 2) == 1)] (fun _ => True) (fun _ => False) rfl rfl ?aP (fun _ hk => hk.elim) ?aF ?aO ?aB ?aS ?aL ?_; (case aP => exact rfl); (case aB => exact (by repeat (first | (with_reducible first | exact HB.out | apply below_alloc | apply pw_below_drewN | apply below_drew1) | exact HB.out))); (case aF => exact (fun _ _ => trivial)); (case aO => exact (by (with_reducible repeat (first | apply Kd.R_alloc | apply Kd.R_drewN | apply Kd.R_drew)); exact HO_3.out)); (case aS => exact (below_size (by repeat (first | (with_reducible first | exact HB.out | apply below_alloc | apply pw_below_drewN | apply below_drew1) | exact HB.out)))); (case aL => have := LMc9.out; omega); intro v338 w10 ho hb hg hat; rw [← Ny337.out] at ho; have n0_ := Aside0.mk (hb); have n1_ := Aside0.mk (ho); clear HB; clear HO_3; have HB := n0_; have HO339 := n1_; clear n0_ n1_; clear ho hb hg hat))
                      go_roundg k2
                      case measure => have := HK1.out; have := HK2.out; omega
                      case rel => exact ⟨(y337), (wrap64 (Int.tdiv x5_2 2)), (wrap64 (x6_2 + 1)), (by first | rfl | (simp; done) | (simp [*]; done)), (by first | rfl | (simp; done) | (simp [*]; done)), H', ⟨by have := HK1.out; have := HK2.out; omega⟩, ⟨by (with_reducible repeat (first | apply Kd.R_alloc | apply Kd.R_drewN | apply Kd.R_drew)); exact HO339.out⟩, ⟨by repeat (first | (with_reducible first | exact HB.out | apply below_alloc | apply pw_below_drewN | apply below_drew1) | exact HB.out)⟩⟩
                    · rw [if_neg c9] at H
                      exact absurd H (by simp)
                · rw [if_neg c7] at H
                  exact absurd H (by simp)
              · rw [if_neg c6] at H
                exact absurd H (by simp)
            · rw [if_neg c5] at H
              have c5b0 : decide (x6_2 < 8) = false := decide_eq_false c5
              clear c5
              have H' := Aside0.mk H
              clear H
              go_wp2
              go_roundg k2
              case measure => have := HK1.out; have := HK2.out; omega
              case rel => exact ⟨(x3_2), (wrap64 (x4_1 + 1)), (by first | rfl | (simp; done) | (simp [*]; done)), H', ⟨by have := HK1.out; have := HK2.out; omega⟩, ⟨by (with_reducible repeat (first | apply Kd.R_alloc | apply Kd.R_drewN | apply Kd.R_drew)); exact HO_3.out⟩, ⟨by repeat (first | (with_reducible first | exact HB.out | apply below_alloc | apply pw_below_drewN | apply below_drew1) | exact HB.out)⟩⟩
      · rw [if_neg c4] at H
        have c4b0 : decide (x4_1 < (l0.length : Int)) = false := decide_eq_false c4
        clear c4
        obtain rfl := Option.some.inj H
        go_wp2
        go_ret
        exact ⟨_, by first | rfl | (simp [errW_none, errW_some] <;> rfl) | (simp [*, errW_none, errW_some] <;> rfl), by (with_reducible repeat (first | apply Kd.R_alloc | apply Kd.R_drewN | apply Kd.R_drew)); exact HO_3.out, by repeat (first | (with_reducible first | exact HB.out | apply below_alloc | apply pw_below_drewN | apply below_drew1) | exact HB.out)⟩

end Go.Proofs.Ytfmpeojlaibblaa.S

/-
  track: bits into bytes and back, the plain part.
-/
namespace Go.Proofs.Ytfmpeojlaibblaa.Pure
open Go.RowKit Go.Proofs.Ytfmpeojlaibblaa.S Go.Proofs.YtfmpeojlaibblaaW.PrintWords Go.Proofs.YtfmpeojlaibblaaW.PrintLast Go.Proofs.YtfmpeojlaibblaaW.PrintMore

/-! ### bits into bytes -/
def bn (b : Bool) : Nat := if b then 1 else 0
def byt (l : List Bool) (i : Nat) : Nat → Nat
  | 0 => 0
  | k + 1 => 2 * byt l i k + bn (l.getD (i + k) false)
def v8 (b0 b1 b2 b3 b4 b5 b6 b7 : Bool) : Nat := 2 * (2 * (2 * (2 * (2 * (2 * (2 * (2 * 0 + bn b0) + bn b1) + bn b2) + bn b3) + bn b4) + bn b5) + bn b6) + bn b7
theorem byt8 (l : List Bool) (i : Nat) : byt l i 8 = v8 (l.getD i false) (l.getD (i + 1) false) (l.getD (i + 2) false) (l.getD (i + 3) false) (l.getD (i + 4) false) (l.getD (i + 5) false) (l.getD (i + 6) false) (l.getD (i + 7) false) := rfl
def packL (l : List Bool) : List Int := (List.range ((l.length + 7) / 8)).map fun q => ((byt l (8 * q) 8 : Nat) : Int)
theorem bn_le (b : Bool) : bn b ≤ 1 := by cases b <;> simp [bn]
theorem byt_lt (l : List Bool) (i : Nat) : ∀ k, byt l i k < 2 ^ k
  | 0 => by simp [byt]
  | k + 1 => by
    have := byt_lt l i k
    have := bn_le (l.getD (i + k) false)
    simp only [byt]
    omega
theorem rdOf_nat (l : List Bool) (i : Nat) : rdOf false l (i : Int) = l.getD i false := by simp [rdOf]

theorem rpack_l1 (l : List Bool) (x3 : List Int) (i : Nat) (hl : l.length ≤ 10000000) (hi : i ≤ 10000000) (r : List Int) (hx : x3.length < 140737488355328) (hr : Ev (fun k => gatelineref11_Pack.l0 k l (x3 ++ [((byt l i 8 : Nat) : Int)]) ((i + 8 : Nat) : Int)) r) : ∀ d j, j + d = 8 →
    Ev (fun k => gatelineref11_Pack.l1 k l x3 (i : Int) ((byt l i j : Nat) : Int) ((i + j : Nat) : Int)) r := by
  intro d
  induction d with
  | zero =>
    intro j hj
    obtain rfl : j = 8 := by omega
    refine Ev.step (fun k => ?_) hr
    show gatelineref11_Pack.l1 (k + 1) _ _ _ _ _ = _
    have := byt_lt l i 8
    rw [gatelineref11_Pack.l1, wrap_in (n := (i : Int) + 8) (by omega) (by omega), if_neg (by omega), if_pos hx, Int.emod_eq_of_lt (by omega) (by omega)]
    rfl
  | succ d ih =>
    intro j hj
    have hlt := byt_lt l i j
    have h2 : 2 ^ j ≤ 128 := by
      have : j ≤ 7 := by omega
      calc 2 ^ j ≤ 2 ^ 7 := Nat.pow_le_pow_right (by decide) this
        _ = 128 := rfl
    refine Ev.step (fun k => ?_) (ih (j + 1) (by omega))
    show gatelineref11_Pack.l1 (k + 1) _ _ _ _ _ = _
    rw [gatelineref11_Pack.l1, wrap_in (n := (i : Int) + 8) (by omega) (by omega), if_pos (by omega), wrap_in (n := 2 * ((byt l i j : Nat) : Int)) (by omega) (by omega), wrap_in (n := ((i + j : Nat) : Int) + 1) (by omega) (by omega), wrap_in (n := 2 * ((byt l i j : Nat) : Int) + 1) (by omega) (by omega), rdOf_nat]
    by_cases hb : i + j < l.length
    · rw [if_pos (by omega), if_pos (by omega)]
      cases hv : l.getD (i + j) false
      · rw [if_neg (by simp)]
        congr 1
        simp only [byt, hv, bn]
        simp
      · rw [if_pos rfl]
        congr 1
        simp only [byt, hv, bn]
        simp
    · rw [if_neg (by omega)]
      have hv : l.getD (i + j) false = false := by rw [List.getD_eq_getElem?_getD, List.getElem?_eq_none (by omega)]; rfl
      congr 1
      simp only [byt, hv, bn]
      simp
theorem rpack_l0 (l : List Bool) (hl : l.length ≤ 10000000) : ∀ d q, q + d = (l.length + 7) / 8 → Ev (fun k => gatelineref11_Pack.l0 k l ((List.range q).map fun q => ((byt l (8 * q) 8 : Nat) : Int)) ((8 * q : Nat) : Int)) (packL l) := by
  intro d
  induction d with
  | zero =>
    intro q hq
    refine Ev.step (f := fun _ => some (packL l)) (fun k => ?_) (Ev.now _)
    show gatelineref11_Pack.l0 (k + 1) _ _ _ = _
    obtain rfl : q = (l.length + 7) / 8 := by omega
    rw [gatelineref11_Pack.l0, if_neg (by omega)]
    rfl
  | succ d ih =>
    intro q hq
    refine Ev.step (fun k => ?_) (rpack_l1 l ((List.range q).map fun q => ((byt l (8 * q) 8 : Nat) : Int)) (8 * q) hl (by omega) (packL l) (by simp; omega) ?_ 8 0 rfl)
    · show gatelineref11_Pack.l0 (k + 1) _ _ _ = _
      rw [gatelineref11_Pack.l0, if_pos (by omega)]
      rfl
    · have h := ih (q + 1) (by omega)
      rw [List.range_succ, List.map_append] at h
      exact h
theorem rpack (l : List Bool) (hl : l.length ≤ 10000000) : Ev (fun k => gatelineref11_Pack.f k l) (packL l) := rpack_l0 l hl ((l.length + 7) / 8) 0 (by omega)

theorem or_bit : ∀ b0 b1 b2 b3 b4 b5 b6 b7 : Bool, ∀ j : Fin 8,
    Go.bits .or .u8 ((v8 (decide (0 < j.val) && b0) (decide (1 < j.val) && b1) (decide (2 < j.val) && b2) (decide (3 < j.val) && b3) (decide (4 < j.val) && b4) (decide (5 < j.val) && b5) (decide (6 < j.val) && b6) (decide (7 < j.val) && b7) : Nat) : Int) (shr .u8 128 (j.val : Int)) =
      ((v8 ((decide (0 < j.val) && b0) || (j.val == 0)) ((decide (1 < j.val) && b1) || (j.val == 1)) ((decide (2 < j.val) && b2) || (j.val == 2)) ((decide (3 < j.val) && b3) || (j.val == 3)) ((decide (4 < j.val) && b4) || (j.val == 4)) ((decide (5 < j.val) && b5) || (j.val == 5)) ((decide (6 < j.val) && b6) || (j.val == 6)) ((decide (7 < j.val) && b7) || (j.val == 7)) : Nat) : Int) := by decide +kernel
theorem take_getD (l : List Bool) (i t : Nat) : (l.take i).getD t false = (decide (t < i) && l.getD t false) := by
  rw [List.getD_eq_getElem?_getD, List.getD_eq_getElem?_getD, List.getElem?_take]
  by_cases h : t < i
  · simp [h]
  · simp [h]
theorem byt_congr {l l' : List Bool} {i : Nat} : ∀ k, (∀ t, t < k → l.getD (i + t) false = l'.getD (i + t) false) → byt l i k = byt l' i k
  | 0, _ => rfl
  | k + 1, h => by simp only [byt]; rw [byt_congr k (fun t ht => h t (by omega)), h k (by omega)]
def packTo (l : List Bool) (i : Nat) : List Int := (List.range ((l.length + 7) / 8)).map fun q => ((byt (l.take i) (8 * q) 8 : Nat) : Int)
theorem packTo_len (l : List Bool) (i : Nat) : (packTo l i).length = (l.length + 7) / 8 := by simp [packTo]
theorem packTo_rd (l : List Bool) (i q : Nat) (hq : q < (l.length + 7) / 8) : rd (packTo l i) (q : Int) = ((byt (l.take i) (8 * q) 8 : Nat) : Int) := by
  rw [rd_get (by rw [packTo_len]; exact hq)]
  simp [packTo]
theorem packTo_zero (l : List Bool) : packTo l 0 = List.replicate ((l.length + 7) / 8) 0 := by
  have h : ∀ i : Nat, byt [] i 8 = 0 := fun i => by simp [byt, bn]
  simp [packTo, h, List.map_const']
theorem packTo_all (l : List Bool) : packTo l l.length = packL l := by simp [packTo, packL]
theorem packTo_false (l : List Bool) (i : Nat) (h : l.getD i false = false) : packTo l (i + 1) = packTo l i := by
  unfold packTo
  congr 1
  funext q
  rw [byt_congr 8 (fun t _ => ?_)]
  rw [take_getD, take_getD]
  by_cases he : 8 * q + t = i
  · rw [he, h]; simp
  · by_cases hl : 8 * q + t < i
    · simp [hl, show 8 * q + t < i + 1 by omega]
    · simp [hl, show ¬ 8 * q + t < i + 1 by omega]
theorem bit_before (l : List Bool) (i q j t : Nat) (hi : i = 8 * q + j) : (l.take i).getD (8 * q + t) false = (decide (t < j) && l.getD (8 * q + t) false) := by
  rw [take_getD]
  congr 1
  exact decide_eq_decide.mpr (by omega)
theorem bit_after (l : List Bool) (i q j t : Nat) (hi : i = 8 * q + j) (h : l.getD i false = true) : (l.take (i + 1)).getD (8 * q + t) false = ((decide (t < j) && l.getD (8 * q + t) false) || (j == t)) := by
  rw [take_getD]
  by_cases he : j = t
  · subst he
    rw [← hi, h]
    simp
  · have e1 : (j == t) = false := beq_false_of_ne he
    rw [e1, Bool.or_false]
    congr 1
    exact decide_eq_decide.mpr (by omega)
theorem packTo_true (l : List Bool) (i : Nat) (hi : i < l.length) (h : l.getD i false = true) :
    (packTo l i).set (i / 8) (Go.bits .or .u8 (rd (packTo l i) ((i / 8 : Nat) : Int)) (shr .u8 128 ((i % 8 : Nat) : Int))) = packTo l (i + 1) := by
  have hq : i / 8 < (l.length + 7) / 8 := by omega
  have he : i = 8 * (i / 8) + i % 8 := by omega
  have hj : i % 8 < 8 := by omega
  have key : Go.bits .or .u8 (rd (packTo l i) ((i / 8 : Nat) : Int)) (shr .u8 128 ((i % 8 : Nat) : Int)) = ((byt (l.take (i + 1)) (8 * (i / 8)) 8 : Nat) : Int) := by
    rw [packTo_rd l i _ hq, byt8, byt8]
    have hb := or_bit (l.getD (8 * (i / 8)) false) (l.getD (8 * (i / 8) + 1) false) (l.getD (8 * (i / 8) + 2) false) (l.getD (8 * (i / 8) + 3) false) (l.getD (8 * (i / 8) + 4) false) (l.getD (8 * (i / 8) + 5) false) (l.getD (8 * (i / 8) + 6) false) (l.getD (8 * (i / 8) + 7) false) ⟨i % 8, hj⟩
    have b := fun t => bit_before l i (i / 8) (i % 8) t he
    have a := fun t => bit_after l i (i / 8) (i % 8) t he h
    have b0 : (l.take i).getD (8 * (i / 8)) false = (decide (0 < i % 8) && l.getD (8 * (i / 8)) false) := b 0
    have a0 : (l.take (i + 1)).getD (8 * (i / 8)) false = ((decide (0 < i % 8) && l.getD (8 * (i / 8)) false) || (i % 8 == 0)) := a 0
    rw [b0, b 1, b 2, b 3, b 4, b 5, b 6, b 7, a0, a 1, a 2, a 3, a 4, a 5, a 6, a 7]
    exact hb
  rw [key]
  refine List.ext_getElem (by simp [packTo]) fun q h1 h2 => ?_
  rw [List.getElem_set]
  by_cases hqq : i / 8 = q
  · subst hqq
    simp [packTo]
  · rw [if_neg hqq]
    simp only [packTo, List.getElem_map, List.getElem_range]
    congr 1
    refine byt_congr 8 fun t ht => ?_
    rw [take_getD, take_getD]
    congr 1
    exact decide_eq_decide.mpr (by omega)
theorem tpack_l (l : List Bool) (hl : l.length ≤ 10000000) : ∀ d i, i + d = l.length → Ev (fun k => track_Pack.l0 k (packTo l i) l (l.length : Int) (i : Int)) (packL l) := by
  intro d
  induction d with
  | zero =>
    intro i hi
    refine Ev.step (f := fun _ => some (packL l)) (fun k => ?_) (Ev.now _)
    show track_Pack.l0 (k + 1) _ _ _ _ = _
    obtain rfl : i = l.length := by omega
    rw [track_Pack.l0, if_neg (by omega), packTo_all]
  | succ d ih =>
    intro i hi
    have hlen := packTo_len l i
    refine Ev.step (fun k => ?_) (ih (i + 1) (by omega))
    show track_Pack.l0 (k + 1) _ _ _ _ = _
    rw [track_Pack.l0, if_pos (by omega), if_pos (by omega), if_pos (by omega), rdOf_nat, wrap_in (n := (i : Int) + 1) (by omega) (by omega), Int.tdiv_eq_ediv_of_nonneg (by omega), Int.tmod_eq_emod_of_nonneg (by omega), wrap_in (n := (i : Int) / 8) (by omega) (by omega)]
    cases hv : l.getD i false
    · rw [if_neg (by simp), packTo_false l i hv]
      rfl
    · rw [if_pos rfl, if_pos (by omega), if_pos (by omega), if_pos (by omega), ← packTo_true l i (by omega) hv]
      rw [show (i : Int) / 8 = ((i / 8 : Nat) : Int) by omega, show (i : Int) % 8 = ((i % 8 : Nat) : Int) by omega, Int.toNat_natCast]
      rfl
theorem tpack (l : List Bool) (hl : l.length ≤ 10000000) : Ev (fun k => track_Pack.f k l) (packL l) := by
  have h := tpack_l l hl l.length 0 (by omega)
  rw [packTo_zero] at h
  refine Ev.congr (fun k => ?_) h
  unfold track_Pack.f
  rw [wrap_in (n := (l.length : Int) + 7) (by omega) (by omega), Int.tdiv_eq_ediv_of_nonneg (by omega), wrap_in (n := ((l.length : Int) + 7) / 8) (by omega) (by omega), if_pos (by omega), if_pos (by omega), show (((l.length : Int) + 7) / 8).toNat = (l.length + 7) / 8 by omega]
  rfl

/-! ### bytes into bits -/
def bitOf (x : Int) (j : Nat) : Bool := x / 2 ^ (7 - j) % 2 == 1
def unpackL (b : List Int) : List Bool := (List.range (8 * b.length)).map fun i => bitOf (rd b ((i / 8 : Nat) : Int)) (i % 8)
theorem shl_bit : ∀ x : Fin 256, ∀ j : Fin 8, (Go.bits .and .u8 (shl .u8 (x.val : Int) (j.val : Int)) 128 != 0) = bitOf (x.val : Int) j.val := by decide +kernel
theorem unpackL_len (b : List Int) : (unpackL b).length = 8 * b.length := by simp [unpackL]
def unTo (b : List Int) (i : Nat) : List Bool := ((List.range i).map fun i => bitOf (rd b ((i / 8 : Nat) : Int)) (i % 8)) ++ List.replicate (8 * b.length - i) false
theorem unTo_step (b : List Int) (i : Nat) (hi : i < 8 * b.length) : (unTo b i).set i (bitOf (rd b ((i / 8 : Nat) : Int)) (i % 8)) = unTo b (i + 1) := by
  unfold unTo
  rw [List.set_append_right _ _ (by simp), List.length_map, List.length_range, Nat.sub_self, List.range_succ, List.map_append, List.append_assoc]
  congr 1
  rw [show 8 * b.length - i = (8 * b.length - (i + 1)) + 1 by omega, List.replicate_succ]
  rfl
theorem unTo_len (b : List Int) (i : Nat) (hi : i ≤ 8 * b.length) : (unTo b i).length = 8 * b.length := by simp [unTo]; omega
theorem tunpack_l (b : List Int) (hb : AllB b) (hl : b.length ≤ 10000000) : ∀ d i, i + d = 8 * b.length → Ev (fun k => track_Unpack.l0 k b (unTo b i) ((8 * b.length : Nat) : Int) (i : Int)) (unpackL b) := by
  intro d
  induction d with
  | zero =>
    intro i hi
    refine Ev.step (f := fun _ => some (unpackL b)) (fun k => ?_) (Ev.now _)
    show track_Unpack.l0 (k + 1) _ _ _ _ = _
    obtain rfl : i = 8 * b.length := by omega
    rw [track_Unpack.l0, if_neg (by omega)]
    simp [unTo, unpackL]
  | succ d ih =>
    intro i hi
    have hlen := unTo_len b i (by omega)
    have hx := isB_rd hb ((i / 8 : Nat) : Int)
    refine Ev.step (fun k => ?_) (ih (i + 1) (by omega))
    show track_Unpack.l0 (k + 1) _ _ _ _ = _
    have key := shl_bit ⟨(rd b ((i / 8 : Nat) : Int)).toNat, by have := hx.1; have := hx.2; omega⟩ ⟨i % 8, by omega⟩
    simp only [Int.toNat_of_nonneg hx.1] at key
    rw [track_Unpack.l0, if_pos (by omega), Int.tdiv_eq_ediv_of_nonneg (by omega), Int.tmod_eq_emod_of_nonneg (by omega), wrap_in (n := (i : Int) / 8) (by omega) (by omega), wrap_in (n := (i : Int) + 1) (by omega) (by omega), if_pos (by omega), if_pos (by omega), if_pos (by omega), if_pos (by omega), if_pos (by omega),
      show (i : Int) / 8 = ((i / 8 : Nat) : Int) by omega, show (i : Int) % 8 = ((i % 8 : Nat) : Int) by omega, Int.toNat_natCast, key, unTo_step b i (by omega)]
    rfl
theorem tunpack (b : List Int) (hb : AllB b) (hl : b.length ≤ 10000000) : Ev (fun k => track_Unpack.f k b) (unpackL b) := by
  have h := tunpack_l b hb hl (8 * b.length) 0 (by omega)
  refine Ev.congr (fun k => ?_) h
  unfold track_Unpack.f
  rw [wrap_in (n := 8 * (b.length : Int)) (by omega) (by omega), if_pos (by omega), if_pos (by omega), Option.bind_some, show (8 * (b.length : Int)).toNat = 8 * b.length by omega, List.length_replicate]
  simp [unTo]
theorem ref_bit : ∀ x : Fin 256, ∀ j : Fin 8, (Int.tmod (wrap64 (Int.tdiv (wrap64 (x.val : Int)) ((2 ^ (7 - j.val) : Nat) : Int))) 2 == 1) = bitOf (x.val : Int) j.val := by decide +kernel
theorem half_by : ∀ j : Fin 8, wrap64 (Int.tdiv ((2 ^ (7 - j.val) : Nat) : Int) 2) = (if j.val = 7 then 0 else ((2 ^ (7 - (j.val + 1)) : Nat) : Int)) := by decide +kernel
def unSo (b : List Int) (i : Nat) : List Bool := (List.range i).map fun i => bitOf (rd b ((i / 8 : Nat) : Int)) (i % 8)
theorem unSo_succ (b : List Int) (i : Nat) : unSo b (i + 1) = unSo b i ++ [bitOf (rd b ((i / 8 : Nat) : Int)) (i % 8)] := by simp [unSo, List.range_succ]
theorem runpack_l1 (b : List Int) (hb : AllB b) (hl : b.length ≤ 10000000) (q : Nat) (hq : q < b.length) (r : List Bool) (hr : Ev (fun k => gatelineref11_Unpack.l0 k b (unSo b (8 * (q + 1))) ((q + 1 : Nat) : Int)) r) : ∀ d j, j + d = 8 →
    Ev (fun k => gatelineref11_Unpack.l1 k b (unSo b (8 * q + j)) (q : Int) (if j = 8 then 0 else ((2 ^ (7 - j) : Nat) : Int)) (j : Int)) r := by
  intro d
  induction d with
  | zero =>
    intro j hj
    obtain rfl : j = 8 := by omega
    refine Ev.step (fun k => ?_) hr
    show gatelineref11_Unpack.l1 (k + 1) _ _ _ _ _ = _
    rw [gatelineref11_Unpack.l1, if_neg (by omega), wrap_in (n := (q : Int) + 1) (by omega) (by omega)]
    rfl
  | succ d ih =>
    intro j hj
    have hx := isB_rd hb (q : Int)
    have key := ref_bit ⟨(rd b (q : Int)).toNat, by have := hx.1; have := hx.2; omega⟩ ⟨j, by omega⟩
    have hh := half_by ⟨j, by omega⟩
    simp only [Int.toNat_of_nonneg hx.1] at key
    simp only at hh
    have hp : 0 < 2 ^ (7 - j) := Nat.two_pow_pos _
    have hn : (unSo b (8 * q + j)).length = 8 * q + j := by simp [unSo]
    refine Ev.step (fun k => ?_) (ih (j + 1) (by omega))
    show gatelineref11_Unpack.l1 (k + 1) _ _ _ _ _ = _
    rw [gatelineref11_Unpack.l1, if_pos (by omega), if_pos (by omega), if_pos (by omega), if_neg (show ¬ j = 8 by omega), if_neg (by omega), if_pos (by omega), key, hh, wrap_in (n := (j : Int) + 1) (by omega) (by omega)]
    have h1 : (8 * q + j) / 8 = q := by omega
    have h2 : (8 * q + j) % 8 = j := by omega
    have e := unSo_succ b (8 * q + j)
    rw [h1, h2] at e
    rw [← e]
    have h3 : (if j = 7 then (0 : Int) else ((2 ^ (7 - (j + 1)) : Nat) : Int)) = (if j + 1 = 8 then 0 else ((2 ^ (7 - (j + 1)) : Nat) : Int)) := by
      by_cases h7 : j = 7
      · rw [if_pos h7, if_pos (by omega)]
      · rw [if_neg h7, if_neg (by omega)]
    rw [h3]
    rfl
theorem runpack_l0 (b : List Int) (hb : AllB b) (hl : b.length ≤ 10000000) : ∀ d q, q + d = b.length → Ev (fun k => gatelineref11_Unpack.l0 k b (unSo b (8 * q)) (q : Int)) (unpackL b) := by
  intro d
  induction d with
  | zero =>
    intro q hq
    obtain rfl : q = b.length := by omega
    refine Ev.step (f := fun _ => some (unpackL b)) (fun k => ?_) (Ev.now _)
    show gatelineref11_Unpack.l0 (k + 1) _ _ _ = _
    rw [gatelineref11_Unpack.l0, if_neg (by omega)]
    rfl
  | succ d ih =>
    intro q hq
    refine Ev.step (fun k => ?_) (runpack_l1 b hb hl q (by omega) _ (ih (q + 1) (by omega)) 8 0 rfl)
    show gatelineref11_Unpack.l0 (k + 1) _ _ _ = _
    rw [gatelineref11_Unpack.l0, if_pos (by omega)]
    rfl
theorem runpack (b : List Int) (hb : AllB b) (hl : b.length ≤ 10000000) : Ev (fun k => gatelineref11_Unpack.f k b) (unpackL b) := runpack_l0 b hb hl b.length 0 (by omega)

/-! ### they are one another's -/
theorem byte_bits : ∀ x : Fin 256, ((v8 (bitOf (x.val : Int) 0) (bitOf (x.val : Int) 1) (bitOf (x.val : Int) 2) (bitOf (x.val : Int) 3) (bitOf (x.val : Int) 4) (bitOf (x.val : Int) 5) (bitOf (x.val : Int) 6) (bitOf (x.val : Int) 7) : Nat) : Int) = (x.val : Int) := by decide +kernel
theorem unpackL_getD (b : List Int) (i : Nat) (hi : i < 8 * b.length) : (unpackL b).getD i false = bitOf (rd b ((i / 8 : Nat) : Int)) (i % 8) := by
  rw [List.getD_eq_getElem?_getD, List.getElem?_eq_getElem (by rw [unpackL_len]; exact hi)]
  simp [unpackL]
theorem pack_unpack (b : List Int) (hb : AllB b) : packL (unpackL b) = b := by
  have hlen : (packL (unpackL b)).length = b.length := by simp [packL, unpackL_len]; omega
  refine List.ext_getElem hlen fun q h1 h2 => ?_
  have hx := isB_rd hb (q : Int)
  have key := byte_bits ⟨(rd b (q : Int)).toNat, by have := hx.1; have := hx.2; omega⟩
  simp only [Int.toNat_of_nonneg hx.1] at key
  have g := fun t (ht : t < 8) => unpackL_getD b (8 * q + t) (by omega)
  have e := fun t (ht : t < 8) => show bitOf (rd b (((8 * q + t) / 8 : Nat) : Int)) ((8 * q + t) % 8) = bitOf (rd b (q : Int)) t by rw [show (8 * q + t) / 8 = q by omega, show (8 * q + t) % 8 = t by omega]
  have g0 : (unpackL b).getD (8 * q) false = bitOf (rd b (q : Int)) 0 := (g 0 (by omega)).trans (e 0 (by omega))
  simp only [packL, List.getElem_map, List.getElem_range]
  rw [byt8, g0, g 1 (by omega), g 2 (by omega), g 3 (by omega), g 4 (by omega), g 5 (by omega), g 6 (by omega), g 7 (by omega), e 1 (by omega), e 2 (by omega), e 3 (by omega), e 4 (by omega), e 5 (by omega), e 6 (by omega), e 7 (by omega), key, get_rd h2]
end Go.Proofs.Ytfmpeojlaibblaa.Pure

/-
  track.Put, the plain part: the program's tracks are the document's.
-/
namespace Go.Proofs.Ytfmpeojlaibblaa.Pure
open Go.RowKit Go.Proofs.Ytfmpeojlaibblaa.S Go.Proofs.YtfmpeojlaibblaaW.PrintWords Go.Proofs.YtfmpeojlaibblaaW.PrintLast Go.Proofs.YtfmpeojlaibblaaW.PrintMore

set_option maxRecDepth 100000 in
theorem tracked_ev : Ev (fun k => gatelinelaw11_tracked.f k) true := Ev.of (fun k => gatelinelaw11_tracked.mono k) (k := 200) (by decide +kernel)

def vals0 (l : List Int) : List Int := (11 :: l) ++ [15]
def vals1 (l : List Int) : List Int := vals0 l ++ [(sumP (vals0 l)).1]
def bitsOf (l : List Int) : List Bool := charsTo (vals1 l) (vals1 l).length
def fin (l : List Int) : List Int × Int := (packL (bitsOf l), 0)
def putL (l : List Int) (i : Nat) : List Int × Int := if (l.drop i).any (fun x => decide (9 < x)) = true then ([], 7) else fin l
theorem vals1_len (l : List Int) : (vals1 l).length = l.length + 3 := by simp [vals1, vals0]
theorem and_bit5 (v : Int) : andBit (chr v) = bit5 (chr v) := by
  have h := chr_bd v
  obtain ⟨n, hn⟩ := Int.eq_ofNat_of_zero_le h.1
  rw [hn] at h ⊢
  obtain ⟨h0, h1, h2, h3, h4⟩ := bits_all ⟨n, by omega⟩
  simp only at h0 h1 h2 h3 h4
  unfold andBit bit5
  rw [h0, h1, h2, h3, h4]
theorem rd_cons (x : Int) (l : List Int) (j : Nat) : rd (x :: l) ((j + 1 : Nat) : Int) = rd l (j : Int) := by
  unfold rd
  simp
theorem mem_rd {l : List Int} {v : Int} (h : v ∈ l) : ∃ j : Nat, j < l.length ∧ rd l (j : Int) = v := by
  obtain ⟨j, hj, he⟩ := List.getElem_of_mem h
  exact ⟨j, hj, by rw [rd_get hj, he]⟩
def Dig (l : List Int) : Prop := ∀ v ∈ l, 0 ≤ v ∧ v ≤ 9
theorem vals0_in {l : List Int} (h : Dig l) : ∀ v ∈ vals0 l, 0 ≤ v ∧ v ≤ 15 := by
  intro v hv
  simp only [vals0, List.cons_append, List.mem_cons, List.mem_append, List.not_mem_nil, or_false] at hv
  rcases hv with rfl | hv | rfl
  · omega
  · have := h v hv; omega
  · omega
theorem sumOk_in {l : List Int} (h : ∀ v ∈ l, 0 ≤ v ∧ v ≤ 15) : sumOk l l.length = true := by
  rw [sumOk_iff]
  intro j hj
  rw [rd_get hj]
  exact h _ (List.getElem_mem hj)
theorem sumP_in {l : List Int} (h : ∀ v ∈ l, 0 ≤ v ∧ v ≤ 15) : 0 ≤ (sumP l).1 ∧ (sumP l).1 ≤ 15 ∧ (sumP l).2 = 0 := by
  have ho := sumOk_in h
  unfold sumP
  rw [if_pos ho]
  simp only
  rw [sumAll_nat l _ ho]
  have := nsum_lt (fun j => (rd l (j : Int)).toNat) l.length (fun j hj => by have := (sumOk_iff l _).1 ho j hj; omega)
  exact ⟨by omega, by omega, trivial⟩
theorem vals1_in {l : List Int} (h : Dig l) : ∀ v ∈ vals1 l, 0 ≤ v ∧ v ≤ 15 := by
  intro v hv
  simp only [vals1, List.mem_append, List.mem_cons, List.not_mem_nil, or_false] at hv
  rcases hv with hv | rfl
  · exact vals0_in h v hv
  · have := sumP_in (vals0_in h); exact ⟨this.1, this.2.1⟩
theorem put_l1 (ys : List Int) (hy : ∀ v ∈ ys, 0 ≤ v ∧ v ≤ 15) (hl : ys.length ≤ 1000) : ∀ d i, i + d = ys.length →
    Ev (fun k => track_Put.l1 k (charsTo ys i) ys (ys.length : Int) (i : Int)) (packL (charsTo ys ys.length), 0) := by
  intro d
  induction d with
  | zero =>
    intro i hi
    obtain rfl : i = ys.length := by omega
    have hc := charsTo_len ys ys.length (Nat.le_refl _)
    refine Ev.step (f := fun k => (track_Pack.f k (charsTo ys ys.length)).bind fun t => some (t, 0)) (fun k => ?_) (Ev.bind (tpack _ (by omega)) (Ev.now _))
    show track_Put.l1 (k + 1) _ _ _ _ = _
    rw [track_Put.l1, if_neg (by omega)]
  | succ d ih =>
    intro i hi
    have hc := charsTo_len ys i (by omega)
    have hv := hy (rd ys (i : Int)) (by rw [rd_get (show i < ys.length by omega)]; exact List.getElem_mem _)
    refine Ev.step (fun k => ?_) (ih (i + 1) (by omega))
    show track_Put.l1 (k + 1) _ _ _ _ = _
    rw [track_Put.l1, if_pos (by omega), if_pos (by omega), if_pos (by omega)]
    unfold track_bits.f
    rw [if_pos hv, Option.bind_some, and_bit5, if_pos (by simp [bit5]; omega), wrap_in (n := (i : Int) + 1) (by omega) (by omega), charsTo_succ ys i (by omega)]
    rfl
theorem take_rd (l : List Int) (i : Nat) (h : i < l.length) : l.take (i + 1) = l.take i ++ [rd l (i : Int)] := by
  rw [List.take_succ_eq_append_getElem h, rd_get h]
theorem putL_step {l : List Int} {i : Nat} (h : i < l.length) : putL l i = if 9 < rd l (i : Int) then ([], 7) else putL l (i + 1) := by
  unfold putL
  rw [drop_rd h, List.any_cons]
  by_cases hb : 9 < rd l (i : Int)
  · simp [hb]
  · simp [hb]
theorem dig_all {l : List Int} (hb : AllB l) (h : ∀ j : Nat, j < l.length → ¬ 9 < rd l (j : Int)) : Dig l := by
  intro v hv
  obtain ⟨j, hj, rfl⟩ := mem_rd hv
  have := h j hj
  have := (isB_rd hb (j : Int)).1
  omega
theorem put_l0 (l : List Int) (hb : AllB l) (hl : l.length ≤ 77) : ∀ d i, i + d = l.length → (∀ j : Nat, j < i → ¬ 9 < rd l (j : Int)) → Ev (fun k => track_Put.l0 k (11 :: l.take i) l (l.length : Int) (i : Int)) (putL l i) := by
  intro d
  induction d with
  | zero =>
    intro i hi hg
    obtain rfl : i = l.length := by omega
    have hd := dig_all hb hg
    have h := put_l1 (vals1 l) (vals1_in hd) (by rw [vals1_len]; omega) (vals1 l).length 0 (by omega)
    have hp : putL l l.length = fin l := by simp [putL]
    rw [hp]
    refine Ev.step (fun k => ?_) h
    show track_Put.l0 (k + 1) _ _ _ _ = _
    rw [track_Put.l0, if_neg (by omega), List.take_length, if_pos (by simp; omega), Option.bind_some]
    have hv : 11 :: l ++ [15] = vals0 l := rfl
    rw [hv, psum _ (by simp [vals0]; omega), Option.bind_some, if_pos (by simp [vals0]; omega), Option.bind_some]
    rfl
  | succ d ih =>
    intro i hi hg
    have hx := isB_rd hb (i : Int)
    rw [putL_step (by omega)]
    by_cases h9 : 9 < rd l (i : Int)
    · rw [if_pos h9]
      refine Ev.step (f := fun _ => some ([], 7)) (fun k => ?_) (Ev.now _)
      show track_Put.l0 (k + 1) _ _ _ _ = _
      rw [track_Put.l0, if_pos (by omega), if_pos (by omega), if_pos (by omega), if_pos (by omega)]
    · rw [if_neg h9]
      refine Ev.step (fun k => ?_) (ih (i + 1) (by omega) (fun j hj => by
        rcases Nat.lt_or_ge j i with h | h
        · exact hg j h
        · obtain rfl : j = i := by omega
          exact h9))
      show track_Put.l0 (k + 1) _ _ _ _ = _
      have hx0 := hx.1
      have hx1 := hx.2
      rw [track_Put.l0, if_pos (by omega), if_pos (by omega), if_pos (by omega), if_neg (by omega), if_pos (by simp; omega), wrap_in (n := rd l (i : Int)) (by omega) (by omega), wrap_in (n := (i : Int) + 1) (by omega) (by omega), take_rd l i (by omega)]
      rfl
theorem rput_l0 (l : List Int) (hb : AllB l) (hl : l.length ≤ 77) : ∀ d i, i + d = l.length → (∀ j : Nat, j < i → ¬ 9 < rd l (j : Int)) → Ev (fun k => gatelineref11_Put.l0 k l (11 :: l.take i) (i : Int)) (putL l i) := by
  intro d
  induction d with
  | zero =>
    intro i hi hg
    obtain rfl : i = l.length := by omega
    have hd := dig_all hb hg
    have hp : putL l l.length = fin l := by simp [putL]
    rw [hp]
    have hcl := charsTo_len (vals1 l) (vals1 l).length (Nat.le_refl _)
    rw [vals1_len] at hcl
    have hch : gatelineref11_chars.f (vals1 l) = some (bitsOf l) := by
      unfold gatelineref11_chars.f
      rw [if_pos ⟨by rw [vals1_len]; omega, vals1_in hd⟩]
      rfl
    have h : Ev (fun k => (gatelineref10_Sum.f k (vals0 l)).bind fun s => (gatelineref11_chars.f (vals0 l ++ [s.1])).bind fun t => (gatelineref11_Pack.f k t).bind fun u => some (u, (0 : Int))) (fin l) := by
      refine Ev.bind (rsum (vals0 l) (by simp [vals0]; omega)) ?_
      refine Ev.congr (f := fun k => (gatelineref11_Pack.f k (bitsOf l)).bind fun u => some (u, (0 : Int))) (fun k => ?_) (Ev.bind (rpack (bitsOf l) (by unfold bitsOf; rw [vals1_len]; omega)) (Ev.now _))
      show (gatelineref11_chars.f (vals1 l)).bind _ = _
      rw [hch, Option.bind_some]
    refine Ev.step (fun k => ?_) h
    show gatelineref11_Put.l0 (k + 1) _ _ _ = _
    rw [gatelineref11_Put.l0, if_neg (by omega), List.take_length, if_pos (by simp; omega), Option.bind_some]
    have hv : 11 :: l ++ [15] = vals0 l := rfl
    have h0 : (vals0 l).length < 17592186044416 := by simp [vals0]; omega
    rw [hv]
    simp only [if_pos h0]
  | succ d ih =>
    intro i hi hg
    have hx := isB_rd hb (i : Int)
    rw [putL_step (by omega)]
    by_cases h9 : 9 < rd l (i : Int)
    · rw [if_pos h9]
      refine Ev.step (f := fun _ => some ([], 7)) (fun k => ?_) (Ev.now _)
      show gatelineref11_Put.l0 (k + 1) _ _ _ = _
      rw [gatelineref11_Put.l0, if_pos (by omega), if_pos (by omega), if_pos (by omega)]
    · rw [if_neg h9]
      refine Ev.step (fun k => ?_) (ih (i + 1) (by omega) (fun j hj => by
        rcases Nat.lt_or_ge j i with h | h
        · exact hg j h
        · obtain rfl : j = i := by omega
          exact h9))
      show gatelineref11_Put.l0 (k + 1) _ _ _ = _
      have hx0 := hx.1
      have hx1 := hx.2
      rw [gatelineref11_Put.l0, if_pos (by omega), if_pos (by omega), if_neg (by omega), if_pos (by simp; omega), wrap_in (n := rd l (i : Int)) (by omega) (by omega), wrap_in (n := (i : Int) + 1) (by omega) (by omega), take_rd l i (by omega)]
      rfl
/-- What a track is, or why there is none. -/
def put (l : List Int) : List Int × Int := if (l.length : Int) > 77 then ([], 21) else putL l 0
theorem tput (l : List Int) (hb : AllB l) : Ev (fun k => track_Put.f k l) (put l) := by
  unfold put track_Put.f
  by_cases h : (l.length : Int) > 77
  · simp only [if_pos h]; exact Ev.now _
  · simp only [if_neg h]
    exact put_l0 l hb (by omega) l.length 0 (by omega) (by omega)
theorem rput (l : List Int) (hb : AllB l) : Ev (fun k => gatelineref11_Put.f k l) (put l) := by
  unfold put gatelineref11_Put.f
  by_cases h : (l.length : Int) > 77
  · simp only [if_pos h]; exact Ev.now _
  · simp only [if_neg h]
    exact rput_l0 l hb (by omega) l.length 0 (by omega) (by omega)
theorem packL_len (l : List Bool) : (packL l).length = (l.length + 7) / 8 := by simp [packL]
theorem put_len (l : List Int) : (put l).1.length ≤ 1000 := by
  unfold put
  split
  · simp
  · unfold putL
    split
    · simp
    · simp only [fin, packL_len, bitsOf]
      rw [charsTo_len _ _ (Nat.le_refl _), vals1_len]
      omega
end Go.Proofs.Ytfmpeojlaibblaa.Pure
