/-
  ParityFlips: the walk of the law's Go code: one bit of a value's character that is changed is told.
-/
import Derived.Test.YtfmpeojlaibblaaHTBits
import Derived.Test.YtfmpeojlaibblaaHOf
import Derived.Test.YtfmpeojlaibblaaSF25
import Derived.Test.YtfmpeojlaibblaaSF27
namespace Go.Proofs.Ytfmpeojlaibblaa.S
open Go.RowKit Go.Proofs.YtfmpeojlaibblaaW.PrintWords Go.Proofs.YtfmpeojlaibblaaW.PrintLast Go.Proofs.YtfmpeojlaibblaaW.PrintMore

theorem odd_ok : gatelinelaw10_odd.f = some true := by decide +kernel
theorem odd_at (w : World) : Calls Try.prog 27 #[] w fun e w' => e = .returned (.bool true) ∧ Below w.heap.size w w' := gatelinelaw10_odd.calls true w odd_ok
theorem pchar_no (v : Int) (h : ¬ (0 ≤ v ∧ v ≤ 15)) (w : World) : Calls Try.prog 23 #[.int .i64 v] w fun e w' => e = .returned (.tuple #[.int .i64 0, .int .i64 1]) ∧ Drawn0 w w' := by
  refine parity_Char.calls v 0 1 w ?_
  have hw : parity_within.f v 15 = some false := by
    unfold parity_within.f
    by_cases h0 : v ≥ 0
    · rw [if_pos h0]; simp; omega
    · rw [if_neg h0]
  unfold parity_Char.f
  rw [hw]
  rfl
def bq (n : Nat) (i : Nat) : Bool := (andBit (chr (n : Int))).getD i false
theorem flip_0 : ∀ n : Fin 16, parity_Value.f (ofTo (!bq n 0) (bq n 1) (bq n 2) (bq n 3) (bq n 4) 5) = some (0, 3) := by decide +kernel
theorem flip_1 : ∀ n : Fin 16, parity_Value.f (ofTo (bq n 0) (!bq n 1) (bq n 2) (bq n 3) (bq n 4) 5) = some (0, 3) := by decide +kernel
theorem flip_2 : ∀ n : Fin 16, parity_Value.f (ofTo (bq n 0) (bq n 1) (!bq n 2) (bq n 3) (bq n 4) 5) = some (0, 3) := by decide +kernel
theorem flip_3 : ∀ n : Fin 16, parity_Value.f (ofTo (bq n 0) (bq n 1) (bq n 2) (!bq n 3) (bq n 4) 5) = some (0, 3) := by decide +kernel
theorem flip_4 : ∀ n : Fin 16, parity_Value.f (ofTo (bq n 0) (bq n 1) (bq n 2) (bq n 3) (!bq n 4) 5) = some (0, 3) := by decide +kernel
theorem pbits_at (n : Nat) (hn : n < 16) (W : World) : Calls Try.prog 30 #[.int .i64 (chr (n : Int))] W fun e w' => e = .returned (.tuple #[.agg #[.bool (bq n 0), .bool (bq n 1), .bool (bq n 2), .bool (bq n 3), .bool (bq n 4)], .int .i64 0]) ∧ Below W.heap.size W w' :=
  bits_yes _ W (chr_bd _).1 (chr_bd _).2
theorem pbits_zero (W : World) : Calls Try.prog 30 #[.int .i64 0] W fun e w' => e = .returned (.tuple #[.agg #[.bool false, .bool false, .bool false, .bool false, .bool false], .int .i64 0]) ∧ Below W.heap.size W w' :=
  parity_Bits.calls 0 false false false false false 0 W (by decide +kernel)

set_option maxHeartbeats 2000000 in
theorem flips_bad (v bit : Int) (w : World) (h : ¬ (0 ≤ v ∧ v ≤ 15)) :
    Calls Try.prog 8 #[.int .i64 v, .int .i64 bit] w fun e w' => e = .returned (.bool true) ∧ Below w.heap.size w w' := by
  go_enter Try.func8, Try.ntmps8
  go_wp2_with (first | (go_at_call 23; refine (pchar_no v h _).mono ?_; rintro e w1 ⟨rfl, ⟨nd, rfl⟩⟩) | (go_at_call 30; refine (pbits_zero _).mono ?_; rintro e w2 ⟨rfl, hb2⟩) | (go_at_call 27; refine (odd_at _).mono ?_; rintro e w3 ⟨rfl, hb3⟩))
  go_ret
  exact ⟨rfl, below_step (below_alloc (below_step (pw_below_drewN (Below.refl _ w) nd) hb2) _) hb3⟩
set_option maxHeartbeats 2000000 in
theorem flips_out (n : Nat) (hn : n < 16) (bit : Int) (w : World) (h : bit < 0 ∨ 4 < bit) :
    Calls Try.prog 8 #[.int .i64 n, .int .i64 bit] w fun e w' => e = .returned (.bool true) ∧ Below w.heap.size w w' := by
  rcases h with h | h
  · have d0 : decide (bit < 0) = true := decide_eq_true h
    go_enter Try.func8, Try.ntmps8
    go_wp2_with (first | (go_at_call 23; refine (pchar_at _ (by omega) (by omega) _).mono ?_; rintro e w1 ⟨rfl, ⟨nd, rfl⟩⟩) | (go_at_call 30; refine (pbits_at n hn _).mono ?_; rintro e w2 ⟨rfl, hb2⟩) | (go_at_call 27; refine (odd_at _).mono ?_; rintro e w3 ⟨rfl, hb3⟩))
    go_ret
    exact ⟨rfl, below_step (below_alloc (below_step (pw_below_drewN (Below.refl _ w) nd) hb2) _) hb3⟩
  · have d0 : decide (bit < 0) = false := decide_eq_false (by omega)
    have d1 : decide (4 < bit) = true := decide_eq_true h
    go_enter Try.func8, Try.ntmps8
    go_wp2_with (first | (go_at_call 23; refine (pchar_at _ (by omega) (by omega) _).mono ?_; rintro e w1 ⟨rfl, ⟨nd, rfl⟩⟩) | (go_at_call 30; refine (pbits_at n hn _).mono ?_; rintro e w2 ⟨rfl, hb2⟩) | (go_at_call 27; refine (odd_at _).mono ?_; rintro e w3 ⟨rfl, hb3⟩))
    go_ret
    exact ⟨rfl, below_step (below_alloc (below_step (pw_below_drewN (Below.refl _ w) nd) hb2) _) hb3⟩
set_option maxHeartbeats 2000000 in
theorem flips_at_0 (n : Nat) (hn : n < 16) (w : World) :
    Calls Try.prog 8 #[.int .i64 n, .int .i64 0] w fun e w' => e = .returned (.bool true) ∧ Below w.heap.size w w' := by
  have hB := pbits_at n hn
  have hF := flip_0 ⟨n, hn⟩
  simp only at hF
  generalize bq n 0 = b0 at hB hF
  generalize bq n 1 = b1 at hB hF
  generalize bq n 2 = b2 at hB hF
  generalize bq n 3 = b3 at hB hF
  generalize bq n 4 = b4 at hB hF
  have HF := Lib.hid hF
  clear hF
  go_enter Try.func8, Try.ntmps8
  go_wp2_with (first | (go_at_call 23; refine (pchar_at _ (by omega) (by omega) _).mono ?_; rintro e w1 ⟨rfl, ⟨nd, rfl⟩⟩) | (go_at_call 30; refine (hB _).mono ?_; rintro e w2 ⟨rfl, hb2⟩) | (go_at_call 32; refine (of_walk _ _ _ _ _ _).mono ?_; rintro e w4 ⟨rfl, hb4⟩) | (go_at_call 25; refine (parity_Value.calls _ _ _ _ HF.out).mono ?_; rintro e w5 ⟨rfl, ⟨nd5, rfl⟩⟩) | (go_at_call 27; refine (odd_at _).mono ?_; rintro e w3 ⟨rfl, hb3⟩))
  go_ret
  refine ⟨rfl, below_step (pw_below_drewN (below_step ?_ hb4) nd5) hb3⟩
  first | exact below_alloc (below_step (pw_below_drewN (Below.refl _ w) nd) hb2) _ | exact (below_alloc (below_step (pw_below_drewN (Below.refl _ w) nd) hb2) _).setCell (below_step (pw_below_drewN (Below.refl _ w) nd) hb2).size _
set_option maxHeartbeats 2000000 in
theorem flips_at_1 (n : Nat) (hn : n < 16) (w : World) :
    Calls Try.prog 8 #[.int .i64 n, .int .i64 1] w fun e w' => e = .returned (.bool true) ∧ Below w.heap.size w w' := by
  have hB := pbits_at n hn
  have hF := flip_1 ⟨n, hn⟩
  simp only at hF
  generalize bq n 0 = b0 at hB hF
  generalize bq n 1 = b1 at hB hF
  generalize bq n 2 = b2 at hB hF
  generalize bq n 3 = b3 at hB hF
  generalize bq n 4 = b4 at hB hF
  have HF := Lib.hid hF
  clear hF
  go_enter Try.func8, Try.ntmps8
  go_wp2_with (first | (go_at_call 23; refine (pchar_at _ (by omega) (by omega) _).mono ?_; rintro e w1 ⟨rfl, ⟨nd, rfl⟩⟩) | (go_at_call 30; refine (hB _).mono ?_; rintro e w2 ⟨rfl, hb2⟩) | (go_at_call 32; refine (of_walk _ _ _ _ _ _).mono ?_; rintro e w4 ⟨rfl, hb4⟩) | (go_at_call 25; refine (parity_Value.calls _ _ _ _ HF.out).mono ?_; rintro e w5 ⟨rfl, ⟨nd5, rfl⟩⟩) | (go_at_call 27; refine (odd_at _).mono ?_; rintro e w3 ⟨rfl, hb3⟩))
  go_ret
  refine ⟨rfl, below_step (pw_below_drewN (below_step ?_ hb4) nd5) hb3⟩
  first | exact below_alloc (below_step (pw_below_drewN (Below.refl _ w) nd) hb2) _ | exact (below_alloc (below_step (pw_below_drewN (Below.refl _ w) nd) hb2) _).setCell (below_step (pw_below_drewN (Below.refl _ w) nd) hb2).size _
set_option maxHeartbeats 2000000 in
theorem flips_at_2 (n : Nat) (hn : n < 16) (w : World) :
    Calls Try.prog 8 #[.int .i64 n, .int .i64 2] w fun e w' => e = .returned (.bool true) ∧ Below w.heap.size w w' := by
  have hB := pbits_at n hn
  have hF := flip_2 ⟨n, hn⟩
  simp only at hF
  generalize bq n 0 = b0 at hB hF
  generalize bq n 1 = b1 at hB hF
  generalize bq n 2 = b2 at hB hF
  generalize bq n 3 = b3 at hB hF
  generalize bq n 4 = b4 at hB hF
  have HF := Lib.hid hF
  clear hF
  go_enter Try.func8, Try.ntmps8
  go_wp2_with (first | (go_at_call 23; refine (pchar_at _ (by omega) (by omega) _).mono ?_; rintro e w1 ⟨rfl, ⟨nd, rfl⟩⟩) | (go_at_call 30; refine (hB _).mono ?_; rintro e w2 ⟨rfl, hb2⟩) | (go_at_call 32; refine (of_walk _ _ _ _ _ _).mono ?_; rintro e w4 ⟨rfl, hb4⟩) | (go_at_call 25; refine (parity_Value.calls _ _ _ _ HF.out).mono ?_; rintro e w5 ⟨rfl, ⟨nd5, rfl⟩⟩) | (go_at_call 27; refine (odd_at _).mono ?_; rintro e w3 ⟨rfl, hb3⟩))
  go_ret
  refine ⟨rfl, below_step (pw_below_drewN (below_step ?_ hb4) nd5) hb3⟩
  first | exact below_alloc (below_step (pw_below_drewN (Below.refl _ w) nd) hb2) _ | exact (below_alloc (below_step (pw_below_drewN (Below.refl _ w) nd) hb2) _).setCell (below_step (pw_below_drewN (Below.refl _ w) nd) hb2).size _
set_option maxHeartbeats 2000000 in
theorem flips_at_3 (n : Nat) (hn : n < 16) (w : World) :
    Calls Try.prog 8 #[.int .i64 n, .int .i64 3] w fun e w' => e = .returned (.bool true) ∧ Below w.heap.size w w' := by
  have hB := pbits_at n hn
  have hF := flip_3 ⟨n, hn⟩
  simp only at hF
  generalize bq n 0 = b0 at hB hF
  generalize bq n 1 = b1 at hB hF
  generalize bq n 2 = b2 at hB hF
  generalize bq n 3 = b3 at hB hF
  generalize bq n 4 = b4 at hB hF
  have HF := Lib.hid hF
  clear hF
  go_enter Try.func8, Try.ntmps8
  go_wp2_with (first | (go_at_call 23; refine (pchar_at _ (by omega) (by omega) _).mono ?_; rintro e w1 ⟨rfl, ⟨nd, rfl⟩⟩) | (go_at_call 30; refine (hB _).mono ?_; rintro e w2 ⟨rfl, hb2⟩) | (go_at_call 32; refine (of_walk _ _ _ _ _ _).mono ?_; rintro e w4 ⟨rfl, hb4⟩) | (go_at_call 25; refine (parity_Value.calls _ _ _ _ HF.out).mono ?_; rintro e w5 ⟨rfl, ⟨nd5, rfl⟩⟩) | (go_at_call 27; refine (odd_at _).mono ?_; rintro e w3 ⟨rfl, hb3⟩))
  go_ret
  refine ⟨rfl, below_step (pw_below_drewN (below_step ?_ hb4) nd5) hb3⟩
  first | exact below_alloc (below_step (pw_below_drewN (Below.refl _ w) nd) hb2) _ | exact (below_alloc (below_step (pw_below_drewN (Below.refl _ w) nd) hb2) _).setCell (below_step (pw_below_drewN (Below.refl _ w) nd) hb2).size _
set_option maxHeartbeats 2000000 in
theorem flips_at_4 (n : Nat) (hn : n < 16) (w : World) :
    Calls Try.prog 8 #[.int .i64 n, .int .i64 4] w fun e w' => e = .returned (.bool true) ∧ Below w.heap.size w w' := by
  have hB := pbits_at n hn
  have hF := flip_4 ⟨n, hn⟩
  simp only at hF
  generalize bq n 0 = b0 at hB hF
  generalize bq n 1 = b1 at hB hF
  generalize bq n 2 = b2 at hB hF
  generalize bq n 3 = b3 at hB hF
  generalize bq n 4 = b4 at hB hF
  have HF := Lib.hid hF
  clear hF
  go_enter Try.func8, Try.ntmps8
  go_wp2_with (first | (go_at_call 23; refine (pchar_at _ (by omega) (by omega) _).mono ?_; rintro e w1 ⟨rfl, ⟨nd, rfl⟩⟩) | (go_at_call 30; refine (hB _).mono ?_; rintro e w2 ⟨rfl, hb2⟩) | (go_at_call 32; refine (of_walk _ _ _ _ _ _).mono ?_; rintro e w4 ⟨rfl, hb4⟩) | (go_at_call 25; refine (parity_Value.calls _ _ _ _ HF.out).mono ?_; rintro e w5 ⟨rfl, ⟨nd5, rfl⟩⟩) | (go_at_call 27; refine (odd_at _).mono ?_; rintro e w3 ⟨rfl, hb3⟩))
  go_ret
  refine ⟨rfl, below_step (pw_below_drewN (below_step ?_ hb4) nd5) hb3⟩
  first | exact below_alloc (below_step (pw_below_drewN (Below.refl _ w) nd) hb2) _ | exact (below_alloc (below_step (pw_below_drewN (Below.refl _ w) nd) hb2) _).setCell (below_step (pw_below_drewN (Below.refl _ w) nd) hb2).size _
theorem flips_walk (v bit : Int) (w : World) : Calls Try.prog 8 #[.int .i64 v, .int .i64 bit] w fun e w' => e = .returned (.bool true) ∧ Below w.heap.size w w' := by
  by_cases hv : 0 ≤ v ∧ v ≤ 15
  · obtain ⟨n, rfl⟩ := Int.eq_ofNat_of_zero_le hv.1
    by_cases hb : bit < 0 ∨ 4 < bit
    · exact flips_out n (by omega) bit w hb
    · obtain h | h | h | h | h : bit = 0 ∨ bit = 1 ∨ bit = 2 ∨ bit = 3 ∨ bit = 4 := by omega
      · subst h; exact flips_at_0 n (by omega) w
      · subst h; exact flips_at_1 n (by omega) w
      · subst h; exact flips_at_2 n (by omega) w
      · subst h; exact flips_at_3 n (by omega) w
      · subst h; exact flips_at_4 n (by omega) w
  · exact flips_bad v bit w hv
end Go.Proofs.Ytfmpeojlaibblaa.S
