/- Written for this claim by a program of this session (handprint.py, over the kit's print). Lean checks it. -/
import Derived.Test.YtfmpeojlaibblaaS0
import Derived.Test.YtfmpeojlaibblaaSF50
import Derived.Test.YtfmpeojlaibblaaSF51
namespace Go.Proofs.Ytfmpeojlaibblaa.S
open Go.RowKit Go.Proofs.YtfmpeojlaibblaaW.PrintWords Go.Proofs.YtfmpeojlaibblaaW.PrintLast Go.Proofs.YtfmpeojlaibblaaW.PrintMore
attribute [local go_sem] max2_int min2_int max_two min_two max_three min_three max_four min_four   -- for this text's walks alone
set_option linter.unusedVariables false
set_option linter.unusedSimpArgs false

/-! ### parity_Value: function 25 -/
def parity_Value.f (a0 : Int) : Option (Int × Int) := (parity_within.f a0 31).bind fun t105 => (if t105 = true then ((bits_OnesCount.f (IntKind.u64.wrap (a0))).bind fun t106 => (if (Go.bits .and .i64 t106 1) = 0 then (some (0, 3)) else (some (Go.bits .and .i64 a0 15, 0)))) else (some (0, 1)))
set_option maxHeartbeats 8000000 in
set_option maxRecDepth 100000 in
theorem parity_Value.calls (a0 : Int) (r1 : Int) (r2 : Int) (w : World) (h : parity_Value.f a0 = some (r1, r2)) :
    Calls Try.prog 25 #[.int .i64 a0] w fun e w' => e = .returned (.tuple #[.int .i64 r1, .int .i64 r2]) ∧ Drawn0 w w' := by
  have H : ((parity_within.f a0 31).bind fun t105 => (if t105 = true then ((bits_OnesCount.f (IntKind.u64.wrap (a0))).bind fun t106 => (if (Go.bits .and .i64 t106 1) = 0 then (some (0, 3)) else (some (Go.bits .and .i64 a0 15, 0)))) else (some (0, 1)))) = some (r1, r2) := h
  clear h
  replace H := Option.bind_eq_some_iff.mp H
  obtain ⟨t105, A20, H⟩ := H
  replace H : (if t105 = true then ((bits_OnesCount.f (IntKind.u64.wrap (a0))).bind fun t106 => (if (Go.bits .and .i64 t106 1) = 0 then (some (0, 3)) else (some (Go.bits .and .i64 a0 15, 0)))) else (some (0, 1))) = some (r1, r2) := H
  have A2 := Aside0.mk A20
  clear A20
  by_cases c3 : t105 = true
  · subst c3
    have H1 : ((bits_OnesCount.f (IntKind.u64.wrap (a0))).bind fun t106 => (if (Go.bits .and .i64 t106 1) = 0 then (some (0, 3)) else (some (Go.bits .and .i64 a0 15, 0)))) = some (r1, r2) := by rw [if_pos rfl] at H; exact H
    clear H
    have H := H1
    clear H1
    replace H := Option.bind_eq_some_iff.mp H
    obtain ⟨t106, A40, H⟩ := H
    replace H : (if (Go.bits .and .i64 t106 1) = 0 then (some (0, 3)) else (some (Go.bits .and .i64 a0 15, 0))) = some (r1, r2) := H
    have A4 := Aside0.mk A40
    clear A40
    by_cases c5 : (Go.bits .and .i64 t106 1) = 0
    · rw [if_pos c5] at H
      have c5b0 : ((Go.bits .and .i64 t106 1) == 0) = true := beq_iff_eq.mpr c5
      have c5b1 : ((Go.bits .and .i64 t106 1) != 0) = false := bne_eq_false_iff_eq.mpr c5
      clear c5
      simp only [Option.some.injEq, Prod.mk.injEq] at H
      obtain ⟨rfl, rfl⟩ := H
      go_enter Try.func25, Try.ntmps25
      go_wp2_with (first | ((with_reducible refine gate_callee (f := 50) rfl ?_); refine goesL_ (some 6) rfl rfl Try.func50 (by kernel_rfl) rfl #[.int .i64 a0, .int .i64 31] rfl (by (try simp only [List.map_toArray, List.map_cons, List.map_nil]); first | done | rfl | (simp only [List.length_drop, List.length_take]; rfl)) ?_; (with_reducible refine (parity_within.calls a0 31 true _ A2.out).mono ?_); rintro e w' ⟨rfl, ⟨nd, rfl⟩⟩; refine ⟨_, rfl, ?_⟩) | ((with_reducible refine gate_callee (f := 51) rfl ?_); refine goesL_ (some 11) rfl rfl Try.func51 (by kernel_rfl) rfl #[.int .u64 (IntKind.u64.wrap (a0))] rfl (by (try simp only [List.map_toArray, List.map_cons, List.map_nil]); first | done | rfl | (simp only [List.length_drop, List.length_take]; rfl)) ?_; (with_reducible refine (bits_OnesCount.calls (IntKind.u64.wrap (a0)) t106 _ A4.out).mono ?_); rintro e w' ⟨rfl, ⟨nd, rfl⟩⟩; refine ⟨_, rfl, ?_⟩))
      go_ret2
      exact ⟨by first | rfl | (simp; done) | (simp [*]; done), by repeat (first | exact Drawn0.refl _ | apply Drawn0.step)⟩
    · rw [if_neg c5] at H
      have c5b0 : ((Go.bits .and .i64 t106 1) == 0) = false := beq_eq_false_iff_ne.mpr c5
      have c5b1 : ((Go.bits .and .i64 t106 1) != 0) = true := bne_iff_ne.mpr c5
      simp only [Option.some.injEq, Prod.mk.injEq] at H
      obtain ⟨rfl, rfl⟩ := H
      go_enter Try.func25, Try.ntmps25
      go_wp2_with (first | ((with_reducible refine gate_callee (f := 50) rfl ?_); refine goesL_ (some 6) rfl rfl Try.func50 (by kernel_rfl) rfl #[.int .i64 a0, .int .i64 31] rfl (by (try simp only [List.map_toArray, List.map_cons, List.map_nil]); first | done | rfl | (simp only [List.length_drop, List.length_take]; rfl)) ?_; (with_reducible refine (parity_within.calls a0 31 true _ A2.out).mono ?_); rintro e w' ⟨rfl, ⟨nd, rfl⟩⟩; refine ⟨_, rfl, ?_⟩) | ((with_reducible refine gate_callee (f := 51) rfl ?_); refine goesL_ (some 11) rfl rfl Try.func51 (by kernel_rfl) rfl #[.int .u64 (IntKind.u64.wrap (a0))] rfl (by (try simp only [List.map_toArray, List.map_cons, List.map_nil]); first | done | rfl | (simp only [List.length_drop, List.length_take]; rfl)) ?_; (with_reducible refine (bits_OnesCount.calls (IntKind.u64.wrap (a0)) t106 _ A4.out).mono ?_); rintro e w' ⟨rfl, ⟨nd, rfl⟩⟩; refine ⟨_, rfl, ?_⟩))
      go_ret2
      exact ⟨by first | rfl | (simp; done) | (simp [*]; done), by repeat (first | exact Drawn0.refl _ | apply Drawn0.step)⟩
  · replace c3 := Bool.eq_false_iff.mpr c3
    subst c3
    have H1 : (some (0, 1)) = some (r1, r2) := by rw [if_neg (show ¬ (false = true) by decide)] at H; exact H
    clear H
    have H := H1
    clear H1
    simp only [Option.some.injEq, Prod.mk.injEq] at H
    obtain ⟨rfl, rfl⟩ := H
    go_enter Try.func25, Try.ntmps25
    go_wp2_with (first | ((with_reducible refine gate_callee (f := 50) rfl ?_); refine goesL_ (some 6) rfl rfl Try.func50 (by kernel_rfl) rfl #[.int .i64 a0, .int .i64 31] rfl (by (try simp only [List.map_toArray, List.map_cons, List.map_nil]); first | done | rfl | (simp only [List.length_drop, List.length_take]; rfl)) ?_; (with_reducible refine (parity_within.calls a0 31 false _ A2.out).mono ?_); rintro e w' ⟨rfl, ⟨nd, rfl⟩⟩; refine ⟨_, rfl, ?_⟩))
    go_ret2
    exact ⟨by first | rfl | (simp; done) | (simp [*]; done), by repeat (first | exact Drawn0.refl _ | apply Drawn0.step)⟩

end Go.Proofs.Ytfmpeojlaibblaa.S
