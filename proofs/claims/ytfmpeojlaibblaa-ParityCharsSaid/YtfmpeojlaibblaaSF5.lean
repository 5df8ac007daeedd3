/- Written for this claim by a program of this session (handprint.py, over the kit's print). Lean checks it. -/
import Derived.Test.YtfmpeojlaibblaaS0
import Derived.Test.YtfmpeojlaibblaaSF23
import Derived.Test.YtfmpeojlaibblaaSF24
import Derived.Test.YtfmpeojlaibblaaSF25
import Derived.Test.YtfmpeojlaibblaaSF26
import Derived.Test.YtfmpeojlaibblaaSF27
namespace Go.Proofs.Ytfmpeojlaibblaa.S
open Go.RowKit Go.Proofs.YtfmpeojlaibblaaW.PrintWords Go.Proofs.YtfmpeojlaibblaaW.PrintLast Go.Proofs.YtfmpeojlaibblaaW.PrintMore
attribute [local go_sem] max2_int min2_int max_two min_two max_three min_three max_four min_four   -- for this text's walks alone
set_option linter.unusedVariables false
set_option linter.unusedSimpArgs false

/-! ### gatelinelaw10_ParityChars: function 5 -/
def gatelinelaw10_ParityChars.f (k : Nat) (a0 : Int) (a1 : Int) : Option (Bool) := (parity_Char.f a0).bind fun bt136 => ((gatelineref10_Char.f k a0).bind fun bt138 => ((parity_Value.f a1).bind fun bt140 => ((gatelineref10_Value.f k a1).bind fun bt142 => ((gatelinelaw10_odd.f).bind fun t144 => (if t144 = true then (if bt136.1 = bt138.1 then (if bt136.2 = bt138.2 then (if bt140.1 = bt142.1 then (some (bt140.2 == bt142.2)) else (none)) else (none)) else (none)) else (none))))))
theorem gatelinelaw10_ParityChars.mono : ∀ a0 a1 k, LeO (gatelinelaw10_ParityChars.f k a0 a1) (gatelinelaw10_ParityChars.f (k + 1) a0 a1) := by
  intro a0 a1 k
  unfold gatelinelaw10_ParityChars.f
  repeat' first
      | (with_reducible exact gatelineref10_Char.mono _ _)
      | (with_reducible exact gatelineref10_Value.mono _ _)
      | (with_reducible exact LeO.refl _)
      | (with_reducible exact LeO.none _)
      | (with_reducible refine LeO.ite ?_ ?_)
      | (with_reducible refine LeO.bind ?_ (fun _ => ?_))
      | exact gatelineref10_Char.mono _ _
      | exact gatelineref10_Value.mono _ _
      | exact LeO.none _
      | refine LeO.ite ?_ ?_
      | refine LeO.bind ?_ (fun _ => ?_)
set_option maxHeartbeats 8000000 in
set_option maxRecDepth 100000 in
theorem gatelinelaw10_ParityChars.calls (k : Nat) (a0 : Int) (a1 : Int) (r : Bool) (w : World) (h : gatelinelaw10_ParityChars.f k a0 a1 = some r) :
    Calls Try.prog 5 #[.int .i64 a0, .int .i64 a1] w fun e w' => e = .returned (.bool r) ∧ Below w.heap.size w w' := by
  have HB := Aside0.mk (Below.refl w.heap.size w)
  have H : ((parity_Char.f a0).bind fun bt136 => ((gatelineref10_Char.f k a0).bind fun bt138 => ((parity_Value.f a1).bind fun bt140 => ((gatelineref10_Value.f k a1).bind fun bt142 => ((gatelinelaw10_odd.f).bind fun t144 => (if t144 = true then (if bt136.1 = bt138.1 then (if bt136.2 = bt138.2 then (if bt140.1 = bt142.1 then (some (bt140.2 == bt142.2)) else (none)) else (none)) else (none)) else (none))))))) = some r := h
  clear h
  replace H := Option.bind_eq_some_iff.mp H
  obtain ⟨⟨t136, t137⟩, A30, H⟩ := H
  replace H : ((gatelineref10_Char.f k a0).bind fun bt138 => ((parity_Value.f a1).bind fun bt140 => ((gatelineref10_Value.f k a1).bind fun bt142 => ((gatelinelaw10_odd.f).bind fun t144 => (if t144 = true then (if t136 = bt138.1 then (if t137 = bt138.2 then (if bt140.1 = bt142.1 then (some (bt140.2 == bt142.2)) else (none)) else (none)) else (none)) else (none)))))) = some r := H
  have A3 := Aside0.mk A30
  clear A30
  replace H := Option.bind_eq_some_iff.mp H
  obtain ⟨⟨t138, t139⟩, A40, H⟩ := H
  replace H : ((parity_Value.f a1).bind fun bt140 => ((gatelineref10_Value.f k a1).bind fun bt142 => ((gatelinelaw10_odd.f).bind fun t144 => (if t144 = true then (if t136 = t138 then (if t137 = t139 then (if bt140.1 = bt142.1 then (some (bt140.2 == bt142.2)) else (none)) else (none)) else (none)) else (none))))) = some r := H
  have A4 := Aside0.mk A40
  clear A40
  replace H := Option.bind_eq_some_iff.mp H
  obtain ⟨⟨t140, t141⟩, A50, H⟩ := H
  replace H : ((gatelineref10_Value.f k a1).bind fun bt142 => ((gatelinelaw10_odd.f).bind fun t144 => (if t144 = true then (if t136 = t138 then (if t137 = t139 then (if t140 = bt142.1 then (some (t141 == bt142.2)) else (none)) else (none)) else (none)) else (none)))) = some r := H
  have A5 := Aside0.mk A50
  clear A50
  replace H := Option.bind_eq_some_iff.mp H
  obtain ⟨⟨t142, t143⟩, A60, H⟩ := H
  replace H : ((gatelinelaw10_odd.f).bind fun t144 => (if t144 = true then (if t136 = t138 then (if t137 = t139 then (if t140 = t142 then (some (t141 == t143)) else (none)) else (none)) else (none)) else (none))) = some r := H
  have A6 := Aside0.mk A60
  clear A60
  replace H := Option.bind_eq_some_iff.mp H
  obtain ⟨t144, A70, H⟩ := H
  replace H : (if t144 = true then (if t136 = t138 then (if t137 = t139 then (if t140 = t142 then (some (t141 == t143)) else (none)) else (none)) else (none)) else (none)) = some r := H
  have A7 := Aside0.mk A70
  clear A70
  by_cases c8 : t144 = true
  · subst c8
    have H1 : (if t136 = t138 then (if t137 = t139 then (if t140 = t142 then (some (t141 == t143)) else (none)) else (none)) else (none)) = some r := by rw [if_pos rfl] at H; exact H
    clear H
    have H := H1
    clear H1
    by_cases c9 : t136 = t138
    · rw [if_pos c9] at H
      have c9b0 : (t136 == t138) = true := beq_iff_eq.mpr c9
      have c9b1 : (t136 != t138) = false := bne_eq_false_iff_eq.mpr c9
      clear c9
      by_cases c10 : t137 = t139
      · rw [if_pos c10] at H
        have c10b0 : (t137 == t139) = true := beq_iff_eq.mpr c10
        have c10b1 : (t137 != t139) = false := bne_eq_false_iff_eq.mpr c10
        clear c10
        by_cases c11 : t140 = t142
        · rw [if_pos c11] at H
          have c11b0 : (t140 == t142) = true := beq_iff_eq.mpr c11
          have c11b1 : (t140 != t142) = false := bne_eq_false_iff_eq.mpr c11
          clear c11
          obtain rfl := Option.some.inj H
          go_enter Try.func5, Try.ntmps5
          go_wp2_with (first | ((with_reducible refine gate_callee (f := 23) rfl ?_); refine goesL_ (some 15) rfl rfl Try.func23 (by kernel_rfl) rfl #[.int .i64 a0] rfl (by (try simp only [List.map_toArray, List.map_cons, List.map_nil]); first | done | rfl | (simp only [List.length_drop, List.length_take]; rfl)) ?_; (with_reducible refine (parity_Char.calls a0 t136 t137 _ A3.out).mono ?_); rintro e w' ⟨rfl, ⟨nd, rfl⟩⟩; refine ⟨_, rfl, ?_⟩) | ((with_reducible refine gate_callee (f := 24) rfl ?_); refine goesL_ (some 20) rfl rfl Try.func24 (by kernel_rfl) rfl #[.int .i64 a0] rfl (by (try simp only [List.map_toArray, List.map_cons, List.map_nil]); first | done | rfl | (simp only [List.length_drop, List.length_take]; rfl)) ?_; (with_reducible refine (gatelineref10_Char.calls k a0 t138 t139 _ A4.out).mono ?_); rintro e w' ⟨rfl, ⟨nd, rfl⟩⟩; refine ⟨_, rfl, ?_⟩) | ((with_reducible refine gate_callee (f := 25) rfl ?_); refine goesL_ (some 25) rfl rfl Try.func25 (by kernel_rfl) rfl #[.int .i64 a1] rfl (by (try simp only [List.map_toArray, List.map_cons, List.map_nil]); first | done | rfl | (simp only [List.length_drop, List.length_take]; rfl)) ?_; (with_reducible refine (parity_Value.calls a1 t140 t141 _ A5.out).mono ?_); rintro e w' ⟨rfl, ⟨nd, rfl⟩⟩; refine ⟨_, rfl, ?_⟩) | ((with_reducible refine gate_callee (f := 26) rfl ?_); refine goesL_ (some 30) rfl rfl Try.func26 (by kernel_rfl) rfl #[.int .i64 a1] rfl (by (try simp only [List.map_toArray, List.map_cons, List.map_nil]); first | done | rfl | (simp only [List.length_drop, List.length_take]; rfl)) ?_; (with_reducible refine (gatelineref10_Value.calls k a1 t142 t143 _ A6.out).mono ?_); rintro e w' ⟨rfl, ⟨nd, rfl⟩⟩; refine ⟨_, rfl, ?_⟩) | ((with_reducible refine gate_callee (f := 27) rfl ?_); refine goesL_ (some 33) rfl rfl Try.func27 (by kernel_rfl) rfl #[] rfl (by (try simp only [List.map_toArray, List.map_cons, List.map_nil]); first | done | rfl | (simp only [List.length_drop, List.length_take]; rfl)) ?_; (with_reducible refine (gatelinelaw10_odd.calls  true _ A7.out).mono ?_); rintro e w12 ⟨rfl, hb⟩; refine ⟨_, rfl, ?_⟩; have n0_ := Aside0.mk (below_step (by repeat (first | (with_reducible first | exact HB.out | apply below_alloc | apply pw_below_drewN | apply below_drew1) | exact HB.out)) hb); clear HB; have HB := n0_; clear n0_; (try clear hb); (try clear hb2); (try clear hk); (try clear hi)))
          go_ret
          exact ⟨by first | rfl | (simp [errW_none, errW_some] <;> rfl) | (simp [*, errW_none, errW_some] <;> rfl), by repeat (first | (with_reducible first | exact HB.out | apply below_alloc | apply pw_below_drewN | apply below_drew1) | exact HB.out)⟩
        · rw [if_neg c11] at H
          exact absurd H (by simp)
      · rw [if_neg c10] at H
        exact absurd H (by simp)
    · rw [if_neg c9] at H
      exact absurd H (by simp)
  · replace c8 := Bool.eq_false_iff.mpr c8
    subst c8
    have H1 : (none) = some r := by rw [if_neg (show ¬ (false = true) by decide)] at H; exact H
    clear H
    have H := H1
    clear H1
    exact absurd H (by simp)

/-- THE ONE PURE STATEMENT of gatelinelaw10_ParityChars: yours. -/
def gatelinelaw10_ParityChars.Pure : Prop := ∀ (a0 : Int) (a1 : Int), (Lit.int .i64 a0).wf = true → (Lit.int .i64 a1).wf = true → ∃ k, gatelinelaw10_ParityChars.f k a0 a1 = some true
theorem gatelinelaw10_ParityChars.walk (P : gatelinelaw10_ParityChars.Pure) (a0 : Int) (a1 : Int) (w : World) (w0 : (Lit.int .i64 a0).wf = true) (w1 : (Lit.int .i64 a1).wf = true) :
    Calls Try.prog 5 #[.int .i64 a0, .int .i64 a1] w fun e w' => e = .returned (.bool true) ∧ Below w.heap.size w w' := by
  obtain ⟨k, h⟩ := P a0 a1 w0 w1
  refine (gatelinelaw10_ParityChars.calls k a0 a1 true w h).mono ?_
  rintro e w' ⟨rfl, hd⟩
  exact ⟨rfl, hd⟩

end Go.Proofs.Ytfmpeojlaibblaa.S
