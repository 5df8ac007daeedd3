/- Written for this claim by a program of this session (handprint.py, over the kit's print). Lean checks it. -/
import Derived.Test.YtfmpeojlaibblaaS0
import Derived.Test.YtfmpeojlaibblaaSE36
import Derived.Test.YtfmpeojlaibblaaSF23
import Derived.Test.YtfmpeojlaibblaaSF25
import Derived.Test.YtfmpeojlaibblaaHBits
import Derived.Test.YtfmpeojlaibblaaHOf
import Derived.Test.YtfmpeojlaibblaaHSum
namespace Go.Proofs.Ytfmpeojlaibblaa.S
open Go.RowKit Go.Proofs.YtfmpeojlaibblaaW.PrintWords Go.Proofs.YtfmpeojlaibblaaW.PrintLast Go.Proofs.YtfmpeojlaibblaaW.PrintMore
attribute [local go_sem] max2_int min2_int max_two min_two max_three min_three max_four min_four   -- for this text's walks alone
set_option linter.unusedVariables false
set_option linter.unusedSimpArgs false

attribute [local go_sem high] eqA36
/-! ### gatelinelaw10_odd: function 27 -/
def gatelinelaw10_odd.f  : Option (Bool) := (parity_Char.f 11).bind fun bt108 => ((parity_Char.f 15).bind fun bt110 => ((parity_Value.f 31).bind fun bt112 => ((parity_Value.f 15).bind fun bt114 => ((parity_Value.f 32).bind fun bt116 => ((parity_Sum.f (([11, 3, 15] : List Int))).bind fun bt121 => ((parity_Sum.f (([1, 16] : List Int))).bind fun bt126 => ((parity_Bits.f 11).bind fun bt128 => (if bt108.2 = 0 then (if bt108.1 = 11 then (if bt110.2 = bt108.2 then (if bt110.1 = 31 then (if bt112.2 = bt108.2 then (if bt112.1 = 15 then (if bt114.2 = 3 then (if bt116.2 = 1 then (if bt121.2 = bt108.2 then (if bt121.1 = 7 then (if bt126.2 = bt116.2 then (if bt128.2.2.2.2.2 = bt108.2 then (if (bt128.1 && (bt128.2.1 && (!bt128.2.2.1 && (bt128.2.2.2.1 && (!bt128.2.2.2.2.1))))) = true then ((parity_Of.f bt128.1 bt128.2.1 bt128.2.2.1 bt128.2.2.2.1 bt128.2.2.2.2.1).bind fun t135 => (some (t135 == 11))) else (none)) else (none)) else (none)) else (none)) else (none)) else (none)) else (none)) else (none)) else (none)) else (none)) else (none)) else (none)) else (none)))))))))
set_option maxHeartbeats 8000000 in
set_option maxRecDepth 100000 in
theorem gatelinelaw10_odd.calls  (r : Bool) (w : World) (h : gatelinelaw10_odd.f  = some r) :
    Calls Try.prog 27 #[] w fun e w' => e = .returned (.bool r) ∧ Below w.heap.size w w' := by
  have hu36 := Try.underlying36
  have HB := Aside0.mk (Below.refl w.heap.size w)
  have H : ((parity_Char.f 11).bind fun bt108 => ((parity_Char.f 15).bind fun bt110 => ((parity_Value.f 31).bind fun bt112 => ((parity_Value.f 15).bind fun bt114 => ((parity_Value.f 32).bind fun bt116 => ((parity_Sum.f (([11, 3, 15] : List Int))).bind fun bt121 => ((parity_Sum.f (([1, 16] : List Int))).bind fun bt126 => ((parity_Bits.f 11).bind fun bt128 => (if bt108.2 = 0 then (if bt108.1 = 11 then (if bt110.2 = bt108.2 then (if bt110.1 = 31 then (if bt112.2 = bt108.2 then (if bt112.1 = 15 then (if bt114.2 = 3 then (if bt116.2 = 1 then (if bt121.2 = bt108.2 then (if bt121.1 = 7 then (if bt126.2 = bt116.2 then (if bt128.2.2.2.2.2 = bt108.2 then (if (bt128.1 && (bt128.2.1 && (!bt128.2.2.1 && (bt128.2.2.2.1 && (!bt128.2.2.2.2.1))))) = true then ((parity_Of.f bt128.1 bt128.2.1 bt128.2.2.1 bt128.2.2.2.1 bt128.2.2.2.2.1).bind fun t135 => (some (t135 == 11))) else (none)) else (none)) else (none)) else (none)) else (none)) else (none)) else (none)) else (none)) else (none)) else (none)) else (none)) else (none)) else (none)))))))))) = some r := h
  clear h
  replace H := Option.bind_eq_some_iff.mp H
  obtain ⟨⟨t108, t109⟩, A10, H⟩ := H
  replace H : ((parity_Char.f 15).bind fun bt110 => ((parity_Value.f 31).bind fun bt112 => ((parity_Value.f 15).bind fun bt114 => ((parity_Value.f 32).bind fun bt116 => ((parity_Sum.f (([11, 3, 15] : List Int))).bind fun bt121 => ((parity_Sum.f (([1, 16] : List Int))).bind fun bt126 => ((parity_Bits.f 11).bind fun bt128 => (if t109 = 0 then (if t108 = 11 then (if bt110.2 = t109 then (if bt110.1 = 31 then (if bt112.2 = t109 then (if bt112.1 = 15 then (if bt114.2 = 3 then (if bt116.2 = 1 then (if bt121.2 = t109 then (if bt121.1 = 7 then (if bt126.2 = bt116.2 then (if bt128.2.2.2.2.2 = t109 then (if (bt128.1 && (bt128.2.1 && (!bt128.2.2.1 && (bt128.2.2.2.1 && (!bt128.2.2.2.2.1))))) = true then ((parity_Of.f bt128.1 bt128.2.1 bt128.2.2.1 bt128.2.2.2.1 bt128.2.2.2.2.1).bind fun t135 => (some (t135 == 11))) else (none)) else (none)) else (none)) else (none)) else (none)) else (none)) else (none)) else (none)) else (none)) else (none)) else (none)) else (none)) else (none))))))))) = some r := H
  have A1 := Aside0.mk A10
  clear A10
  replace H := Option.bind_eq_some_iff.mp H
  obtain ⟨⟨t110, t111⟩, A20, H⟩ := H
  replace H : ((parity_Value.f 31).bind fun bt112 => ((parity_Value.f 15).bind fun bt114 => ((parity_Value.f 32).bind fun bt116 => ((parity_Sum.f (([11, 3, 15] : List Int))).bind fun bt121 => ((parity_Sum.f (([1, 16] : List Int))).bind fun bt126 => ((parity_Bits.f 11).bind fun bt128 => (if t109 = 0 then (if t108 = 11 then (if t111 = t109 then (if t110 = 31 then (if bt112.2 = t109 then (if bt112.1 = 15 then (if bt114.2 = 3 then (if bt116.2 = 1 then (if bt121.2 = t109 then (if bt121.1 = 7 then (if bt126.2 = bt116.2 then (if bt128.2.2.2.2.2 = t109 then (if (bt128.1 && (bt128.2.1 && (!bt128.2.2.1 && (bt128.2.2.2.1 && (!bt128.2.2.2.2.1))))) = true then ((parity_Of.f bt128.1 bt128.2.1 bt128.2.2.1 bt128.2.2.2.1 bt128.2.2.2.2.1).bind fun t135 => (some (t135 == 11))) else (none)) else (none)) else (none)) else (none)) else (none)) else (none)) else (none)) else (none)) else (none)) else (none)) else (none)) else (none)) else (none)))))))) = some r := H
  have A2 := Aside0.mk A20
  clear A20
  replace H := Option.bind_eq_some_iff.mp H
  obtain ⟨⟨t112, t113⟩, A30, H⟩ := H
  replace H : ((parity_Value.f 15).bind fun bt114 => ((parity_Value.f 32).bind fun bt116 => ((parity_Sum.f (([11, 3, 15] : List Int))).bind fun bt121 => ((parity_Sum.f (([1, 16] : List Int))).bind fun bt126 => ((parity_Bits.f 11).bind fun bt128 => (if t109 = 0 then (if t108 = 11 then (if t111 = t109 then (if t110 = 31 then (if t113 = t109 then (if t112 = 15 then (if bt114.2 = 3 then (if bt116.2 = 1 then (if bt121.2 = t109 then (if bt121.1 = 7 then (if bt126.2 = bt116.2 then (if bt128.2.2.2.2.2 = t109 then (if (bt128.1 && (bt128.2.1 && (!bt128.2.2.1 && (bt128.2.2.2.1 && (!bt128.2.2.2.2.1))))) = true then ((parity_Of.f bt128.1 bt128.2.1 bt128.2.2.1 bt128.2.2.2.1 bt128.2.2.2.2.1).bind fun t135 => (some (t135 == 11))) else (none)) else (none)) else (none)) else (none)) else (none)) else (none)) else (none)) else (none)) else (none)) else (none)) else (none)) else (none)) else (none))))))) = some r := H
  have A3 := Aside0.mk A30
  clear A30
  replace H := Option.bind_eq_some_iff.mp H
  obtain ⟨⟨t114, t115⟩, A40, H⟩ := H
  replace H : ((parity_Value.f 32).bind fun bt116 => ((parity_Sum.f (([11, 3, 15] : List Int))).bind fun bt121 => ((parity_Sum.f (([1, 16] : List Int))).bind fun bt126 => ((parity_Bits.f 11).bind fun bt128 => (if t109 = 0 then (if t108 = 11 then (if t111 = t109 then (if t110 = 31 then (if t113 = t109 then (if t112 = 15 then (if t115 = 3 then (if bt116.2 = 1 then (if bt121.2 = t109 then (if bt121.1 = 7 then (if bt126.2 = bt116.2 then (if bt128.2.2.2.2.2 = t109 then (if (bt128.1 && (bt128.2.1 && (!bt128.2.2.1 && (bt128.2.2.2.1 && (!bt128.2.2.2.2.1))))) = true then ((parity_Of.f bt128.1 bt128.2.1 bt128.2.2.1 bt128.2.2.2.1 bt128.2.2.2.2.1).bind fun t135 => (some (t135 == 11))) else (none)) else (none)) else (none)) else (none)) else (none)) else (none)) else (none)) else (none)) else (none)) else (none)) else (none)) else (none)) else (none)))))) = some r := H
  have A4 := Aside0.mk A40
  clear A40
  replace H := Option.bind_eq_some_iff.mp H
  obtain ⟨⟨t116, t117⟩, A50, H⟩ := H
  replace H : ((parity_Sum.f (([11, 3, 15] : List Int))).bind fun bt121 => ((parity_Sum.f (([1, 16] : List Int))).bind fun bt126 => ((parity_Bits.f 11).bind fun bt128 => (if t109 = 0 then (if t108 = 11 then (if t111 = t109 then (if t110 = 31 then (if t113 = t109 then (if t112 = 15 then (if t115 = 3 then (if t117 = 1 then (if bt121.2 = t109 then (if bt121.1 = 7 then (if bt126.2 = t117 then (if bt128.2.2.2.2.2 = t109 then (if (bt128.1 && (bt128.2.1 && (!bt128.2.2.1 && (bt128.2.2.2.1 && (!bt128.2.2.2.2.1))))) = true then ((parity_Of.f bt128.1 bt128.2.1 bt128.2.2.1 bt128.2.2.2.1 bt128.2.2.2.2.1).bind fun t135 => (some (t135 == 11))) else (none)) else (none)) else (none)) else (none)) else (none)) else (none)) else (none)) else (none)) else (none)) else (none)) else (none)) else (none)) else (none))))) = some r := H
  have A5 := Aside0.mk A50
  clear A50
  obtain ⟨y118, hy118⟩ : ∃ y_ : List Int, y_ = (([11, 3, 15] : List Int)) := ⟨_, rfl⟩
  replace H : ((parity_Sum.f y118).bind fun bt121 => ((parity_Sum.f (([1, 16] : List Int))).bind fun bt126 => ((parity_Bits.f 11).bind fun bt128 => (if t109 = 0 then (if t108 = 11 then (if t111 = t109 then (if t110 = 31 then (if t113 = t109 then (if t112 = 15 then (if t115 = 3 then (if t117 = 1 then (if bt121.2 = t109 then (if bt121.1 = 7 then (if bt126.2 = t117 then (if bt128.2.2.2.2.2 = t109 then (if (bt128.1 && (bt128.2.1 && (!bt128.2.2.1 && (bt128.2.2.2.1 && (!bt128.2.2.2.2.1))))) = true then ((parity_Of.f bt128.1 bt128.2.1 bt128.2.2.1 bt128.2.2.2.1 bt128.2.2.2.2.1).bind fun t135 => (some (t135 == 11))) else (none)) else (none)) else (none)) else (none)) else (none)) else (none)) else (none)) else (none)) else (none)) else (none)) else (none)) else (none)) else (none))))) = some r := by first | (rw [hy118]; with_reducible exact H) | (have H2_ := (Option.bind_some _ _).symm.trans H; rw [hy118]; with_reducible exact H2_) | (have H2_ := (Option.bind_some _ _).symm.trans H; with_reducible exact H2_) | with_reducible exact H | (rw [hy118]; exact H) | exact H
  have Ny118 := Aside0.mk hy118
  clear hy118
  replace H := Option.bind_eq_some_iff.mp H
  obtain ⟨⟨t121, t122⟩, A60, H⟩ := H
  replace H : ((parity_Sum.f (([1, 16] : List Int))).bind fun bt126 => ((parity_Bits.f 11).bind fun bt128 => (if t109 = 0 then (if t108 = 11 then (if t111 = t109 then (if t110 = 31 then (if t113 = t109 then (if t112 = 15 then (if t115 = 3 then (if t117 = 1 then (if t122 = t109 then (if t121 = 7 then (if bt126.2 = t117 then (if bt128.2.2.2.2.2 = t109 then (if (bt128.1 && (bt128.2.1 && (!bt128.2.2.1 && (bt128.2.2.2.1 && (!bt128.2.2.2.2.1))))) = true then ((parity_Of.f bt128.1 bt128.2.1 bt128.2.2.1 bt128.2.2.2.1 bt128.2.2.2.2.1).bind fun t135 => (some (t135 == 11))) else (none)) else (none)) else (none)) else (none)) else (none)) else (none)) else (none)) else (none)) else (none)) else (none)) else (none)) else (none)) else (none)))) = some r := H
  have A6 := Aside0.mk A60
  clear A60
  obtain ⟨y123, hy123⟩ : ∃ y_ : List Int, y_ = (([1, 16] : List Int)) := ⟨_, rfl⟩
  replace H : ((parity_Sum.f y123).bind fun bt126 => ((parity_Bits.f 11).bind fun bt128 => (if t109 = 0 then (if t108 = 11 then (if t111 = t109 then (if t110 = 31 then (if t113 = t109 then (if t112 = 15 then (if t115 = 3 then (if t117 = 1 then (if t122 = t109 then (if t121 = 7 then (if bt126.2 = t117 then (if bt128.2.2.2.2.2 = t109 then (if (bt128.1 && (bt128.2.1 && (!bt128.2.2.1 && (bt128.2.2.2.1 && (!bt128.2.2.2.2.1))))) = true then ((parity_Of.f bt128.1 bt128.2.1 bt128.2.2.1 bt128.2.2.2.1 bt128.2.2.2.2.1).bind fun t135 => (some (t135 == 11))) else (none)) else (none)) else (none)) else (none)) else (none)) else (none)) else (none)) else (none)) else (none)) else (none)) else (none)) else (none)) else (none)))) = some r := by first | (rw [hy123]; with_reducible exact H) | (have H2_ := (Option.bind_some _ _).symm.trans H; rw [hy123]; with_reducible exact H2_) | (have H2_ := (Option.bind_some _ _).symm.trans H; with_reducible exact H2_) | with_reducible exact H | (rw [hy123]; exact H) | exact H
  have Ny123 := Aside0.mk hy123
  clear hy123
  replace H := Option.bind_eq_some_iff.mp H
  obtain ⟨⟨t126, t127⟩, A70, H⟩ := H
  replace H : ((parity_Bits.f 11).bind fun bt128 => (if t109 = 0 then (if t108 = 11 then (if t111 = t109 then (if t110 = 31 then (if t113 = t109 then (if t112 = 15 then (if t115 = 3 then (if t117 = 1 then (if t122 = t109 then (if t121 = 7 then (if t127 = t117 then (if bt128.2.2.2.2.2 = t109 then (if (bt128.1 && (bt128.2.1 && (!bt128.2.2.1 && (bt128.2.2.2.1 && (!bt128.2.2.2.2.1))))) = true then ((parity_Of.f bt128.1 bt128.2.1 bt128.2.2.1 bt128.2.2.2.1 bt128.2.2.2.2.1).bind fun t135 => (some (t135 == 11))) else (none)) else (none)) else (none)) else (none)) else (none)) else (none)) else (none)) else (none)) else (none)) else (none)) else (none)) else (none)) else (none))) = some r := H
  have A7 := Aside0.mk A70
  clear A70
  replace H := Option.bind_eq_some_iff.mp H
  obtain ⟨⟨t128, t129, t130, t131, t132, t133⟩, A80, H⟩ := H
  replace H : (if t109 = 0 then (if t108 = 11 then (if t111 = t109 then (if t110 = 31 then (if t113 = t109 then (if t112 = 15 then (if t115 = 3 then (if t117 = 1 then (if t122 = t109 then (if t121 = 7 then (if t127 = t117 then (if t133 = t109 then (if (t128 && (t129 && (!t130 && (t131 && (!t132))))) = true then ((parity_Of.f t128 t129 t130 t131 t132).bind fun t135 => (some (t135 == 11))) else (none)) else (none)) else (none)) else (none)) else (none)) else (none)) else (none)) else (none)) else (none)) else (none)) else (none)) else (none)) else (none)) = some r := H
  have A8 := Aside0.mk A80
  clear A80
  by_cases c9 : t109 = 0
  · rw [if_pos c9] at H
    have c9b0 : (t109 == 0) = true := beq_iff_eq.mpr c9
    have c9b1 : (t109 != 0) = false := bne_eq_false_iff_eq.mpr c9
    clear c9
    by_cases c10 : t108 = 11
    · rw [if_pos c10] at H
      have c10b0 : (t108 == 11) = true := beq_iff_eq.mpr c10
      have c10b1 : (t108 != 11) = false := bne_eq_false_iff_eq.mpr c10
      clear c10
      by_cases c11 : t111 = t109
      · rw [if_pos c11] at H
        have c11b0 : (t111 == t109) = true := beq_iff_eq.mpr c11
        have c11b1 : (t111 != t109) = false := bne_eq_false_iff_eq.mpr c11
        clear c11
        by_cases c12 : t110 = 31
        · rw [if_pos c12] at H
          have c12b0 : (t110 == 31) = true := beq_iff_eq.mpr c12
          have c12b1 : (t110 != 31) = false := bne_eq_false_iff_eq.mpr c12
          clear c12
          by_cases c13 : t113 = t109
          · rw [if_pos c13] at H
            have c13b0 : (t113 == t109) = true := beq_iff_eq.mpr c13
            have c13b1 : (t113 != t109) = false := bne_eq_false_iff_eq.mpr c13
            clear c13
            by_cases c14 : t112 = 15
            · rw [if_pos c14] at H
              have c14b0 : (t112 == 15) = true := beq_iff_eq.mpr c14
              have c14b1 : (t112 != 15) = false := bne_eq_false_iff_eq.mpr c14
              clear c14
              by_cases c15 : t115 = 3
              · rw [if_pos c15] at H
                have c15b0 : (t115 == 3) = true := beq_iff_eq.mpr c15
                have c15b1 : (t115 != 3) = false := bne_eq_false_iff_eq.mpr c15
                clear c15
                by_cases c16 : t117 = 1
                · rw [if_pos c16] at H
                  have c16b0 : (t117 == 1) = true := beq_iff_eq.mpr c16
                  have c16b1 : (t117 != 1) = false := bne_eq_false_iff_eq.mpr c16
                  clear c16
                  by_cases c17 : t122 = t109
                  · rw [if_pos c17] at H
                    have c17b0 : (t122 == t109) = true := beq_iff_eq.mpr c17
                    have c17b1 : (t122 != t109) = false := bne_eq_false_iff_eq.mpr c17
                    clear c17
                    by_cases c18 : t121 = 7
                    · rw [if_pos c18] at H
                      have c18b0 : (t121 == 7) = true := beq_iff_eq.mpr c18
                      have c18b1 : (t121 != 7) = false := bne_eq_false_iff_eq.mpr c18
                      clear c18
                      by_cases c19 : t127 = t117
                      · rw [if_pos c19] at H
                        have c19b0 : (t127 == t117) = true := beq_iff_eq.mpr c19
                        have c19b1 : (t127 != t117) = false := bne_eq_false_iff_eq.mpr c19
                        clear c19
                        by_cases c20 : t133 = t109
                        · rw [if_pos c20] at H
                          have c20b0 : (t133 == t109) = true := beq_iff_eq.mpr c20
                          have c20b1 : (t133 != t109) = false := bne_eq_false_iff_eq.mpr c20
                          clear c20
                          by_cases c21 : (t128 && (t129 && (!t130 && (t131 && (!t132))))) = true
                          · rw [if_pos c21] at H
                            have c21b0 : (t128 && (t129 && (!t130 && (t131 && (!t132))))) = true := c21
                            clear c21
                            replace H := Option.bind_eq_some_iff.mp H
                            obtain ⟨t135, A220, H⟩ := H
                            replace H : (some (t135 == 11)) = some r := H
                            have A22 := Aside0.mk A220
                            clear A220
                            obtain rfl := Option.some.inj H
                            go_enter Try.func27, Try.ntmps27
                            go_wp2_with (first | ((with_reducible refine gate_callee (f := 23) rfl ?_); refine goesL_ (some 18) rfl rfl Try.func23 (by kernel_rfl) rfl #[.int .i64 11] rfl (by (try simp only [List.map_toArray, List.map_cons, List.map_nil]); first | done | rfl | (simp only [List.length_drop, List.length_take]; rfl)) ?_; (with_reducible refine (parity_Char.calls 11 t108 t109 _ A1.out).mono ?_); rintro e w' ⟨rfl, ⟨nd, rfl⟩⟩; refine ⟨_, rfl, ?_⟩) | ((with_reducible refine gate_callee (f := 23) rfl ?_); refine goesL_ (some 22) rfl rfl Try.func23 (by kernel_rfl) rfl #[.int .i64 15] rfl (by (try simp only [List.map_toArray, List.map_cons, List.map_nil]); first | done | rfl | (simp only [List.length_drop, List.length_take]; rfl)) ?_; (with_reducible refine (parity_Char.calls 15 t110 t111 _ A2.out).mono ?_); rintro e w' ⟨rfl, ⟨nd, rfl⟩⟩; refine ⟨_, rfl, ?_⟩) | ((with_reducible refine gate_callee (f := 25) rfl ?_); refine goesL_ (some 26) rfl rfl Try.func25 (by kernel_rfl) rfl #[.int .i64 31] rfl (by (try simp only [List.map_toArray, List.map_cons, List.map_nil]); first | done | rfl | (simp only [List.length_drop, List.length_take]; rfl)) ?_; (with_reducible refine (parity_Value.calls 31 t112 t113 _ A3.out).mono ?_); rintro e w' ⟨rfl, ⟨nd, rfl⟩⟩; refine ⟨_, rfl, ?_⟩) | ((with_reducible refine gate_callee (f := 25) rfl ?_); refine goesL_ (some 30) rfl rfl Try.func25 (by kernel_rfl) rfl #[.int .i64 15] rfl (by (try simp only [List.map_toArray, List.map_cons, List.map_nil]); first | done | rfl | (simp only [List.length_drop, List.length_take]; rfl)) ?_; (with_reducible refine (parity_Value.calls 15 t114 t115 _ A4.out).mono ?_); rintro e w' ⟨rfl, ⟨nd, rfl⟩⟩; refine ⟨_, rfl, ?_⟩) | ((with_reducible refine gate_callee (f := 25) rfl ?_); refine goesL_ (some 34) rfl rfl Try.func25 (by kernel_rfl) rfl #[.int .i64 32] rfl (by (try simp only [List.map_toArray, List.map_cons, List.map_nil]); first | done | rfl | (simp only [List.length_drop, List.length_take]; rfl)) ?_; (with_reducible refine (parity_Value.calls 32 t116 t117 _ A5.out).mono ?_); rintro e w' ⟨rfl, ⟨nd, rfl⟩⟩; refine ⟨_, rfl, ?_⟩) | ((with_reducible refine gate_dst (N := 38) rfl ?_); refine Kd.R_lit (Kd.int .i64) _ 3 ?hg (N := 38) ?hd (xs := ([11, 3, 15] : List Int)) (inner := [.int .i64 11, .int .i64 3, .int .i64 15]) (ok := fun _ => True) (okp := fun _ => True) ?hr ?hp (fun _ hk => hk) trivial (Below.refl _ _) (Nat.le_refl _) (by simp) ?_; (case hd => rfl); (case hg => rfl); (case hr => first | (go_simp; done) | (go_simp; rfl)); (case hp => exact (Reps.one (show Kd.M (Kd.int .i64) _ _ _ 11 [.int .i64 11] from rfl) (Reps.one (show Kd.M (Kd.int .i64) _ _ _ 3 [.int .i64 3] from rfl) (Reps.one (show Kd.M (Kd.int .i64) _ _ _ 15 [.int .i64 15] from rfl) (Reps.none _ _))))); intro v119 w23 ho24 hb hg_ hnew_; clear hg_ hnew_; (first | rw [← Ny118.out] at ho24 | (simp only [Int.reduceToNat] at ho24; rw [← Ny118.out] at ho24)); have n0_ := Aside0.mk (Kd.R_lower ho24 (below_size (by repeat (first | (with_reducible first | exact HB.out | apply below_alloc | apply pw_below_drewN | apply below_drew1) | exact HB.out)))); have n1_ := Aside0.mk (below_step (by repeat (first | (with_reducible first | exact HB.out | apply below_alloc | apply pw_below_drewN | apply below_drew1) | exact HB.out)) hb); clear HB; have HO120 := n0_; have HB := n1_; clear n0_ n1_; clear hb ho24; obtain ⟨Ao25, co25, eo25⟩ := Kd.R_slice HO120.out; subst eo25) | ((with_reducible refine gate_callee (f := 28) rfl ?_); refine goesL_ (some 39) rfl rfl Try.func28 (by kernel_rfl) rfl #[.slice Ao25 y118.length co25] rfl (by (try simp only [List.map_toArray, List.map_cons, List.map_nil]); first | done | rfl | (simp only [List.length_drop, List.length_take]; rfl)) ?_; (with_reducible refine (parity_Sum.calls _ _ y118 t121 t122 _ ?side1 ?side2 A6.out).mono ?_); (case side1 => repeat (first | exact (Kd.R_reads' HO120.out).2.2 | (with_reducible refine Kd.C_alloc ?_ _) | (with_reducible refine Kd.C_drewN ?_ _) | (with_reducible refine Kd.C_drew ?_))); (case side2 => exact (Kd.R_reads' HO120.out).2.1); rintro e w26 ⟨rfl, hb⟩; refine ⟨_, rfl, ?_⟩; have n0_ := Aside0.mk (Kd.R_below (by (with_reducible repeat (first | apply Kd.R_alloc | apply Kd.R_drewN | apply Kd.R_drew)); exact HO120.out) hb); have n1_ := Aside0.mk (below_step (by repeat (first | (with_reducible first | exact HB.out | apply below_alloc | apply pw_below_drewN | apply below_drew1) | exact HB.out)) hb); clear HO120; clear HB; have HO120 := n0_; have HB := n1_; clear n0_ n1_; (try clear hb); (try clear hb2); (try clear hk); (try clear hi)) | ((with_reducible refine gate_dst (N := 43) rfl ?_); refine Kd.R_lit (Kd.int .i64) _ 3 ?hg (N := 43) ?hd (xs := ([1, 16] : List Int)) (inner := [.int .i64 1, .int .i64 16]) (ok := fun _ => True) (okp := fun _ => True) ?hr ?hp (fun _ hk => hk) trivial (Below.refl _ _) (Nat.le_refl _) (by simp) ?_; (case hd => rfl); (case hg => rfl); (case hr => first | (go_simp; done) | (go_simp; rfl)); (case hp => exact (Reps.one (show Kd.M (Kd.int .i64) _ _ _ 1 [.int .i64 1] from rfl) (Reps.one (show Kd.M (Kd.int .i64) _ _ _ 16 [.int .i64 16] from rfl) (Reps.none _ _)))); intro v124 w27 ho28 hb hg_ hnew_; clear hg_ hnew_; (first | rw [← Ny123.out] at ho28 | (simp only [Int.reduceToNat] at ho28; rw [← Ny123.out] at ho28)); have n0_ := Aside0.mk (Kd.R_elder' (by (with_reducible repeat (first | apply Kd.R_alloc | apply Kd.R_drewN | apply Kd.R_drew)); exact HO120.out) (Kd.R_base ho28) hb); have n1_ := Aside0.mk (Kd.R_lower (Kd.R_new' ho28 (Kd.R_lt (by (with_reducible repeat (first | apply Kd.R_alloc | apply Kd.R_drewN | apply Kd.R_drew)); exact HO120.out))) (below_size (by repeat (first | (with_reducible first | exact HB.out | apply below_alloc | apply pw_below_drewN | apply below_drew1) | exact HB.out)))); have n2_ := Aside0.mk (below_step (by repeat (first | (with_reducible first | exact HB.out | apply below_alloc | apply pw_below_drewN | apply below_drew1) | exact HB.out)) hb); clear HO120; clear HB; have HO120 := n0_; have HO125 := n1_; have HB := n2_; clear n0_ n1_ n2_; clear hb ho28; obtain ⟨Ao29, co29, eo29⟩ := Kd.R_slice HO125.out; subst eo29) | ((with_reducible refine gate_callee (f := 28) rfl ?_); refine goesL_ (some 44) rfl rfl Try.func28 (by kernel_rfl) rfl #[.slice Ao29 y123.length co29] rfl (by (try simp only [List.map_toArray, List.map_cons, List.map_nil]); first | done | rfl | (simp only [List.length_drop, List.length_take]; rfl)) ?_; (with_reducible refine (parity_Sum.calls _ _ y123 t126 t127 _ ?side1 ?side2 A7.out).mono ?_); (case side1 => repeat (first | exact (Kd.R_reads' HO125.out).2.2 | (with_reducible refine Kd.C_alloc ?_ _) | (with_reducible refine Kd.C_drewN ?_ _) | (with_reducible refine Kd.C_drew ?_))); (case side2 => exact (Kd.R_reads' HO125.out).2.1); rintro e w30 ⟨rfl, hb⟩; refine ⟨_, rfl, ?_⟩; have n0_ := Aside0.mk (Kd.R_below (by (with_reducible repeat (first | apply Kd.R_alloc | apply Kd.R_drewN | apply Kd.R_drew)); exact HO120.out) hb); have n1_ := Aside0.mk (Kd.R_below (by (with_reducible repeat (first | apply Kd.R_alloc | apply Kd.R_drewN | apply Kd.R_drew)); exact HO125.out) hb); have n2_ := Aside0.mk (below_step (by repeat (first | (with_reducible first | exact HB.out | apply below_alloc | apply pw_below_drewN | apply below_drew1) | exact HB.out)) hb); clear HO120; clear HO125; clear HB; have HO120 := n0_; have HO125 := n1_; have HB := n2_; clear n0_ n1_ n2_; (try clear hb); (try clear hb2); (try clear hk); (try clear hi)) | ((with_reducible refine gate_callee (f := 30) rfl ?_); refine goesL_ (some 48) rfl rfl Try.func30 (by kernel_rfl) rfl #[.int .i64 11] rfl (by (try simp only [List.map_toArray, List.map_cons, List.map_nil]); first | done | rfl | (simp only [List.length_drop, List.length_take]; rfl)) ?_; (with_reducible refine (parity_Bits.calls 11 t128 t129 t130 t131 t132 t133 _ A8.out).mono ?_); rintro e w31 ⟨rfl, hb⟩; refine ⟨_, rfl, ?_⟩; have n0_ := Aside0.mk (Kd.R_below (by (with_reducible repeat (first | apply Kd.R_alloc | apply Kd.R_drewN | apply Kd.R_drew)); exact HO120.out) hb); have n1_ := Aside0.mk (Kd.R_below (by (with_reducible repeat (first | apply Kd.R_alloc | apply Kd.R_drewN | apply Kd.R_drew)); exact HO125.out) hb); have n2_ := Aside0.mk (below_step (by repeat (first | (with_reducible first | exact HB.out | apply below_alloc | apply pw_below_drewN | apply below_drew1) | exact HB.out)) hb); clear HO120; clear HO125; clear HB; have HO120 := n0_; have HO125 := n1_; have HB := n2_; clear n0_ n1_ n2_; (try clear hb); (try clear hb2); (try clear hk); (try clear hi)) | ((with_reducible refine gate_dst (N := 15) rfl ?_); refine box_event ?hg (N := 15) ?hd (cs := #[.bool false, .bool false, .bool false, .bool false, .bool false]) (t := 36) ?hr ?_; (case hd => rfl); (case hg => rfl); (case hr => first | (go_simp; done) | (go_simp; rfl)); intro gb134 hg w32 hbox hb; have n0_ := Aside0.mk (Kd.R_below (by (with_reducible repeat (first | apply Kd.R_alloc | apply Kd.R_drewN | apply Kd.R_drew)); exact HO120.out) hb); have n1_ := Aside0.mk (Kd.R_below (by (with_reducible repeat (first | apply Kd.R_alloc | apply Kd.R_drewN | apply Kd.R_drew)); exact HO125.out) hb); have n2_ := Aside0.mk (below_step (by repeat (first | (with_reducible first | exact HB.out | apply below_alloc | apply pw_below_drewN | apply below_drew1) | exact HB.out)) hb); have n3_ := Aside0.mk (hbox); have n4_ := Aside0.mk ((by rw [hg]; exact (below_size (by repeat (first | (with_reducible first | exact HB.out | apply below_alloc | apply pw_below_drewN | apply below_drew1) | exact HB.out))) : w.heap.size ≤ gb134)); have n5_ := Aside0.mk ((by rw [hg]; exact (below_size (by repeat (first | (with_reducible first | exact HB.out | apply below_alloc | apply pw_below_drewN | apply below_drew1) | exact HB.out))) : w.heap.size ≤ gb134)); clear HO120; clear HO125; clear HB; have HO120 := n0_; have HO125 := n1_; have HB := n2_; have BK134 := n3_; have GW134 := n4_; have GE134 := n5_; clear n0_ n1_ n2_ n3_ n4_ n5_; clear hb hbox hg; have hcz33_0 : w32.cell? ⟨gb134, 0, none⟩ = some (.bool false) := (blk_cell BK134.out 0).trans rfl; have hcz33_1 : w32.cell? ⟨gb134, 1, none⟩ = some (.bool false) := (blk_cell BK134.out 1).trans rfl; have hcz33_2 : w32.cell? ⟨gb134, 2, none⟩ = some (.bool false) := (blk_cell BK134.out 2).trans rfl; have hcz33_3 : w32.cell? ⟨gb134, 3, none⟩ = some (.bool false) := (blk_cell BK134.out 3).trans rfl; have hcz33_4 : w32.cell? ⟨gb134, 4, none⟩ = some (.bool false) := (blk_cell BK134.out 4).trans rfl; have hfz33_0 := blk_frozen BK134.out 0; have hfz33_1 := blk_frozen BK134.out 1; have hfz33_2 := blk_frozen BK134.out 2; have hfz33_3 := blk_frozen BK134.out 3; have hfz33_4 := blk_frozen BK134.out 4) | (go_at_call 32; (with_reducible refine (parity_Of.calls t128 t129 t130 t131 t132 t135 _ A22.out).mono ?_); rintro e w34 ⟨rfl, hb⟩; have n0_ := Aside0.mk (Kd.R_below (by (with_reducible repeat (first | apply Kd.R_alloc | apply Kd.R_drewN | apply Kd.R_drew)); exact (Kd.R_mono (Kd.R_far (p := ⟨gb134, 4, none⟩) (Kd.R_far (p := ⟨gb134, 3, none⟩) (Kd.R_far (p := ⟨gb134, 2, none⟩) (Kd.R_far (p := ⟨gb134, 1, none⟩) (Kd.R_far (p := ⟨gb134, 0, none⟩) (Kd.R_types HO120.out BK134.out (by decide)) (fun _ hk => hk.2) (.bool t128)) (fun _ hk => hk.2) (.bool t129)) (fun _ hk => hk.2) (.bool t130)) (fun _ hk => hk.2) (.bool t131)) (fun _ hk => hk.2) (.bool t132)) (fun _ h_ => h_.1))) hb); have n1_ := Aside0.mk (Kd.R_below (by (with_reducible repeat (first | apply Kd.R_alloc | apply Kd.R_drewN | apply Kd.R_drew)); exact (Kd.R_mono (Kd.R_far (p := ⟨gb134, 4, none⟩) (Kd.R_far (p := ⟨gb134, 3, none⟩) (Kd.R_far (p := ⟨gb134, 2, none⟩) (Kd.R_far (p := ⟨gb134, 1, none⟩) (Kd.R_far (p := ⟨gb134, 0, none⟩) (Kd.R_types HO125.out BK134.out (by decide)) (fun _ hk => hk.2) (.bool t128)) (fun _ hk => hk.2) (.bool t129)) (fun _ hk => hk.2) (.bool t130)) (fun _ hk => hk.2) (.bool t131)) (fun _ hk => hk.2) (.bool t132)) (fun _ h_ => h_.1))) hb); have n2_ := Aside0.mk (blk_below (g := gb134) (o := .cells #[.bool t128, .bool t129, .bool t130, .bool t131, .bool t132] 36 (0, 0)) (by (with_reducible repeat (first | refine blk_drewN ?_ _ | refine blk_drew ?_ | refine blk_alloc ?_ _)); refine blk_put (cs := #[.bool t128, .bool t129, .bool t130, .bool t131, .bool false]) ?_ 4 _ rfl; (with_reducible repeat (first | refine blk_drewN ?_ _ | refine blk_drew ?_ | refine blk_alloc ?_ _)); refine blk_put (cs := #[.bool t128, .bool t129, .bool t130, .bool false, .bool false]) ?_ 3 _ rfl; (with_reducible repeat (first | refine blk_drewN ?_ _ | refine blk_drew ?_ | refine blk_alloc ?_ _)); refine blk_put (cs := #[.bool t128, .bool t129, .bool false, .bool false, .bool false]) ?_ 2 _ rfl; (with_reducible repeat (first | refine blk_drewN ?_ _ | refine blk_drew ?_ | refine blk_alloc ?_ _)); refine blk_put (cs := #[.bool t128, .bool false, .bool false, .bool false, .bool false]) ?_ 1 _ rfl; (with_reducible repeat (first | refine blk_drewN ?_ _ | refine blk_drew ?_ | refine blk_alloc ?_ _)); refine blk_put (cs := #[.bool false, .bool false, .bool false, .bool false, .bool false]) ?_ 0 _ rfl; (with_reducible repeat (first | refine blk_drewN ?_ _ | refine blk_drew ?_ | refine blk_alloc ?_ _)); exact BK134.out) hb); have n3_ := Aside0.mk (below_step (by repeat (first | (with_reducible first | exact HB.out | apply below_alloc | apply pw_below_drewN | apply below_drew1 | refine below_set ?_ GE134.out) | exact HB.out)) hb); clear HO120; clear HO125; clear BK134; clear HB; have HO120 := n0_; have HO125 := n1_; have BK134 := n2_; have HB := n3_; clear n0_ n1_ n2_ n3_; (try clear hb); (try clear hb2); (try clear hk); (try clear hi)))
                            go_ret
                            exact ⟨by first | rfl | (simp [errW_none, errW_some] <;> rfl) | (simp [*, errW_none, errW_some] <;> rfl), by repeat (first | (with_reducible first | exact HB.out | apply below_alloc | apply pw_below_drewN | apply below_drew1 | refine below_set ?_ GE134.out) | exact HB.out)⟩
                          · rw [if_neg c21] at H
                            exact absurd H (by simp)
                        · rw [if_neg c20] at H
                          exact absurd H (by simp)
                      · rw [if_neg c19] at H
                        exact absurd H (by simp)
                    · rw [if_neg c18] at H
                      exact absurd H (by simp)
                  · rw [if_neg c17] at H
                    exact absurd H (by simp)
                · rw [if_neg c16] at H
                  exact absurd H (by simp)
              · rw [if_neg c15] at H
                exact absurd H (by simp)
            · rw [if_neg c14] at H
              exact absurd H (by simp)
          · rw [if_neg c13] at H
            exact absurd H (by simp)
        · rw [if_neg c12] at H
          exact absurd H (by simp)
      · rw [if_neg c11] at H
        exact absurd H (by simp)
    · rw [if_neg c10] at H
      exact absurd H (by simp)
  · rw [if_neg c9] at H
    exact absurd H (by simp)

end Go.Proofs.Ytfmpeojlaibblaa.S
