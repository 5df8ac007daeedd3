/- Written for this claim by a program of this session (handprint.py, over the kit's print). Lean checks it. -/
import Derived.Test.YtajlohhphjlgbaaS0
import Derived.Test.YtajlohhphjlgbaaSE36
import Derived.Test.YtajlohhphjlgbaaSF25
import Derived.Test.YtajlohhphjlgbaaSF27
import Derived.Test.YtajlohhphjlgbaaHDate
import Derived.Test.YtajlohhphjlgbaaHOf
namespace Go.Proofs.Ytajlohhphjlgbaa.S
open Go.RowKit Go.Proofs.YtajlohhphjlgbaaW.PrintWords Go.Proofs.YtajlohhphjlgbaaW.PrintLast Go.Proofs.YtajlohhphjlgbaaW.PrintMore
attribute [local go_sem] max2_int min2_int max_two min_two max_three min_three max_four min_four   -- for this text's walks alone
set_option linter.unusedVariables false
set_option linter.unusedSimpArgs false

attribute [local go_sem high] eqA36
/-! ### gatelinelaw06_dated: function 24 -/
noncomputable def gatelinelaw06_dated.f  : Option (Bool) := (day_Of.f 2000 3 1).bind fun bt219 => ((day_Date.f 59).bind fun bt221 => ((day_Of.f 2001 2 29).bind fun bt226 => ((day_Date.f 100000).bind fun bt228 => ((day_Weekday.f 2).bind fun bt233 => ((day_Date.f 99999).bind fun bt235 => (if bt219.2 = 0 then (if bt219.1 = 60 then (if bt221.2.2.2 = bt219.2 then (if (bt221.1 == 2000 && (bt221.2.1 == 2 && (bt221.2.2.1 == 29))) = true then (if bt226.2 = 1 then (if bt228.2.2.2 = bt226.2 then (if bt233.2 = bt219.2 then (if bt233.1 = 0 then (if bt235.2.2.2 = bt219.2 then (if (bt235.1 == 2273 && (bt235.2.1 == 10 && (bt235.2.2.1 == 15))) = true then ((day_Leap.f 2000).bind fun t240 => (if t240 = true then ((day_Leap.f 1900).bind fun t241 => (if t241 = true then (none) else ((day_Leap.f (-4)).bind fun t242 => (some t242)))) else (none))) else (none)) else (none)) else (none)) else (none)) else (none)) else (none)) else (none)) else (none)) else (none)) else (none)))))))
set_option maxHeartbeats 8000000 in
set_option maxRecDepth 100000 in
theorem gatelinelaw06_dated.calls  (r : Bool) (w : World) (h : gatelinelaw06_dated.f  = some r) :
    Calls Try.prog 24 #[] w fun e w' => e = .returned (.bool r) ∧ Below w.heap.size w w' := by
  have hu36 := Try.underlying36
  have HB := Aside0.mk (Below.refl w.heap.size w)
  have H : ((day_Of.f 2000 3 1).bind fun bt219 => ((day_Date.f 59).bind fun bt221 => ((day_Of.f 2001 2 29).bind fun bt226 => ((day_Date.f 100000).bind fun bt228 => ((day_Weekday.f 2).bind fun bt233 => ((day_Date.f 99999).bind fun bt235 => (if bt219.2 = 0 then (if bt219.1 = 60 then (if bt221.2.2.2 = bt219.2 then (if (bt221.1 == 2000 && (bt221.2.1 == 2 && (bt221.2.2.1 == 29))) = true then (if bt226.2 = 1 then (if bt228.2.2.2 = bt226.2 then (if bt233.2 = bt219.2 then (if bt233.1 = 0 then (if bt235.2.2.2 = bt219.2 then (if (bt235.1 == 2273 && (bt235.2.1 == 10 && (bt235.2.2.1 == 15))) = true then ((day_Leap.f 2000).bind fun t240 => (if t240 = true then ((day_Leap.f 1900).bind fun t241 => (if t241 = true then (none) else ((day_Leap.f (-4)).bind fun t242 => (some t242)))) else (none))) else (none)) else (none)) else (none)) else (none)) else (none)) else (none)) else (none)) else (none)) else (none)) else (none)))))))) = some r := h
  clear h
  replace H := Option.bind_eq_some_iff.mp H
  obtain ⟨⟨t219, t220⟩, A10, H⟩ := H
  replace H : ((day_Date.f 59).bind fun bt221 => ((day_Of.f 2001 2 29).bind fun bt226 => ((day_Date.f 100000).bind fun bt228 => ((day_Weekday.f 2).bind fun bt233 => ((day_Date.f 99999).bind fun bt235 => (if t220 = 0 then (if t219 = 60 then (if bt221.2.2.2 = t220 then (if (bt221.1 == 2000 && (bt221.2.1 == 2 && (bt221.2.2.1 == 29))) = true then (if bt226.2 = 1 then (if bt228.2.2.2 = bt226.2 then (if bt233.2 = t220 then (if bt233.1 = 0 then (if bt235.2.2.2 = t220 then (if (bt235.1 == 2273 && (bt235.2.1 == 10 && (bt235.2.2.1 == 15))) = true then ((day_Leap.f 2000).bind fun t240 => (if t240 = true then ((day_Leap.f 1900).bind fun t241 => (if t241 = true then (none) else ((day_Leap.f (-4)).bind fun t242 => (some t242)))) else (none))) else (none)) else (none)) else (none)) else (none)) else (none)) else (none)) else (none)) else (none)) else (none)) else (none))))))) = some r := H
  have A1 := Aside0.mk A10
  clear A10
  replace H := Option.bind_eq_some_iff.mp H
  obtain ⟨⟨t221, t222, t223, t224⟩, A20, H⟩ := H
  replace H : ((day_Of.f 2001 2 29).bind fun bt226 => ((day_Date.f 100000).bind fun bt228 => ((day_Weekday.f 2).bind fun bt233 => ((day_Date.f 99999).bind fun bt235 => (if t220 = 0 then (if t219 = 60 then (if t224 = t220 then (if (t221 == 2000 && (t222 == 2 && (t223 == 29))) = true then (if bt226.2 = 1 then (if bt228.2.2.2 = bt226.2 then (if bt233.2 = t220 then (if bt233.1 = 0 then (if bt235.2.2.2 = t220 then (if (bt235.1 == 2273 && (bt235.2.1 == 10 && (bt235.2.2.1 == 15))) = true then ((day_Leap.f 2000).bind fun t240 => (if t240 = true then ((day_Leap.f 1900).bind fun t241 => (if t241 = true then (none) else ((day_Leap.f (-4)).bind fun t242 => (some t242)))) else (none))) else (none)) else (none)) else (none)) else (none)) else (none)) else (none)) else (none)) else (none)) else (none)) else (none)))))) = some r := H
  have A2 := Aside0.mk A20
  clear A20
  replace H := Option.bind_eq_some_iff.mp H
  obtain ⟨⟨t226, t227⟩, A30, H⟩ := H
  replace H : ((day_Date.f 100000).bind fun bt228 => ((day_Weekday.f 2).bind fun bt233 => ((day_Date.f 99999).bind fun bt235 => (if t220 = 0 then (if t219 = 60 then (if t224 = t220 then (if (t221 == 2000 && (t222 == 2 && (t223 == 29))) = true then (if t227 = 1 then (if bt228.2.2.2 = t227 then (if bt233.2 = t220 then (if bt233.1 = 0 then (if bt235.2.2.2 = t220 then (if (bt235.1 == 2273 && (bt235.2.1 == 10 && (bt235.2.2.1 == 15))) = true then ((day_Leap.f 2000).bind fun t240 => (if t240 = true then ((day_Leap.f 1900).bind fun t241 => (if t241 = true then (none) else ((day_Leap.f (-4)).bind fun t242 => (some t242)))) else (none))) else (none)) else (none)) else (none)) else (none)) else (none)) else (none)) else (none)) else (none)) else (none)) else (none))))) = some r := H
  have A3 := Aside0.mk A30
  clear A30
  replace H := Option.bind_eq_some_iff.mp H
  obtain ⟨⟨t228, t229, t230, t231⟩, A40, H⟩ := H
  replace H : ((day_Weekday.f 2).bind fun bt233 => ((day_Date.f 99999).bind fun bt235 => (if t220 = 0 then (if t219 = 60 then (if t224 = t220 then (if (t221 == 2000 && (t222 == 2 && (t223 == 29))) = true then (if t227 = 1 then (if t231 = t227 then (if bt233.2 = t220 then (if bt233.1 = 0 then (if bt235.2.2.2 = t220 then (if (bt235.1 == 2273 && (bt235.2.1 == 10 && (bt235.2.2.1 == 15))) = true then ((day_Leap.f 2000).bind fun t240 => (if t240 = true then ((day_Leap.f 1900).bind fun t241 => (if t241 = true then (none) else ((day_Leap.f (-4)).bind fun t242 => (some t242)))) else (none))) else (none)) else (none)) else (none)) else (none)) else (none)) else (none)) else (none)) else (none)) else (none)) else (none)))) = some r := H
  have A4 := Aside0.mk A40
  clear A40
  replace H := Option.bind_eq_some_iff.mp H
  obtain ⟨⟨t233, t234⟩, A50, H⟩ := H
  replace H : ((day_Date.f 99999).bind fun bt235 => (if t220 = 0 then (if t219 = 60 then (if t224 = t220 then (if (t221 == 2000 && (t222 == 2 && (t223 == 29))) = true then (if t227 = 1 then (if t231 = t227 then (if t234 = t220 then (if t233 = 0 then (if bt235.2.2.2 = t220 then (if (bt235.1 == 2273 && (bt235.2.1 == 10 && (bt235.2.2.1 == 15))) = true then ((day_Leap.f 2000).bind fun t240 => (if t240 = true then ((day_Leap.f 1900).bind fun t241 => (if t241 = true then (none) else ((day_Leap.f (-4)).bind fun t242 => (some t242)))) else (none))) else (none)) else (none)) else (none)) else (none)) else (none)) else (none)) else (none)) else (none)) else (none)) else (none))) = some r := H
  have A5 := Aside0.mk A50
  clear A50
  replace H := Option.bind_eq_some_iff.mp H
  obtain ⟨⟨t235, t236, t237, t238⟩, A60, H⟩ := H
  replace H : (if t220 = 0 then (if t219 = 60 then (if t224 = t220 then (if (t221 == 2000 && (t222 == 2 && (t223 == 29))) = true then (if t227 = 1 then (if t231 = t227 then (if t234 = t220 then (if t233 = 0 then (if t238 = t220 then (if (t235 == 2273 && (t236 == 10 && (t237 == 15))) = true then ((day_Leap.f 2000).bind fun t240 => (if t240 = true then ((day_Leap.f 1900).bind fun t241 => (if t241 = true then (none) else ((day_Leap.f (-4)).bind fun t242 => (some t242)))) else (none))) else (none)) else (none)) else (none)) else (none)) else (none)) else (none)) else (none)) else (none)) else (none)) else (none)) = some r := H
  have A6 := Aside0.mk A60
  clear A60
  by_cases c7 : t220 = 0
  · rw [if_pos c7] at H
    have c7b0 : (t220 == 0) = true := beq_iff_eq.mpr c7
    have c7b1 : (t220 != 0) = false := bne_eq_false_iff_eq.mpr c7
    clear c7
    by_cases c8 : t219 = 60
    · rw [if_pos c8] at H
      have c8b0 : (t219 == 60) = true := beq_iff_eq.mpr c8
      have c8b1 : (t219 != 60) = false := bne_eq_false_iff_eq.mpr c8
      clear c8
      by_cases c9 : t224 = t220
      · rw [if_pos c9] at H
        have c9b0 : (t224 == t220) = true := beq_iff_eq.mpr c9
        have c9b1 : (t224 != t220) = false := bne_eq_false_iff_eq.mpr c9
        clear c9
        by_cases c10 : (t221 == 2000 && (t222 == 2 && (t223 == 29))) = true
        · rw [if_pos c10] at H
          have c10b0 : (t221 == 2000 && (t222 == 2 && (t223 == 29))) = true := c10
          (try (have c10b1 : decide (t221 = 2000 && (t222 == 2 && (t223 == 29))) = true := by simpa using c10))
          (try (have c10b2 : (t221 == 2000 && (t222 == 2 && (t223 == 29))) = true := by simpa using c10))
          clear c10
          by_cases c11 : t227 = 1
          · rw [if_pos c11] at H
            have c11b0 : (t227 == 1) = true := beq_iff_eq.mpr c11
            have c11b1 : (t227 != 1) = false := bne_eq_false_iff_eq.mpr c11
            clear c11
            by_cases c12 : t231 = t227
            · rw [if_pos c12] at H
              have c12b0 : (t231 == t227) = true := beq_iff_eq.mpr c12
              have c12b1 : (t231 != t227) = false := bne_eq_false_iff_eq.mpr c12
              clear c12
              by_cases c13 : t234 = t220
              · rw [if_pos c13] at H
                have c13b0 : (t234 == t220) = true := beq_iff_eq.mpr c13
                have c13b1 : (t234 != t220) = false := bne_eq_false_iff_eq.mpr c13
                clear c13
                by_cases c14 : t233 = 0
                · rw [if_pos c14] at H
                  have c14b0 : (t233 == 0) = true := beq_iff_eq.mpr c14
                  have c14b1 : (t233 != 0) = false := bne_eq_false_iff_eq.mpr c14
                  clear c14
                  by_cases c15 : t238 = t220
                  · rw [if_pos c15] at H
                    have c15b0 : (t238 == t220) = true := beq_iff_eq.mpr c15
                    have c15b1 : (t238 != t220) = false := bne_eq_false_iff_eq.mpr c15
                    clear c15
                    by_cases c16 : (t235 == 2273 && (t236 == 10 && (t237 == 15))) = true
                    · rw [if_pos c16] at H
                      have c16b0 : (t235 == 2273 && (t236 == 10 && (t237 == 15))) = true := c16
                      (try (have c16b1 : decide (t235 = 2273 && (t236 == 10 && (t237 == 15))) = true := by simpa using c16))
                      (try (have c16b2 : (t235 == 2273 && (t236 == 10 && (t237 == 15))) = true := by simpa using c16))
                      clear c16
                      replace H := Option.bind_eq_some_iff.mp H
                      obtain ⟨t240, A170, H⟩ := H
                      replace H : (if t240 = true then ((day_Leap.f 1900).bind fun t241 => (if t241 = true then (none) else ((day_Leap.f (-4)).bind fun t242 => (some t242)))) else (none)) = some r := H
                      have A17 := Aside0.mk A170
                      clear A170
                      by_cases c18 : t240 = true
                      · subst c18
                        have H1 : ((day_Leap.f 1900).bind fun t241 => (if t241 = true then (none) else ((day_Leap.f (-4)).bind fun t242 => (some t242)))) = some r := by rw [if_pos rfl] at H; exact H
                        clear H
                        have H := H1
                        clear H1
                        replace H := Option.bind_eq_some_iff.mp H
                        obtain ⟨t241, A190, H⟩ := H
                        replace H : (if t241 = true then (none) else ((day_Leap.f (-4)).bind fun t242 => (some t242))) = some r := H
                        have A19 := Aside0.mk A190
                        clear A190
                        by_cases c20 : t241 = true
                        · subst c20
                          have H1 : (none) = some r := by rw [if_pos rfl] at H; exact H
                          clear H
                          have H := H1
                          clear H1
                          exact absurd H (by simp)
                        · replace c20 := Bool.eq_false_iff.mpr c20
                          subst c20
                          have H1 : ((day_Leap.f (-4)).bind fun t242 => (some t242)) = some r := by rw [if_neg (show ¬ (false = true) by decide)] at H; exact H
                          clear H
                          have H := H1
                          clear H1
                          replace H := Option.bind_eq_some_iff.mp H
                          obtain ⟨t242, A210, H⟩ := H
                          replace H : (some t242) = some r := H
                          have A21 := Aside0.mk A210
                          clear A210
                          obtain rfl := Option.some.inj H
                          go_enter Try.func24, Try.ntmps24
                          go_wp2_with (first | ((with_reducible refine gate_callee (f := 22) rfl ?_); refine goesL_ (some 15) rfl rfl Try.func22 (by kernel_rfl) rfl #[.agg #[.int .i64 2000, .int .i64 3, .int .i64 1]] rfl (by (try simp only [List.map_toArray, List.map_cons, List.map_nil]); first | done | rfl | (simp only [List.length_drop, List.length_take]; rfl)) ?_; (with_reducible refine (day_Of.calls 2000 3 1 t219 t220 _ A1.out).mono ?_); rintro e w22 ⟨rfl, hb⟩; refine ⟨_, rfl, ?_⟩; have n0_ := Aside0.mk (below_step (by repeat (first | (with_reducible first | exact HB.out | apply below_alloc | apply pw_below_drewN | apply below_drew1) | exact HB.out)) hb); clear HB; have HB := n0_; clear n0_; (try clear hb); (try clear hb2); (try clear hk); (try clear hi)) | ((with_reducible refine gate_callee (f := 20) rfl ?_); refine goesL_ (some 19) rfl rfl Try.func20 (by kernel_rfl) rfl #[.int .i64 59] rfl (by (try simp only [List.map_toArray, List.map_cons, List.map_nil]); first | done | rfl | (simp only [List.length_drop, List.length_take]; rfl)) ?_; (with_reducible refine (day_Date.calls 59 t221 t222 t223 t224 _ A2.out).mono ?_); rintro e w23 ⟨rfl, hb⟩; refine ⟨_, rfl, ?_⟩; have n0_ := Aside0.mk (below_step (by repeat (first | (with_reducible first | exact HB.out | apply below_alloc | apply pw_below_drewN | apply below_drew1) | exact HB.out)) hb); clear HB; have HB := n0_; clear n0_; (try clear hb); (try clear hb2); (try clear hk); (try clear hi)) | ((with_reducible refine gate_dst (N := 3) rfl ?_); refine box_event ?hg (N := 3) ?hd (cs := #[.int .i64 0, .int .i64 0, .int .i64 0]) (t := 36) ?hr ?_; (case hd => rfl); (case hg => rfl); (case hr => first | (go_simp; done) | (go_simp; rfl)); intro gb225 hg w24 hbox hb; have n0_ := Aside0.mk (below_step (by repeat (first | (with_reducible first | exact HB.out | apply below_alloc | apply pw_below_drewN | apply below_drew1) | exact HB.out)) hb); have n1_ := Aside0.mk (hbox); have n2_ := Aside0.mk ((by rw [hg]; exact (below_size (by repeat (first | (with_reducible first | exact HB.out | apply below_alloc | apply pw_below_drewN | apply below_drew1) | exact HB.out))) : w.heap.size ≤ gb225)); have n3_ := Aside0.mk ((by rw [hg]; exact (below_size (by repeat (first | (with_reducible first | exact HB.out | apply below_alloc | apply pw_below_drewN | apply below_drew1) | exact HB.out))) : w.heap.size ≤ gb225)); clear HB; have HB := n0_; have BK225 := n1_; have GW225 := n2_; have GE225 := n3_; clear n0_ n1_ n2_ n3_; clear hb hbox hg; have hcz25_0 : w24.cell? ⟨gb225, 0, none⟩ = some (.int .i64 0) := (blk_cell BK225.out 0).trans rfl; have hcz25_1 : w24.cell? ⟨gb225, 1, none⟩ = some (.int .i64 0) := (blk_cell BK225.out 1).trans rfl; have hcz25_2 : w24.cell? ⟨gb225, 2, none⟩ = some (.int .i64 0) := (blk_cell BK225.out 2).trans rfl; have hfz25_0 := blk_frozen BK225.out 0; have hfz25_1 := blk_frozen BK225.out 1; have hfz25_2 := blk_frozen BK225.out 2) | ((with_reducible refine gate_callee (f := 22) rfl ?_); refine goesL_ (some 24) rfl rfl Try.func22 (by kernel_rfl) rfl #[.agg #[.int .i64 2001, .int .i64 2, .int .i64 29]] rfl (by (try simp only [List.map_toArray, List.map_cons, List.map_nil]); first | done | rfl | (simp only [List.length_drop, List.length_take]; rfl)) ?_; (with_reducible refine (day_Of.calls 2001 2 29 t226 t227 _ A3.out).mono ?_); rintro e w26 ⟨rfl, hb⟩; refine ⟨_, rfl, ?_⟩; have n0_ := Aside0.mk (blk_below (g := gb225) (o := .cells #[.int .i64 t221, .int .i64 t222, .int .i64 t223] 36 (0, 0)) (by (with_reducible repeat (first | refine blk_drewN ?_ _ | refine blk_drew ?_ | refine blk_alloc ?_ _)); refine blk_put (cs := #[.int .i64 t221, .int .i64 t222, .int .i64 0]) ?_ 2 _ rfl; (with_reducible repeat (first | refine blk_drewN ?_ _ | refine blk_drew ?_ | refine blk_alloc ?_ _)); refine blk_put (cs := #[.int .i64 t221, .int .i64 0, .int .i64 0]) ?_ 1 _ rfl; (with_reducible repeat (first | refine blk_drewN ?_ _ | refine blk_drew ?_ | refine blk_alloc ?_ _)); refine blk_put (cs := #[.int .i64 0, .int .i64 0, .int .i64 0]) ?_ 0 _ rfl; (with_reducible repeat (first | refine blk_drewN ?_ _ | refine blk_drew ?_ | refine blk_alloc ?_ _)); exact BK225.out) hb); have n1_ := Aside0.mk (below_step (by repeat (first | (with_reducible first | exact HB.out | apply below_alloc | apply pw_below_drewN | apply below_drew1 | refine below_set ?_ GE225.out) | exact HB.out)) hb); clear BK225; clear HB; have BK225 := n0_; have HB := n1_; clear n0_ n1_; (try clear hb); (try clear hb2); (try clear hk); (try clear hi)) | ((with_reducible refine gate_callee (f := 20) rfl ?_); refine goesL_ (some 28) rfl rfl Try.func20 (by kernel_rfl) rfl #[.int .i64 100000] rfl (by (try simp only [List.map_toArray, List.map_cons, List.map_nil]); first | done | rfl | (simp only [List.length_drop, List.length_take]; rfl)) ?_; (with_reducible refine (day_Date.calls 100000 t228 t229 t230 t231 _ A4.out).mono ?_); rintro e w27 ⟨rfl, hb⟩; refine ⟨_, rfl, ?_⟩; have n0_ := Aside0.mk (blk_below (g := gb225) (o := .cells #[.int .i64 t221, .int .i64 t222, .int .i64 t223] 36 (0, 0)) (by (with_reducible repeat (first | refine blk_drewN ?_ _ | refine blk_drew ?_ | refine blk_alloc ?_ _)); exact BK225.out) hb); have n1_ := Aside0.mk (below_step (by repeat (first | (with_reducible first | exact HB.out | apply below_alloc | apply pw_below_drewN | apply below_drew1 | refine below_set ?_ GE225.out) | exact HB.out)) hb); clear BK225; clear HB; have BK225 := n0_; have HB := n1_; clear n0_ n1_; (try clear hb); (try clear hb2); (try clear hk); (try clear hi)) | ((with_reducible refine gate_dst (N := 7) rfl ?_); refine box_event ?hg (N := 7) ?hd (cs := #[.int .i64 0, .int .i64 0, .int .i64 0]) (t := 36) ?hr ?_; (case hd => rfl); (case hg => rfl); (case hr => first | (go_simp; done) | (go_simp; rfl)); intro gb232 hg w28 hbox hb; have n0_ := Aside0.mk (blk_below (g := gb225) (o := .cells #[.int .i64 t221, .int .i64 t222, .int .i64 t223] 36 (0, 0)) (by (with_reducible repeat (first | refine blk_drewN ?_ _ | refine blk_drew ?_ | refine blk_alloc ?_ _)); exact BK225.out) hb); have n1_ := Aside0.mk (below_step (by repeat (first | (with_reducible first | exact HB.out | apply below_alloc | apply pw_below_drewN | apply below_drew1 | refine below_set ?_ GE225.out) | exact HB.out)) hb); have n2_ := Aside0.mk (hbox); have n3_ := Aside0.mk ((by rw [hg]; exact (below_size (by repeat (first | (with_reducible first | exact HB.out | apply below_alloc | apply pw_below_drewN | apply below_drew1 | refine below_set ?_ GE225.out) | exact HB.out))) : w.heap.size ≤ gb232)); have n4_ := Aside0.mk ((by rw [hg]; exact (below_size (by repeat (first | (with_reducible first | exact HB.out | apply below_alloc | apply pw_below_drewN | apply below_drew1 | refine below_set ?_ GE225.out) | exact HB.out))) : w.heap.size ≤ gb232)); have n5_ := Aside0.mk ((by rw [hg]; exact Nat.ne_of_lt (blk_lt (g := gb225) (o := .cells #[.int .i64 t221, .int .i64 t222, .int .i64 t223] 36 (0, 0)) (by (with_reducible repeat (first | refine blk_drewN ?_ _ | refine blk_drew ?_ | refine blk_alloc ?_ _)); exact BK225.out)) : gb225 ≠ gb232)); have n6_ := Aside0.mk ((by rw [hg]; exact Nat.ne_of_gt (blk_lt (g := gb225) (o := .cells #[.int .i64 t221, .int .i64 t222, .int .i64 t223] 36 (0, 0)) (by (with_reducible repeat (first | refine blk_drewN ?_ _ | refine blk_drew ?_ | refine blk_alloc ?_ _)); exact BK225.out)) : gb232 ≠ gb225)); clear BK225; clear HB; have BK225 := n0_; have HB := n1_; have BK232 := n2_; have GW232 := n3_; have GE232 := n4_; have NB225_232 := n5_; have NB232_225 := n6_; clear n0_ n1_ n2_ n3_ n4_ n5_ n6_; clear hb hbox hg; have hnb29 := NB232_225.out; have hnc29 := NB225_232.out; have hcz30_0 : w28.cell? ⟨gb232, 0, none⟩ = some (.int .i64 0) := (blk_cell BK232.out 0).trans rfl; have hcz30_1 : w28.cell? ⟨gb232, 1, none⟩ = some (.int .i64 0) := (blk_cell BK232.out 1).trans rfl; have hcz30_2 : w28.cell? ⟨gb232, 2, none⟩ = some (.int .i64 0) := (blk_cell BK232.out 2).trans rfl; have hfz30_0 := blk_frozen BK232.out 0; have hfz30_1 := blk_frozen BK232.out 1; have hfz30_2 := blk_frozen BK232.out 2) | ((with_reducible refine gate_callee (f := 27) rfl ?_); refine goesL_ (some 32) rfl rfl Try.func27 (by kernel_rfl) rfl #[.int .i64 2] rfl (by (try simp only [List.map_toArray, List.map_cons, List.map_nil]); first | done | rfl | (simp only [List.length_drop, List.length_take]; rfl)) ?_; (with_reducible refine (day_Weekday.calls 2 t233 t234 _ A5.out).mono ?_); rintro e w' ⟨rfl, ⟨nd, rfl⟩⟩; refine ⟨_, rfl, ?_⟩) | ((with_reducible refine gate_callee (f := 20) rfl ?_); refine goesL_ (some 36) rfl rfl Try.func20 (by kernel_rfl) rfl #[.int .i64 99999] rfl (by (try simp only [List.map_toArray, List.map_cons, List.map_nil]); first | done | rfl | (simp only [List.length_drop, List.length_take]; rfl)) ?_; (with_reducible refine (day_Date.calls 99999 t235 t236 t237 t238 _ A6.out).mono ?_); rintro e w31 ⟨rfl, hb⟩; refine ⟨_, rfl, ?_⟩; have n0_ := Aside0.mk (blk_below (g := gb225) (o := .cells #[.int .i64 t221, .int .i64 t222, .int .i64 t223] 36 (0, 0)) (by (with_reducible repeat (first | refine blk_drewN ?_ _ | refine blk_drew ?_ | refine blk_alloc ?_ _)); refine blk_far ?_ NB225_232.out _; (with_reducible repeat (first | refine blk_drewN ?_ _ | refine blk_drew ?_ | refine blk_alloc ?_ _)); refine blk_far ?_ NB225_232.out _; (with_reducible repeat (first | refine blk_drewN ?_ _ | refine blk_drew ?_ | refine blk_alloc ?_ _)); refine blk_far ?_ NB225_232.out _; (with_reducible repeat (first | refine blk_drewN ?_ _ | refine blk_drew ?_ | refine blk_alloc ?_ _)); exact BK225.out) hb); have n1_ := Aside0.mk (blk_below (g := gb232) (o := .cells #[.int .i64 t228, .int .i64 t229, .int .i64 t230] 36 (0, 0)) (by (with_reducible repeat (first | refine blk_drewN ?_ _ | refine blk_drew ?_ | refine blk_alloc ?_ _)); refine blk_put (cs := #[.int .i64 t228, .int .i64 t229, .int .i64 0]) ?_ 2 _ rfl; (with_reducible repeat (first | refine blk_drewN ?_ _ | refine blk_drew ?_ | refine blk_alloc ?_ _)); refine blk_put (cs := #[.int .i64 t228, .int .i64 0, .int .i64 0]) ?_ 1 _ rfl; (with_reducible repeat (first | refine blk_drewN ?_ _ | refine blk_drew ?_ | refine blk_alloc ?_ _)); refine blk_put (cs := #[.int .i64 0, .int .i64 0, .int .i64 0]) ?_ 0 _ rfl; (with_reducible repeat (first | refine blk_drewN ?_ _ | refine blk_drew ?_ | refine blk_alloc ?_ _)); exact BK232.out) hb); have n2_ := Aside0.mk (below_step (by repeat (first | (with_reducible first | exact HB.out | apply below_alloc | apply pw_below_drewN | apply below_drew1 | refine below_set ?_ GE225.out | refine below_set ?_ GE232.out) | exact HB.out)) hb); clear BK225; clear BK232; clear HB; have BK225 := n0_; have BK232 := n1_; have HB := n2_; clear n0_ n1_ n2_; (try clear hb); (try clear hb2); (try clear hk); (try clear hi)) | ((with_reducible refine gate_dst (N := 11) rfl ?_); refine box_event ?hg (N := 11) ?hd (cs := #[.int .i64 0, .int .i64 0, .int .i64 0]) (t := 36) ?hr ?_; (case hd => rfl); (case hg => rfl); (case hr => first | (go_simp; done) | (go_simp; rfl)); intro gb239 hg w32 hbox hb; have n0_ := Aside0.mk (blk_below (g := gb225) (o := .cells #[.int .i64 t221, .int .i64 t222, .int .i64 t223] 36 (0, 0)) (by (with_reducible repeat (first | refine blk_drewN ?_ _ | refine blk_drew ?_ | refine blk_alloc ?_ _)); exact BK225.out) hb); have n1_ := Aside0.mk (blk_below (g := gb232) (o := .cells #[.int .i64 t228, .int .i64 t229, .int .i64 t230] 36 (0, 0)) (by (with_reducible repeat (first | refine blk_drewN ?_ _ | refine blk_drew ?_ | refine blk_alloc ?_ _)); exact BK232.out) hb); have n2_ := Aside0.mk (below_step (by repeat (first | (with_reducible first | exact HB.out | apply below_alloc | apply pw_below_drewN | apply below_drew1 | refine below_set ?_ GE225.out | refine below_set ?_ GE232.out) | exact HB.out)) hb); have n3_ := Aside0.mk (hbox); have n4_ := Aside0.mk ((by rw [hg]; exact (below_size (by repeat (first | (with_reducible first | exact HB.out | apply below_alloc | apply pw_below_drewN | apply below_drew1 | refine below_set ?_ GE225.out | refine below_set ?_ GE232.out) | exact HB.out))) : w.heap.size ≤ gb239)); have n5_ := Aside0.mk ((by rw [hg]; exact (below_size (by repeat (first | (with_reducible first | exact HB.out | apply below_alloc | apply pw_below_drewN | apply below_drew1 | refine below_set ?_ GE225.out | refine below_set ?_ GE232.out) | exact HB.out))) : w.heap.size ≤ gb239)); have n6_ := Aside0.mk ((by rw [hg]; exact Nat.ne_of_lt (blk_lt (g := gb225) (o := .cells #[.int .i64 t221, .int .i64 t222, .int .i64 t223] 36 (0, 0)) (by (with_reducible repeat (first | refine blk_drewN ?_ _ | refine blk_drew ?_ | refine blk_alloc ?_ _)); exact BK225.out)) : gb225 ≠ gb239)); have n7_ := Aside0.mk ((by rw [hg]; exact Nat.ne_of_gt (blk_lt (g := gb225) (o := .cells #[.int .i64 t221, .int .i64 t222, .int .i64 t223] 36 (0, 0)) (by (with_reducible repeat (first | refine blk_drewN ?_ _ | refine blk_drew ?_ | refine blk_alloc ?_ _)); exact BK225.out)) : gb239 ≠ gb225)); have n8_ := Aside0.mk ((by rw [hg]; exact Nat.ne_of_lt (blk_lt (g := gb232) (o := .cells #[.int .i64 t228, .int .i64 t229, .int .i64 t230] 36 (0, 0)) (by (with_reducible repeat (first | refine blk_drewN ?_ _ | refine blk_drew ?_ | refine blk_alloc ?_ _)); exact BK232.out)) : gb232 ≠ gb239)); have n9_ := Aside0.mk ((by rw [hg]; exact Nat.ne_of_gt (blk_lt (g := gb232) (o := .cells #[.int .i64 t228, .int .i64 t229, .int .i64 t230] 36 (0, 0)) (by (with_reducible repeat (first | refine blk_drewN ?_ _ | refine blk_drew ?_ | refine blk_alloc ?_ _)); exact BK232.out)) : gb239 ≠ gb232)); clear BK225; clear BK232; clear HB; have BK225 := n0_; have BK232 := n1_; have HB := n2_; have BK239 := n3_; have GW239 := n4_; have GE239 := n5_; have NB225_239 := n6_; have NB239_225 := n7_; have NB232_239 := n8_; have NB239_232 := n9_; clear n0_ n1_ n2_ n3_ n4_ n5_ n6_ n7_ n8_ n9_; clear hb hbox hg; have hnb33 := NB239_225.out; have hnc33 := NB225_239.out; have hnb34 := NB239_232.out; have hnc34 := NB232_239.out; have hcz35_0 : w32.cell? ⟨gb239, 0, none⟩ = some (.int .i64 0) := (blk_cell BK239.out 0).trans rfl; have hcz35_1 : w32.cell? ⟨gb239, 1, none⟩ = some (.int .i64 0) := (blk_cell BK239.out 1).trans rfl; have hcz35_2 : w32.cell? ⟨gb239, 2, none⟩ = some (.int .i64 0) := (blk_cell BK239.out 2).trans rfl; have hfz35_0 := blk_frozen BK239.out 0; have hfz35_1 := blk_frozen BK239.out 1; have hfz35_2 := blk_frozen BK239.out 2; have hcz36_0 : w32.cell? ⟨gb225, 0, none⟩ = some (.int .i64 t221) := (blk_cell BK225.out 0).trans rfl; have hcz36_1 : w32.cell? ⟨gb225, 1, none⟩ = some (.int .i64 t222) := (blk_cell BK225.out 1).trans rfl; have hcz36_2 : w32.cell? ⟨gb225, 2, none⟩ = some (.int .i64 t223) := (blk_cell BK225.out 2).trans rfl; have hfz36_0 := blk_frozen BK225.out 0; have hfz36_1 := blk_frozen BK225.out 1; have hfz36_2 := blk_frozen BK225.out 2) | (go_at_call 25; (with_reducible refine (day_Leap.calls 2000 true _ A17.out).mono ?_); rintro e w' ⟨rfl, ⟨nd, rfl⟩⟩) | (go_at_call 25; (with_reducible refine (day_Leap.calls 1900 false _ A19.out).mono ?_); rintro e w' ⟨rfl, ⟨nd, rfl⟩⟩) | (go_at_call 25; (with_reducible refine (day_Leap.calls (-4) t242 _ A21.out).mono ?_); rintro e w' ⟨rfl, ⟨nd, rfl⟩⟩))
                          go_ret
                          exact ⟨by first | rfl | (simp [errW_none, errW_some] <;> rfl) | (simp [*, errW_none, errW_some] <;> rfl), by repeat (first | (with_reducible first | exact HB.out | apply below_alloc | apply pw_below_drewN | apply below_drew1 | refine below_set ?_ GE225.out | refine below_set ?_ GE232.out | refine below_set ?_ GE239.out) | exact HB.out)⟩
                      · replace c18 := Bool.eq_false_iff.mpr c18
                        subst c18
                        have H1 : (none) = some r := by rw [if_neg (show ¬ (false = true) by decide)] at H; exact H
                        clear H
                        have H := H1
                        clear H1
                        exact absurd H (by simp)
                    · rw [if_neg c16] at H
                      exact absurd H (by simp)
                  · rw [if_neg c15] at H
                    exact absurd H (by simp)
                · rw [if_neg c14] at H
                  exact absurd H (by simp)
              · rw [if_neg c13] at H
                exact absurd H (by simp)
            · rw [if_neg c12] at H
              exact absurd H (by simp)
          · rw [if_neg c11] at H
            exact absurd H (by simp)
        · rw [if_neg c10] at H
          exact absurd H (by simp)
      · rw [if_neg c9] at H
        exact absurd H (by simp)
    · rw [if_neg c8] at H
      exact absurd H (by simp)
  · rw [if_neg c7] at H
    exact absurd H (by simp)

end Go.Proofs.Ytajlohhphjlgbaa.S
