/- Written for this claim by a program of this session (handprint.py, over the kit's print). Lean checks it. -/
import Derived.Test.YtajlohhphjlgbaaS0
import Derived.Test.YtajlohhphjlgbaaSE36
import Derived.Test.YtajlohhphjlgbaaSF24
import Derived.Test.YtajlohhphjlgbaaHOf
namespace Go.Proofs.Ytajlohhphjlgbaa.S
open Go.RowKit Go.Proofs.YtajlohhphjlgbaaW.PrintWords Go.Proofs.YtajlohhphjlgbaaW.PrintLast Go.Proofs.YtajlohhphjlgbaaW.PrintMore
attribute [local go_sem] max2_int min2_int max_two min_two max_three min_three max_four min_four   -- for this text's walks alone
set_option linter.unusedVariables false
set_option linter.unusedSimpArgs false

attribute [local go_sem high] eqA36
/-! ### gatelinelaw06_DayOrder: function 10 -/
noncomputable def gatelinelaw06_DayOrder.j0 : Nat → Int → Int → Bool → Int → Int → Int → Int → Int → Int → Option (Bool)
  | 0, _, _, _, _, _, _, _, _, _ => none
  | k + 1, x5, x7, x25, x324000, x324001, x324002, x325000, x325001, x325002 => if x25 = true then ((gatelinelaw06_dated.f).bind fun t329 => (some t329)) else (if x324000 < x325000 then ((gatelinelaw06_dated.f).bind fun t330 => (if t330 = true then (if (true == (decide (x5 < x7))) = true then (some ((x324000 == x325000 && (x324001 == x325001 && (x324002 == x325002))) == (x5 == x7))) else (none)) else (none))) else (if x324000 = x325000 then (if x324001 < x325001 then ((gatelinelaw06_dated.f).bind fun t331 => (if t331 = true then (if (true == (decide (x5 < x7))) = true then (some ((x324000 == x325000 && (x324001 == x325001 && (x324002 == x325002))) == (x5 == x7))) else (none)) else (none))) else (if x324001 = x325001 then ((gatelinelaw06_dated.f).bind fun t332 => (if t332 = true then (if ((decide (x324002 < x325002)) == (decide (x5 < x7))) = true then (some ((x324000 == x325000 && (x324001 == x325001 && (x324002 == x325002))) == (x5 == x7))) else (none)) else (none))) else ((gatelinelaw06_dated.f).bind fun t333 => (if t333 = true then (if (false == (decide (x5 < x7))) = true then (some ((x324000 == x325000 && (x324001 == x325001 && (x324002 == x325002))) == (x5 == x7))) else (none)) else (none))))) else ((gatelinelaw06_dated.f).bind fun t334 => (if t334 = true then (if (false == (decide (x5 < x7))) = true then (some ((x324000 == x325000 && (x324001 == x325001 && (x324002 == x325002))) == (x5 == x7))) else (none)) else (none)))))
noncomputable def gatelinelaw06_DayOrder.f (k : Nat) (a0_0 : Int) (a0_1 : Int) (a0_2 : Int) (a1_0 : Int) (a1_1 : Int) (a1_2 : Int) : Option (Bool) := (day_Of.f a0_0 a0_1 a0_2).bind fun bt325 => ((day_Of.f a1_0 a1_1 a1_2).bind fun bt327 => (if bt325.2 = 0 then (gatelinelaw06_DayOrder.j0 k bt325.1 bt327.1 (bt327.2 != 0) a0_0 a0_1 a0_2 a1_0 a1_1 a1_2) else (gatelinelaw06_DayOrder.j0 k bt325.1 bt327.1 true a0_0 a0_1 a0_2 a1_0 a1_1 a1_2)))
theorem gatelinelaw06_DayOrder.mono_l : ∀ k, (∀ y0 y1 y2 y3 y4 y5 y6 y7 y8, LeO (gatelinelaw06_DayOrder.j0 k y0 y1 y2 y3 y4 y5 y6 y7 y8) (gatelinelaw06_DayOrder.j0 (k + 1) y0 y1 y2 y3 y4 y5 y6 y7 y8))
  | 0 => fun _ _ _ _ _ _ _ _ _ r h => by simp [gatelinelaw06_DayOrder.j0] at h
  | k + 1 => by
    have ih0 := gatelinelaw06_DayOrder.mono_l k
    · intro y0 y1 y2 y3 y4 y5 y6 y7 y8
      unfold gatelinelaw06_DayOrder.j0
      repeat' first
      | (with_reducible exact ih0 _ _ _ _ _ _ _ _ _)
      | (with_reducible exact LeO.refl _)
      | (with_reducible exact LeO.none _)
      | (with_reducible refine LeO.ite ?_ ?_)
      | (with_reducible refine LeO.bind ?_ (fun _ => ?_))
      | exact ih0 _ _ _ _ _ _ _ _ _
      | exact LeO.none _
      | refine LeO.ite ?_ ?_
      | refine LeO.bind ?_ (fun _ => ?_)
theorem gatelinelaw06_DayOrder.mono : ∀ a0 a1 a2 a3 a4 a5 k, LeO (gatelinelaw06_DayOrder.f k a0 a1 a2 a3 a4 a5) (gatelinelaw06_DayOrder.f (k + 1) a0 a1 a2 a3 a4 a5) := by
  intro a0 a1 a2 a3 a4 a5 k
  have ih0 := gatelinelaw06_DayOrder.mono_l k
  unfold gatelinelaw06_DayOrder.f
  repeat' first
      | (with_reducible exact ih0 _ _ _ _ _ _ _ _ _)
      | (with_reducible exact LeO.refl _)
      | (with_reducible exact LeO.none _)
      | (with_reducible refine LeO.ite ?_ ?_)
      | (with_reducible refine LeO.bind ?_ (fun _ => ?_))
      | exact ih0 _ _ _ _ _ _ _ _ _
      | exact LeO.none _
      | refine LeO.ite ?_ ?_
      | refine LeO.bind ?_ (fun _ => ?_)
set_option maxHeartbeats 8000000 in
set_option maxRecDepth 100000 in
theorem gatelinelaw06_DayOrder.calls (k : Nat) (a0_0 : Int) (a0_1 : Int) (a0_2 : Int) (a1_0 : Int) (a1_1 : Int) (a1_2 : Int) (r : Bool) (w : World) (h : gatelinelaw06_DayOrder.f k a0_0 a0_1 a0_2 a1_0 a1_1 a1_2 = some r) :
    Calls Try.prog 10 #[.agg #[.int .i64 a0_0, .int .i64 a0_1, .int .i64 a0_2], .agg #[.int .i64 a1_0, .int .i64 a1_1, .int .i64 a1_2]] w fun e w' => e = .returned (.bool r) ∧ Below w.heap.size w w' := by
  have hu36 := Try.underlying36
  have HB := Aside0.mk (Below.refl w.heap.size w)
  have H : ((day_Of.f a0_0 a0_1 a0_2).bind fun bt325 => ((day_Of.f a1_0 a1_1 a1_2).bind fun bt327 => (if bt325.2 = 0 then (gatelinelaw06_DayOrder.j0 k bt325.1 bt327.1 (bt327.2 != 0) a0_0 a0_1 a0_2 a1_0 a1_1 a1_2) else (gatelinelaw06_DayOrder.j0 k bt325.1 bt327.1 true a0_0 a0_1 a0_2 a1_0 a1_1 a1_2)))) = some r := h
  clear h
  replace H := Option.bind_eq_some_iff.mp H
  obtain ⟨⟨t325, t326⟩, A30, H⟩ := H
  replace H : ((day_Of.f a1_0 a1_1 a1_2).bind fun bt327 => (if t326 = 0 then (gatelinelaw06_DayOrder.j0 k t325 bt327.1 (bt327.2 != 0) a0_0 a0_1 a0_2 a1_0 a1_1 a1_2) else (gatelinelaw06_DayOrder.j0 k t325 bt327.1 true a0_0 a0_1 a0_2 a1_0 a1_1 a1_2))) = some r := H
  have A3 := Aside0.mk A30
  clear A30
  replace H := Option.bind_eq_some_iff.mp H
  obtain ⟨⟨t327, t328⟩, A40, H⟩ := H
  replace H : (if t326 = 0 then (gatelinelaw06_DayOrder.j0 k t325 t327 (t328 != 0) a0_0 a0_1 a0_2 a1_0 a1_1 a1_2) else (gatelinelaw06_DayOrder.j0 k t325 t327 true a0_0 a0_1 a0_2 a1_0 a1_1 a1_2)) = some r := H
  have A4 := Aside0.mk A40
  clear A40
  have HC5 := Aside0.mk H
  clear H
  go_enter Try.func10, Try.ntmps10
  go_upto_region 3 with (first | ((with_reducible refine gate_dst (N := 2) rfl ?_); refine box_event ?hg (N := 2) ?hd (cs := #[.int .i64 a0_0, .int .i64 a0_1, .int .i64 a0_2]) (t := 36) ?hr ?_; (case hd => rfl); (case hg => rfl); (case hr => first | (go_simp; done) | (go_simp; rfl)); intro gb323 hg w6 hbox hb; have n0_ := Aside0.mk (below_step (by repeat (first | (with_reducible first | exact HB.out | apply below_alloc | apply pw_below_drewN | apply below_drew1) | exact HB.out)) hb); have n1_ := Aside0.mk (hbox); have n2_ := Aside0.mk ((by rw [hg]; exact (below_size (by repeat (first | (with_reducible first | exact HB.out | apply below_alloc | apply pw_below_drewN | apply below_drew1) | exact HB.out))) : w.heap.size ≤ gb323)); have n3_ := Aside0.mk ((by rw [hg]; exact (below_size (by repeat (first | (with_reducible first | exact HB.out | apply below_alloc | apply pw_below_drewN | apply below_drew1) | exact HB.out))) : w.heap.size ≤ gb323)); clear HB; have HB := n0_; have BK323 := n1_; have GW323 := n2_; have GE323 := n3_; clear n0_ n1_ n2_ n3_; clear hb hbox hg) | ((with_reducible refine gate_dst (N := 3) rfl ?_); refine box_event ?hg (N := 3) ?hd (cs := #[.int .i64 a1_0, .int .i64 a1_1, .int .i64 a1_2]) (t := 36) ?hr ?_; (case hd => rfl); (case hg => rfl); (case hr => first | (go_simp; done) | (go_simp; rfl)); intro gb324 hg w7 hbox hb; have n0_ := Aside0.mk (blk_below (g := gb323) (o := .cells #[.int .i64 a0_0, .int .i64 a0_1, .int .i64 a0_2] 36 (0, 0)) (by (with_reducible repeat (first | refine blk_drewN ?_ _ | refine blk_drew ?_ | refine blk_alloc ?_ _)); exact BK323.out) hb); have n1_ := Aside0.mk (below_step (by repeat (first | (with_reducible first | exact HB.out | apply below_alloc | apply pw_below_drewN | apply below_drew1 | refine below_set ?_ GE323.out) | exact HB.out)) hb); have n2_ := Aside0.mk (hbox); have n3_ := Aside0.mk ((by rw [hg]; exact (below_size (by repeat (first | (with_reducible first | exact HB.out | apply below_alloc | apply pw_below_drewN | apply below_drew1 | refine below_set ?_ GE323.out) | exact HB.out))) : w.heap.size ≤ gb324)); have n4_ := Aside0.mk ((by rw [hg]; exact (below_size (by repeat (first | (with_reducible first | exact HB.out | apply below_alloc | apply pw_below_drewN | apply below_drew1 | refine below_set ?_ GE323.out) | exact HB.out))) : w.heap.size ≤ gb324)); have n5_ := Aside0.mk ((by rw [hg]; exact Nat.ne_of_lt (blk_lt (g := gb323) (o := .cells #[.int .i64 a0_0, .int .i64 a0_1, .int .i64 a0_2] 36 (0, 0)) (by (with_reducible repeat (first | refine blk_drewN ?_ _ | refine blk_drew ?_ | refine blk_alloc ?_ _)); exact BK323.out)) : gb323 ≠ gb324)); have n6_ := Aside0.mk ((by rw [hg]; exact Nat.ne_of_gt (blk_lt (g := gb323) (o := .cells #[.int .i64 a0_0, .int .i64 a0_1, .int .i64 a0_2] 36 (0, 0)) (by (with_reducible repeat (first | refine blk_drewN ?_ _ | refine blk_drew ?_ | refine blk_alloc ?_ _)); exact BK323.out)) : gb324 ≠ gb323)); clear BK323; clear HB; have BK323 := n0_; have HB := n1_; have BK324 := n2_; have GW324 := n3_; have GE324 := n4_; have NB323_324 := n5_; have NB324_323 := n6_; clear n0_ n1_ n2_ n3_ n4_ n5_ n6_; clear hb hbox hg; have hnb8 := NB323_324.out; have hnc8 := NB324_323.out; have hcz9_0 : w7.cell? ⟨gb323, 0, none⟩ = some (.int .i64 a0_0) := (blk_cell BK323.out 0).trans rfl; have hcz9_1 : w7.cell? ⟨gb323, 1, none⟩ = some (.int .i64 a0_1) := (blk_cell BK323.out 1).trans rfl; have hcz9_2 : w7.cell? ⟨gb323, 2, none⟩ = some (.int .i64 a0_2) := (blk_cell BK323.out 2).trans rfl; have hfz9_0 := blk_frozen BK323.out 0; have hfz9_1 := blk_frozen BK323.out 1; have hfz9_2 := blk_frozen BK323.out 2) | ((with_reducible refine gate_callee (f := 22) rfl ?_); refine goesL_ (some 12) rfl rfl Try.func22 (by kernel_rfl) rfl #[.agg #[.int .i64 a0_0, .int .i64 a0_1, .int .i64 a0_2]] rfl (by (try simp only [List.map_toArray, List.map_cons, List.map_nil]); first | done | rfl | (simp only [List.length_drop, List.length_take]; rfl)) ?_; (with_reducible refine (day_Of.calls a0_0 a0_1 a0_2 t325 t326 _ A3.out).mono ?_); rintro e w10 ⟨rfl, hb⟩; refine ⟨_, rfl, ?_⟩; have n0_ := Aside0.mk (blk_below (g := gb323) (o := .cells #[.int .i64 a0_0, .int .i64 a0_1, .int .i64 a0_2] 36 (0, 0)) (by (with_reducible repeat (first | refine blk_drewN ?_ _ | refine blk_drew ?_ | refine blk_alloc ?_ _)); exact BK323.out) hb); have n1_ := Aside0.mk (blk_below (g := gb324) (o := .cells #[.int .i64 a1_0, .int .i64 a1_1, .int .i64 a1_2] 36 (0, 0)) (by (with_reducible repeat (first | refine blk_drewN ?_ _ | refine blk_drew ?_ | refine blk_alloc ?_ _)); exact BK324.out) hb); have n2_ := Aside0.mk (below_step (by repeat (first | (with_reducible first | exact HB.out | apply below_alloc | apply pw_below_drewN | apply below_drew1 | refine below_set ?_ GE323.out | refine below_set ?_ GE324.out) | exact HB.out)) hb); clear BK323; clear BK324; clear HB; have BK323 := n0_; have BK324 := n1_; have HB := n2_; clear n0_ n1_ n2_; (try clear hb); (try clear hb2); (try clear hk); (try clear hi); have hcz11_0 : w10.cell? ⟨gb324, 0, none⟩ = some (.int .i64 a1_0) := (blk_cell BK324.out 0).trans rfl; have hcz11_1 : w10.cell? ⟨gb324, 1, none⟩ = some (.int .i64 a1_1) := (blk_cell BK324.out 1).trans rfl; have hcz11_2 : w10.cell? ⟨gb324, 2, none⟩ = some (.int .i64 a1_2) := (blk_cell BK324.out 2).trans rfl; have hfz11_0 := blk_frozen BK324.out 0; have hfz11_1 := blk_frozen BK324.out 1; have hfz11_2 := blk_frozen BK324.out 2) | ((with_reducible refine gate_callee (f := 22) rfl ?_); refine goesL_ (some 17) rfl rfl Try.func22 (by kernel_rfl) rfl #[.agg #[.int .i64 a1_0, .int .i64 a1_1, .int .i64 a1_2]] rfl (by (try simp only [List.map_toArray, List.map_cons, List.map_nil]); first | done | rfl | (simp only [List.length_drop, List.length_take]; rfl)) ?_; (with_reducible refine (day_Of.calls a1_0 a1_1 a1_2 t327 t328 _ A4.out).mono ?_); rintro e w12 ⟨rfl, hb⟩; refine ⟨_, rfl, ?_⟩; have n0_ := Aside0.mk (blk_below (g := gb323) (o := .cells #[.int .i64 a0_0, .int .i64 a0_1, .int .i64 a0_2] 36 (0, 0)) (by (with_reducible repeat (first | refine blk_drewN ?_ _ | refine blk_drew ?_ | refine blk_alloc ?_ _)); exact BK323.out) hb); have n1_ := Aside0.mk (blk_below (g := gb324) (o := .cells #[.int .i64 a1_0, .int .i64 a1_1, .int .i64 a1_2] 36 (0, 0)) (by (with_reducible repeat (first | refine blk_drewN ?_ _ | refine blk_drew ?_ | refine blk_alloc ?_ _)); exact BK324.out) hb); have n2_ := Aside0.mk (below_step (by repeat (first | (with_reducible first | exact HB.out | apply below_alloc | apply pw_below_drewN | apply below_drew1 | refine below_set ?_ GE323.out | refine below_set ?_ GE324.out) | exact HB.out)) hb); clear BK323; clear BK324; clear HB; have BK323 := n0_; have BK324 := n1_; have HB := n2_; clear n0_ n1_ n2_; (try clear hb); (try clear hb2); (try clear hk); (try clear hi)))
  (try simp only [Act.put, List.setIfInBounds_toArray, List.set_cons_zero, List.set_cons_succ])
  go_cut [25] (fun v25 wc => ∃ (kq : Nat) (x25_4 : Bool), v25 = .bool x25_4 ∧ Aside0 (gatelinelaw06_DayOrder.j0 kq t325 t327 x25_4 a0_0 a0_1 a0_2 a1_0 a1_1 a1_2 = some r) ∧ Aside0 (kq ≤ k) ∧ Aside0 (wc.heap[gb323]? = some (.cells #[.int .i64 a0_0, .int .i64 a0_1, .int .i64 a0_2] 36 (0, 0))) ∧ Aside0 (wc.heap[gb324]? = some (.cells #[.int .i64 a1_0, .int .i64 a1_1, .int .i64 a1_2] 36 (0, 0))) ∧ Aside0 (Below w.heap.size w wc))
  case first =>
    have H := HC5.out
    clear HC5
    by_cases c13 : t326 = 0
    · rw [if_pos c13] at H
      have c13b0 : (t326 == 0) = true := beq_iff_eq.mpr c13
      have c13b1 : (t326 != 0) = false := bne_eq_false_iff_eq.mpr c13
      clear c13
      (first | rw [c13b0] | (simp only [i64_w, i32_w]; rw [c13b0]) | skip)
      have H' := Aside0.mk H
      clear H
      go_wp2
      go_meet
      case rel => exact ⟨_, ((t328 != 0)), (by first | rfl | (simp; done) | (simp [*]; done)), H', ⟨by first | omega | exact Nat.le_refl _⟩, ⟨by (with_reducible repeat (first | refine blk_drewN ?_ _ | refine blk_drew ?_ | refine blk_alloc ?_ _)); exact BK323.out⟩, ⟨by (with_reducible repeat (first | refine blk_drewN ?_ _ | refine blk_drew ?_ | refine blk_alloc ?_ _)); exact BK324.out⟩, ⟨by repeat (first | (with_reducible first | exact HB.out | apply below_alloc | apply pw_below_drewN | apply below_drew1 | refine below_set ?_ GE323.out | refine below_set ?_ GE324.out) | exact HB.out)⟩⟩
    · rw [if_neg c13] at H
      have c13b0 : (t326 == 0) = false := beq_eq_false_iff_ne.mpr c13
      have c13b1 : (t326 != 0) = true := bne_iff_ne.mpr c13
      (first | rw [c13b0] | (simp only [i64_w, i32_w]; rw [c13b0]) | skip)
      have H' := Aside0.mk H
      clear H
      go_wp2
      go_meet
      case rel => exact ⟨_, (true), (by first | rfl | (simp; done) | (simp [*]; done)), H', ⟨by first | omega | exact Nat.le_refl _⟩, ⟨by (with_reducible repeat (first | refine blk_drewN ?_ _ | refine blk_drew ?_ | refine blk_alloc ?_ _)); exact BK323.out⟩, ⟨by (with_reducible repeat (first | refine blk_drewN ?_ _ | refine blk_drew ?_ | refine blk_alloc ?_ _)); exact BK324.out⟩, ⟨by repeat (first | (with_reducible first | exact HB.out | apply below_alloc | apply pw_below_drewN | apply below_drew1 | refine below_set ?_ GE323.out | refine below_set ?_ GE324.out) | exact HB.out)⟩⟩
  case rest =>
    clear HC5
    try clear c1
    try clear c2
    try clear p2
    try clear c8
    try clear c10
    try clear c13
    try clear c13b0
    try clear c13b1
    try clear hcz11_0
    try clear hcz11_1
    try clear hcz11_2
    try clear hcz9_0
    try clear hcz9_1
    try clear hcz9_2
    try clear hfz11_0
    try clear hfz11_1
    try clear hfz11_2
    try clear hfz9_0
    try clear hfz9_1
    try clear hfz9_2
    obtain ⟨kq, x25_4, rfl, HA, HJ4, BK323, BK324, HB⟩ := hcut
    cases kq with
    | zero => exact absurd HA.out (by simp [gatelinelaw06_DayOrder.j0])
    | succ kj4 =>
      have H := HA.out
      clear HA
      simp only [gatelinelaw06_DayOrder.j0] at H
      by_cases c14 : x25_4 = true
      · subst c14
        have H1 : ((gatelinelaw06_dated.f).bind fun t329 => (some t329)) = some r := by rw [if_pos rfl] at H; exact H
        clear H
        have H := H1
        clear H1
        replace H := Option.bind_eq_some_iff.mp H
        obtain ⟨t329, A150, H⟩ := H
        replace H : (some t329) = some r := H
        have A15 := Aside0.mk A150
        clear A150
        obtain rfl := Option.some.inj H
        go_wp2_with (first | ((with_reducible refine gate_callee (f := 24) rfl ?_); refine goesL_ (some 26) rfl rfl Try.func24 (by kernel_rfl) rfl #[] rfl (by (try simp only [List.map_toArray, List.map_cons, List.map_nil]); first | done | rfl | (simp only [List.length_drop, List.length_take]; rfl)) ?_; (with_reducible refine (gatelinelaw06_dated.calls  t329 _ A15.out).mono ?_); rintro e w16 ⟨rfl, hb⟩; refine ⟨_, rfl, ?_⟩; have n0_ := Aside0.mk (blk_below (g := gb323) (o := .cells #[.int .i64 a0_0, .int .i64 a0_1, .int .i64 a0_2] 36 (0, 0)) (by (with_reducible repeat (first | refine blk_drewN ?_ _ | refine blk_drew ?_ | refine blk_alloc ?_ _)); exact BK323.out) hb); have n1_ := Aside0.mk (blk_below (g := gb324) (o := .cells #[.int .i64 a1_0, .int .i64 a1_1, .int .i64 a1_2] 36 (0, 0)) (by (with_reducible repeat (first | refine blk_drewN ?_ _ | refine blk_drew ?_ | refine blk_alloc ?_ _)); exact BK324.out) hb); have n2_ := Aside0.mk (below_step (by repeat (first | (with_reducible first | exact HB.out | apply below_alloc | apply pw_below_drewN | apply below_drew1 | refine below_set ?_ GE323.out | refine below_set ?_ GE324.out) | exact HB.out)) hb); clear BK323; clear BK324; clear HB; have BK323 := n0_; have BK324 := n1_; have HB := n2_; clear n0_ n1_ n2_; (try clear hb); (try clear hb2); (try clear hk); (try clear hi)))
        go_ret
        exact ⟨by first | rfl | (simp [errW_none, errW_some] <;> rfl) | (simp [*, errW_none, errW_some] <;> rfl), by repeat (first | (with_reducible first | exact HB.out | apply below_alloc | apply pw_below_drewN | apply below_drew1 | refine below_set ?_ GE323.out | refine below_set ?_ GE324.out) | exact HB.out)⟩
      · replace c14 := Bool.eq_false_iff.mpr c14
        subst c14
        have H1 : (if a0_0 < a1_0 then ((gatelinelaw06_dated.f).bind fun t330 => (if t330 = true then (if (true == (decide (t325 < t327))) = true then (some ((a0_0 == a1_0 && (a0_1 == a1_1 && (a0_2 == a1_2))) == (t325 == t327))) else (none)) else (none))) else (if a0_0 = a1_0 then (if a0_1 < a1_1 then ((gatelinelaw06_dated.f).bind fun t331 => (if t331 = true then (if (true == (decide (t325 < t327))) = true then (some ((a0_0 == a1_0 && (a0_1 == a1_1 && (a0_2 == a1_2))) == (t325 == t327))) else (none)) else (none))) else (if a0_1 = a1_1 then ((gatelinelaw06_dated.f).bind fun t332 => (if t332 = true then (if ((decide (a0_2 < a1_2)) == (decide (t325 < t327))) = true then (some ((a0_0 == a1_0 && (a0_1 == a1_1 && (a0_2 == a1_2))) == (t325 == t327))) else (none)) else (none))) else ((gatelinelaw06_dated.f).bind fun t333 => (if t333 = true then (if (false == (decide (t325 < t327))) = true then (some ((a0_0 == a1_0 && (a0_1 == a1_1 && (a0_2 == a1_2))) == (t325 == t327))) else (none)) else (none))))) else ((gatelinelaw06_dated.f).bind fun t334 => (if t334 = true then (if (false == (decide (t325 < t327))) = true then (some ((a0_0 == a1_0 && (a0_1 == a1_1 && (a0_2 == a1_2))) == (t325 == t327))) else (none)) else (none))))) = some r := by rw [if_neg (show ¬ (false = true) by decide)] at H; exact H
        clear H
        have H := H1
        clear H1
        by_cases c17 : a0_0 < a1_0
        · rw [if_pos c17] at H
          have c17b0 : decide (a0_0 < a1_0) = true := decide_eq_true c17
          clear c17
          replace H := Option.bind_eq_some_iff.mp H
          obtain ⟨t330, A180, H⟩ := H
          replace H : (if t330 = true then (if (true == (decide (t325 < t327))) = true then (some ((a0_0 == a1_0 && (a0_1 == a1_1 && (a0_2 == a1_2))) == (t325 == t327))) else (none)) else (none)) = some r := H
          have A18 := Aside0.mk A180
          clear A180
          by_cases c19 : t330 = true
          · subst c19
            have H1 : (if (true == (decide (t325 < t327))) = true then (some ((a0_0 == a1_0 && (a0_1 == a1_1 && (a0_2 == a1_2))) == (t325 == t327))) else (none)) = some r := by rw [if_pos rfl] at H; exact H
            clear H
            have H := H1
            clear H1
            by_cases c20 : (true == (decide (t325 < t327))) = true
            · rw [if_pos c20] at H
              have c20b0 : (true == (decide (t325 < t327))) = true := c20
              (try (have c20b1 : decide (true = (decide (t325 < t327))) = true := by simpa using c20))
              (try (have c20b2 : (true == (decide (t325 < t327))) = true := by simpa using c20))
              clear c20
              obtain rfl := Option.some.inj H
              have hnb21 := NB323_324.out
              have hnc21 := NB324_323.out
              have hcz22_0 : wc.cell? ⟨gb323, 0, none⟩ = some (.int .i64 a0_0) := (blk_cell BK323.out 0).trans rfl
              have hcz22_1 : wc.cell? ⟨gb323, 1, none⟩ = some (.int .i64 a0_1) := (blk_cell BK323.out 1).trans rfl
              have hcz22_2 : wc.cell? ⟨gb323, 2, none⟩ = some (.int .i64 a0_2) := (blk_cell BK323.out 2).trans rfl
              have hfz22_0 := blk_frozen BK323.out 0
              have hfz22_1 := blk_frozen BK323.out 1
              have hfz22_2 := blk_frozen BK323.out 2
              have hcz23_0 : wc.cell? ⟨gb324, 0, none⟩ = some (.int .i64 a1_0) := (blk_cell BK324.out 0).trans rfl
              have hcz23_1 : wc.cell? ⟨gb324, 1, none⟩ = some (.int .i64 a1_1) := (blk_cell BK324.out 1).trans rfl
              have hcz23_2 : wc.cell? ⟨gb324, 2, none⟩ = some (.int .i64 a1_2) := (blk_cell BK324.out 2).trans rfl
              have hfz23_0 := blk_frozen BK324.out 0
              have hfz23_1 := blk_frozen BK324.out 1
              have hfz23_2 := blk_frozen BK324.out 2
              go_wp2_with (first | ((with_reducible refine gate_callee (f := 24) rfl ?_); refine goesL_ (some 60) rfl rfl Try.func24 (by kernel_rfl) rfl #[] rfl (by (try simp only [List.map_toArray, List.map_cons, List.map_nil]); first | done | rfl | (simp only [List.length_drop, List.length_take]; rfl)) ?_; (with_reducible refine (gatelinelaw06_dated.calls  true _ A18.out).mono ?_); rintro e w24 ⟨rfl, hb⟩; refine ⟨_, rfl, ?_⟩; have n0_ := Aside0.mk (blk_below (g := gb323) (o := .cells #[.int .i64 a0_0, .int .i64 a0_1, .int .i64 a0_2] 36 (0, 0)) (by (with_reducible repeat (first | refine blk_drewN ?_ _ | refine blk_drew ?_ | refine blk_alloc ?_ _)); exact BK323.out) hb); have n1_ := Aside0.mk (blk_below (g := gb324) (o := .cells #[.int .i64 a1_0, .int .i64 a1_1, .int .i64 a1_2] 36 (0, 0)) (by (with_reducible repeat (first | refine blk_drewN ?_ _ | refine blk_drew ?_ | refine blk_alloc ?_ _)); exact BK324.out) hb); have n2_ := Aside0.mk (below_step (by repeat (first | (with_reducible first | exact HB.out | apply below_alloc | apply pw_below_drewN | apply below_drew1 | refine below_set ?_ GE323.out | refine below_set ?_ GE324.out) | exact HB.out)) hb); clear BK323; clear BK324; clear HB; have BK323 := n0_; have BK324 := n1_; have HB := n2_; clear n0_ n1_ n2_; (try clear hb); (try clear hb2); (try clear hk); (try clear hi); have hcz25_0 : w24.cell? ⟨gb323, 0, none⟩ = some (.int .i64 a0_0) := (blk_cell BK323.out 0).trans rfl; have hcz25_1 : w24.cell? ⟨gb323, 1, none⟩ = some (.int .i64 a0_1) := (blk_cell BK323.out 1).trans rfl; have hcz25_2 : w24.cell? ⟨gb323, 2, none⟩ = some (.int .i64 a0_2) := (blk_cell BK323.out 2).trans rfl; have hfz25_0 := blk_frozen BK323.out 0; have hfz25_1 := blk_frozen BK323.out 1; have hfz25_2 := blk_frozen BK323.out 2; have hcz26_0 : w24.cell? ⟨gb324, 0, none⟩ = some (.int .i64 a1_0) := (blk_cell BK324.out 0).trans rfl; have hcz26_1 : w24.cell? ⟨gb324, 1, none⟩ = some (.int .i64 a1_1) := (blk_cell BK324.out 1).trans rfl; have hcz26_2 : w24.cell? ⟨gb324, 2, none⟩ = some (.int .i64 a1_2) := (blk_cell BK324.out 2).trans rfl; have hfz26_0 := blk_frozen BK324.out 0; have hfz26_1 := blk_frozen BK324.out 1; have hfz26_2 := blk_frozen BK324.out 2))
              go_ret
              exact ⟨by first | rfl | (simp [errW_none, errW_some] <;> rfl) | (simp [*, errW_none, errW_some] <;> rfl), by repeat (first | (with_reducible first | exact HB.out | apply below_alloc | apply pw_below_drewN | apply below_drew1 | refine below_set ?_ GE323.out | refine below_set ?_ GE324.out) | exact HB.out)⟩
            · rw [if_neg c20] at H
              exact absurd H (by simp)
          · replace c19 := Bool.eq_false_iff.mpr c19
            subst c19
            have H1 : (none) = some r := by rw [if_neg (show ¬ (false = true) by decide)] at H; exact H
            clear H
            have H := H1
            clear H1
            exact absurd H (by simp)
        · rw [if_neg c17] at H
          have c17b0 : decide (a0_0 < a1_0) = false := decide_eq_false c17
          clear c17
          by_cases c27 : a0_0 = a1_0
          · rw [if_pos c27] at H
            have c27b0 : (a0_0 == a1_0) = true := beq_iff_eq.mpr c27
            have c27b1 : (a0_0 != a1_0) = false := bne_eq_false_iff_eq.mpr c27
            clear c27
            by_cases c28 : a0_1 < a1_1
            · rw [if_pos c28] at H
              have c28b0 : decide (a0_1 < a1_1) = true := decide_eq_true c28
              clear c28
              replace H := Option.bind_eq_some_iff.mp H
              obtain ⟨t331, A290, H⟩ := H
              replace H : (if t331 = true then (if (true == (decide (t325 < t327))) = true then (some ((a0_0 == a1_0 && (a0_1 == a1_1 && (a0_2 == a1_2))) == (t325 == t327))) else (none)) else (none)) = some r := H
              have A29 := Aside0.mk A290
              clear A290
              by_cases c30 : t331 = true
              · subst c30
                have H1 : (if (true == (decide (t325 < t327))) = true then (some ((a0_0 == a1_0 && (a0_1 == a1_1 && (a0_2 == a1_2))) == (t325 == t327))) else (none)) = some r := by rw [if_pos rfl] at H; exact H
                clear H
                have H := H1
                clear H1
                by_cases c31 : (true == (decide (t325 < t327))) = true
                · rw [if_pos c31] at H
                  have c31b0 : (true == (decide (t325 < t327))) = true := c31
                  (try (have c31b1 : decide (true = (decide (t325 < t327))) = true := by simpa using c31))
                  (try (have c31b2 : (true == (decide (t325 < t327))) = true := by simpa using c31))
                  clear c31
                  obtain rfl := Option.some.inj H
                  have hnb32 := NB323_324.out
                  have hnc32 := NB324_323.out
                  have hcz33_0 : wc.cell? ⟨gb323, 0, none⟩ = some (.int .i64 a0_0) := (blk_cell BK323.out 0).trans rfl
                  have hcz33_1 : wc.cell? ⟨gb323, 1, none⟩ = some (.int .i64 a0_1) := (blk_cell BK323.out 1).trans rfl
                  have hcz33_2 : wc.cell? ⟨gb323, 2, none⟩ = some (.int .i64 a0_2) := (blk_cell BK323.out 2).trans rfl
                  have hfz33_0 := blk_frozen BK323.out 0
                  have hfz33_1 := blk_frozen BK323.out 1
                  have hfz33_2 := blk_frozen BK323.out 2
                  have hcz34_0 : wc.cell? ⟨gb324, 0, none⟩ = some (.int .i64 a1_0) := (blk_cell BK324.out 0).trans rfl
                  have hcz34_1 : wc.cell? ⟨gb324, 1, none⟩ = some (.int .i64 a1_1) := (blk_cell BK324.out 1).trans rfl
                  have hcz34_2 : wc.cell? ⟨gb324, 2, none⟩ = some (.int .i64 a1_2) := (blk_cell BK324.out 2).trans rfl
                  have hfz34_0 := blk_frozen BK324.out 0
                  have hfz34_1 := blk_frozen BK324.out 1
                  have hfz34_2 := blk_frozen BK324.out 2
                  go_wp2_with (first | ((with_reducible refine gate_callee (f := 24) rfl ?_); refine goesL_ (some 60) rfl rfl Try.func24 (by kernel_rfl) rfl #[] rfl (by (try simp only [List.map_toArray, List.map_cons, List.map_nil]); first | done | rfl | (simp only [List.length_drop, List.length_take]; rfl)) ?_; (with_reducible refine (gatelinelaw06_dated.calls  true _ A29.out).mono ?_); rintro e w35 ⟨rfl, hb⟩; refine ⟨_, rfl, ?_⟩; have n0_ := Aside0.mk (blk_below (g := gb323) (o := .cells #[.int .i64 a0_0, .int .i64 a0_1, .int .i64 a0_2] 36 (0, 0)) (by (with_reducible repeat (first | refine blk_drewN ?_ _ | refine blk_drew ?_ | refine blk_alloc ?_ _)); exact BK323.out) hb); have n1_ := Aside0.mk (blk_below (g := gb324) (o := .cells #[.int .i64 a1_0, .int .i64 a1_1, .int .i64 a1_2] 36 (0, 0)) (by (with_reducible repeat (first | refine blk_drewN ?_ _ | refine blk_drew ?_ | refine blk_alloc ?_ _)); exact BK324.out) hb); have n2_ := Aside0.mk (below_step (by repeat (first | (with_reducible first | exact HB.out | apply below_alloc | apply pw_below_drewN | apply below_drew1 | refine below_set ?_ GE323.out | refine below_set ?_ GE324.out) | exact HB.out)) hb); clear BK323; clear BK324; clear HB; have BK323 := n0_; have BK324 := n1_; have HB := n2_; clear n0_ n1_ n2_; (try clear hb); (try clear hb2); (try clear hk); (try clear hi); have hcz36_0 : w35.cell? ⟨gb323, 0, none⟩ = some (.int .i64 a0_0) := (blk_cell BK323.out 0).trans rfl; have hcz36_1 : w35.cell? ⟨gb323, 1, none⟩ = some (.int .i64 a0_1) := (blk_cell BK323.out 1).trans rfl; have hcz36_2 : w35.cell? ⟨gb323, 2, none⟩ = some (.int .i64 a0_2) := (blk_cell BK323.out 2).trans rfl; have hfz36_0 := blk_frozen BK323.out 0; have hfz36_1 := blk_frozen BK323.out 1; have hfz36_2 := blk_frozen BK323.out 2; have hcz37_0 : w35.cell? ⟨gb324, 0, none⟩ = some (.int .i64 a1_0) := (blk_cell BK324.out 0).trans rfl; have hcz37_1 : w35.cell? ⟨gb324, 1, none⟩ = some (.int .i64 a1_1) := (blk_cell BK324.out 1).trans rfl; have hcz37_2 : w35.cell? ⟨gb324, 2, none⟩ = some (.int .i64 a1_2) := (blk_cell BK324.out 2).trans rfl; have hfz37_0 := blk_frozen BK324.out 0; have hfz37_1 := blk_frozen BK324.out 1; have hfz37_2 := blk_frozen BK324.out 2))
                  go_ret
                  exact ⟨by first | rfl | (simp [errW_none, errW_some] <;> rfl) | (simp [*, errW_none, errW_some] <;> rfl), by repeat (first | (with_reducible first | exact HB.out | apply below_alloc | apply pw_below_drewN | apply below_drew1 | refine below_set ?_ GE323.out | refine below_set ?_ GE324.out) | exact HB.out)⟩
                · rw [if_neg c31] at H
                  exact absurd H (by simp)
              · replace c30 := Bool.eq_false_iff.mpr c30
                subst c30
                have H1 : (none) = some r := by rw [if_neg (show ¬ (false = true) by decide)] at H; exact H
                clear H
                have H := H1
                clear H1
                exact absurd H (by simp)
            · rw [if_neg c28] at H
              have c28b0 : decide (a0_1 < a1_1) = false := decide_eq_false c28
              clear c28
              by_cases c38 : a0_1 = a1_1
              · rw [if_pos c38] at H
                have c38b0 : (a0_1 == a1_1) = true := beq_iff_eq.mpr c38
                have c38b1 : (a0_1 != a1_1) = false := bne_eq_false_iff_eq.mpr c38
                clear c38
                replace H := Option.bind_eq_some_iff.mp H
                obtain ⟨t332, A390, H⟩ := H
                replace H : (if t332 = true then (if ((decide (a0_2 < a1_2)) == (decide (t325 < t327))) = true then (some ((a0_0 == a1_0 && (a0_1 == a1_1 && (a0_2 == a1_2))) == (t325 == t327))) else (none)) else (none)) = some r := H
                have A39 := Aside0.mk A390
                clear A390
                by_cases c40 : t332 = true
                · subst c40
                  have H1 : (if ((decide (a0_2 < a1_2)) == (decide (t325 < t327))) = true then (some ((a0_0 == a1_0 && (a0_1 == a1_1 && (a0_2 == a1_2))) == (t325 == t327))) else (none)) = some r := by rw [if_pos rfl] at H; exact H
                  clear H
                  have H := H1
                  clear H1
                  by_cases c41 : ((decide (a0_2 < a1_2)) == (decide (t325 < t327))) = true
                  · rw [if_pos c41] at H
                    have c41b0 : ((decide (a0_2 < a1_2)) == (decide (t325 < t327))) = true := c41
                    (try (have c41b1 : decide ((decide (a0_2 < a1_2)) = (decide (t325 < t327))) = true := by simpa using c41))
                    (try (have c41b2 : ((decide (a0_2 < a1_2)) == (decide (t325 < t327))) = true := by simpa using c41))
                    clear c41
                    obtain rfl := Option.some.inj H
                    have hnb42 := NB323_324.out
                    have hnc42 := NB324_323.out
                    have hcz43_0 : wc.cell? ⟨gb323, 0, none⟩ = some (.int .i64 a0_0) := (blk_cell BK323.out 0).trans rfl
                    have hcz43_1 : wc.cell? ⟨gb323, 1, none⟩ = some (.int .i64 a0_1) := (blk_cell BK323.out 1).trans rfl
                    have hcz43_2 : wc.cell? ⟨gb323, 2, none⟩ = some (.int .i64 a0_2) := (blk_cell BK323.out 2).trans rfl
                    have hfz43_0 := blk_frozen BK323.out 0
                    have hfz43_1 := blk_frozen BK323.out 1
                    have hfz43_2 := blk_frozen BK323.out 2
                    have hcz44_0 : wc.cell? ⟨gb324, 0, none⟩ = some (.int .i64 a1_0) := (blk_cell BK324.out 0).trans rfl
                    have hcz44_1 : wc.cell? ⟨gb324, 1, none⟩ = some (.int .i64 a1_1) := (blk_cell BK324.out 1).trans rfl
                    have hcz44_2 : wc.cell? ⟨gb324, 2, none⟩ = some (.int .i64 a1_2) := (blk_cell BK324.out 2).trans rfl
                    have hfz44_0 := blk_frozen BK324.out 0
                    have hfz44_1 := blk_frozen BK324.out 1
                    have hfz44_2 := blk_frozen BK324.out 2
                    go_wp2_with (first | ((with_reducible refine gate_callee (f := 24) rfl ?_); refine goesL_ (some 60) rfl rfl Try.func24 (by kernel_rfl) rfl #[] rfl (by (try simp only [List.map_toArray, List.map_cons, List.map_nil]); first | done | rfl | (simp only [List.length_drop, List.length_take]; rfl)) ?_; (with_reducible refine (gatelinelaw06_dated.calls  true _ A39.out).mono ?_); rintro e w45 ⟨rfl, hb⟩; refine ⟨_, rfl, ?_⟩; have n0_ := Aside0.mk (blk_below (g := gb323) (o := .cells #[.int .i64 a0_0, .int .i64 a0_1, .int .i64 a0_2] 36 (0, 0)) (by (with_reducible repeat (first | refine blk_drewN ?_ _ | refine blk_drew ?_ | refine blk_alloc ?_ _)); exact BK323.out) hb); have n1_ := Aside0.mk (blk_below (g := gb324) (o := .cells #[.int .i64 a1_0, .int .i64 a1_1, .int .i64 a1_2] 36 (0, 0)) (by (with_reducible repeat (first | refine blk_drewN ?_ _ | refine blk_drew ?_ | refine blk_alloc ?_ _)); exact BK324.out) hb); have n2_ := Aside0.mk (below_step (by repeat (first | (with_reducible first | exact HB.out | apply below_alloc | apply pw_below_drewN | apply below_drew1 | refine below_set ?_ GE323.out | refine below_set ?_ GE324.out) | exact HB.out)) hb); clear BK323; clear BK324; clear HB; have BK323 := n0_; have BK324 := n1_; have HB := n2_; clear n0_ n1_ n2_; (try clear hb); (try clear hb2); (try clear hk); (try clear hi); have hcz46_0 : w45.cell? ⟨gb323, 0, none⟩ = some (.int .i64 a0_0) := (blk_cell BK323.out 0).trans rfl; have hcz46_1 : w45.cell? ⟨gb323, 1, none⟩ = some (.int .i64 a0_1) := (blk_cell BK323.out 1).trans rfl; have hcz46_2 : w45.cell? ⟨gb323, 2, none⟩ = some (.int .i64 a0_2) := (blk_cell BK323.out 2).trans rfl; have hfz46_0 := blk_frozen BK323.out 0; have hfz46_1 := blk_frozen BK323.out 1; have hfz46_2 := blk_frozen BK323.out 2; have hcz47_0 : w45.cell? ⟨gb324, 0, none⟩ = some (.int .i64 a1_0) := (blk_cell BK324.out 0).trans rfl; have hcz47_1 : w45.cell? ⟨gb324, 1, none⟩ = some (.int .i64 a1_1) := (blk_cell BK324.out 1).trans rfl; have hcz47_2 : w45.cell? ⟨gb324, 2, none⟩ = some (.int .i64 a1_2) := (blk_cell BK324.out 2).trans rfl; have hfz47_0 := blk_frozen BK324.out 0; have hfz47_1 := blk_frozen BK324.out 1; have hfz47_2 := blk_frozen BK324.out 2))
                    go_ret
                    exact ⟨by first | rfl | (simp [errW_none, errW_some] <;> rfl) | (simp [*, errW_none, errW_some] <;> rfl), by repeat (first | (with_reducible first | exact HB.out | apply below_alloc | apply pw_below_drewN | apply below_drew1 | refine below_set ?_ GE323.out | refine below_set ?_ GE324.out) | exact HB.out)⟩
                  · rw [if_neg c41] at H
                    exact absurd H (by simp)
                · replace c40 := Bool.eq_false_iff.mpr c40
                  subst c40
                  have H1 : (none) = some r := by rw [if_neg (show ¬ (false = true) by decide)] at H; exact H
                  clear H
                  have H := H1
                  clear H1
                  exact absurd H (by simp)
              · rw [if_neg c38] at H
                have c38b0 : (a0_1 == a1_1) = false := beq_eq_false_iff_ne.mpr c38
                have c38b1 : (a0_1 != a1_1) = true := bne_iff_ne.mpr c38
                replace H := Option.bind_eq_some_iff.mp H
                obtain ⟨t333, A480, H⟩ := H
                replace H : (if t333 = true then (if (false == (decide (t325 < t327))) = true then (some ((a0_0 == a1_0 && (a0_1 == a1_1 && (a0_2 == a1_2))) == (t325 == t327))) else (none)) else (none)) = some r := H
                have A48 := Aside0.mk A480
                clear A480
                by_cases c49 : t333 = true
                · subst c49
                  have H1 : (if (false == (decide (t325 < t327))) = true then (some ((a0_0 == a1_0 && (a0_1 == a1_1 && (a0_2 == a1_2))) == (t325 == t327))) else (none)) = some r := by rw [if_pos rfl] at H; exact H
                  clear H
                  have H := H1
                  clear H1
                  by_cases c50 : (false == (decide (t325 < t327))) = true
                  · rw [if_pos c50] at H
                    have c50b0 : (false == (decide (t325 < t327))) = true := c50
                    (try (have c50b1 : decide (false = (decide (t325 < t327))) = true := by simpa using c50))
                    (try (have c50b2 : (false == (decide (t325 < t327))) = true := by simpa using c50))
                    clear c50
                    obtain rfl := Option.some.inj H
                    have hnb51 := NB323_324.out
                    have hnc51 := NB324_323.out
                    have hcz52_0 : wc.cell? ⟨gb323, 0, none⟩ = some (.int .i64 a0_0) := (blk_cell BK323.out 0).trans rfl
                    have hcz52_1 : wc.cell? ⟨gb323, 1, none⟩ = some (.int .i64 a0_1) := (blk_cell BK323.out 1).trans rfl
                    have hcz52_2 : wc.cell? ⟨gb323, 2, none⟩ = some (.int .i64 a0_2) := (blk_cell BK323.out 2).trans rfl
                    have hfz52_0 := blk_frozen BK323.out 0
                    have hfz52_1 := blk_frozen BK323.out 1
                    have hfz52_2 := blk_frozen BK323.out 2
                    have hcz53_0 : wc.cell? ⟨gb324, 0, none⟩ = some (.int .i64 a1_0) := (blk_cell BK324.out 0).trans rfl
                    have hcz53_1 : wc.cell? ⟨gb324, 1, none⟩ = some (.int .i64 a1_1) := (blk_cell BK324.out 1).trans rfl
                    have hcz53_2 : wc.cell? ⟨gb324, 2, none⟩ = some (.int .i64 a1_2) := (blk_cell BK324.out 2).trans rfl
                    have hfz53_0 := blk_frozen BK324.out 0
                    have hfz53_1 := blk_frozen BK324.out 1
                    have hfz53_2 := blk_frozen BK324.out 2
                    go_wp2_with (first | ((with_reducible refine gate_callee (f := 24) rfl ?_); refine goesL_ (some 60) rfl rfl Try.func24 (by kernel_rfl) rfl #[] rfl (by (try simp only [List.map_toArray, List.map_cons, List.map_nil]); first | done | rfl | (simp only [List.length_drop, List.length_take]; rfl)) ?_; (with_reducible refine (gatelinelaw06_dated.calls  true _ A48.out).mono ?_); rintro e w54 ⟨rfl, hb⟩; refine ⟨_, rfl, ?_⟩; have n0_ := Aside0.mk (blk_below (g := gb323) (o := .cells #[.int .i64 a0_0, .int .i64 a0_1, .int .i64 a0_2] 36 (0, 0)) (by (with_reducible repeat (first | refine blk_drewN ?_ _ | refine blk_drew ?_ | refine blk_alloc ?_ _)); exact BK323.out) hb); have n1_ := Aside0.mk (blk_below (g := gb324) (o := .cells #[.int .i64 a1_0, .int .i64 a1_1, .int .i64 a1_2] 36 (0, 0)) (by (with_reducible repeat (first | refine blk_drewN ?_ _ | refine blk_drew ?_ | refine blk_alloc ?_ _)); exact BK324.out) hb); have n2_ := Aside0.mk (below_step (by repeat (first | (with_reducible first | exact HB.out | apply below_alloc | apply pw_below_drewN | apply below_drew1 | refine below_set ?_ GE323.out | refine below_set ?_ GE324.out) | exact HB.out)) hb); clear BK323; clear BK324; clear HB; have BK323 := n0_; have BK324 := n1_; have HB := n2_; clear n0_ n1_ n2_; (try clear hb); (try clear hb2); (try clear hk); (try clear hi); have hcz55_0 : w54.cell? ⟨gb323, 0, none⟩ = some (.int .i64 a0_0) := (blk_cell BK323.out 0).trans rfl; have hcz55_1 : w54.cell? ⟨gb323, 1, none⟩ = some (.int .i64 a0_1) := (blk_cell BK323.out 1).trans rfl; have hcz55_2 : w54.cell? ⟨gb323, 2, none⟩ = some (.int .i64 a0_2) := (blk_cell BK323.out 2).trans rfl; have hfz55_0 := blk_frozen BK323.out 0; have hfz55_1 := blk_frozen BK323.out 1; have hfz55_2 := blk_frozen BK323.out 2; have hcz56_0 : w54.cell? ⟨gb324, 0, none⟩ = some (.int .i64 a1_0) := (blk_cell BK324.out 0).trans rfl; have hcz56_1 : w54.cell? ⟨gb324, 1, none⟩ = some (.int .i64 a1_1) := (blk_cell BK324.out 1).trans rfl; have hcz56_2 : w54.cell? ⟨gb324, 2, none⟩ = some (.int .i64 a1_2) := (blk_cell BK324.out 2).trans rfl; have hfz56_0 := blk_frozen BK324.out 0; have hfz56_1 := blk_frozen BK324.out 1; have hfz56_2 := blk_frozen BK324.out 2))
                    go_ret
                    exact ⟨by first | rfl | (simp [errW_none, errW_some] <;> rfl) | (simp [*, errW_none, errW_some] <;> rfl), by repeat (first | (with_reducible first | exact HB.out | apply below_alloc | apply pw_below_drewN | apply below_drew1 | refine below_set ?_ GE323.out | refine below_set ?_ GE324.out) | exact HB.out)⟩
                  · rw [if_neg c50] at H
                    exact absurd H (by simp)
                · replace c49 := Bool.eq_false_iff.mpr c49
                  subst c49
                  have H1 : (none) = some r := by rw [if_neg (show ¬ (false = true) by decide)] at H; exact H
                  clear H
                  have H := H1
                  clear H1
                  exact absurd H (by simp)
          · rw [if_neg c27] at H
            have c27b0 : (a0_0 == a1_0) = false := beq_eq_false_iff_ne.mpr c27
            have c27b1 : (a0_0 != a1_0) = true := bne_iff_ne.mpr c27
            replace H := Option.bind_eq_some_iff.mp H
            obtain ⟨t334, A570, H⟩ := H
            replace H : (if t334 = true then (if (false == (decide (t325 < t327))) = true then (some ((a0_0 == a1_0 && (a0_1 == a1_1 && (a0_2 == a1_2))) == (t325 == t327))) else (none)) else (none)) = some r := H
            have A57 := Aside0.mk A570
            clear A570
            by_cases c58 : t334 = true
            · subst c58
              have H1 : (if (false == (decide (t325 < t327))) = true then (some ((a0_0 == a1_0 && (a0_1 == a1_1 && (a0_2 == a1_2))) == (t325 == t327))) else (none)) = some r := by rw [if_pos rfl] at H; exact H
              clear H
              have H := H1
              clear H1
              by_cases c59 : (false == (decide (t325 < t327))) = true
              · rw [if_pos c59] at H
                have c59b0 : (false == (decide (t325 < t327))) = true := c59
                (try (have c59b1 : decide (false = (decide (t325 < t327))) = true := by simpa using c59))
                (try (have c59b2 : (false == (decide (t325 < t327))) = true := by simpa using c59))
                clear c59
                obtain rfl := Option.some.inj H
                have hnb60 := NB323_324.out
                have hnc60 := NB324_323.out
                have hcz61_0 : wc.cell? ⟨gb323, 0, none⟩ = some (.int .i64 a0_0) := (blk_cell BK323.out 0).trans rfl
                have hcz61_1 : wc.cell? ⟨gb323, 1, none⟩ = some (.int .i64 a0_1) := (blk_cell BK323.out 1).trans rfl
                have hcz61_2 : wc.cell? ⟨gb323, 2, none⟩ = some (.int .i64 a0_2) := (blk_cell BK323.out 2).trans rfl
                have hfz61_0 := blk_frozen BK323.out 0
                have hfz61_1 := blk_frozen BK323.out 1
                have hfz61_2 := blk_frozen BK323.out 2
                have hcz62_0 : wc.cell? ⟨gb324, 0, none⟩ = some (.int .i64 a1_0) := (blk_cell BK324.out 0).trans rfl
                have hcz62_1 : wc.cell? ⟨gb324, 1, none⟩ = some (.int .i64 a1_1) := (blk_cell BK324.out 1).trans rfl
                have hcz62_2 : wc.cell? ⟨gb324, 2, none⟩ = some (.int .i64 a1_2) := (blk_cell BK324.out 2).trans rfl
                have hfz62_0 := blk_frozen BK324.out 0
                have hfz62_1 := blk_frozen BK324.out 1
                have hfz62_2 := blk_frozen BK324.out 2
                go_wp2_with (first | ((with_reducible refine gate_callee (f := 24) rfl ?_); refine goesL_ (some 60) rfl rfl Try.func24 (by kernel_rfl) rfl #[] rfl (by (try simp only [List.map_toArray, List.map_cons, List.map_nil]); first | done | rfl | (simp only [List.length_drop, List.length_take]; rfl)) ?_; (with_reducible refine (gatelinelaw06_dated.calls  true _ A57.out).mono ?_); rintro e w63 ⟨rfl, hb⟩; refine ⟨_, rfl, ?_⟩; have n0_ := Aside0.mk (blk_below (g := gb323) (o := .cells #[.int .i64 a0_0, .int .i64 a0_1, .int .i64 a0_2] 36 (0, 0)) (by (with_reducible repeat (first | refine blk_drewN ?_ _ | refine blk_drew ?_ | refine blk_alloc ?_ _)); exact BK323.out) hb); have n1_ := Aside0.mk (blk_below (g := gb324) (o := .cells #[.int .i64 a1_0, .int .i64 a1_1, .int .i64 a1_2] 36 (0, 0)) (by (with_reducible repeat (first | refine blk_drewN ?_ _ | refine blk_drew ?_ | refine blk_alloc ?_ _)); exact BK324.out) hb); have n2_ := Aside0.mk (below_step (by repeat (first | (with_reducible first | exact HB.out | apply below_alloc | apply pw_below_drewN | apply below_drew1 | refine below_set ?_ GE323.out | refine below_set ?_ GE324.out) | exact HB.out)) hb); clear BK323; clear BK324; clear HB; have BK323 := n0_; have BK324 := n1_; have HB := n2_; clear n0_ n1_ n2_; (try clear hb); (try clear hb2); (try clear hk); (try clear hi); have hcz64_0 : w63.cell? ⟨gb323, 0, none⟩ = some (.int .i64 a0_0) := (blk_cell BK323.out 0).trans rfl; have hcz64_1 : w63.cell? ⟨gb323, 1, none⟩ = some (.int .i64 a0_1) := (blk_cell BK323.out 1).trans rfl; have hcz64_2 : w63.cell? ⟨gb323, 2, none⟩ = some (.int .i64 a0_2) := (blk_cell BK323.out 2).trans rfl; have hfz64_0 := blk_frozen BK323.out 0; have hfz64_1 := blk_frozen BK323.out 1; have hfz64_2 := blk_frozen BK323.out 2; have hcz65_0 : w63.cell? ⟨gb324, 0, none⟩ = some (.int .i64 a1_0) := (blk_cell BK324.out 0).trans rfl; have hcz65_1 : w63.cell? ⟨gb324, 1, none⟩ = some (.int .i64 a1_1) := (blk_cell BK324.out 1).trans rfl; have hcz65_2 : w63.cell? ⟨gb324, 2, none⟩ = some (.int .i64 a1_2) := (blk_cell BK324.out 2).trans rfl; have hfz65_0 := blk_frozen BK324.out 0; have hfz65_1 := blk_frozen BK324.out 1; have hfz65_2 := blk_frozen BK324.out 2))
                go_ret
                exact ⟨by first | rfl | (simp [errW_none, errW_some] <;> rfl) | (simp [*, errW_none, errW_some] <;> rfl), by repeat (first | (with_reducible first | exact HB.out | apply below_alloc | apply pw_below_drewN | apply below_drew1 | refine below_set ?_ GE323.out | refine below_set ?_ GE324.out) | exact HB.out)⟩
              · rw [if_neg c59] at H
                exact absurd H (by simp)
            · replace c58 := Bool.eq_false_iff.mpr c58
              subst c58
              have H1 : (none) = some r := by rw [if_neg (show ¬ (false = true) by decide)] at H; exact H
              clear H
              have H := H1
              clear H1
              exact absurd H (by simp)

end Go.Proofs.Ytajlohhphjlgbaa.S
