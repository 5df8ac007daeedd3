/- Written for this claim by a program of this session (handprint.py, over the kit's print). Lean checks it. -/
import Derived.Test.YtijpiaiklojafaaS0
import Derived.Test.YtijpiaiklojafaaSF19
import Derived.Test.YtijpiaiklojafaaSF30
import Derived.Test.YtijpiaiklojafaaHAdd
import Derived.Test.YtijpiaiklojafaaHRinged
namespace Go.Proofs.Ytijpiaiklojafaa.S
open Go.RowKit Go.Proofs.YtijpiaiklojafaaW.PrintWords Go.Proofs.YtijpiaiklojafaaW.PrintLast Go.Proofs.YtijpiaiklojafaaW.PrintMore
attribute [local go_sem] max2_int min2_int max_two min_two max_three min_three max_four min_four   -- for this text's walks alone
set_option linter.unusedVariables false
set_option linter.unusedSimpArgs false

/-! ### gatelinelaw05_RingOrder: function 12 -/
mutual
def gatelinelaw05_RingOrder.j0 : Nat → List (S33) → Bool → Int → List Int → Int → Int → Int → List Int → Int → Int → Option (Bool)
  | 0, _, _, _, _, _, _, _, _, _, _ => none
  | k + 1, x0, x28, x378000, x378001, x378002, x378003, x379000, x379001, x379002, x379003 => if x28 = true then (some true) else ((ring_Add.f x0 x378000 x378001 x378002 x378003).bind fun bt380 => ((ring_Add.f x0 x379000 x379001 x379002 x379003).bind fun bt384 => (if bt380.2 = 0 then (gatelinelaw05_RingOrder.j1 k bt380.1 bt384.1 (bt384.2 != 0) x378000 x378001 x378002 x378003 x379000 x379001 x379002 x379003) else (gatelinelaw05_RingOrder.j1 k bt380.1 bt384.1 true x378000 x378001 x378002 x378003 x379000 x379001 x379002 x379003))))
def gatelinelaw05_RingOrder.j1 : Nat → List (S33) → List (S33) → Bool → Int → List Int → Int → Int → Int → List Int → Int → Int → Option (Bool)
  | 0, _, _, _, _, _, _, _, _, _, _, _ => none
  | k + 1, x7, x9, x46, x378000, x378001, x378002, x378003, x379000, x379001, x379002, x379003 => if x46 = true then ((gatelinelaw05_ringed.f).bind fun t388 => (some t388)) else ((ring_Add.f x7 x379000 x379001 x379002 x379003).bind fun bt389 => ((ring_Add.f x9 x378000 x378001 x378002 x378003).bind fun bt393 => ((gatelinelaw05_ringed.f).bind fun t397 => (if t397 = true then ((gatelineref05_Sames.f k bt389.1 bt393.1).bind fun t398 => (if t398 = true then (if bt389.2 = bt393.2 then (some ((bt389.2 == 0) == (x378000 != x379000))) else (none)) else (none))) else (none)))))
end
def gatelinelaw05_RingOrder.f (k : Nat) (l0 : List (S33)) (a1_0 : Int) (l1_1 : List Int) (a1_2 : Int) (a1_3 : Int) (a2_0 : Int) (l2_1 : List Int) (a2_2 : Int) (a2_3 : Int) : Option (Bool) := (gatelineref05_Big.f k l0).bind fun t379 => (if t379 = true then (gatelinelaw05_RingOrder.j0 k l0 true a1_0 l1_1 a1_2 a1_3 a2_0 l2_1 a2_2 a2_3) else (if (l1_1.length : Int) > 200 then (gatelinelaw05_RingOrder.j0 k l0 true a1_0 l1_1 a1_2 a1_3 a2_0 l2_1 a2_2 a2_3) else (gatelinelaw05_RingOrder.j0 k l0 (decide ((l2_1.length : Int) > 200)) a1_0 l1_1 a1_2 a1_3 a2_0 l2_1 a2_2 a2_3)))
theorem gatelinelaw05_RingOrder.mono_l : ∀ k, (∀ y0 y1 y2 y3 y4 y5 y6 y7 y8 y9, LeO (gatelinelaw05_RingOrder.j0 k y0 y1 y2 y3 y4 y5 y6 y7 y8 y9) (gatelinelaw05_RingOrder.j0 (k + 1) y0 y1 y2 y3 y4 y5 y6 y7 y8 y9)) ∧ (∀ y0 y1 y2 y3 y4 y5 y6 y7 y8 y9 y10, LeO (gatelinelaw05_RingOrder.j1 k y0 y1 y2 y3 y4 y5 y6 y7 y8 y9 y10) (gatelinelaw05_RingOrder.j1 (k + 1) y0 y1 y2 y3 y4 y5 y6 y7 y8 y9 y10))
  | 0 => ⟨fun _ _ _ _ _ _ _ _ _ _ r h => by simp [gatelinelaw05_RingOrder.j0] at h, fun _ _ _ _ _ _ _ _ _ _ _ r h => by simp [gatelinelaw05_RingOrder.j1] at h⟩
  | k + 1 => by
    obtain ⟨ih0, ih1⟩ := gatelinelaw05_RingOrder.mono_l k
    refine ⟨?_, ?_⟩
    · intro y0 y1 y2 y3 y4 y5 y6 y7 y8 y9
      unfold gatelinelaw05_RingOrder.j0
      repeat' first
      | (with_reducible exact ih0 _ _ _ _ _ _ _ _ _ _)
      | (with_reducible exact ih1 _ _ _ _ _ _ _ _ _ _ _)
      | (with_reducible exact gatelineref05_Big.mono _ _)
      | (with_reducible exact gatelineref05_Sames.mono _ _ _)
      | (with_reducible exact LeO.refl _)
      | (with_reducible exact LeO.none _)
      | (with_reducible refine LeO.ite ?_ ?_)
      | (with_reducible refine LeO.bind ?_ (fun _ => ?_))
      | exact ih0 _ _ _ _ _ _ _ _ _ _
      | exact ih1 _ _ _ _ _ _ _ _ _ _ _
      | exact gatelineref05_Big.mono _ _
      | exact gatelineref05_Sames.mono _ _ _
      | exact LeO.none _
      | refine LeO.ite ?_ ?_
      | refine LeO.bind ?_ (fun _ => ?_)
    · intro y0 y1 y2 y3 y4 y5 y6 y7 y8 y9 y10
      unfold gatelinelaw05_RingOrder.j1
      repeat' first
      | (with_reducible exact ih0 _ _ _ _ _ _ _ _ _ _)
      | (with_reducible exact ih1 _ _ _ _ _ _ _ _ _ _ _)
      | (with_reducible exact gatelineref05_Big.mono _ _)
      | (with_reducible exact gatelineref05_Sames.mono _ _ _)
      | (with_reducible exact LeO.refl _)
      | (with_reducible exact LeO.none _)
      | (with_reducible refine LeO.ite ?_ ?_)
      | (with_reducible refine LeO.bind ?_ (fun _ => ?_))
      | exact ih0 _ _ _ _ _ _ _ _ _ _
      | exact ih1 _ _ _ _ _ _ _ _ _ _ _
      | exact gatelineref05_Big.mono _ _
      | exact gatelineref05_Sames.mono _ _ _
      | exact LeO.none _
      | refine LeO.ite ?_ ?_
      | refine LeO.bind ?_ (fun _ => ?_)
theorem gatelinelaw05_RingOrder.mono : ∀ a0 a1 a2 a3 a4 a5 a6 a7 a8 k, LeO (gatelinelaw05_RingOrder.f k a0 a1 a2 a3 a4 a5 a6 a7 a8) (gatelinelaw05_RingOrder.f (k + 1) a0 a1 a2 a3 a4 a5 a6 a7 a8) := by
  intro a0 a1 a2 a3 a4 a5 a6 a7 a8 k
  obtain ⟨ih0, ih1⟩ := gatelinelaw05_RingOrder.mono_l k
  unfold gatelinelaw05_RingOrder.f
  repeat' first
      | (with_reducible exact ih0 _ _ _ _ _ _ _ _ _ _)
      | (with_reducible exact ih1 _ _ _ _ _ _ _ _ _ _ _)
      | (with_reducible exact gatelineref05_Big.mono _ _)
      | (with_reducible exact gatelineref05_Sames.mono _ _ _)
      | (with_reducible exact LeO.refl _)
      | (with_reducible exact LeO.none _)
      | (with_reducible refine LeO.ite ?_ ?_)
      | (with_reducible refine LeO.bind ?_ (fun _ => ?_))
      | exact ih0 _ _ _ _ _ _ _ _ _ _
      | exact ih1 _ _ _ _ _ _ _ _ _ _ _
      | exact gatelineref05_Big.mono _ _
      | exact gatelineref05_Sames.mono _ _ _
      | exact LeO.none _
      | refine LeO.ite ?_ ?_
      | refine LeO.bind ?_ (fun _ => ?_)
set_option maxHeartbeats 8000000 in
set_option maxRecDepth 100000 in
theorem gatelinelaw05_RingOrder.calls (k : Nat) (A0 : Option Addr) (c0 : Nat) (l0 : List (S33)) (a1_0 : Int) (A1_1 : Option Addr) (c1_1 : Nat) (l1_1 : List Int) (a1_2 : Int) (a1_3 : Int) (a2_0 : Int) (A2_1 : Option Addr) (c2_1 : Nat) (l2_1 : List Int) (a2_2 : Int) (a2_3 : Int) (r : Bool) (w : World) (hr0 : Kd.C k33 w A0 l0.length l0) (hc0 : l0.length ≤ c0) (hr1_1 : Kd.C (Kd.int .u8) w A1_1 l1_1.length l1_1) (hc1_1 : l1_1.length ≤ c1_1) (hr2_1 : Kd.C (Kd.int .u8) w A2_1 l2_1.length l2_1) (hc2_1 : l2_1.length ≤ c2_1) (h : gatelinelaw05_RingOrder.f k l0 a1_0 l1_1 a1_2 a1_3 a2_0 l2_1 a2_2 a2_3 = some r) :
    Calls Try.prog 12 #[.slice A0 l0.length c0, .agg #[.int .i64 a1_0, .slice A1_1 l1_1.length c1_1, .int .i64 a1_2, .int .i64 a1_3], .agg #[.int .i64 a2_0, .slice A2_1 l2_1.length c2_1, .int .i64 a2_2, .int .i64 a2_3]] w fun e w' => e = .returned (.bool r) ∧ Below w.heap.size w w' := by
  have hu33 := Try.underlying33
  have HR0 := Aside0.mk hr0
  have HC0 := Aside0.mk hc0
  clear hr0 hc0
  have HR1_1 := Aside0.mk hr1_1
  have HC1_1 := Aside0.mk hc1_1
  clear hr1_1 hc1_1
  have HR2_1 := Aside0.mk hr2_1
  have HC2_1 := Aside0.mk hc2_1
  clear hr2_1 hc2_1
  have HB := Aside0.mk (Below.refl w.heap.size w)
  have H : ((gatelineref05_Big.f k l0).bind fun t379 => (if t379 = true then (gatelinelaw05_RingOrder.j0 k l0 true a1_0 l1_1 a1_2 a1_3 a2_0 l2_1 a2_2 a2_3) else (if (l1_1.length : Int) > 200 then (gatelinelaw05_RingOrder.j0 k l0 true a1_0 l1_1 a1_2 a1_3 a2_0 l2_1 a2_2 a2_3) else (gatelinelaw05_RingOrder.j0 k l0 (decide ((l2_1.length : Int) > 200)) a1_0 l1_1 a1_2 a1_3 a2_0 l2_1 a2_2 a2_3)))) = some r := h
  clear h
  have HC4 := Aside0.mk H
  clear H
  go_enter Try.func12, Try.ntmps12
  go_upto_region 1 with (first | ((with_reducible refine gate_dst (N := 4) rfl ?_); (try (refine gate_guard (by rfl) ?_; dsimp only)); refine box_event ?hg (N := 4) ?hd (cs := #[.int .i64 a1_0, .slice A1_1 l1_1.length c1_1, .int .i64 a1_2, .int .i64 a1_3]) (t := 33) ?hr ?_; (case hd => rfl); (case hg => rfl); (case hr => first | (go_simp; done) | (go_simp; rfl)); intro gb377 hg w5 hbox hb; have n0_ := Aside0.mk (below_step (by repeat (first | (with_reducible first | exact HB.out | apply below_alloc | apply pw_below_drewN | apply below_drew1) | exact HB.out)) hb); have n1_ := Aside0.mk (hbox); have n2_ := Aside0.mk ((by rw [hg]; exact (below_size (by repeat (first | (with_reducible first | exact HB.out | apply below_alloc | apply pw_below_drewN | apply below_drew1) | exact HB.out))) : w.heap.size ≤ gb377)); have n3_ := Aside0.mk ((by rw [hg]; exact (below_size (by repeat (first | (with_reducible first | exact HB.out | apply below_alloc | apply pw_below_drewN | apply below_drew1) | exact HB.out))) : w.heap.size ≤ gb377)); clear HB; have HB := n0_; have BK377 := n1_; have GW377 := n2_; have GE377 := n3_; clear n0_ n1_ n2_ n3_; clear hb hbox hg) | ((with_reducible refine gate_dst (N := 5) rfl ?_); (try (refine gate_guard (by rfl) ?_; dsimp only)); refine box_event ?hg (N := 5) ?hd (cs := #[.int .i64 a2_0, .slice A2_1 l2_1.length c2_1, .int .i64 a2_2, .int .i64 a2_3]) (t := 33) ?hr ?_; (case hd => rfl); (case hg => rfl); (case hr => first | (go_simp; done) | (go_simp; rfl)); intro gb378 hg w6 hbox hb; have n0_ := Aside0.mk (blk_below (g := gb377) (o := .cells #[.int .i64 a1_0, .slice A1_1 l1_1.length c1_1, .int .i64 a1_2, .int .i64 a1_3] 33 (0, 0)) (by (with_reducible repeat (first | refine blk_drewN ?_ _ | refine blk_drew ?_ | refine blk_alloc ?_ _)); exact BK377.out) hb); have n1_ := Aside0.mk (below_step (by repeat (first | (with_reducible first | exact HB.out | apply below_alloc | apply pw_below_drewN | apply below_drew1 | refine below_set ?_ GE377.out) | exact HB.out)) hb); have n2_ := Aside0.mk (hbox); have n3_ := Aside0.mk ((by rw [hg]; exact (below_size (by repeat (first | (with_reducible first | exact HB.out | apply below_alloc | apply pw_below_drewN | apply below_drew1 | refine below_set ?_ GE377.out) | exact HB.out))) : w.heap.size ≤ gb378)); have n4_ := Aside0.mk ((by rw [hg]; exact (below_size (by repeat (first | (with_reducible first | exact HB.out | apply below_alloc | apply pw_below_drewN | apply below_drew1 | refine below_set ?_ GE377.out) | exact HB.out))) : w.heap.size ≤ gb378)); have n5_ := Aside0.mk ((by rw [hg]; exact Nat.ne_of_lt (blk_lt (g := gb377) (o := .cells #[.int .i64 a1_0, .slice A1_1 l1_1.length c1_1, .int .i64 a1_2, .int .i64 a1_3] 33 (0, 0)) (by (with_reducible repeat (first | refine blk_drewN ?_ _ | refine blk_drew ?_ | refine blk_alloc ?_ _)); exact BK377.out)) : gb377 ≠ gb378)); have n6_ := Aside0.mk ((by rw [hg]; exact Nat.ne_of_gt (blk_lt (g := gb377) (o := .cells #[.int .i64 a1_0, .slice A1_1 l1_1.length c1_1, .int .i64 a1_2, .int .i64 a1_3] 33 (0, 0)) (by (with_reducible repeat (first | refine blk_drewN ?_ _ | refine blk_drew ?_ | refine blk_alloc ?_ _)); exact BK377.out)) : gb378 ≠ gb377)); clear BK377; clear HB; have BK377 := n0_; have HB := n1_; have BK378 := n2_; have GW378 := n3_; have GE378 := n4_; have NB377_378 := n5_; have NB378_377 := n6_; clear n0_ n1_ n2_ n3_ n4_ n5_ n6_; clear hb hbox hg))
  (try simp only [Act.put, List.setIfInBounds_toArray, List.set_cons_zero, List.set_cons_succ])
  go_cut [28] (fun v28 wc => ∃ (kq : Nat) (x28_3 : Bool), v28 = .bool x28_3 ∧ Aside0 (gatelinelaw05_RingOrder.j0 kq l0 x28_3 a1_0 l1_1 a1_2 a1_3 a2_0 l2_1 a2_2 a2_3 = some r) ∧ Aside0 (kq ≤ k) ∧ Aside0 (wc.heap[gb377]? = some (.cells #[.int .i64 a1_0, (.slice A1_1 l1_1.length c1_1), .int .i64 a1_2, .int .i64 a1_3] 33 (0, 0))) ∧ Aside0 (wc.heap[gb378]? = some (.cells #[.int .i64 a2_0, (.slice A2_1 l2_1.length c2_1), .int .i64 a2_2, .int .i64 a2_3] 33 (0, 0))) ∧ Aside0 (Below w.heap.size w wc))
  case first =>
    have H := HC4.out
    clear HC4
    replace H := Option.bind_eq_some_iff.mp H
    obtain ⟨t379, A70, H⟩ := H
    replace H : (if t379 = true then (gatelinelaw05_RingOrder.j0 k l0 true a1_0 l1_1 a1_2 a1_3 a2_0 l2_1 a2_2 a2_3) else (if (l1_1.length : Int) > 200 then (gatelinelaw05_RingOrder.j0 k l0 true a1_0 l1_1 a1_2 a1_3 a2_0 l2_1 a2_2 a2_3) else (gatelinelaw05_RingOrder.j0 k l0 (decide ((l2_1.length : Int) > 200)) a1_0 l1_1 a1_2 a1_3 a2_0 l2_1 a2_2 a2_3))) = some r := H
    have A7 := Aside0.mk A70
    clear A70
    by_cases c8 : t379 = true
    · subst c8
      have H1 : (gatelinelaw05_RingOrder.j0 k l0 true a1_0 l1_1 a1_2 a1_3 a2_0 l2_1 a2_2 a2_3) = some r := by rw [if_pos rfl] at H; exact H
      clear H
      have H := H1
      clear H1
      have H' := Aside0.mk H
      clear H
      go_wp2_with (first | ((with_reducible refine gate_callee (f := 19) rfl ?_); refine goesL_ (some 16) rfl rfl Try.func19 (by kernel_rfl) rfl #[.slice A0 l0.length c0] rfl (by (try simp only [List.map_toArray, List.map_cons, List.map_nil]); first | done | rfl | (simp only [List.length_drop, List.length_take]; rfl)) ?_; (with_reducible refine (gatelineref05_Big.calls k _ _ l0 true _ ?side1 ?side2 A7.out).mono ?_); (case side1 => repeat (first | exact (Kd.C_below HR0.out HB.out) | (with_reducible refine Kd.C_alloc ?_ _) | (with_reducible refine Kd.C_drewN ?_ _) | (with_reducible refine Kd.C_drew ?_))); (case side2 => exact HC0.out); rintro e w' ⟨rfl, ⟨nd, rfl⟩⟩; refine ⟨_, rfl, ?_⟩))
      go_meet
      case rel => exact ⟨_, (true), (by first | rfl | (simp; done) | (simp [*]; done)), H', ⟨by first | omega | exact Nat.le_refl _⟩, ⟨by (with_reducible repeat (first | refine blk_drewN ?_ _ | refine blk_drew ?_ | refine blk_alloc ?_ _)); exact BK377.out⟩, ⟨by (with_reducible repeat (first | refine blk_drewN ?_ _ | refine blk_drew ?_ | refine blk_alloc ?_ _)); exact BK378.out⟩, ⟨by repeat (first | (with_reducible first | exact HB.out | apply below_alloc | apply pw_below_drewN | apply below_drew1 | refine below_set ?_ GE377.out | refine below_set ?_ GE378.out) | exact HB.out)⟩⟩
    · replace c8 := Bool.eq_false_iff.mpr c8
      subst c8
      have H1 : (if (l1_1.length : Int) > 200 then (gatelinelaw05_RingOrder.j0 k l0 true a1_0 l1_1 a1_2 a1_3 a2_0 l2_1 a2_2 a2_3) else (gatelinelaw05_RingOrder.j0 k l0 (decide ((l2_1.length : Int) > 200)) a1_0 l1_1 a1_2 a1_3 a2_0 l2_1 a2_2 a2_3)) = some r := by rw [if_neg (show ¬ (false = true) by decide)] at H; exact H
      clear H
      have H := H1
      clear H1
      by_cases c9 : (l1_1.length : Int) > 200
      · rw [if_pos c9] at H
        have c9b0 : decide (200 < (l1_1.length : Int)) = true := decide_eq_true c9
        have c9b1 : decide (200 < l1_1.length) = true := decide_eq_true (by omega)
        clear c9
        (first | rw [c9b0] | (simp only [i64_w, i32_w]; rw [c9b0]) | skip)
        have H' := Aside0.mk H
        clear H
        go_wp2_with (first | ((with_reducible refine gate_callee (f := 19) rfl ?_); refine goesL_ (some 16) rfl rfl Try.func19 (by kernel_rfl) rfl #[.slice A0 l0.length c0] rfl (by (try simp only [List.map_toArray, List.map_cons, List.map_nil]); first | done | rfl | (simp only [List.length_drop, List.length_take]; rfl)) ?_; (with_reducible refine (gatelineref05_Big.calls k _ _ l0 false _ ?side1 ?side2 A7.out).mono ?_); (case side1 => repeat (first | exact (Kd.C_below HR0.out HB.out) | (with_reducible refine Kd.C_alloc ?_ _) | (with_reducible refine Kd.C_drewN ?_ _) | (with_reducible refine Kd.C_drew ?_))); (case side2 => exact HC0.out); rintro e w' ⟨rfl, ⟨nd, rfl⟩⟩; refine ⟨_, rfl, ?_⟩; have hnb10 := NB377_378.out; have hnc10 := NB378_377.out; have hcz11_0 : w6.cell? ⟨gb377, 0, none⟩ = some (.int .i64 a1_0) := (blk_cell BK377.out 0).trans rfl; have hcz11_1 : w6.cell? ⟨gb377, 1, none⟩ = some (.slice A1_1 l1_1.length c1_1) := (blk_cell BK377.out 1).trans rfl; have hcz11_2 : w6.cell? ⟨gb377, 2, none⟩ = some (.int .i64 a1_2) := (blk_cell BK377.out 2).trans rfl; have hcz11_3 : w6.cell? ⟨gb377, 3, none⟩ = some (.int .i64 a1_3) := (blk_cell BK377.out 3).trans rfl; have hfz11_0 := blk_frozen BK377.out 0; have hfz11_1 := blk_frozen BK377.out 1; have hfz11_2 := blk_frozen BK377.out 2; have hfz11_3 := blk_frozen BK377.out 3))
        go_meet
        case rel => exact ⟨_, (true), (by first | rfl | (simp; done) | (simp [*]; done)), H', ⟨by first | omega | exact Nat.le_refl _⟩, ⟨by (with_reducible repeat (first | refine blk_drewN ?_ _ | refine blk_drew ?_ | refine blk_alloc ?_ _)); exact BK377.out⟩, ⟨by (with_reducible repeat (first | refine blk_drewN ?_ _ | refine blk_drew ?_ | refine blk_alloc ?_ _)); exact BK378.out⟩, ⟨by repeat (first | (with_reducible first | exact HB.out | apply below_alloc | apply pw_below_drewN | apply below_drew1 | refine below_set ?_ GE377.out | refine below_set ?_ GE378.out) | exact HB.out)⟩⟩
      · rw [if_neg c9] at H
        have c9b0 : decide (200 < (l1_1.length : Int)) = false := decide_eq_false c9
        have c9b1 : decide (200 < l1_1.length) = false := decide_eq_false (by omega)
        clear c9
        (first | rw [c9b0] | (simp only [i64_w, i32_w]; rw [c9b0]) | skip)
        have H' := Aside0.mk H
        clear H
        go_wp2_with (first | ((with_reducible refine gate_callee (f := 19) rfl ?_); refine goesL_ (some 16) rfl rfl Try.func19 (by kernel_rfl) rfl #[.slice A0 l0.length c0] rfl (by (try simp only [List.map_toArray, List.map_cons, List.map_nil]); first | done | rfl | (simp only [List.length_drop, List.length_take]; rfl)) ?_; (with_reducible refine (gatelineref05_Big.calls k _ _ l0 false _ ?side1 ?side2 A7.out).mono ?_); (case side1 => repeat (first | exact (Kd.C_below HR0.out HB.out) | (with_reducible refine Kd.C_alloc ?_ _) | (with_reducible refine Kd.C_drewN ?_ _) | (with_reducible refine Kd.C_drew ?_))); (case side2 => exact HC0.out); rintro e w' ⟨rfl, ⟨nd, rfl⟩⟩; refine ⟨_, rfl, ?_⟩; have hnb12 := NB377_378.out; have hnc12 := NB378_377.out; have hcz13_0 : w6.cell? ⟨gb377, 0, none⟩ = some (.int .i64 a1_0) := (blk_cell BK377.out 0).trans rfl; have hcz13_1 : w6.cell? ⟨gb377, 1, none⟩ = some (.slice A1_1 l1_1.length c1_1) := (blk_cell BK377.out 1).trans rfl; have hcz13_2 : w6.cell? ⟨gb377, 2, none⟩ = some (.int .i64 a1_2) := (blk_cell BK377.out 2).trans rfl; have hcz13_3 : w6.cell? ⟨gb377, 3, none⟩ = some (.int .i64 a1_3) := (blk_cell BK377.out 3).trans rfl; have hfz13_0 := blk_frozen BK377.out 0; have hfz13_1 := blk_frozen BK377.out 1; have hfz13_2 := blk_frozen BK377.out 2; have hfz13_3 := blk_frozen BK377.out 3; have hcz14_0 : w6.cell? ⟨gb378, 0, none⟩ = some (.int .i64 a2_0) := (blk_cell BK378.out 0).trans rfl; have hcz14_1 : w6.cell? ⟨gb378, 1, none⟩ = some (.slice A2_1 l2_1.length c2_1) := (blk_cell BK378.out 1).trans rfl; have hcz14_2 : w6.cell? ⟨gb378, 2, none⟩ = some (.int .i64 a2_2) := (blk_cell BK378.out 2).trans rfl; have hcz14_3 : w6.cell? ⟨gb378, 3, none⟩ = some (.int .i64 a2_3) := (blk_cell BK378.out 3).trans rfl; have hfz14_0 := blk_frozen BK378.out 0; have hfz14_1 := blk_frozen BK378.out 1; have hfz14_2 := blk_frozen BK378.out 2; have hfz14_3 := blk_frozen BK378.out 3))
        go_meet
        case rel => exact ⟨_, (decide ((l2_1.length : Int) > 200)), (by first | rfl | (simp; done) | (simp [*]; done)), H', ⟨by first | omega | exact Nat.le_refl _⟩, ⟨by (with_reducible repeat (first | refine blk_drewN ?_ _ | refine blk_drew ?_ | refine blk_alloc ?_ _)); exact BK377.out⟩, ⟨by (with_reducible repeat (first | refine blk_drewN ?_ _ | refine blk_drew ?_ | refine blk_alloc ?_ _)); exact BK378.out⟩, ⟨by repeat (first | (with_reducible first | exact HB.out | apply below_alloc | apply pw_below_drewN | apply below_drew1 | refine below_set ?_ GE377.out | refine below_set ?_ GE378.out) | exact HB.out)⟩⟩
  case rest =>
    clear HC4
    try clear c1
    try clear c2
    try clear p2
    try clear c8
    try clear c9
    try clear c9b0
    try clear c9b1
    try clear c10
    try clear c12
    try clear hcz11_0
    try clear hcz11_1
    try clear hcz11_2
    try clear hcz11_3
    try clear hcz13_0
    try clear hcz13_1
    try clear hcz13_2
    try clear hcz13_3
    try clear hcz14_0
    try clear hcz14_1
    try clear hcz14_2
    try clear hcz14_3
    try clear hfz11_0
    try clear hfz11_1
    try clear hfz11_2
    try clear hfz11_3
    try clear hfz13_0
    try clear hfz13_1
    try clear hfz13_2
    try clear hfz13_3
    try clear hfz14_0
    try clear hfz14_1
    try clear hfz14_2
    try clear hfz14_3
    obtain ⟨kq, x28_3, rfl, HA, HJ3, BK377, BK378, HB⟩ := hcut
    cases kq with
    | zero => exact absurd HA.out (by simp [gatelinelaw05_RingOrder.j0])
    | succ kj3 =>
      have H := HA.out
      clear HA
      simp only [gatelinelaw05_RingOrder.j0] at H
      by_cases c15 : x28_3 = true
      · subst c15
        have H1 : (some true) = some r := by rw [if_pos rfl] at H; exact H
        clear H
        have H := H1
        clear H1
        obtain rfl := Option.some.inj H
        go_wp2
        go_ret
        exact ⟨by first | rfl | (simp [errW_none, errW_some] <;> rfl) | (simp [*, errW_none, errW_some] <;> rfl), by repeat (first | (with_reducible first | exact HB.out | apply below_alloc | apply pw_below_drewN | apply below_drew1 | refine below_set ?_ GE377.out | refine below_set ?_ GE378.out) | exact HB.out)⟩
      · replace c15 := Bool.eq_false_iff.mpr c15
        subst c15
        have H1 : ((ring_Add.f l0 a1_0 l1_1 a1_2 a1_3).bind fun bt380 => ((ring_Add.f l0 a2_0 l2_1 a2_2 a2_3).bind fun bt384 => (if bt380.2 = 0 then (gatelinelaw05_RingOrder.j1 kj3 bt380.1 bt384.1 (bt384.2 != 0) a1_0 l1_1 a1_2 a1_3 a2_0 l2_1 a2_2 a2_3) else (gatelinelaw05_RingOrder.j1 kj3 bt380.1 bt384.1 true a1_0 l1_1 a1_2 a1_3 a2_0 l2_1 a2_2 a2_3)))) = some r := by rw [if_neg (show ¬ (false = true) by decide)] at H; exact H
        clear H
        have H := H1
        clear H1
        replace H := Option.bind_eq_some_iff.mp H
        obtain ⟨⟨t380, t383⟩, A160, H⟩ := H
        replace H : ((ring_Add.f l0 a2_0 l2_1 a2_2 a2_3).bind fun bt384 => (if t383 = 0 then (gatelinelaw05_RingOrder.j1 kj3 t380 bt384.1 (bt384.2 != 0) a1_0 l1_1 a1_2 a1_3 a2_0 l2_1 a2_2 a2_3) else (gatelinelaw05_RingOrder.j1 kj3 t380 bt384.1 true a1_0 l1_1 a1_2 a1_3 a2_0 l2_1 a2_2 a2_3))) = some r := H
        have A16 := Aside0.mk A160
        clear A160
        replace H := Option.bind_eq_some_iff.mp H
        obtain ⟨⟨t384, t387⟩, A170, H⟩ := H
        replace H : (if t383 = 0 then (gatelinelaw05_RingOrder.j1 kj3 t380 t384 (t387 != 0) a1_0 l1_1 a1_2 a1_3 a2_0 l2_1 a2_2 a2_3) else (gatelinelaw05_RingOrder.j1 kj3 t380 t384 true a1_0 l1_1 a1_2 a1_3 a2_0 l2_1 a2_2 a2_3)) = some r := H
        have A17 := Aside0.mk A170
        clear A170
        have HC18 := Aside0.mk H
        clear H
        have hnb19 := NB377_378.out
        have hnc19 := NB378_377.out
        have hcz20_0 : wc.cell? ⟨gb377, 0, none⟩ = some (.int .i64 a1_0) := (blk_cell BK377.out 0).trans rfl
        have hcz20_1 : wc.cell? ⟨gb377, 1, none⟩ = some (.slice A1_1 l1_1.length c1_1) := (blk_cell BK377.out 1).trans rfl
        have hcz20_2 : wc.cell? ⟨gb377, 2, none⟩ = some (.int .i64 a1_2) := (blk_cell BK377.out 2).trans rfl
        have hcz20_3 : wc.cell? ⟨gb377, 3, none⟩ = some (.int .i64 a1_3) := (blk_cell BK377.out 3).trans rfl
        have hfz20_0 := blk_frozen BK377.out 0
        have hfz20_1 := blk_frozen BK377.out 1
        have hfz20_2 := blk_frozen BK377.out 2
        have hfz20_3 := blk_frozen BK377.out 3
        go_upto_region 5 with (first | ((with_reducible refine gate_callee (f := 28) rfl ?_); refine goesL_ (some 32) rfl rfl Try.func28 (by kernel_rfl) rfl #[.slice A0 l0.length c0, .agg #[.int .i64 a1_0, .slice A1_1 l1_1.length c1_1, .int .i64 a1_2, .int .i64 a1_3]] rfl (by (try simp only [List.map_toArray, List.map_cons, List.map_nil]); first | done | rfl | (simp only [List.length_drop, List.length_take]; rfl)) ?_; (with_reducible refine (ring_Add.calls (fun k_ => k_ < w.heap.size) _ _ l0 a1_0 (fun k_ => k_ < w.heap.size) _ _ l1_1 a1_2 a1_3 t380 t383 _ ?side1 ?side2 A16.out).mono ?_); (case side1 => exact Kd.V_mk HC0.out (Kd.F_below (Kd.C_F k33_heap HR0.out) (by repeat (first | (with_reducible first | exact HB.out | apply below_alloc | apply pw_below_drewN | apply below_drew1 | refine below_set ?_ GE377.out | refine below_set ?_ GE378.out) | exact HB.out)))); (case side2 => exact Kd.V_mk HC1_1.out (Kd.F_below (Kd.C_F (Kd.heap_int .u8) HR1_1.out) (by repeat (first | (with_reducible first | exact HB.out | apply below_alloc | apply pw_below_drewN | apply below_drew1 | refine below_set ?_ GE377.out | refine below_set ?_ GE378.out) | exact HB.out)))); rintro e w21 ⟨v381, rfl, ho0, hb⟩; refine ⟨_, rfl, ?_⟩; have n0_ := Aside0.mk (Kd.N_lower (Kd.N_mono (ok' := fun k_ => k_ ≠ gb377 ∧ k_ ≠ gb378) ho0 (fun k_ hk_ => ⟨Or.elim hk_ (fun hs_ => Or.elim hs_ (fun hs_ => fun e_ => Nat.not_le.2 hs_ (by rw [e_]; exact GW377.out)) (fun hs_ => fun e_ => Nat.not_le.2 hs_ (by rw [e_]; exact GW377.out))) (fun hn_ => (Kd.freshB (g := gb377) (o := .cells #[.int .i64 a1_0, .slice A1_1 l1_1.length c1_1, .int .i64 a1_2, .int .i64 a1_3] 33 (0, 0)) (by (with_reducible repeat (first | refine blk_drewN ?_ _ | refine blk_drew ?_ | refine blk_alloc ?_ _)); exact BK377.out) k_ hn_)), Or.elim hk_ (fun hs_ => Or.elim hs_ (fun hs_ => fun e_ => Nat.not_le.2 hs_ (by rw [e_]; exact GW378.out)) (fun hs_ => fun e_ => Nat.not_le.2 hs_ (by rw [e_]; exact GW378.out))) (fun hn_ => (Kd.freshB (g := gb378) (o := .cells #[.int .i64 a2_0, .slice A2_1 l2_1.length c2_1, .int .i64 a2_2, .int .i64 a2_3] 33 (0, 0)) (by (with_reducible repeat (first | refine blk_drewN ?_ _ | refine blk_drew ?_ | refine blk_alloc ?_ _)); exact BK378.out) k_ hn_))⟩)) (below_size (by repeat (first | (with_reducible first | exact HB.out | apply below_alloc | apply pw_below_drewN | apply below_drew1 | refine below_set ?_ GE377.out | refine below_set ?_ GE378.out) | exact HB.out)))); have n1_ := Aside0.mk (blk_below (g := gb377) (o := .cells #[.int .i64 a1_0, .slice A1_1 l1_1.length c1_1, .int .i64 a1_2, .int .i64 a1_3] 33 (0, 0)) (by (with_reducible repeat (first | refine blk_drewN ?_ _ | refine blk_drew ?_ | refine blk_alloc ?_ _)); exact BK377.out) hb); have n2_ := Aside0.mk (blk_below (g := gb378) (o := .cells #[.int .i64 a2_0, .slice A2_1 l2_1.length c2_1, .int .i64 a2_2, .int .i64 a2_3] 33 (0, 0)) (by (with_reducible repeat (first | refine blk_drewN ?_ _ | refine blk_drew ?_ | refine blk_alloc ?_ _)); exact BK378.out) hb); have n3_ := Aside0.mk (below_step (by repeat (first | (with_reducible first | exact HB.out | apply below_alloc | apply pw_below_drewN | apply below_drew1 | refine below_set ?_ GE377.out | refine below_set ?_ GE378.out) | exact HB.out)) hb); clear BK377; clear BK378; clear HB; have HO382 := n0_; have BK377 := n1_; have BK378 := n2_; have HB := n3_; clear n0_ n1_ n2_ n3_; (try clear hb); (try clear hb2); (try clear hk); (try clear hi); (try clear ho0); have hcz22_0 : w21.cell? ⟨gb378, 0, none⟩ = some (.int .i64 a2_0) := (blk_cell BK378.out 0).trans rfl; have hcz22_1 : w21.cell? ⟨gb378, 1, none⟩ = some (.slice A2_1 l2_1.length c2_1) := (blk_cell BK378.out 1).trans rfl; have hcz22_2 : w21.cell? ⟨gb378, 2, none⟩ = some (.int .i64 a2_2) := (blk_cell BK378.out 2).trans rfl; have hcz22_3 : w21.cell? ⟨gb378, 3, none⟩ = some (.int .i64 a2_3) := (blk_cell BK378.out 3).trans rfl; have hfz22_0 := blk_frozen BK378.out 0; have hfz22_1 := blk_frozen BK378.out 1; have hfz22_2 := blk_frozen BK378.out 2; have hfz22_3 := blk_frozen BK378.out 3) | ((with_reducible refine gate_callee (f := 28) rfl ?_); refine goesL_ (some 38) rfl rfl Try.func28 (by kernel_rfl) rfl #[.slice A0 l0.length c0, .agg #[.int .i64 a2_0, .slice A2_1 l2_1.length c2_1, .int .i64 a2_2, .int .i64 a2_3]] rfl (by (try simp only [List.map_toArray, List.map_cons, List.map_nil]); first | done | rfl | (simp only [List.length_drop, List.length_take]; rfl)) ?_; (with_reducible refine (ring_Add.calls (fun k_ => k_ < w.heap.size) _ _ l0 a2_0 (fun k_ => k_ < w.heap.size) _ _ l2_1 a2_2 a2_3 t384 t387 _ ?side1 ?side2 A17.out).mono ?_); (case side1 => exact Kd.V_mk HC0.out (Kd.F_below (Kd.C_F k33_heap HR0.out) (by repeat (first | (with_reducible first | exact HB.out | apply below_alloc | apply pw_below_drewN | apply below_drew1 | refine below_set ?_ GE377.out | refine below_set ?_ GE378.out) | exact HB.out)))); (case side2 => exact Kd.V_mk HC2_1.out (Kd.F_below (Kd.C_F (Kd.heap_int .u8) HR2_1.out) (by repeat (first | (with_reducible first | exact HB.out | apply below_alloc | apply pw_below_drewN | apply below_drew1 | refine below_set ?_ GE377.out | refine below_set ?_ GE378.out) | exact HB.out)))); rintro e w23 ⟨v385, rfl, ho0, hb⟩; refine ⟨_, rfl, ?_⟩; have n0_ := Aside0.mk (Kd.N_elder' (by (with_reducible repeat (first | apply Kd.N_alloc | apply Kd.N_drewN | apply Kd.N_drew)); exact HO382.out) (Kd.N_base ho0) hb); have n1_ := Aside0.mk (Kd.N_lower (Kd.N_mono (ok' := fun k_ => some k_ ≠ (v381 : Value).ownBlock ∧ k_ ≠ gb377 ∧ k_ ≠ gb378) ho0 (fun k_ hk_ => ⟨Or.elim hk_ (fun hs_ => Or.elim hs_ (fun hs_ => fun e_ => Nat.not_le.2 hs_ (Kd.N_base HO382.out k_ e_.symm)) (fun hs_ => fun e_ => Nat.not_le.2 hs_ (Kd.N_base HO382.out k_ e_.symm))) (fun hn_ => (Kd.fresh' (Kd.N_lt (by (with_reducible repeat (first | apply Kd.N_alloc | apply Kd.N_drewN | apply Kd.N_drew)); exact HO382.out)) k_ hn_)), Or.elim hk_ (fun hs_ => Or.elim hs_ (fun hs_ => fun e_ => Nat.not_le.2 hs_ (by rw [e_]; exact GW377.out)) (fun hs_ => fun e_ => Nat.not_le.2 hs_ (by rw [e_]; exact GW377.out))) (fun hn_ => (Kd.freshB (g := gb377) (o := .cells #[.int .i64 a1_0, .slice A1_1 l1_1.length c1_1, .int .i64 a1_2, .int .i64 a1_3] 33 (0, 0)) (by (with_reducible repeat (first | refine blk_drewN ?_ _ | refine blk_drew ?_ | refine blk_alloc ?_ _)); exact BK377.out) k_ hn_)), Or.elim hk_ (fun hs_ => Or.elim hs_ (fun hs_ => fun e_ => Nat.not_le.2 hs_ (by rw [e_]; exact GW378.out)) (fun hs_ => fun e_ => Nat.not_le.2 hs_ (by rw [e_]; exact GW378.out))) (fun hn_ => (Kd.freshB (g := gb378) (o := .cells #[.int .i64 a2_0, .slice A2_1 l2_1.length c2_1, .int .i64 a2_2, .int .i64 a2_3] 33 (0, 0)) (by (with_reducible repeat (first | refine blk_drewN ?_ _ | refine blk_drew ?_ | refine blk_alloc ?_ _)); exact BK378.out) k_ hn_))⟩)) (below_size (by repeat (first | (with_reducible first | exact HB.out | apply below_alloc | apply pw_below_drewN | apply below_drew1 | refine below_set ?_ GE377.out | refine below_set ?_ GE378.out) | exact HB.out)))); have n2_ := Aside0.mk (blk_below (g := gb377) (o := .cells #[.int .i64 a1_0, .slice A1_1 l1_1.length c1_1, .int .i64 a1_2, .int .i64 a1_3] 33 (0, 0)) (by (with_reducible repeat (first | refine blk_drewN ?_ _ | refine blk_drew ?_ | refine blk_alloc ?_ _)); exact BK377.out) hb); have n3_ := Aside0.mk (blk_below (g := gb378) (o := .cells #[.int .i64 a2_0, .slice A2_1 l2_1.length c2_1, .int .i64 a2_2, .int .i64 a2_3] 33 (0, 0)) (by (with_reducible repeat (first | refine blk_drewN ?_ _ | refine blk_drew ?_ | refine blk_alloc ?_ _)); exact BK378.out) hb); have n4_ := Aside0.mk (below_step (by repeat (first | (with_reducible first | exact HB.out | apply below_alloc | apply pw_below_drewN | apply below_drew1 | refine below_set ?_ GE377.out | refine below_set ?_ GE378.out) | exact HB.out)) hb); clear HO382; clear BK377; clear BK378; clear HB; have HO382 := n0_; have HO386 := n1_; have BK377 := n2_; have BK378 := n3_; have HB := n4_; clear n0_ n1_ n2_ n3_ n4_; (try clear hb); (try clear hb2); (try clear hk); (try clear hi); (try clear ho0)))
        (try simp only [Act.put, List.setIfInBounds_toArray, List.set_cons_zero, List.set_cons_succ])
        go_cut [46] (fun v46 wc => ∃ (kq : Nat) (x46_17 : Bool), v46 = .bool x46_17 ∧ Aside0 (gatelinelaw05_RingOrder.j1 kq t380 t384 x46_17 a1_0 l1_1 a1_2 a1_3 a2_0 l2_1 a2_2 a2_3 = some r) ∧ Aside0 (kq ≤ kj3) ∧ Aside0 (Kd.N k33 33 wc w.heap.size (fun k_ => some k_ ≠ (v385 : Value).ownBlock ∧ k_ ≠ gb377 ∧ k_ ≠ gb378) v381 t380) ∧ Aside0 (Kd.N k33 33 wc w.heap.size (fun k_ => some k_ ≠ (v381 : Value).ownBlock ∧ k_ ≠ gb377 ∧ k_ ≠ gb378) v385 t384) ∧ Aside0 (wc.heap[gb377]? = some (.cells #[.int .i64 a1_0, (.slice A1_1 l1_1.length c1_1), .int .i64 a1_2, .int .i64 a1_3] 33 (0, 0))) ∧ Aside0 (wc.heap[gb378]? = some (.cells #[.int .i64 a2_0, (.slice A2_1 l2_1.length c2_1), .int .i64 a2_2, .int .i64 a2_3] 33 (0, 0))) ∧ Aside0 (Below w.heap.size w wc))
        case first =>
          have H := HC18.out
          clear HC18
          by_cases c24 : t383 = 0
          · rw [if_pos c24] at H
            have c24b0 : (t383 == 0) = true := beq_iff_eq.mpr c24
            have c24b1 : (t383 != 0) = false := bne_eq_false_iff_eq.mpr c24
            clear c24
            (first | rw [c24b0] | (simp only [i64_w, i32_w]; rw [c24b0]) | skip)
            have H' := Aside0.mk H
            clear H
            go_wp2
            go_meet
            case rel => exact ⟨_, ((t387 != 0)), (by first | rfl | (simp; done) | (simp [*]; done)), H', ⟨by have := HJ3.out; first | omega | exact Nat.le_refl _⟩, ⟨by (with_reducible repeat (first | apply Kd.N_alloc | apply Kd.N_drewN | apply Kd.N_drew)); exact Kd.N_mono HO382.out (fun _ hk => ⟨hk.2, ⟨hk.1.1, hk.1.2⟩⟩)⟩, ⟨by (with_reducible repeat (first | apply Kd.N_alloc | apply Kd.N_drewN | apply Kd.N_drew)); exact HO386.out⟩, ⟨by (with_reducible repeat (first | refine blk_drewN ?_ _ | refine blk_drew ?_ | refine blk_alloc ?_ _)); exact BK377.out⟩, ⟨by (with_reducible repeat (first | refine blk_drewN ?_ _ | refine blk_drew ?_ | refine blk_alloc ?_ _)); exact BK378.out⟩, ⟨by repeat (first | (with_reducible first | exact HB.out | apply below_alloc | apply pw_below_drewN | apply below_drew1 | refine below_set ?_ GE377.out | refine below_set ?_ GE378.out) | exact HB.out)⟩⟩
          · rw [if_neg c24] at H
            have c24b0 : (t383 == 0) = false := beq_eq_false_iff_ne.mpr c24
            have c24b1 : (t383 != 0) = true := bne_iff_ne.mpr c24
            (first | rw [c24b0] | (simp only [i64_w, i32_w]; rw [c24b0]) | skip)
            have H' := Aside0.mk H
            clear H
            go_wp2
            go_meet
            case rel => exact ⟨_, (true), (by first | rfl | (simp; done) | (simp [*]; done)), H', ⟨by have := HJ3.out; first | omega | exact Nat.le_refl _⟩, ⟨by (with_reducible repeat (first | apply Kd.N_alloc | apply Kd.N_drewN | apply Kd.N_drew)); exact Kd.N_mono HO382.out (fun _ hk => ⟨hk.2, ⟨hk.1.1, hk.1.2⟩⟩)⟩, ⟨by (with_reducible repeat (first | apply Kd.N_alloc | apply Kd.N_drewN | apply Kd.N_drew)); exact HO386.out⟩, ⟨by (with_reducible repeat (first | refine blk_drewN ?_ _ | refine blk_drew ?_ | refine blk_alloc ?_ _)); exact BK377.out⟩, ⟨by (with_reducible repeat (first | refine blk_drewN ?_ _ | refine blk_drew ?_ | refine blk_alloc ?_ _)); exact BK378.out⟩, ⟨by repeat (first | (with_reducible first | exact HB.out | apply below_alloc | apply pw_below_drewN | apply below_drew1 | refine below_set ?_ GE377.out | refine below_set ?_ GE378.out) | exact HB.out)⟩⟩
        case rest =>
          clear HC18
          try clear c1
          try clear c2
          try clear p2
          try clear c8
          try clear c9
          try clear c9b0
          try clear c9b1
          try clear c10
          try clear c12
          try clear c15
          try clear c19
          try clear c24
          try clear c24b0
          try clear c24b1
          try clear hcz11_0
          try clear hcz11_1
          try clear hcz11_2
          try clear hcz11_3
          try clear hcz13_0
          try clear hcz13_1
          try clear hcz13_2
          try clear hcz13_3
          try clear hcz14_0
          try clear hcz14_1
          try clear hcz14_2
          try clear hcz14_3
          try clear hcz20_0
          try clear hcz20_1
          try clear hcz20_2
          try clear hcz20_3
          try clear hcz22_0
          try clear hcz22_1
          try clear hcz22_2
          try clear hcz22_3
          try clear hfz11_0
          try clear hfz11_1
          try clear hfz11_2
          try clear hfz11_3
          try clear hfz13_0
          try clear hfz13_1
          try clear hfz13_2
          try clear hfz13_3
          try clear hfz14_0
          try clear hfz14_1
          try clear hfz14_2
          try clear hfz14_3
          try clear hfz20_0
          try clear hfz20_1
          try clear hfz20_2
          try clear hfz20_3
          try clear hfz22_0
          try clear hfz22_1
          try clear hfz22_2
          try clear hfz22_3
          try clear p2
          obtain ⟨kq, x46_17, rfl, HA, HJ17, HO_7, HO_9, BK377, BK378, HB⟩ := hcut
          cases kq with
          | zero => exact absurd HA.out (by simp [gatelinelaw05_RingOrder.j1])
          | succ kj17 =>
            have H := HA.out
            clear HA
            simp only [gatelinelaw05_RingOrder.j1] at H
            by_cases c25 : x46_17 = true
            · subst c25
              have H1 : ((gatelinelaw05_ringed.f).bind fun t388 => (some t388)) = some r := by rw [if_pos rfl] at H; exact H
              clear H
              have H := H1
              clear H1
              replace H := Option.bind_eq_some_iff.mp H
              obtain ⟨t388, A260, H⟩ := H
              replace H : (some t388) = some r := H
              have A26 := Aside0.mk A260
              clear A260
              obtain rfl := Option.some.inj H
              go_wp2_with (first | ((with_reducible refine gate_callee (f := 24) rfl ?_); refine goesL_ (some 47) rfl rfl Try.func24 (by kernel_rfl) rfl #[] rfl (by (try simp only [List.map_toArray, List.map_cons, List.map_nil]); first | done | rfl | (simp only [List.length_drop, List.length_take]; rfl)) ?_; (with_reducible refine (gatelinelaw05_ringed.calls  t388 _ A26.out).mono ?_); rintro e w27 ⟨rfl, hb⟩; refine ⟨_, rfl, ?_⟩; have n0_ := Aside0.mk (Kd.N_below (by (with_reducible repeat (first | apply Kd.N_alloc | apply Kd.N_drewN | apply Kd.N_drew)); exact HO_7.out) hb); have n1_ := Aside0.mk (Kd.N_below (by (with_reducible repeat (first | apply Kd.N_alloc | apply Kd.N_drewN | apply Kd.N_drew)); exact HO_9.out) hb); have n2_ := Aside0.mk (blk_below (g := gb377) (o := .cells #[.int .i64 a1_0, .slice A1_1 l1_1.length c1_1, .int .i64 a1_2, .int .i64 a1_3] 33 (0, 0)) (by (with_reducible repeat (first | refine blk_drewN ?_ _ | refine blk_drew ?_ | refine blk_alloc ?_ _)); exact BK377.out) hb); have n3_ := Aside0.mk (blk_below (g := gb378) (o := .cells #[.int .i64 a2_0, .slice A2_1 l2_1.length c2_1, .int .i64 a2_2, .int .i64 a2_3] 33 (0, 0)) (by (with_reducible repeat (first | refine blk_drewN ?_ _ | refine blk_drew ?_ | refine blk_alloc ?_ _)); exact BK378.out) hb); have n4_ := Aside0.mk (below_step (by repeat (first | (with_reducible first | exact HB.out | apply below_alloc | apply pw_below_drewN | apply below_drew1 | refine below_set ?_ GE377.out | refine below_set ?_ GE378.out) | exact HB.out)) hb); clear HO_7; clear HO_9; clear BK377; clear BK378; clear HB; have HO_7 := n0_; have HO_9 := n1_; have BK377 := n2_; have BK378 := n3_; have HB := n4_; clear n0_ n1_ n2_ n3_ n4_; (try clear hb); (try clear hb2); (try clear hk); (try clear hi)))
              go_ret
              exact ⟨by first | rfl | (simp [errW_none, errW_some] <;> rfl) | (simp [*, errW_none, errW_some] <;> rfl), by repeat (first | (with_reducible first | exact HB.out | apply below_alloc | apply pw_below_drewN | apply below_drew1 | refine below_set ?_ GE377.out | refine below_set ?_ GE378.out) | exact HB.out)⟩
            · replace c25 := Bool.eq_false_iff.mpr c25
              subst c25
              have H1 : ((ring_Add.f t380 a2_0 l2_1 a2_2 a2_3).bind fun bt389 => ((ring_Add.f t384 a1_0 l1_1 a1_2 a1_3).bind fun bt393 => ((gatelinelaw05_ringed.f).bind fun t397 => (if t397 = true then ((gatelineref05_Sames.f kj17 bt389.1 bt393.1).bind fun t398 => (if t398 = true then (if bt389.2 = bt393.2 then (some ((bt389.2 == 0) == (a1_0 != a2_0))) else (none)) else (none))) else (none))))) = some r := by rw [if_neg (show ¬ (false = true) by decide)] at H; exact H
              clear H
              have H := H1
              clear H1
              replace H := Option.bind_eq_some_iff.mp H
              obtain ⟨⟨t389, t392⟩, A280, H⟩ := H
              replace H : ((ring_Add.f t384 a1_0 l1_1 a1_2 a1_3).bind fun bt393 => ((gatelinelaw05_ringed.f).bind fun t397 => (if t397 = true then ((gatelineref05_Sames.f kj17 t389 bt393.1).bind fun t398 => (if t398 = true then (if t392 = bt393.2 then (some ((t392 == 0) == (a1_0 != a2_0))) else (none)) else (none))) else (none)))) = some r := H
              have A28 := Aside0.mk A280
              clear A280
              replace H := Option.bind_eq_some_iff.mp H
              obtain ⟨⟨t393, t396⟩, A290, H⟩ := H
              replace H : ((gatelinelaw05_ringed.f).bind fun t397 => (if t397 = true then ((gatelineref05_Sames.f kj17 t389 t393).bind fun t398 => (if t398 = true then (if t392 = t396 then (some ((t392 == 0) == (a1_0 != a2_0))) else (none)) else (none))) else (none))) = some r := H
              have A29 := Aside0.mk A290
              clear A290
              replace H := Option.bind_eq_some_iff.mp H
              obtain ⟨t397, A300, H⟩ := H
              replace H : (if t397 = true then ((gatelineref05_Sames.f kj17 t389 t393).bind fun t398 => (if t398 = true then (if t392 = t396 then (some ((t392 == 0) == (a1_0 != a2_0))) else (none)) else (none))) else (none)) = some r := H
              have A30 := Aside0.mk A300
              clear A300
              by_cases c31 : t397 = true
              · subst c31
                have H1 : ((gatelineref05_Sames.f kj17 t389 t393).bind fun t398 => (if t398 = true then (if t392 = t396 then (some ((t392 == 0) == (a1_0 != a2_0))) else (none)) else (none))) = some r := by rw [if_pos rfl] at H; exact H
                clear H
                have H := H1
                clear H1
                replace H := Option.bind_eq_some_iff.mp H
                obtain ⟨t398, A320, H⟩ := H
                replace H : (if t398 = true then (if t392 = t396 then (some ((t392 == 0) == (a1_0 != a2_0))) else (none)) else (none)) = some r := H
                have A32 := Aside0.mk A320
                clear A320
                by_cases c33 : t398 = true
                · subst c33
                  have H1 : (if t392 = t396 then (some ((t392 == 0) == (a1_0 != a2_0))) else (none)) = some r := by rw [if_pos rfl] at H; exact H
                  clear H
                  have H := H1
                  clear H1
                  by_cases c34 : t392 = t396
                  · rw [if_pos c34] at H
                    have c34b0 : (t392 == t396) = true := beq_iff_eq.mpr c34
                    have c34b1 : (t392 != t396) = false := bne_eq_false_iff_eq.mpr c34
                    clear c34
                    obtain rfl := Option.some.inj H
                    have hnb35 := NB378_377.out
                    have hnc35 := NB377_378.out
                    have hcz36_0 : wc.cell? ⟨gb378, 0, none⟩ = some (.int .i64 a2_0) := (blk_cell BK378.out 0).trans rfl
                    have hcz36_1 : wc.cell? ⟨gb378, 1, none⟩ = some (.slice A2_1 l2_1.length c2_1) := (blk_cell BK378.out 1).trans rfl
                    have hcz36_2 : wc.cell? ⟨gb378, 2, none⟩ = some (.int .i64 a2_2) := (blk_cell BK378.out 2).trans rfl
                    have hcz36_3 : wc.cell? ⟨gb378, 3, none⟩ = some (.int .i64 a2_3) := (blk_cell BK378.out 3).trans rfl
                    have hfz36_0 := blk_frozen BK378.out 0
                    have hfz36_1 := blk_frozen BK378.out 1
                    have hfz36_2 := blk_frozen BK378.out 2
                    have hfz36_3 := blk_frozen BK378.out 3
                    obtain ⟨Ao37, co37, eo37⟩ := Kd.N_slice HO_7.out
                    subst eo37
                    go_wp2_with (first | ((with_reducible refine gate_callee (f := 28) rfl ?_); refine goesL_ (some 51) rfl rfl Try.func28 (by kernel_rfl) rfl #[.slice Ao37 t380.length co37, .agg #[.int .i64 a2_0, .slice A2_1 l2_1.length c2_1, .int .i64 a2_2, .int .i64 a2_3]] rfl (by (try simp only [List.map_toArray, List.map_cons, List.map_nil]); first | done | rfl | (simp only [List.length_drop, List.length_take]; rfl)) ?_; (with_reducible refine (ring_Add.calls (fun k_ => (some k_ ≠ (v385 : Value).ownBlock ∧ (k_ ≠ gb377 ∧ k_ ≠ gb378))) _ _ t380 a2_0 (fun k_ => k_ < w.heap.size) _ _ l2_1 a2_2 a2_3 t389 t392 _ ?side1 ?side2 A28.out).mono ?_); (case side1 => exact Kd.N_V (HO_7.out)); (case side2 => exact Kd.V_mk HC2_1.out (Kd.F_below (Kd.C_F (Kd.heap_int .u8) HR2_1.out) (by repeat (first | (with_reducible first | exact HB.out | apply below_alloc | apply pw_below_drewN | apply below_drew1 | refine below_set ?_ GE377.out | refine below_set ?_ GE378.out) | exact HB.out)))); rintro e w38 ⟨v390, rfl, ho0, hb⟩; refine ⟨_, rfl, ?_⟩; have n0_ := Aside0.mk (Kd.N_elder' (by (with_reducible repeat (first | apply Kd.N_alloc | apply Kd.N_drewN | apply Kd.N_drew)); exact HO_7.out) (Kd.N_base ho0) hb); have n1_ := Aside0.mk (Kd.N_elder' (by (with_reducible repeat (first | apply Kd.N_alloc | apply Kd.N_drewN | apply Kd.N_drew)); exact HO_9.out) (Kd.N_base ho0) hb); have n2_ := Aside0.mk (Kd.N_lower (Kd.N_mono (ok' := fun k_ => some k_ ≠ (v385 : Value).ownBlock ∧ k_ ≠ gb377 ∧ k_ ≠ gb378) ho0 (fun k_ hk_ => ⟨Or.elim hk_ (fun hs_ => Or.elim hs_ (fun hs_ => hs_.1) (fun hs_ => fun e_ => Nat.not_le.2 hs_ (Kd.N_base HO_9.out k_ e_.symm))) (fun hn_ => (Kd.fresh' (Kd.N_lt (by (with_reducible repeat (first | apply Kd.N_alloc | apply Kd.N_drewN | apply Kd.N_drew)); exact HO_9.out)) k_ hn_)), Or.elim hk_ (fun hs_ => Or.elim hs_ (fun hs_ => hs_.2.1) (fun hs_ => fun e_ => Nat.not_le.2 hs_ (by rw [e_]; exact GW377.out))) (fun hn_ => (Kd.freshB (g := gb377) (o := .cells #[.int .i64 a1_0, .slice A1_1 l1_1.length c1_1, .int .i64 a1_2, .int .i64 a1_3] 33 (0, 0)) (by (with_reducible repeat (first | refine blk_drewN ?_ _ | refine blk_drew ?_ | refine blk_alloc ?_ _)); exact BK377.out) k_ hn_)), Or.elim hk_ (fun hs_ => Or.elim hs_ (fun hs_ => hs_.2.2) (fun hs_ => fun e_ => Nat.not_le.2 hs_ (by rw [e_]; exact GW378.out))) (fun hn_ => (Kd.freshB (g := gb378) (o := .cells #[.int .i64 a2_0, .slice A2_1 l2_1.length c2_1, .int .i64 a2_2, .int .i64 a2_3] 33 (0, 0)) (by (with_reducible repeat (first | refine blk_drewN ?_ _ | refine blk_drew ?_ | refine blk_alloc ?_ _)); exact BK378.out) k_ hn_))⟩)) (below_size (by repeat (first | (with_reducible first | exact HB.out | apply below_alloc | apply pw_below_drewN | apply below_drew1 | refine below_set ?_ GE377.out | refine below_set ?_ GE378.out) | exact HB.out)))); have n3_ := Aside0.mk (blk_below (g := gb377) (o := .cells #[.int .i64 a1_0, .slice A1_1 l1_1.length c1_1, .int .i64 a1_2, .int .i64 a1_3] 33 (0, 0)) (by (with_reducible repeat (first | refine blk_drewN ?_ _ | refine blk_drew ?_ | refine blk_alloc ?_ _)); exact BK377.out) hb); have n4_ := Aside0.mk (blk_below (g := gb378) (o := .cells #[.int .i64 a2_0, .slice A2_1 l2_1.length c2_1, .int .i64 a2_2, .int .i64 a2_3] 33 (0, 0)) (by (with_reducible repeat (first | refine blk_drewN ?_ _ | refine blk_drew ?_ | refine blk_alloc ?_ _)); exact BK378.out) hb); have n5_ := Aside0.mk (below_step (by repeat (first | (with_reducible first | exact HB.out | apply below_alloc | apply pw_below_drewN | apply below_drew1 | refine below_set ?_ GE377.out | refine below_set ?_ GE378.out) | exact HB.out)) hb); clear HO_7; clear HO_9; clear BK377; clear BK378; clear HB; have HO_7 := n0_; have HO_9 := n1_; have HO391 := n2_; have BK377 := n3_; have BK378 := n4_; have HB := n5_; clear n0_ n1_ n2_ n3_ n4_ n5_; (try clear hb); (try clear hb2); (try clear hk); (try clear hi); (try clear ho0); have hcz39_0 : w38.cell? ⟨gb377, 0, none⟩ = some (.int .i64 a1_0) := (blk_cell BK377.out 0).trans rfl; have hcz39_1 : w38.cell? ⟨gb377, 1, none⟩ = some (.slice A1_1 l1_1.length c1_1) := (blk_cell BK377.out 1).trans rfl; have hcz39_2 : w38.cell? ⟨gb377, 2, none⟩ = some (.int .i64 a1_2) := (blk_cell BK377.out 2).trans rfl; have hcz39_3 : w38.cell? ⟨gb377, 3, none⟩ = some (.int .i64 a1_3) := (blk_cell BK377.out 3).trans rfl; have hfz39_0 := blk_frozen BK377.out 0; have hfz39_1 := blk_frozen BK377.out 1; have hfz39_2 := blk_frozen BK377.out 2; have hfz39_3 := blk_frozen BK377.out 3; obtain ⟨Ao40, co40, eo40⟩ := Kd.N_slice HO_9.out; subst eo40) | ((with_reducible refine gate_callee (f := 28) rfl ?_); refine goesL_ (some 57) rfl rfl Try.func28 (by kernel_rfl) rfl #[.slice Ao40 t384.length co40, .agg #[.int .i64 a1_0, .slice A1_1 l1_1.length c1_1, .int .i64 a1_2, .int .i64 a1_3]] rfl (by (try simp only [List.map_toArray, List.map_cons, List.map_nil]); first | done | rfl | (simp only [List.length_drop, List.length_take]; rfl)) ?_; (with_reducible refine (ring_Add.calls (fun k_ => ((some k_ ≠ (.slice Ao37 t380.length co37 : Value).ownBlock ∧ (k_ ≠ gb377 ∧ k_ ≠ gb378)) ∧ some k_ ≠ (v390 : Value).ownBlock)) _ _ t384 a1_0 (fun k_ => k_ < w.heap.size) _ _ l1_1 a1_2 a1_3 t393 t396 _ ?side1 ?side2 A29.out).mono ?_); (case side1 => exact Kd.N_V (HO_9.out)); (case side2 => exact Kd.V_mk HC1_1.out (Kd.F_below (Kd.C_F (Kd.heap_int .u8) HR1_1.out) (by repeat (first | (with_reducible first | exact HB.out | apply below_alloc | apply pw_below_drewN | apply below_drew1 | refine below_set ?_ GE377.out | refine below_set ?_ GE378.out) | exact HB.out)))); rintro e w41 ⟨v394, rfl, ho0, hb⟩; refine ⟨_, rfl, ?_⟩; have n0_ := Aside0.mk (Kd.N_elder' (by (with_reducible repeat (first | apply Kd.N_alloc | apply Kd.N_drewN | apply Kd.N_drew)); exact HO_7.out) (Kd.N_base ho0) hb); have n1_ := Aside0.mk (Kd.N_elder' (by (with_reducible repeat (first | apply Kd.N_alloc | apply Kd.N_drewN | apply Kd.N_drew)); exact HO_9.out) (Kd.N_base ho0) hb); have n2_ := Aside0.mk (Kd.N_elder' (by (with_reducible repeat (first | apply Kd.N_alloc | apply Kd.N_drewN | apply Kd.N_drew)); exact HO391.out) (Kd.N_base ho0) hb); have n3_ := Aside0.mk (Kd.N_lower (Kd.N_mono (ok' := fun k_ => some k_ ≠ (.slice Ao37 t380.length co37 : Value).ownBlock ∧ some k_ ≠ (v390 : Value).ownBlock ∧ k_ ≠ gb377 ∧ k_ ≠ gb378) ho0 (fun k_ hk_ => ⟨Or.elim hk_ (fun hs_ => Or.elim hs_ (fun hs_ => hs_.1.1) (fun hs_ => fun e_ => Nat.not_le.2 hs_ (Kd.N_base HO_7.out k_ e_.symm))) (fun hn_ => (Kd.fresh' (Kd.N_lt (by (with_reducible repeat (first | apply Kd.N_alloc | apply Kd.N_drewN | apply Kd.N_drew)); exact HO_7.out)) k_ hn_)), Or.elim hk_ (fun hs_ => Or.elim hs_ (fun hs_ => hs_.2) (fun hs_ => fun e_ => Nat.not_le.2 hs_ (Kd.N_base HO391.out k_ e_.symm))) (fun hn_ => (Kd.fresh' (Kd.N_lt (by (with_reducible repeat (first | apply Kd.N_alloc | apply Kd.N_drewN | apply Kd.N_drew)); exact HO391.out)) k_ hn_)), Or.elim hk_ (fun hs_ => Or.elim hs_ (fun hs_ => hs_.1.2.1) (fun hs_ => fun e_ => Nat.not_le.2 hs_ (by rw [e_]; exact GW377.out))) (fun hn_ => (Kd.freshB (g := gb377) (o := .cells #[.int .i64 a1_0, .slice A1_1 l1_1.length c1_1, .int .i64 a1_2, .int .i64 a1_3] 33 (0, 0)) (by (with_reducible repeat (first | refine blk_drewN ?_ _ | refine blk_drew ?_ | refine blk_alloc ?_ _)); exact BK377.out) k_ hn_)), Or.elim hk_ (fun hs_ => Or.elim hs_ (fun hs_ => hs_.1.2.2) (fun hs_ => fun e_ => Nat.not_le.2 hs_ (by rw [e_]; exact GW378.out))) (fun hn_ => (Kd.freshB (g := gb378) (o := .cells #[.int .i64 a2_0, .slice A2_1 l2_1.length c2_1, .int .i64 a2_2, .int .i64 a2_3] 33 (0, 0)) (by (with_reducible repeat (first | refine blk_drewN ?_ _ | refine blk_drew ?_ | refine blk_alloc ?_ _)); exact BK378.out) k_ hn_))⟩)) (below_size (by repeat (first | (with_reducible first | exact HB.out | apply below_alloc | apply pw_below_drewN | apply below_drew1 | refine below_set ?_ GE377.out | refine below_set ?_ GE378.out) | exact HB.out)))); have n4_ := Aside0.mk (blk_below (g := gb377) (o := .cells #[.int .i64 a1_0, .slice A1_1 l1_1.length c1_1, .int .i64 a1_2, .int .i64 a1_3] 33 (0, 0)) (by (with_reducible repeat (first | refine blk_drewN ?_ _ | refine blk_drew ?_ | refine blk_alloc ?_ _)); exact BK377.out) hb); have n5_ := Aside0.mk (blk_below (g := gb378) (o := .cells #[.int .i64 a2_0, .slice A2_1 l2_1.length c2_1, .int .i64 a2_2, .int .i64 a2_3] 33 (0, 0)) (by (with_reducible repeat (first | refine blk_drewN ?_ _ | refine blk_drew ?_ | refine blk_alloc ?_ _)); exact BK378.out) hb); have n6_ := Aside0.mk (below_step (by repeat (first | (with_reducible first | exact HB.out | apply below_alloc | apply pw_below_drewN | apply below_drew1 | refine below_set ?_ GE377.out | refine below_set ?_ GE378.out) | exact HB.out)) hb); clear HO_7; clear HO_9; clear HO391; clear BK377; clear BK378; clear HB; have HO_7 := n0_; have HO_9 := n1_; have HO391 := n2_; have HO395 := n3_; have BK377 := n4_; have BK378 := n5_; have HB := n6_; clear n0_ n1_ n2_ n3_ n4_ n5_ n6_; (try clear hb); (try clear hb2); (try clear hk); (try clear hi); (try clear ho0)) | ((with_reducible refine gate_callee (f := 24) rfl ?_); refine goesL_ (some 60) rfl rfl Try.func24 (by kernel_rfl) rfl #[] rfl (by (try simp only [List.map_toArray, List.map_cons, List.map_nil]); first | done | rfl | (simp only [List.length_drop, List.length_take]; rfl)) ?_; (with_reducible refine (gatelinelaw05_ringed.calls  true _ A30.out).mono ?_); rintro e w42 ⟨rfl, hb⟩; refine ⟨_, rfl, ?_⟩; have n0_ := Aside0.mk (Kd.N_below (by (with_reducible repeat (first | apply Kd.N_alloc | apply Kd.N_drewN | apply Kd.N_drew)); exact HO_7.out) hb); have n1_ := Aside0.mk (Kd.N_below (by (with_reducible repeat (first | apply Kd.N_alloc | apply Kd.N_drewN | apply Kd.N_drew)); exact HO_9.out) hb); have n2_ := Aside0.mk (Kd.N_below (by (with_reducible repeat (first | apply Kd.N_alloc | apply Kd.N_drewN | apply Kd.N_drew)); exact HO391.out) hb); have n3_ := Aside0.mk (Kd.N_below (by (with_reducible repeat (first | apply Kd.N_alloc | apply Kd.N_drewN | apply Kd.N_drew)); exact HO395.out) hb); have n4_ := Aside0.mk (blk_below (g := gb377) (o := .cells #[.int .i64 a1_0, .slice A1_1 l1_1.length c1_1, .int .i64 a1_2, .int .i64 a1_3] 33 (0, 0)) (by (with_reducible repeat (first | refine blk_drewN ?_ _ | refine blk_drew ?_ | refine blk_alloc ?_ _)); exact BK377.out) hb); have n5_ := Aside0.mk (blk_below (g := gb378) (o := .cells #[.int .i64 a2_0, .slice A2_1 l2_1.length c2_1, .int .i64 a2_2, .int .i64 a2_3] 33 (0, 0)) (by (with_reducible repeat (first | refine blk_drewN ?_ _ | refine blk_drew ?_ | refine blk_alloc ?_ _)); exact BK378.out) hb); have n6_ := Aside0.mk (below_step (by repeat (first | (with_reducible first | exact HB.out | apply below_alloc | apply pw_below_drewN | apply below_drew1 | refine below_set ?_ GE377.out | refine below_set ?_ GE378.out) | exact HB.out)) hb); clear HO_7; clear HO_9; clear HO391; clear HO395; clear BK377; clear BK378; clear HB; have HO_7 := n0_; have HO_9 := n1_; have HO391 := n2_; have HO395 := n3_; have BK377 := n4_; have BK378 := n5_; have HB := n6_; clear n0_ n1_ n2_ n3_ n4_ n5_ n6_; (try clear hb); (try clear hb2); (try clear hk); (try clear hi); obtain ⟨Ao43, co43, eo43⟩ := Kd.N_slice HO391.out; subst eo43; obtain ⟨Ao44, co44, eo44⟩ := Kd.N_slice HO395.out; subst eo44) | (go_at_call 30; (with_reducible refine (gatelineref05_Sames.calls kj17 _ _ t389 _ _ t393 true _ ?side1 ?side2 ?side3 ?side4 A32.out).mono ?_); (case side1 => repeat (first | exact (Kd.N_reads' HO391.out).2.2 | (with_reducible refine Kd.C_alloc ?_ _) | (with_reducible refine Kd.C_drewN ?_ _) | (with_reducible refine Kd.C_drew ?_))); (case side2 => exact (Kd.N_reads' HO391.out).2.1); (case side3 => repeat (first | exact (Kd.N_reads' HO395.out).2.2 | (with_reducible refine Kd.C_alloc ?_ _) | (with_reducible refine Kd.C_drewN ?_ _) | (with_reducible refine Kd.C_drew ?_))); (case side4 => exact (Kd.N_reads' HO395.out).2.1); rintro e w45 ⟨rfl, hb⟩; have n0_ := Aside0.mk (Kd.N_below (by (with_reducible repeat (first | apply Kd.N_alloc | apply Kd.N_drewN | apply Kd.N_drew)); exact HO_7.out) hb); have n1_ := Aside0.mk (Kd.N_below (by (with_reducible repeat (first | apply Kd.N_alloc | apply Kd.N_drewN | apply Kd.N_drew)); exact HO_9.out) hb); have n2_ := Aside0.mk (Kd.N_below (by (with_reducible repeat (first | apply Kd.N_alloc | apply Kd.N_drewN | apply Kd.N_drew)); exact HO391.out) hb); have n3_ := Aside0.mk (Kd.N_below (by (with_reducible repeat (first | apply Kd.N_alloc | apply Kd.N_drewN | apply Kd.N_drew)); exact HO395.out) hb); have n4_ := Aside0.mk (blk_below (g := gb377) (o := .cells #[.int .i64 a1_0, .slice A1_1 l1_1.length c1_1, .int .i64 a1_2, .int .i64 a1_3] 33 (0, 0)) (by (with_reducible repeat (first | refine blk_drewN ?_ _ | refine blk_drew ?_ | refine blk_alloc ?_ _)); exact BK377.out) hb); have n5_ := Aside0.mk (blk_below (g := gb378) (o := .cells #[.int .i64 a2_0, .slice A2_1 l2_1.length c2_1, .int .i64 a2_2, .int .i64 a2_3] 33 (0, 0)) (by (with_reducible repeat (first | refine blk_drewN ?_ _ | refine blk_drew ?_ | refine blk_alloc ?_ _)); exact BK378.out) hb); have n6_ := Aside0.mk (below_step (by repeat (first | (with_reducible first | exact HB.out | apply below_alloc | apply pw_below_drewN | apply below_drew1 | refine below_set ?_ GE377.out | refine below_set ?_ GE378.out) | exact HB.out)) hb); clear HO_7; clear HO_9; clear HO391; clear HO395; clear BK377; clear BK378; clear HB; have HO_7 := n0_; have HO_9 := n1_; have HO391 := n2_; have HO395 := n3_; have BK377 := n4_; have BK378 := n5_; have HB := n6_; clear n0_ n1_ n2_ n3_ n4_ n5_ n6_; (try clear hb); (try clear hb2); (try clear hk); (try clear hi); have hcz46_0 : w45.cell? ⟨gb377, 0, none⟩ = some (.int .i64 a1_0) := (blk_cell BK377.out 0).trans rfl; have hcz46_1 : w45.cell? ⟨gb377, 1, none⟩ = some (.slice A1_1 l1_1.length c1_1) := (blk_cell BK377.out 1).trans rfl; have hcz46_2 : w45.cell? ⟨gb377, 2, none⟩ = some (.int .i64 a1_2) := (blk_cell BK377.out 2).trans rfl; have hcz46_3 : w45.cell? ⟨gb377, 3, none⟩ = some (.int .i64 a1_3) := (blk_cell BK377.out 3).trans rfl; have hfz46_0 := blk_frozen BK377.out 0; have hfz46_1 := blk_frozen BK377.out 1; have hfz46_2 := blk_frozen BK377.out 2; have hfz46_3 := blk_frozen BK377.out 3; have hcz47_0 : w45.cell? ⟨gb378, 0, none⟩ = some (.int .i64 a2_0) := (blk_cell BK378.out 0).trans rfl; have hcz47_1 : w45.cell? ⟨gb378, 1, none⟩ = some (.slice A2_1 l2_1.length c2_1) := (blk_cell BK378.out 1).trans rfl; have hcz47_2 : w45.cell? ⟨gb378, 2, none⟩ = some (.int .i64 a2_2) := (blk_cell BK378.out 2).trans rfl; have hcz47_3 : w45.cell? ⟨gb378, 3, none⟩ = some (.int .i64 a2_3) := (blk_cell BK378.out 3).trans rfl; have hfz47_0 := blk_frozen BK378.out 0; have hfz47_1 := blk_frozen BK378.out 1; have hfz47_2 := blk_frozen BK378.out 2; have hfz47_3 := blk_frozen BK378.out 3))
                    go_ret
                    exact ⟨by first | rfl | (simp [errW_none, errW_some] <;> rfl) | (simp [*, errW_none, errW_some] <;> rfl), by repeat (first | (with_reducible first | exact HB.out | apply below_alloc | apply pw_below_drewN | apply below_drew1 | refine below_set ?_ GE377.out | refine below_set ?_ GE378.out) | exact HB.out)⟩
                  · rw [if_neg c34] at H
                    exact absurd H (by simp)
                · replace c33 := Bool.eq_false_iff.mpr c33
                  subst c33
                  have H1 : (none) = some r := by rw [if_neg (show ¬ (false = true) by decide)] at H; exact H
                  clear H
                  have H := H1
                  clear H1
                  exact absurd H (by simp)
              · replace c31 := Bool.eq_false_iff.mpr c31
                subst c31
                have H1 : (none) = some r := by rw [if_neg (show ¬ (false = true) by decide)] at H; exact H
                clear H
                have H := H1
                clear H1
                exact absurd H (by simp)

end Go.Proofs.Ytijpiaiklojafaa.S
