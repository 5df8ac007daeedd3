/- Written for this claim by a program of this session (handprint.py, over the kit's print). Lean checks it. -/
import Derived.Test.YtfmpeojlaibblaaS0
import Derived.Test.YtfmpeojlaibblaaSF27
import Derived.Test.YtfmpeojlaibblaaHSum
namespace Go.Proofs.Ytfmpeojlaibblaa.S
open Go.RowKit Go.Proofs.YtfmpeojlaibblaaW.PrintWords Go.Proofs.YtfmpeojlaibblaaW.PrintLast Go.Proofs.YtfmpeojlaibblaaW.PrintMore
attribute [local go_sem] max2_int min2_int max_two min_two max_three min_three max_four min_four   -- for this text's walks alone
set_option linter.unusedVariables false
set_option linter.unusedSimpArgs false

/-! ### gatelinelaw10_ParityTells: function 9 -/
def gatelinelaw10_ParityTells.j0 : Nat → List Int → Int → Int → Int → Bool → Option (Bool)
  | 0, _, _, _, _, _ => none
  | k + 1, x0, x1, x2, x7, x41 => if x41 = true then ((gatelinelaw10_odd.f).bind fun t205 => (some t205)) else ((some (([] : List Int) : List Int)).bind fun y206 => (if y206.length + x0.length < 17592186044416 then ((some (y206 ++ x0 : List Int)).bind fun y209 => (if 0 ≤ x1 then (if x1 < (y209.length : Int) then ((parity_Sum.f (y209.set (x1 : Int).toNat x2)).bind fun bt213 => ((gatelinelaw10_odd.f).bind fun t215 => (if t215 = true then (if bt213.2 = 0 then (if x1 < (x0.length : Int) then (if ((x7 == bt213.1) == (x2 == (rd x0 x1))) = true then (if x7 ≥ 0 then (some (decide (x7 ≤ 15))) else (none)) else (none)) else (none)) else (none)) else (none)))) else (none)) else (none))) else (none)))
def gatelinelaw10_ParityTells.f (k : Nat) (l0 : List Int) (a1 : Int) (a2 : Int) : Option (Bool) := (parity_Sum.f l0).bind fun bt203 => (if (l0.length : Int) > 1000 then (gatelinelaw10_ParityTells.j0 k l0 a1 a2 bt203.1 true) else (if bt203.2 = 0 then (if a1 < 0 then (gatelinelaw10_ParityTells.j0 k l0 a1 a2 bt203.1 true) else (if a1 ≥ (l0.length : Int) then (gatelinelaw10_ParityTells.j0 k l0 a1 a2 bt203.1 true) else (if a2 < 0 then (gatelinelaw10_ParityTells.j0 k l0 a1 a2 bt203.1 true) else (gatelinelaw10_ParityTells.j0 k l0 a1 a2 bt203.1 (decide (a2 > 15)))))) else (gatelinelaw10_ParityTells.j0 k l0 a1 a2 bt203.1 true)))
theorem gatelinelaw10_ParityTells.mono_l : ∀ k, (∀ y0 y1 y2 y3 y4, LeO (gatelinelaw10_ParityTells.j0 k y0 y1 y2 y3 y4) (gatelinelaw10_ParityTells.j0 (k + 1) y0 y1 y2 y3 y4))
  | 0 => fun _ _ _ _ _ r h => by simp [gatelinelaw10_ParityTells.j0] at h
  | k + 1 => by
    have ih0 := gatelinelaw10_ParityTells.mono_l k
    · intro y0 y1 y2 y3 y4
      unfold gatelinelaw10_ParityTells.j0
      repeat' first
      | (with_reducible exact ih0 _ _ _ _ _)
      | (with_reducible exact LeO.refl _)
      | (with_reducible exact LeO.none _)
      | (with_reducible refine LeO.ite ?_ ?_)
      | (with_reducible refine LeO.bind ?_ (fun _ => ?_))
      | exact ih0 _ _ _ _ _
      | exact LeO.none _
      | refine LeO.ite ?_ ?_
      | refine LeO.bind ?_ (fun _ => ?_)
theorem gatelinelaw10_ParityTells.mono : ∀ a0 a1 a2 k, LeO (gatelinelaw10_ParityTells.f k a0 a1 a2) (gatelinelaw10_ParityTells.f (k + 1) a0 a1 a2) := by
  intro a0 a1 a2 k
  have ih0 := gatelinelaw10_ParityTells.mono_l k
  unfold gatelinelaw10_ParityTells.f
  repeat' first
      | (with_reducible exact ih0 _ _ _ _ _)
      | (with_reducible exact LeO.refl _)
      | (with_reducible exact LeO.none _)
      | (with_reducible refine LeO.ite ?_ ?_)
      | (with_reducible refine LeO.bind ?_ (fun _ => ?_))
      | exact ih0 _ _ _ _ _
      | exact LeO.none _
      | refine LeO.ite ?_ ?_
      | refine LeO.bind ?_ (fun _ => ?_)
set_option maxHeartbeats 8000000 in
set_option maxRecDepth 100000 in
theorem gatelinelaw10_ParityTells.calls (k : Nat) (A0 : Option Addr) (c0 : Nat) (l0 : List Int) (a1 : Int) (a2 : Int) (r : Bool) (w : World) (hr0 : Kd.C (Kd.int .i64) w A0 l0.length l0) (hc0 : l0.length ≤ c0) (h : gatelinelaw10_ParityTells.f k l0 a1 a2 = some r) :
    Calls Try.prog 9 #[.slice A0 l0.length c0, .int .i64 a1, .int .i64 a2] w fun e w' => e = .returned (.bool r) ∧ Below w.heap.size w w' := by
  have HR0 := Aside0.mk hr0
  have HC0 := Aside0.mk hc0
  clear hr0 hc0
  have HB := Aside0.mk (Below.refl w.heap.size w)
  have H : ((parity_Sum.f l0).bind fun bt203 => (if (l0.length : Int) > 1000 then (gatelinelaw10_ParityTells.j0 k l0 a1 a2 bt203.1 true) else (if bt203.2 = 0 then (if a1 < 0 then (gatelinelaw10_ParityTells.j0 k l0 a1 a2 bt203.1 true) else (if a1 ≥ (l0.length : Int) then (gatelinelaw10_ParityTells.j0 k l0 a1 a2 bt203.1 true) else (if a2 < 0 then (gatelinelaw10_ParityTells.j0 k l0 a1 a2 bt203.1 true) else (gatelinelaw10_ParityTells.j0 k l0 a1 a2 bt203.1 (decide (a2 > 15)))))) else (gatelinelaw10_ParityTells.j0 k l0 a1 a2 bt203.1 true)))) = some r := h
  clear h
  replace H := Option.bind_eq_some_iff.mp H
  obtain ⟨⟨t203, t204⟩, A40, H⟩ := H
  replace H : (if (l0.length : Int) > 1000 then (gatelinelaw10_ParityTells.j0 k l0 a1 a2 t203 true) else (if t204 = 0 then (if a1 < 0 then (gatelinelaw10_ParityTells.j0 k l0 a1 a2 t203 true) else (if a1 ≥ (l0.length : Int) then (gatelinelaw10_ParityTells.j0 k l0 a1 a2 t203 true) else (if a2 < 0 then (gatelinelaw10_ParityTells.j0 k l0 a1 a2 t203 true) else (gatelinelaw10_ParityTells.j0 k l0 a1 a2 t203 (decide (a2 > 15)))))) else (gatelinelaw10_ParityTells.j0 k l0 a1 a2 t203 true))) = some r := H
  have A4 := Aside0.mk A40
  clear A40
  have HC5 := Aside0.mk H
  clear H
  go_enter Try.func9, Try.ntmps9
  go_upto_region 2 with (first | ((with_reducible refine gate_callee (f := 28) rfl ?_); refine goesL_ (some 14) rfl rfl Try.func28 (by kernel_rfl) rfl #[.slice A0 l0.length c0] rfl (by (try simp only [List.map_toArray, List.map_cons, List.map_nil]); first | done | rfl | (simp only [List.length_drop, List.length_take]; rfl)) ?_; (with_reducible refine (parity_Sum.calls _ _ l0 t203 t204 _ ?side1 ?side2 A4.out).mono ?_); (case side1 => repeat (first | exact HR0.out | (with_reducible refine Kd.C_alloc ?_ _) | (with_reducible refine Kd.C_drewN ?_ _) | (with_reducible refine Kd.C_drew ?_))); (case side2 => exact HC0.out); rintro e w6 ⟨rfl, hb⟩; refine ⟨_, rfl, ?_⟩; have n0_ := Aside0.mk (below_step (by repeat (first | (with_reducible first | exact HB.out | apply below_alloc | apply pw_below_drewN | apply below_drew1) | exact HB.out)) hb); clear HB; have HB := n0_; clear n0_; (try clear hb); (try clear hb2); (try clear hk); (try clear hi)))
  (try simp only [Act.put, List.setIfInBounds_toArray, List.set_cons_zero, List.set_cons_succ])
  go_cut [41] (fun v41 wc => ∃ (kq : Nat) (x41_4 : Bool), v41 = .bool x41_4 ∧ Aside0 (gatelinelaw10_ParityTells.j0 kq l0 a1 a2 t203 x41_4 = some r) ∧ Aside0 (kq ≤ k) ∧ Aside0 (Below w.heap.size w wc))
  case first =>
    have H := HC5.out
    clear HC5
    by_cases c7 : (l0.length : Int) > 1000
    · rw [if_pos c7] at H
      have c7b0 : decide (1000 < (l0.length : Int)) = true := decide_eq_true c7
      have c7b1 : decide (1000 < l0.length) = true := decide_eq_true (by omega)
      clear c7
      (first | rw [c7b0] | (simp only [i64_w, i32_w]; rw [c7b0]) | skip)
      have H' := Aside0.mk H
      clear H
      go_wp2
      go_meet
      case rel => exact ⟨_, (true), (by first | rfl | (simp; done) | (simp [*]; done)), H', ⟨by first | omega | exact Nat.le_refl _⟩, ⟨by repeat (first | (with_reducible first | exact HB.out | apply below_alloc | apply pw_below_drewN | apply below_drew1) | exact HB.out)⟩⟩
    · rw [if_neg c7] at H
      have c7b0 : decide (1000 < (l0.length : Int)) = false := decide_eq_false c7
      have c7b1 : decide (1000 < l0.length) = false := decide_eq_false (by omega)
      clear c7
      (first | rw [c7b0] | (simp only [i64_w, i32_w]; rw [c7b0]) | skip)
      by_cases c8 : t204 = 0
      · rw [if_pos c8] at H
        have c8b0 : (t204 == 0) = true := beq_iff_eq.mpr c8
        have c8b1 : (t204 != 0) = false := bne_eq_false_iff_eq.mpr c8
        clear c8
        by_cases c9 : a1 < 0
        · rw [if_pos c9] at H
          have c9b0 : decide (a1 < 0) = true := decide_eq_true c9
          clear c9
          have H' := Aside0.mk H
          clear H
          go_wp2
          go_meet
          case rel => exact ⟨_, (true), (by first | rfl | (simp; done) | (simp [*]; done)), H', ⟨by first | omega | exact Nat.le_refl _⟩, ⟨by repeat (first | (with_reducible first | exact HB.out | apply below_alloc | apply pw_below_drewN | apply below_drew1) | exact HB.out)⟩⟩
        · rw [if_neg c9] at H
          have c9b0 : decide (a1 < 0) = false := decide_eq_false c9
          clear c9
          by_cases c10 : a1 ≥ (l0.length : Int)
          · rw [if_pos c10] at H
            have c10b0 : decide ((l0.length : Int) ≤ a1) = true := decide_eq_true c10
            clear c10
            have H' := Aside0.mk H
            clear H
            go_wp2
            go_meet
            case rel => exact ⟨_, (true), (by first | rfl | (simp; done) | (simp [*]; done)), H', ⟨by first | omega | exact Nat.le_refl _⟩, ⟨by repeat (first | (with_reducible first | exact HB.out | apply below_alloc | apply pw_below_drewN | apply below_drew1) | exact HB.out)⟩⟩
          · rw [if_neg c10] at H
            have c10b0 : decide ((l0.length : Int) ≤ a1) = false := decide_eq_false c10
            clear c10
            by_cases c11 : a2 < 0
            · rw [if_pos c11] at H
              have c11b0 : decide (a2 < 0) = true := decide_eq_true c11
              clear c11
              have H' := Aside0.mk H
              clear H
              go_wp2
              go_meet
              case rel => exact ⟨_, (true), (by first | rfl | (simp; done) | (simp [*]; done)), H', ⟨by first | omega | exact Nat.le_refl _⟩, ⟨by repeat (first | (with_reducible first | exact HB.out | apply below_alloc | apply pw_below_drewN | apply below_drew1) | exact HB.out)⟩⟩
            · rw [if_neg c11] at H
              have c11b0 : decide (a2 < 0) = false := decide_eq_false c11
              clear c11
              have H' := Aside0.mk H
              clear H
              go_wp2
              go_meet
              case rel => exact ⟨_, (decide (a2 > 15)), (by first | rfl | (simp; done) | (simp [*]; done)), H', ⟨by first | omega | exact Nat.le_refl _⟩, ⟨by repeat (first | (with_reducible first | exact HB.out | apply below_alloc | apply pw_below_drewN | apply below_drew1) | exact HB.out)⟩⟩
      · rw [if_neg c8] at H
        have c8b0 : (t204 == 0) = false := beq_eq_false_iff_ne.mpr c8
        have c8b1 : (t204 != 0) = true := bne_iff_ne.mpr c8
        have H' := Aside0.mk H
        clear H
        go_wp2
        go_meet
        case rel => exact ⟨_, (true), (by first | rfl | (simp; done) | (simp [*]; done)), H', ⟨by first | omega | exact Nat.le_refl _⟩, ⟨by repeat (first | (with_reducible first | exact HB.out | apply below_alloc | apply pw_below_drewN | apply below_drew1) | exact HB.out)⟩⟩
  case rest =>
    clear HC5
    try clear c1
    try clear c2
    try clear p2
    try clear c7
    try clear c7b0
    try clear c7b1
    try clear c8
    try clear c8b0
    try clear c8b1
    try clear c9
    try clear c9b0
    try clear c10
    try clear c10b0
    try clear c11
    try clear c11b0
    obtain ⟨kq, x41_4, rfl, HA, HJ4, HB⟩ := hcut
    cases kq with
    | zero => exact absurd HA.out (by simp [gatelinelaw10_ParityTells.j0])
    | succ kj4 =>
      have H := HA.out
      clear HA
      simp only [gatelinelaw10_ParityTells.j0] at H
      by_cases c12 : x41_4 = true
      · subst c12
        have H1 : ((gatelinelaw10_odd.f).bind fun t205 => (some t205)) = some r := by rw [if_pos rfl] at H; exact H
        clear H
        have H := H1
        clear H1
        replace H := Option.bind_eq_some_iff.mp H
        obtain ⟨t205, A130, H⟩ := H
        replace H : (some t205) = some r := H
        have A13 := Aside0.mk A130
        clear A130
        obtain rfl := Option.some.inj H
        go_wp2_with (first | ((with_reducible refine gate_callee (f := 27) rfl ?_); refine goesL_ (some 42) rfl rfl Try.func27 (by kernel_rfl) rfl #[] rfl (by (try simp only [List.map_toArray, List.map_cons, List.map_nil]); first | done | rfl | (simp only [List.length_drop, List.length_take]; rfl)) ?_; (with_reducible refine (gatelinelaw10_odd.calls  t205 _ A13.out).mono ?_); rintro e w14 ⟨rfl, hb⟩; refine ⟨_, rfl, ?_⟩; have n0_ := Aside0.mk (below_step (by repeat (first | (with_reducible first | exact HB.out | apply below_alloc | apply pw_below_drewN | apply below_drew1) | exact HB.out)) hb); clear HB; have HB := n0_; clear n0_; (try clear hb); (try clear hb2); (try clear hk); (try clear hi)))
        go_ret
        exact ⟨by first | rfl | (simp [errW_none, errW_some] <;> rfl) | (simp [*, errW_none, errW_some] <;> rfl), by repeat (first | (with_reducible first | exact HB.out | apply below_alloc | apply pw_below_drewN | apply below_drew1) | exact HB.out)⟩
      · replace c12 := Bool.eq_false_iff.mpr c12
        subst c12
        have H1 : ((some (([] : List Int) : List Int)).bind fun y206 => (if y206.length + l0.length < 17592186044416 then ((some (y206 ++ l0 : List Int)).bind fun y209 => (if 0 ≤ a1 then (if a1 < (y209.length : Int) then ((parity_Sum.f (y209.set (a1 : Int).toNat a2)).bind fun bt213 => ((gatelinelaw10_odd.f).bind fun t215 => (if t215 = true then (if bt213.2 = 0 then (if a1 < (l0.length : Int) then (if ((t203 == bt213.1) == (a2 == (rd l0 a1))) = true then (if t203 ≥ 0 then (some (decide (t203 ≤ 15))) else (none)) else (none)) else (none)) else (none)) else (none)))) else (none)) else (none))) else (none))) = some r := by rw [if_neg (show ¬ (false = true) by decide)] at H; exact H
        clear H
        have H := H1
        clear H1
        obtain ⟨y206, hy206⟩ : ∃ y_ : List Int, y_ = (([] : List Int)) := ⟨_, rfl⟩
        replace H : (if y206.length + l0.length < 17592186044416 then ((some (y206 ++ l0 : List Int)).bind fun y209 => (if 0 ≤ a1 then (if a1 < (y209.length : Int) then ((parity_Sum.f (y209.set (a1 : Int).toNat a2)).bind fun bt213 => ((gatelinelaw10_odd.f).bind fun t215 => (if t215 = true then (if bt213.2 = 0 then (if a1 < (l0.length : Int) then (if ((t203 == bt213.1) == (a2 == (rd l0 a1))) = true then (if t203 ≥ 0 then (some (decide (t203 ≤ 15))) else (none)) else (none)) else (none)) else (none)) else (none)))) else (none)) else (none))) else (none)) = some r := by first | (rw [hy206]; with_reducible exact H) | (have H2_ := (Option.bind_some _ _).symm.trans H; rw [hy206]; with_reducible exact H2_) | (have H2_ := (Option.bind_some _ _).symm.trans H; with_reducible exact H2_) | with_reducible exact H | (rw [hy206]; exact H) | exact H
        have Ny206 := Aside0.mk hy206
        clear hy206
        by_cases c15 : y206.length + l0.length < 17592186044416
        · rw [if_pos c15] at H
          have LMc15 := Aside0.mk c15
          clear c15
          obtain ⟨y209, hy209⟩ : ∃ y_ : List Int, y_ = (y206 ++ l0) := ⟨_, rfl⟩
          replace H : (if 0 ≤ a1 then (if a1 < (y209.length : Int) then ((parity_Sum.f (y209.set (a1 : Int).toNat a2)).bind fun bt213 => ((gatelinelaw10_odd.f).bind fun t215 => (if t215 = true then (if bt213.2 = 0 then (if a1 < (l0.length : Int) then (if ((t203 == bt213.1) == (a2 == (rd l0 a1))) = true then (if t203 ≥ 0 then (some (decide (t203 ≤ 15))) else (none)) else (none)) else (none)) else (none)) else (none)))) else (none)) else (none)) = some r := by first | (rw [hy209]; with_reducible exact H) | (have H2_ := (Option.bind_some _ _).symm.trans H; rw [hy209]; with_reducible exact H2_) | (have H2_ := (Option.bind_some _ _).symm.trans H; with_reducible exact H2_) | with_reducible exact H | (rw [hy209]; exact H) | exact H
          have Ny209 := Aside0.mk hy209
          clear hy209
          by_cases c16 : 0 ≤ a1
          · rw [if_pos c16] at H
            have c16b0 : decide (0 ≤ a1) = true := decide_eq_true c16
            clear c16
            by_cases c17 : a1 < (y209.length : Int)
            · rw [if_pos c17] at H
              have c17b0 : decide (a1 < (y209.length : Int)) = true := decide_eq_true c17
              clear c17
              obtain ⟨y212, hy212⟩ : ∃ y_ : List Int, y_ = (y209.set (a1 : Int).toNat a2) := ⟨_, rfl⟩
              replace H : ((parity_Sum.f y212).bind fun bt213 => ((gatelinelaw10_odd.f).bind fun t215 => (if t215 = true then (if bt213.2 = 0 then (if a1 < (l0.length : Int) then (if ((t203 == bt213.1) == (a2 == (rd l0 a1))) = true then (if t203 ≥ 0 then (some (decide (t203 ≤ 15))) else (none)) else (none)) else (none)) else (none)) else (none)))) = some r := by first | (rw [hy212]; with_reducible exact H) | (have H2_ := (Option.bind_some _ _).symm.trans H; rw [hy212]; with_reducible exact H2_) | (have H2_ := (Option.bind_some _ _).symm.trans H; with_reducible exact H2_) | with_reducible exact H | (rw [hy212]; exact H) | exact H
              have Ny212 := Aside0.mk hy212
              clear hy212
              replace H := Option.bind_eq_some_iff.mp H
              obtain ⟨⟨t213, t214⟩, A190, H⟩ := H
              replace H : ((gatelinelaw10_odd.f).bind fun t215 => (if t215 = true then (if t214 = 0 then (if a1 < (l0.length : Int) then (if ((t203 == t213) == (a2 == (rd l0 a1))) = true then (if t203 ≥ 0 then (some (decide (t203 ≤ 15))) else (none)) else (none)) else (none)) else (none)) else (none))) = some r := H
              have A19 := Aside0.mk A190
              clear A190
              replace H := Option.bind_eq_some_iff.mp H
              obtain ⟨t215, A200, H⟩ := H
              replace H : (if t215 = true then (if t214 = 0 then (if a1 < (l0.length : Int) then (if ((t203 == t213) == (a2 == (rd l0 a1))) = true then (if t203 ≥ 0 then (some (decide (t203 ≤ 15))) else (none)) else (none)) else (none)) else (none)) else (none)) = some r := H
              have A20 := Aside0.mk A200
              clear A200
              by_cases c21 : t215 = true
              · subst c21
                have H1 : (if t214 = 0 then (if a1 < (l0.length : Int) then (if ((t203 == t213) == (a2 == (rd l0 a1))) = true then (if t203 ≥ 0 then (some (decide (t203 ≤ 15))) else (none)) else (none)) else (none)) else (none)) = some r := by rw [if_pos rfl] at H; exact H
                clear H
                have H := H1
                clear H1
                by_cases c22 : t214 = 0
                · rw [if_pos c22] at H
                  have c22b0 : (t214 == 0) = true := beq_iff_eq.mpr c22
                  have c22b1 : (t214 != 0) = false := bne_eq_false_iff_eq.mpr c22
                  clear c22
                  by_cases c23 : a1 < (l0.length : Int)
                  · rw [if_pos c23] at H
                    have c23b0 : decide (a1 < (l0.length : Int)) = true := decide_eq_true c23
                    clear c23
                    by_cases c24 : ((t203 == t213) == (a2 == (rd l0 a1))) = true
                    · rw [if_pos c24] at H
                      have c24b0 : ((t203 == t213) == (a2 == (rd l0 a1))) = true := c24
                      (try (have c24b1 : decide ((t203 == t213) = (a2 == (rd l0 a1))) = true := by simpa using c24))
                      (try (have c24b2 : ((t203 == t213) == (a2 == (rd l0 a1))) = true := by simpa using c24))
                      clear c24
                      by_cases c25 : t203 ≥ 0
                      · rw [if_pos c25] at H
                        have c25b0 : decide (0 ≤ t203) = true := decide_eq_true c25
                        clear c25
                        obtain rfl := Option.some.inj H
                        go_wp2_with (first | ((with_reducible refine gate_dst (N := 43) rfl ?_); (try (refine gate_guard (by rfl) ?_; dsimp only)); refine Kd.R_lit (Kd.int .i64) _ 3 ?hg (N := 43) ?hd (xs := ([] : List Int)) (inner := []) (ok := fun _ => True) (okp := fun _ => True) ?hr ?hp (fun _ hk => hk) trivial (Below.refl _ _) (Nat.le_refl _) (by simp) ?_; (case hd => rfl); (case hg => rfl); (case hr => first | (go_simp; done) | (go_simp; rfl)); (case hp => exact (Reps.none _ _)); intro v207 w26 ho27 hb hg_ hnew_; clear hg_ hnew_; (first | rw [← Ny206.out] at ho27 | (simp only [Int.reduceToNat] at ho27; rw [← Ny206.out] at ho27)); have n0_ := Aside0.mk (Kd.R_lower ho27 (below_size (by repeat (first | (with_reducible first | exact HB.out | apply below_alloc | apply pw_below_drewN | apply below_drew1) | exact HB.out)))); have n1_ := Aside0.mk (below_step (by repeat (first | (with_reducible first | exact HB.out | apply below_alloc | apply pw_below_drewN | apply below_drew1) | exact HB.out)) hb); clear HB; have HO208 := n0_; have HB := n1_; clear n0_ n1_; clear hb ho27) | ((with_reducible refine gate_builtin (b := .append) (xs := #[.tmp 44, .tmp 45]) rfl ?_); (try (refine gate_guard (by rfl) ?_; dsimp only)); at_builtin; refine Kd.R_append_rows (Kd.int .i64) (w0 := w) w.heap.size rfl (.tmp 44) (.tmp 45) 35 3 (.int .i64 0) 8 rfl Try.underlying35 info3 rfl (by decide) (by omega) v207 y206 l0 _ _ _ (fun _ => True) (fun _ => False) rfl rfl ?aO ?aR (fun _ _ h => h) (fun _ h => h.elim) ?aF ?aB ?aS ?aL ?_; (case aR => repeat (first | exact (Kd.C_below HR0.out HB.out) | (with_reducible refine Kd.C_alloc ?_ _) | (with_reducible refine Kd.C_drewN ?_ _) | (with_reducible refine Kd.C_drew ?_))); (case aB => exact (by repeat (first | (with_reducible first | exact HB.out | apply below_alloc | apply pw_below_drewN | apply below_drew1) | exact HB.out))); (case aF => exact (fun _ _ => trivial)); (case aO => exact (by (with_reducible repeat (first | apply Kd.R_alloc | apply Kd.R_drewN | apply Kd.R_drew)); exact HO208.out)); (case aS => exact (below_size (by repeat (first | (with_reducible first | exact HB.out | apply below_alloc | apply pw_below_drewN | apply below_drew1) | exact HB.out)))); (case aL => have := LMc15.out; omega); intro v210 w28 ho hb hg hat; rw [← Ny209.out] at ho; have n0_ := Aside0.mk (hb); have n1_ := Aside0.mk (ho); clear HB; clear HO208; have HB := n0_; have HO211 := n1_; clear n0_ n1_; clear ho hb hg hat; have p18 : 0 ≤ (a1 : Int) := of_decide_eq_true (by first | (with_reducible assumption) | assumption); have q18 : (a1 : Int) < ((y209.length : Int) : Int) := of_decide_eq_true (by first | (with_reducible assumption) | assumption); obtain ⟨go18, co18, eo18, gb18, gl18, cl18, HG18⟩ := Kd.R_form HO211.out (by omega); (first | cases eo18 | (injection eo18 with ea_ en_ ec_; (first | subst ea_ | (injection ea_ with ea_; subst ea_)); subst ec_; clear en_)); have GB18 := Aside0.mk gb18; have GG18 := Aside0.mk HG18; clear gb18 gl18 HG18; obtain ⟨hx18_0, hf18_0⟩ := Kd.R_celln 0 HO211.out (a1 : Int) p18 q18; replace p18 := eq_true p18; replace q18 := eq_true q18; obtain ⟨hy29_, hz29_⟩ := Kd.R_celln 0 HO211.out (a1 : Int) (of_decide_eq_true (by first | (with_reducible assumption) | assumption)) (of_decide_eq_true (by first | (with_reducible assumption) | assumption)); have HP29 := Kd.R_putg HO211.out (a1 : Int) a2) | ((with_reducible refine gate_store (t := 3) (p := 50) rfl ?_); refine store_event (t := 3) (p := 50) (v := ?vo_w30) (w1 := (w28.setCell ⟨go18, (a1 : Int).toNat, none⟩ (.int .i64 a2))) ?hg ?ho ?hn ?hr ?_; (case ho => rfl); (case hg => rfl); (case hn => rfl); (case hr => first | (go_simp; done) | (go_simp; rfl)); intro w30 hw; have hg : w28.grownBy w30 (some go18) := (by rw [hw]; exact HP29.2); have hp_ : Kd.R (Kd.int .i64) 3 w30 w.heap.size (fun _ => True) (.slice (some ⟨go18, 0, none⟩) y209.length co18) y212 := (by rw [hw, Ny212.out]; exact HP29.1); clear HP29; have n0_ := Aside0.mk (hp_); have n1_ := Aside0.mk ((by rw [hw]; exact below_set (HB.out) GB18.out : Below w.heap.size w w30)); clear HO211; clear HB; have HO211 := n0_; have HB := n1_; clear n0_ n1_; clear hg hw hp_) | ((with_reducible refine gate_callee (f := 28) rfl ?_); refine goesL_ (some 53) rfl rfl Try.func28 (by kernel_rfl) rfl #[.slice (some ⟨go18, 0, none⟩) y212.length co18] rfl (by (try simp only [List.map_toArray, List.map_cons, List.map_nil]); first | done | (rw [show y212.length = y209.length from (Kd.R_reads' HO211.out).1.symm] <;> rfl) | rfl | (simp only [List.length_drop, List.length_take]; rfl)) ?_; (with_reducible refine (parity_Sum.calls _ _ y212 t213 t214 _ ?side1 ?side2 A19.out).mono ?_); (case side1 => repeat (first | exact (Kd.R_reads' HO211.out).2.2 | (with_reducible refine Kd.C_alloc ?_ _) | (with_reducible refine Kd.C_drewN ?_ _) | (with_reducible refine Kd.C_drew ?_))); (case side2 => rw [show y212.length = y209.length from (Kd.R_reads' HO211.out).1.symm]; exact (Kd.R_reads' HO211.out).2.1); rintro e w31 ⟨rfl, hb⟩; refine ⟨_, rfl, ?_⟩; have n0_ := Aside0.mk (Kd.R_below (by (with_reducible repeat (first | apply Kd.R_alloc | apply Kd.R_drewN | apply Kd.R_drew)); exact HO211.out) hb); have n1_ := Aside0.mk (below_step (by repeat (first | (with_reducible first | exact HB.out | apply below_alloc | apply pw_below_drewN | apply below_drew1) | exact HB.out)) hb); clear HO211; clear HB; have HO211 := n0_; have HB := n1_; clear n0_ n1_; (try clear hb); (try clear hb2); (try clear hk); (try clear hi)) | ((with_reducible refine gate_callee (f := 27) rfl ?_); refine goesL_ (some 56) rfl rfl Try.func27 (by kernel_rfl) rfl #[] rfl (by (try simp only [List.map_toArray, List.map_cons, List.map_nil]); first | done | rfl | (simp only [List.length_drop, List.length_take]; rfl)) ?_; (with_reducible refine (gatelinelaw10_odd.calls  true _ A20.out).mono ?_); rintro e w32 ⟨rfl, hb⟩; refine ⟨_, rfl, ?_⟩; have n0_ := Aside0.mk (Kd.R_below (by (with_reducible repeat (first | apply Kd.R_alloc | apply Kd.R_drewN | apply Kd.R_drew)); exact HO211.out) hb); have n1_ := Aside0.mk (below_step (by repeat (first | (with_reducible first | exact HB.out | apply below_alloc | apply pw_below_drewN | apply below_drew1) | exact HB.out)) hb); clear HO211; clear HB; have HO211 := n0_; have HB := n1_; clear n0_ n1_; (try clear hb); (try clear hb2); (try clear hk); (try clear hi); have p216 : 0 ≤ (a1 : Int) := of_decide_eq_true (by first | (with_reducible assumption) | assumption); have q216 : a1 < (l0.length : Int) := of_decide_eq_true (by first | (with_reducible assumption) | assumption); obtain ⟨ad216, e216, hx216_0⟩ := Kd.at_int HR0.out a1 p216 q216; cases e216; replace hx216_0 := (HB.out.cell (World.block_lt_of_cell? w _ hx216_0)).trans hx216_0; replace p216 := eq_true p216; replace q216 := eq_true q216))
                        go_ret
                        exact ⟨by first | rfl | (simp [errW_none, errW_some] <;> rfl) | (simp [*, errW_none, errW_some] <;> rfl), by repeat (first | (with_reducible first | exact HB.out | apply below_alloc | apply pw_below_drewN | apply below_drew1) | exact HB.out)⟩
                      · rw [if_neg c25] at H
                        exact absurd H (by simp)
                    · rw [if_neg c24] at H
                      exact absurd H (by simp)
                  · rw [if_neg c23] at H
                    exact absurd H (by simp)
                · rw [if_neg c22] at H
                  exact absurd H (by simp)
              · replace c21 := Bool.eq_false_iff.mpr c21
                subst c21
                have H1 : (none) = some r := by rw [if_neg (show ¬ (false = true) by decide)] at H; exact H
                clear H
                have H := H1
                clear H1
                exact absurd H (by simp)
            · rw [if_neg c17] at H
              exact absurd H (by simp)
          · rw [if_neg c16] at H
            exact absurd H (by simp)
        · rw [if_neg c15] at H
          exact absurd H (by simp)

/-- THE ONE PURE STATEMENT of gatelinelaw10_ParityTells: yours. -/
def gatelinelaw10_ParityTells.Pure : Prop := ∀ (l0 : List Int) (a1 : Int) (a2 : Int), l0.length ≤ maxLen → l0.length * 8 ≤ 140737488351232 → (∀ x ∈ l0, (Lit.int .i64 x).wf = true) → (Lit.int .i64 a1).wf = true → (Lit.int .i64 a2).wf = true → ∃ k, gatelinelaw10_ParityTells.f k l0 a1 a2 = some true
theorem gatelinelaw10_ParityTells.walk (P : gatelinelaw10_ParityTells.Pure) (a0 : Option Addr) (len0 cap0 : Nat) (z0 : List Int) (a1 : Int) (a2 : Int) (w : World) (w0 : (a0 = none ∧ len0 = 0 ∧ cap0 = 0 ∧ z0 = []) ∨ ∃ x, a0 = some x ∧ len0 ≤ cap0 ∧ cap0 ≤ maxLen ∧ z0.length = cap0 ∧ (∀ i, i < z0.length → w.cell? (x.add i) = some (.int .i64 (z0.getD i 0))) ∧ ∀ n ∈ z0, (Lit.int .i64 n).wf = true) (y0 : len0 * 8 ≤ 140737488351232) (w1 : (Lit.int .i64 a1).wf = true) (w2 : (Lit.int .i64 a2).wf = true) :
    Calls Try.prog 9 #[.slice a0 len0 cap0, .int .i64 a1, .int .i64 a2] w fun e w' => e = .returned (.bool true) ∧ Below w.heap.size w w' := by
  obtain ⟨l0, rfl, hr0, hm0, hw0, hc0⟩ := ReadsInt.ofRowC w0
  obtain ⟨k, h⟩ := P l0 a1 a2 hm0 y0 hw0 w1 w2
  refine (gatelinelaw10_ParityTells.calls k _ _ l0 a1 a2 true w (Kd.C_of_reads (d := (0 : Int)) (h1 := fun _ => rfl) hr0) hc0 h).mono ?_
  rintro e w' ⟨rfl, hd⟩
  exact ⟨rfl, hd⟩

end Go.Proofs.Ytfmpeojlaibblaa.S
