/- Written for this claim by a program of this session (handprint.py, over the kit's print). Lean checks it. -/
import Derived.Test.YtajlohhphjlgbaaS0
import Derived.Test.YtajlohhphjlgbaaSF14
import Derived.Test.YtajlohhphjlgbaaSF16
import Derived.Test.YtajlohhphjlgbaaSF13
namespace Go.Proofs.Ytajlohhphjlgbaa.S
open Go.RowKit Go.Proofs.YtajlohhphjlgbaaW.PrintWords Go.Proofs.YtajlohhphjlgbaaW.PrintLast Go.Proofs.YtajlohhphjlgbaaW.PrintMore
attribute [local go_sem] max2_int min2_int max_two min_two max_three min_three max_four min_four   -- for this text's walks alone
set_option linter.unusedVariables false
set_option linter.unusedSimpArgs false

/-! ### gatelinelaw04_SealTells: function 6 -/
mutual
def gatelinelaw04_SealTells.j0 : Nat → Int → Int → List Int → List Int → Bool → Option (Bool)
  | 0, _, _, _, _, _ => none
  | k + 1, x0, x1, x5, x7, x26 => if x26 = true then ((gatelinelaw04_sealed.f k).bind fun t189 => (some t189)) else (if (x5.length : Int) = 10 then (gatelinelaw04_SealTells.j1 k x0 x1 x5 x7 ((x7.length : Int) != 10)) else (gatelinelaw04_SealTells.j1 k x0 x1 x5 x7 true))
def gatelinelaw04_SealTells.j1 : Nat → Int → Int → List Int → List Int → Bool → Option (Bool)
  | 0, _, _, _, _, _ => none
  | k + 1, x0, x1, x5, x7, x35 => if x35 = true then (none) else (gatelinelaw04_SealTells.l0 k x0 x1 x5 x7 0 0)
def gatelinelaw04_SealTells.l0 : Nat → Int → Int → List Int → List Int → Int → Int → Option (Bool)
  | 0, _, _, _, _, _, _ => none
  | k + 1, x0, x1, x5, x7, x9, x10 => if x10 < 10 then (if 0 ≤ x10 then (if x10 < (x5.length : Int) then (if (rd x5 x10) > 9 then (none) else (gatelinelaw04_SealTells.l0 k x0 x1 x5 x7 (wrap64 ((wrap64 (10 * x9)) + (wrap64 (rd x5 x10)))) (wrap64 (x10 + 1)))) else (none)) else (none)) else ((gatelinelaw04_sealed.f k).bind fun t192 => (if t192 = true then (if x9 = x0 then ((seal_Same.f x5 x7).bind fun t193 => (some (t193 == (x0 == x1)))) else (none)) else (none)))
end
def gatelinelaw04_SealTells.f (k : Nat) (a0 : Int) (a1 : Int) : Option (Bool) := (seal_Digits.f k a0).bind fun bt181 => ((seal_Digits.f k a1).bind fun bt185 => (if bt181.2 = 0 then (gatelinelaw04_SealTells.j0 k a0 a1 bt181.1 bt185.1 (bt185.2 != 0)) else (gatelinelaw04_SealTells.j0 k a0 a1 bt181.1 bt185.1 true)))
theorem gatelinelaw04_SealTells.mono_l : ∀ k, (∀ y0 y1 y2 y3 y4, LeO (gatelinelaw04_SealTells.j0 k y0 y1 y2 y3 y4) (gatelinelaw04_SealTells.j0 (k + 1) y0 y1 y2 y3 y4)) ∧ (∀ y0 y1 y2 y3 y4, LeO (gatelinelaw04_SealTells.j1 k y0 y1 y2 y3 y4) (gatelinelaw04_SealTells.j1 (k + 1) y0 y1 y2 y3 y4)) ∧ (∀ y0 y1 y2 y3 y4 y5, LeO (gatelinelaw04_SealTells.l0 k y0 y1 y2 y3 y4 y5) (gatelinelaw04_SealTells.l0 (k + 1) y0 y1 y2 y3 y4 y5))
  | 0 => ⟨fun _ _ _ _ _ r h => by simp [gatelinelaw04_SealTells.j0] at h, fun _ _ _ _ _ r h => by simp [gatelinelaw04_SealTells.j1] at h, fun _ _ _ _ _ _ r h => by simp [gatelinelaw04_SealTells.l0] at h⟩
  | k + 1 => by
    obtain ⟨ih0, ih1, ih2⟩ := gatelinelaw04_SealTells.mono_l k
    refine ⟨?_, ?_, ?_⟩
    · intro y0 y1 y2 y3 y4
      unfold gatelinelaw04_SealTells.j0
      repeat' first
      | (with_reducible exact ih0 _ _ _ _ _)
      | (with_reducible exact ih1 _ _ _ _ _)
      | (with_reducible exact ih2 _ _ _ _ _ _)
      | (with_reducible exact gatelinelaw04_sealed.mono _)
      | (with_reducible exact seal_Digits.mono _ _)
      | (with_reducible exact LeO.refl _)
      | (with_reducible exact LeO.none _)
      | (with_reducible refine LeO.ite ?_ ?_)
      | (with_reducible refine LeO.bind ?_ (fun _ => ?_))
      | exact ih0 _ _ _ _ _
      | exact ih1 _ _ _ _ _
      | exact ih2 _ _ _ _ _ _
      | exact gatelinelaw04_sealed.mono _
      | exact seal_Digits.mono _ _
      | exact LeO.none _
      | refine LeO.ite ?_ ?_
      | refine LeO.bind ?_ (fun _ => ?_)
    · intro y0 y1 y2 y3 y4
      unfold gatelinelaw04_SealTells.j1
      repeat' first
      | (with_reducible exact ih0 _ _ _ _ _)
      | (with_reducible exact ih1 _ _ _ _ _)
      | (with_reducible exact ih2 _ _ _ _ _ _)
      | (with_reducible exact gatelinelaw04_sealed.mono _)
      | (with_reducible exact seal_Digits.mono _ _)
      | (with_reducible exact LeO.refl _)
      | (with_reducible exact LeO.none _)
      | (with_reducible refine LeO.ite ?_ ?_)
      | (with_reducible refine LeO.bind ?_ (fun _ => ?_))
      | exact ih0 _ _ _ _ _
      | exact ih1 _ _ _ _ _
      | exact ih2 _ _ _ _ _ _
      | exact gatelinelaw04_sealed.mono _
      | exact seal_Digits.mono _ _
      | exact LeO.none _
      | refine LeO.ite ?_ ?_
      | refine LeO.bind ?_ (fun _ => ?_)
    · intro y0 y1 y2 y3 y4 y5
      unfold gatelinelaw04_SealTells.l0
      repeat' first
      | (with_reducible exact ih0 _ _ _ _ _)
      | (with_reducible exact ih1 _ _ _ _ _)
      | (with_reducible exact ih2 _ _ _ _ _ _)
      | (with_reducible exact gatelinelaw04_sealed.mono _)
      | (with_reducible exact seal_Digits.mono _ _)
      | (with_reducible exact LeO.refl _)
      | (with_reducible exact LeO.none _)
      | (with_reducible refine LeO.ite ?_ ?_)
      | (with_reducible refine LeO.bind ?_ (fun _ => ?_))
      | exact ih0 _ _ _ _ _
      | exact ih1 _ _ _ _ _
      | exact ih2 _ _ _ _ _ _
      | exact gatelinelaw04_sealed.mono _
      | exact seal_Digits.mono _ _
      | exact LeO.none _
      | refine LeO.ite ?_ ?_
      | refine LeO.bind ?_ (fun _ => ?_)
theorem gatelinelaw04_SealTells.mono : ∀ a0 a1 k, LeO (gatelinelaw04_SealTells.f k a0 a1) (gatelinelaw04_SealTells.f (k + 1) a0 a1) := by
  intro a0 a1 k
  obtain ⟨ih0, ih1, ih2⟩ := gatelinelaw04_SealTells.mono_l k
  unfold gatelinelaw04_SealTells.f
  repeat' first
      | (with_reducible exact ih0 _ _ _ _ _)
      | (with_reducible exact ih1 _ _ _ _ _)
      | (with_reducible exact ih2 _ _ _ _ _ _)
      | (with_reducible exact gatelinelaw04_sealed.mono _)
      | (with_reducible exact seal_Digits.mono _ _)
      | (with_reducible exact LeO.refl _)
      | (with_reducible exact LeO.none _)
      | (with_reducible refine LeO.ite ?_ ?_)
      | (with_reducible refine LeO.bind ?_ (fun _ => ?_))
      | exact ih0 _ _ _ _ _
      | exact ih1 _ _ _ _ _
      | exact ih2 _ _ _ _ _ _
      | exact gatelinelaw04_sealed.mono _
      | exact seal_Digits.mono _ _
      | exact LeO.none _
      | refine LeO.ite ?_ ?_
      | refine LeO.bind ?_ (fun _ => ?_)
set_option maxHeartbeats 8000000 in
set_option maxRecDepth 100000 in
theorem gatelinelaw04_SealTells.calls (k : Nat) (a0 : Int) (a1 : Int) (r : Bool) (w : World) (h : gatelinelaw04_SealTells.f k a0 a1 = some r) :
    Calls Try.prog 6 #[.int .i64 a0, .int .i64 a1] w fun e w' => e = .returned (.bool r) ∧ Below w.heap.size w w' := by
  have HB := Aside0.mk (Below.refl w.heap.size w)
  have H : ((seal_Digits.f k a0).bind fun bt181 => ((seal_Digits.f k a1).bind fun bt185 => (if bt181.2 = 0 then (gatelinelaw04_SealTells.j0 k a0 a1 bt181.1 bt185.1 (bt185.2 != 0)) else (gatelinelaw04_SealTells.j0 k a0 a1 bt181.1 bt185.1 true)))) = some r := h
  clear h
  replace H := Option.bind_eq_some_iff.mp H
  obtain ⟨⟨t181, t182⟩, A30, H⟩ := H
  replace H : ((seal_Digits.f k a1).bind fun bt185 => (if t182 = 0 then (gatelinelaw04_SealTells.j0 k a0 a1 t181 bt185.1 (bt185.2 != 0)) else (gatelinelaw04_SealTells.j0 k a0 a1 t181 bt185.1 true))) = some r := H
  have A3 := Aside0.mk A30
  clear A30
  replace H := Option.bind_eq_some_iff.mp H
  obtain ⟨⟨t185, t186⟩, A40, H⟩ := H
  replace H : (if t182 = 0 then (gatelinelaw04_SealTells.j0 k a0 a1 t181 t185 (t186 != 0)) else (gatelinelaw04_SealTells.j0 k a0 a1 t181 t185 true)) = some r := H
  have A4 := Aside0.mk A40
  clear A40
  have HC5 := Aside0.mk H
  clear H
  go_enter Try.func6, Try.ntmps6
  go_upto_region 3 with (first | ((with_reducible refine gate_callee (f := 16) rfl ?_); refine goesL_ (some 13) rfl rfl Try.func16 (by kernel_rfl) rfl #[.int .i64 a0] rfl (by (try simp only [List.map_toArray, List.map_cons, List.map_nil]); first | done | rfl | (simp only [List.length_drop, List.length_take]; rfl)) ?_; (with_reducible refine (seal_Digits.calls k a0 t181 t182 _ A3.out).mono ?_); rintro e w6 ⟨v183, rfl, ho0, hb⟩; refine ⟨_, rfl, ?_⟩; have n0_ := Aside0.mk (Kd.R_lower ho0 (below_size (by repeat (first | (with_reducible first | exact HB.out | apply below_alloc | apply pw_below_drewN | apply below_drew1) | exact HB.out)))); have n1_ := Aside0.mk (below_step (by repeat (first | (with_reducible first | exact HB.out | apply below_alloc | apply pw_below_drewN | apply below_drew1) | exact HB.out)) hb); clear HB; have HO184 := n0_; have HB := n1_; clear n0_ n1_; (try clear hb); (try clear hb2); (try clear hk); (try clear hi); (try clear ho0)) | ((with_reducible refine gate_callee (f := 16) rfl ?_); refine goesL_ (some 18) rfl rfl Try.func16 (by kernel_rfl) rfl #[.int .i64 a1] rfl (by (try simp only [List.map_toArray, List.map_cons, List.map_nil]); first | done | rfl | (simp only [List.length_drop, List.length_take]; rfl)) ?_; (with_reducible refine (seal_Digits.calls k a1 t185 t186 _ A4.out).mono ?_); rintro e w7 ⟨v187, rfl, ho0, hb⟩; refine ⟨_, rfl, ?_⟩; have n0_ := Aside0.mk (Kd.R_elder' (by (with_reducible repeat (first | apply Kd.R_alloc | apply Kd.R_drewN | apply Kd.R_drew)); exact HO184.out) (Kd.R_base ho0) hb); have n1_ := Aside0.mk (Kd.R_lower (Kd.R_new' ho0 (Kd.R_lt (by (with_reducible repeat (first | apply Kd.R_alloc | apply Kd.R_drewN | apply Kd.R_drew)); exact HO184.out))) (below_size (by repeat (first | (with_reducible first | exact HB.out | apply below_alloc | apply pw_below_drewN | apply below_drew1) | exact HB.out)))); have n2_ := Aside0.mk (below_step (by repeat (first | (with_reducible first | exact HB.out | apply below_alloc | apply pw_below_drewN | apply below_drew1) | exact HB.out)) hb); clear HO184; clear HB; have HO184 := n0_; have HO188 := n1_; have HB := n2_; clear n0_ n1_ n2_; (try clear hb); (try clear hb2); (try clear hk); (try clear hi); (try clear ho0)))
  (try simp only [Act.put, List.setIfInBounds_toArray, List.set_cons_zero, List.set_cons_succ])
  go_cut [26] (fun v26 wc => ∃ (kq : Nat) (x26_4 : Bool), v26 = .bool x26_4 ∧ Aside0 (gatelinelaw04_SealTells.j0 kq a0 a1 t181 t185 x26_4 = some r) ∧ Aside0 (kq ≤ k) ∧ Aside0 (Kd.R (Kd.int .u8) 5 wc w.heap.size (fun k_ => some k_ ≠ (v187 : Value).ownBlock) v183 t181) ∧ Aside0 (Kd.R (Kd.int .u8) 5 wc w.heap.size (fun k_ => some k_ ≠ (v183 : Value).ownBlock) v187 t185) ∧ Aside0 (Below w.heap.size w wc))
  case first =>
    have H := HC5.out
    clear HC5
    by_cases c8 : t182 = 0
    · rw [if_pos c8] at H
      have c8b0 : (t182 == 0) = true := beq_iff_eq.mpr c8
      have c8b1 : (t182 != 0) = false := bne_eq_false_iff_eq.mpr c8
      clear c8
      (first | rw [c8b0] | (simp only [i64_w, i32_w]; rw [c8b0]) | skip)
      have H' := Aside0.mk H
      clear H
      go_wp2
      go_meet
      case rel => exact ⟨_, ((t186 != 0)), (by first | rfl | (simp; done) | (simp [*]; done)), H', ⟨by first | omega | exact Nat.le_refl _⟩, ⟨by (with_reducible repeat (first | apply Kd.R_alloc | apply Kd.R_drewN | apply Kd.R_drew)); exact Kd.R_mono HO184.out (fun _ hk => hk.2)⟩, ⟨by (with_reducible repeat (first | apply Kd.R_alloc | apply Kd.R_drewN | apply Kd.R_drew)); exact Kd.R_mono HO188.out (fun _ hk => hk.2)⟩, ⟨by repeat (first | (with_reducible first | exact HB.out | apply below_alloc | apply pw_below_drewN | apply below_drew1) | exact HB.out)⟩⟩
    · rw [if_neg c8] at H
      have c8b0 : (t182 == 0) = false := beq_eq_false_iff_ne.mpr c8
      have c8b1 : (t182 != 0) = true := bne_iff_ne.mpr c8
      (first | rw [c8b0] | (simp only [i64_w, i32_w]; rw [c8b0]) | skip)
      have H' := Aside0.mk H
      clear H
      go_wp2
      go_meet
      case rel => exact ⟨_, (true), (by first | rfl | (simp; done) | (simp [*]; done)), H', ⟨by first | omega | exact Nat.le_refl _⟩, ⟨by (with_reducible repeat (first | apply Kd.R_alloc | apply Kd.R_drewN | apply Kd.R_drew)); exact Kd.R_mono HO184.out (fun _ hk => hk.2)⟩, ⟨by (with_reducible repeat (first | apply Kd.R_alloc | apply Kd.R_drewN | apply Kd.R_drew)); exact Kd.R_mono HO188.out (fun _ hk => hk.2)⟩, ⟨by repeat (first | (with_reducible first | exact HB.out | apply below_alloc | apply pw_below_drewN | apply below_drew1) | exact HB.out)⟩⟩
  case rest =>
    clear HC5
    try clear c1
    try clear p2
    try clear c6
    try clear c8
    try clear c8b0
    try clear c8b1
    obtain ⟨kq, x26_4, rfl, HA, HJ4, HO_5, HO_7, HB⟩ := hcut
    cases kq with
    | zero => exact absurd HA.out (by simp [gatelinelaw04_SealTells.j0])
    | succ kj4 =>
      have H := HA.out
      clear HA
      simp only [gatelinelaw04_SealTells.j0] at H
      by_cases c9 : x26_4 = true
      · subst c9
        have H1 : ((gatelinelaw04_sealed.f kj4).bind fun t189 => (some t189)) = some r := by rw [if_pos rfl] at H; exact H
        clear H
        have H := H1
        clear H1
        replace H := Option.bind_eq_some_iff.mp H
        obtain ⟨t189, A100, H⟩ := H
        replace H : (some t189) = some r := H
        have A10 := Aside0.mk A100
        clear A100
        obtain rfl := Option.some.inj H
        go_wp2_with (first | ((with_reducible refine gate_callee (f := 13) rfl ?_); refine goesL_ (some 27) rfl rfl Try.func13 (by kernel_rfl) rfl #[] rfl (by (try simp only [List.map_toArray, List.map_cons, List.map_nil]); first | done | rfl | (simp only [List.length_drop, List.length_take]; rfl)) ?_; (with_reducible refine (gatelinelaw04_sealed.calls kj4  t189 _ A10.out).mono ?_); rintro e w11 ⟨rfl, hb⟩; refine ⟨_, rfl, ?_⟩; have n0_ := Aside0.mk (Kd.R_below (by (with_reducible repeat (first | apply Kd.R_alloc | apply Kd.R_drewN | apply Kd.R_drew)); exact HO_5.out) hb); have n1_ := Aside0.mk (Kd.R_below (by (with_reducible repeat (first | apply Kd.R_alloc | apply Kd.R_drewN | apply Kd.R_drew)); exact HO_7.out) hb); have n2_ := Aside0.mk (below_step (by repeat (first | (with_reducible first | exact HB.out | apply below_alloc | apply pw_below_drewN | apply below_drew1) | exact HB.out)) hb); clear HO_5; clear HO_7; clear HB; have HO_5 := n0_; have HO_7 := n1_; have HB := n2_; clear n0_ n1_ n2_; (try clear hb); (try clear hb2); (try clear hk); (try clear hi)))
        go_ret
        exact ⟨by first | rfl | (simp [errW_none, errW_some] <;> rfl) | (simp [*, errW_none, errW_some] <;> rfl), by repeat (first | (with_reducible first | exact HB.out | apply below_alloc | apply pw_below_drewN | apply below_drew1) | exact HB.out)⟩
      · replace c9 := Bool.eq_false_iff.mpr c9
        subst c9
        have H1 : (if (t181.length : Int) = 10 then (gatelinelaw04_SealTells.j1 kj4 a0 a1 t181 t185 ((t185.length : Int) != 10)) else (gatelinelaw04_SealTells.j1 kj4 a0 a1 t181 t185 true)) = some r := by rw [if_neg (show ¬ (false = true) by decide)] at H; exact H
        clear H
        have H := H1
        clear H1
        have HC12 := Aside0.mk H
        clear H
        go_upto_region 5 with (fail)
        go_cut [35] (fun v35 wc => ∃ (kq : Nat) (x35_11 : Bool), v35 = .bool x35_11 ∧ Aside0 (gatelinelaw04_SealTells.j1 kq a0 a1 t181 t185 x35_11 = some r) ∧ Aside0 (kq ≤ kj4) ∧ Aside0 (Kd.R (Kd.int .u8) 5 wc w.heap.size (fun k_ => some k_ ≠ (v187 : Value).ownBlock) v183 t181) ∧ Aside0 (Kd.R (Kd.int .u8) 5 wc w.heap.size (fun k_ => some k_ ≠ (v183 : Value).ownBlock) v187 t185) ∧ Aside0 (Below w.heap.size w wc))
        case first =>
          have H := HC12.out
          clear HC12
          by_cases c13 : (t181.length : Int) = 10
          · rw [if_pos c13] at H
            have c13b0 : ((t181.length : Int) == 10) = true := beq_iff_eq.mpr c13
            have c13b1 : ((t181.length : Int) != 10) = false := bne_eq_false_iff_eq.mpr c13
            clear c13
            (first | rw [c13b0] | (simp only [i64_w, i32_w]; rw [c13b0]) | skip)
            have H' := Aside0.mk H
            clear H
            obtain ⟨Ao14, co14, eo14⟩ := Kd.R_slice HO_5.out
            subst eo14
            obtain ⟨Ao15, co15, eo15⟩ := Kd.R_slice HO_7.out
            subst eo15
            go_wp2
            go_meet
            case rel => exact ⟨_, (((t185.length : Int) != 10)), (by first | rfl | (simp; done) | (simp [*]; done)), H', ⟨by have := HJ4.out; first | omega | exact Nat.le_refl _⟩, ⟨by (with_reducible repeat (first | apply Kd.R_alloc | apply Kd.R_drewN | apply Kd.R_drew)); exact HO_5.out⟩, ⟨by (with_reducible repeat (first | apply Kd.R_alloc | apply Kd.R_drewN | apply Kd.R_drew)); exact HO_7.out⟩, ⟨by repeat (first | (with_reducible first | exact HB.out | apply below_alloc | apply pw_below_drewN | apply below_drew1) | exact HB.out)⟩⟩
          · rw [if_neg c13] at H
            have c13b0 : ((t181.length : Int) == 10) = false := beq_eq_false_iff_ne.mpr c13
            have c13b1 : ((t181.length : Int) != 10) = true := bne_iff_ne.mpr c13
            (first | rw [c13b0] | (simp only [i64_w, i32_w]; rw [c13b0]) | skip)
            have H' := Aside0.mk H
            clear H
            obtain ⟨Ao16, co16, eo16⟩ := Kd.R_slice HO_5.out
            subst eo16
            go_wp2
            go_meet
            case rel => exact ⟨_, (true), (by first | rfl | (simp; done) | (simp [*]; done)), H', ⟨by have := HJ4.out; first | omega | exact Nat.le_refl _⟩, ⟨by (with_reducible repeat (first | apply Kd.R_alloc | apply Kd.R_drewN | apply Kd.R_drew)); exact HO_5.out⟩, ⟨by (with_reducible repeat (first | apply Kd.R_alloc | apply Kd.R_drewN | apply Kd.R_drew)); exact HO_7.out⟩, ⟨by repeat (first | (with_reducible first | exact HB.out | apply below_alloc | apply pw_below_drewN | apply below_drew1) | exact HB.out)⟩⟩
        case rest =>
          clear HC12
          try clear c1
          try clear p2
          try clear c6
          try clear c8
          try clear c8b0
          try clear c8b1
          try clear c9
          try clear c13
          try clear c13b0
          try clear c13b1
          try clear c16
          try clear p2
          obtain ⟨kq, x35_11, rfl, HA, HJ11, HO_5, HO_7, HB⟩ := hcut
          cases kq with
          | zero => exact absurd HA.out (by simp [gatelinelaw04_SealTells.j1])
          | succ kj11 =>
            have H := HA.out
            clear HA
            simp only [gatelinelaw04_SealTells.j1] at H
            by_cases c17 : x35_11 = true
            · subst c17
              have H1 : (none) = some r := by rw [if_pos rfl] at H; exact H
              clear H
              have H := H1
              clear H1
              exact absurd H (by simp)
            · replace c17 := Bool.eq_false_iff.mpr c17
              subst c17
              have H1 : (gatelinelaw04_SealTells.l0 kj11 a0 a1 t181 t185 0 0) = some r := by rw [if_neg (show ¬ (false = true) by decide)] at H; exact H
              clear H
              have H := H1
              clear H1
              have H' := Aside0.mk H
              clear H
              go_wp2
              go_loopg [9, 10] kj11 (fun kq v9 v10 w' => ∃ (x9_3 : Int) (x10_3 : Int), v9 = .int .i64 x9_3 ∧ v10 = .int .i64 x10_3 ∧ Aside0 (gatelinelaw04_SealTells.l0 kq a0 a1 t181 t185 x9_3 x10_3 = some r) ∧ Aside0 (kq ≤ kj11) ∧ Aside0 (Kd.R (Kd.int .u8) 5 w' w.heap.size (fun k_ => some k_ ≠ (v187 : Value).ownBlock) v183 t181) ∧ Aside0 (Kd.R (Kd.int .u8) 5 w' w.heap.size (fun k_ => some k_ ≠ (v183 : Value).ownBlock) v187 t185) ∧ Aside0 (Below w.heap.size w w'))
              case atStart => exact ⟨(0), (0), (by first | rfl | (simp; done) | (simp [*]; done)), (by first | rfl | (simp; done) | (simp [*]; done)), H', ⟨Nat.le_refl _⟩, ⟨by (with_reducible repeat (first | apply Kd.R_alloc | apply Kd.R_drewN | apply Kd.R_drew)); exact HO_5.out⟩, ⟨by (with_reducible repeat (first | apply Kd.R_alloc | apply Kd.R_drewN | apply Kd.R_drew)); exact HO_7.out⟩, ⟨by repeat (first | (with_reducible first | exact HB.out | apply below_alloc | apply pw_below_drewN | apply below_drew1) | exact HB.out)⟩⟩
              case round =>
                clear H'
                try clear c1
                try clear p2
                try clear c6
                try clear c8
                try clear c8b0
                try clear c8b1
                try clear c9
                try clear c13
                try clear c13b0
                try clear c13b1
                try clear c16
                try clear c17
                try clear p2
                obtain ⟨x9_3, x10_3, rfl, rfl, HA, HK3, HO_5, HO_7, HB⟩ := hrel
                cases gk with
                | zero => exact absurd HA.out (by simp [gatelinelaw04_SealTells.l0])
                | succ k3 =>
                  have H := HA.out
                  clear HA
                  simp only [gatelinelaw04_SealTells.l0] at H
                  by_cases c18 : x10_3 < 10
                  · rw [if_pos c18] at H
                    have c18b0 : decide (x10_3 < 10) = true := decide_eq_true c18
                    clear c18
                    by_cases c19 : 0 ≤ x10_3
                    · rw [if_pos c19] at H
                      have c19b0 : decide (0 ≤ x10_3) = true := decide_eq_true c19
                      clear c19
                      by_cases c20 : x10_3 < (t181.length : Int)
                      · rw [if_pos c20] at H
                        have c20b0 : decide (x10_3 < (t181.length : Int)) = true := decide_eq_true c20
                        clear c20
                        by_cases c21 : (rd t181 x10_3) > 9
                        · rw [if_pos c21] at H
                          exact absurd H (by simp)
                        · rw [if_neg c21] at H
                          have c21b0 : decide (9 < (rd t181 x10_3)) = false := decide_eq_false c21
                          clear c21
                          have H' := Aside0.mk H
                          clear H
                          obtain ⟨Ao22, co22, eo22⟩ := Kd.R_slice HO_5.out
                          subst eo22
                          have p190 : 0 ≤ (x10_3 : Int) := of_decide_eq_true (by first | (with_reducible assumption) | assumption)
                          have q190 : x10_3 < (t181.length : Int) := of_decide_eq_true (by first | (with_reducible assumption) | assumption)
                          obtain ⟨ad190, e190, hx190_0⟩ := Kd.at_int (Kd.R_reads' HO_5.out).2.2 x10_3 p190 q190
                          cases e190
                          replace p190 := eq_true p190
                          replace q190 := eq_true q190
                          have p191 : 0 ≤ (x10_3 : Int) := of_decide_eq_true (by first | (with_reducible assumption) | assumption)
                          have q191 : x10_3 < (t181.length : Int) := of_decide_eq_true (by first | (with_reducible assumption) | assumption)
                          obtain ⟨ad191, e191, hx191_0⟩ := Kd.at_int (Kd.R_reads' HO_5.out).2.2 x10_3 p191 q191
                          obtain rfl : ad190 = ad191 := (by injection e191)
                          replace p191 := eq_true p191
                          replace q191 := eq_true q191
                          go_wp2
                          go_roundg k3
                          case measure => have := HJ4.out; have := HJ11.out; have := HK3.out; omega
                          case rel => exact ⟨(wrap64 ((wrap64 (10 * x9_3)) + (wrap64 (rd t181 x10_3)))), (wrap64 (x10_3 + 1)), (by first | rfl | (simp; done) | (simp [*]; done)), (by first | rfl | (simp; done) | (simp [*]; done)), H', ⟨by have := HJ4.out; have := HJ11.out; have := HK3.out; omega⟩, ⟨by (with_reducible repeat (first | apply Kd.R_alloc | apply Kd.R_drewN | apply Kd.R_drew)); exact HO_5.out⟩, ⟨by (with_reducible repeat (first | apply Kd.R_alloc | apply Kd.R_drewN | apply Kd.R_drew)); exact HO_7.out⟩, ⟨by repeat (first | (with_reducible first | exact HB.out | apply below_alloc | apply pw_below_drewN | apply below_drew1) | exact HB.out)⟩⟩
                      · rw [if_neg c20] at H
                        exact absurd H (by simp)
                    · rw [if_neg c19] at H
                      exact absurd H (by simp)
                  · rw [if_neg c18] at H
                    have c18b0 : decide (x10_3 < 10) = false := decide_eq_false c18
                    clear c18
                    replace H := Option.bind_eq_some_iff.mp H
                    obtain ⟨t192, A230, H⟩ := H
                    replace H : (if t192 = true then (if x9_3 = a0 then ((seal_Same.f t181 t185).bind fun t193 => (some (t193 == (a0 == a1)))) else (none)) else (none)) = some r := H
                    have A23 := Aside0.mk A230
                    clear A230
                    by_cases c24 : t192 = true
                    · subst c24
                      have H1 : (if x9_3 = a0 then ((seal_Same.f t181 t185).bind fun t193 => (some (t193 == (a0 == a1)))) else (none)) = some r := by rw [if_pos rfl] at H; exact H
                      clear H
                      have H := H1
                      clear H1
                      by_cases c25 : x9_3 = a0
                      · rw [if_pos c25] at H
                        have c25b0 : (x9_3 == a0) = true := beq_iff_eq.mpr c25
                        have c25b1 : (x9_3 != a0) = false := bne_eq_false_iff_eq.mpr c25
                        clear c25
                        replace H := Option.bind_eq_some_iff.mp H
                        obtain ⟨t193, A260, H⟩ := H
                        replace H : (some (t193 == (a0 == a1))) = some r := H
                        have A26 := Aside0.mk A260
                        clear A260
                        obtain rfl := Option.some.inj H
                        go_wp2_with (first | ((with_reducible refine gate_callee (f := 13) rfl ?_); refine goesL_ (some 53) rfl rfl Try.func13 (by kernel_rfl) rfl #[] rfl (by (try simp only [List.map_toArray, List.map_cons, List.map_nil]); first | done | rfl | (simp only [List.length_drop, List.length_take]; rfl)) ?_; (with_reducible refine (gatelinelaw04_sealed.calls k3  true _ A23.out).mono ?_); rintro e w27 ⟨rfl, hb⟩; refine ⟨_, rfl, ?_⟩; have n0_ := Aside0.mk (Kd.R_below (by (with_reducible repeat (first | apply Kd.R_alloc | apply Kd.R_drewN | apply Kd.R_drew)); exact HO_5.out) hb); have n1_ := Aside0.mk (Kd.R_below (by (with_reducible repeat (first | apply Kd.R_alloc | apply Kd.R_drewN | apply Kd.R_drew)); exact HO_7.out) hb); have n2_ := Aside0.mk (below_step (by repeat (first | (with_reducible first | exact HB.out | apply below_alloc | apply pw_below_drewN | apply below_drew1) | exact HB.out)) hb); clear HO_5; clear HO_7; clear HB; have HO_5 := n0_; have HO_7 := n1_; have HB := n2_; clear n0_ n1_ n2_; (try clear hb); (try clear hb2); (try clear hk); (try clear hi); obtain ⟨Ao28, co28, eo28⟩ := Kd.R_slice HO_5.out; subst eo28; obtain ⟨Ao29, co29, eo29⟩ := Kd.R_slice HO_7.out; subst eo29) | (go_at_call 14; (with_reducible refine (seal_Same.calls _ _ t181 _ _ t185 t193 _ ?side1 ?side2 ?side3 ?side4 A26.out).mono ?_); (case side1 => repeat (first | exact (Kd.R_reads' HO_5.out).2.2 | (with_reducible refine Kd.C_alloc ?_ _) | (with_reducible refine Kd.C_drewN ?_ _) | (with_reducible refine Kd.C_drew ?_))); (case side2 => exact (Kd.R_reads' HO_5.out).2.1); (case side3 => repeat (first | exact (Kd.R_reads' HO_7.out).2.2 | (with_reducible refine Kd.C_alloc ?_ _) | (with_reducible refine Kd.C_drewN ?_ _) | (with_reducible refine Kd.C_drew ?_))); (case side4 => exact (Kd.R_reads' HO_7.out).2.1); rintro e w30 ⟨rfl, hb⟩; have n0_ := Aside0.mk (Kd.R_below (by (with_reducible repeat (first | apply Kd.R_alloc | apply Kd.R_drewN | apply Kd.R_drew)); exact HO_5.out) hb); have n1_ := Aside0.mk (Kd.R_below (by (with_reducible repeat (first | apply Kd.R_alloc | apply Kd.R_drewN | apply Kd.R_drew)); exact HO_7.out) hb); have n2_ := Aside0.mk (below_step (by repeat (first | (with_reducible first | exact HB.out | apply below_alloc | apply pw_below_drewN | apply below_drew1) | exact HB.out)) hb); clear HO_5; clear HO_7; clear HB; have HO_5 := n0_; have HO_7 := n1_; have HB := n2_; clear n0_ n1_ n2_; (try clear hb); (try clear hb2); (try clear hk); (try clear hi)))
                        go_ret
                        exact ⟨by first | rfl | (simp [errW_none, errW_some] <;> rfl) | (simp [*, errW_none, errW_some] <;> rfl), by repeat (first | (with_reducible first | exact HB.out | apply below_alloc | apply pw_below_drewN | apply below_drew1) | exact HB.out)⟩
                      · rw [if_neg c25] at H
                        exact absurd H (by simp)
                    · replace c24 := Bool.eq_false_iff.mpr c24
                      subst c24
                      have H1 : (none) = some r := by rw [if_neg (show ¬ (false = true) by decide)] at H; exact H
                      clear H
                      have H := H1
                      clear H1
                      exact absurd H (by simp)

/-- THE ONE PURE STATEMENT of gatelinelaw04_SealTells: yours. -/
def gatelinelaw04_SealTells.Pure : Prop := ∀ (a0 : Int) (a1 : Int), (Lit.int .i64 a0).wf = true → (Lit.int .i64 a1).wf = true → ∃ k, gatelinelaw04_SealTells.f k a0 a1 = some true
theorem gatelinelaw04_SealTells.walk (P : gatelinelaw04_SealTells.Pure) (a0 : Int) (a1 : Int) (w : World) (w0 : (Lit.int .i64 a0).wf = true) (w1 : (Lit.int .i64 a1).wf = true) :
    Calls Try.prog 6 #[.int .i64 a0, .int .i64 a1] w fun e w' => e = .returned (.bool true) ∧ Below w.heap.size w w' := by
  obtain ⟨k, h⟩ := P a0 a1 w0 w1
  refine (gatelinelaw04_SealTells.calls k a0 a1 true w h).mono ?_
  rintro e w' ⟨rfl, hd⟩
  exact ⟨rfl, hd⟩

end Go.Proofs.Ytajlohhphjlgbaa.S
