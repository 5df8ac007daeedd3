import Derived.Test.YtfmpeojlaibblaaBase3
set_option linter.unusedVariables false
set_option linter.unusedSimpArgs false

/- Written for this claim by a program of this session (handprint.py, over the kit's print). Lean checks it. -/
namespace Go.Proofs.Ytfmpeojlaibblaa.S
open Go.RowKit Go.Proofs.YtfmpeojlaibblaaW.PrintWords Go.Proofs.YtfmpeojlaibblaaW.PrintLast Go.Proofs.YtfmpeojlaibblaaW.PrintMore
attribute [local go_sem] max2_int min2_int max_two min_two max_three min_three max_four min_four   -- for this text's walks alone
set_option linter.unusedVariables false
set_option linter.unusedSimpArgs false

/-! ### gatelinelaw11_TrackUnlike: function 14 -/
mutual
def gatelinelaw11_TrackUnlike.j0 : Nat → List Int → List Int → Bool → Option (Bool)
  | 0, _, _, _ => none
  | k + 1, x0, x1, x16 => if x16 = true then (some true) else ((track_Put.f k x0).bind fun bt457 => ((track_Put.f k x1).bind fun bt461 => (if bt457.2 = 0 then (gatelinelaw11_TrackUnlike.j1 k x0 x1 bt457.1 bt461.1 (bt461.2 != 0)) else (gatelinelaw11_TrackUnlike.j1 k x0 x1 bt457.1 bt461.1 true))))
def gatelinelaw11_TrackUnlike.j1 : Nat → List Int → List Int → List Int → List Int → Bool → Option (Bool)
  | 0, _, _, _, _, _ => none
  | k + 1, x0, x1, x5, x7, x32 => if x32 = true then ((gatelinelaw11_tracked.f k).bind fun t465 => (some t465)) else ((gatelinelaw11_tracked.f k).bind fun t466 => (if t466 = true then ((gatelineref01_Same.f k x5 x7).bind fun t467 => ((gatelineref01_Same.f k x0 x1).bind fun t468 => (if (t467 == t468) = true then (some ((x5.length : Int) == (wrap64 (Int.tdiv (wrap64 ((wrap64 (5 * (x0.length : Int))) + 22)) 8)))) else (none)))) else (none)))
end
def gatelinelaw11_TrackUnlike.f (k : Nat) (l0 : List Int) (l1 : List Int) : Option (Bool) := if (l0.length : Int) > 1000 then (gatelinelaw11_TrackUnlike.j0 k l0 l1 true) else (gatelinelaw11_TrackUnlike.j0 k l0 l1 (decide ((l1.length : Int) > 1000)))
theorem gatelinelaw11_TrackUnlike.mono_l : ∀ k, (∀ y0 y1 y2, LeO (gatelinelaw11_TrackUnlike.j0 k y0 y1 y2) (gatelinelaw11_TrackUnlike.j0 (k + 1) y0 y1 y2)) ∧ (∀ y0 y1 y2 y3 y4, LeO (gatelinelaw11_TrackUnlike.j1 k y0 y1 y2 y3 y4) (gatelinelaw11_TrackUnlike.j1 (k + 1) y0 y1 y2 y3 y4))
  | 0 => ⟨fun _ _ _ r h => by simp [gatelinelaw11_TrackUnlike.j0] at h, fun _ _ _ _ _ r h => by simp [gatelinelaw11_TrackUnlike.j1] at h⟩
  | k + 1 => by
    obtain ⟨ih0, ih1⟩ := gatelinelaw11_TrackUnlike.mono_l k
    refine ⟨?_, ?_⟩
    · intro y0 y1 y2
      unfold gatelinelaw11_TrackUnlike.j0
      repeat' first
      | (with_reducible exact ih0 _ _ _)
      | (with_reducible exact ih1 _ _ _ _ _)
      | (with_reducible exact gatelinelaw11_tracked.mono _)
      | (with_reducible exact gatelineref01_Same.mono _ _ _)
      | (with_reducible exact track_Put.mono _ _)
      | (with_reducible exact LeO.refl _)
      | (with_reducible exact LeO.none _)
      | (with_reducible refine LeO.ite ?_ ?_)
      | (with_reducible refine LeO.bind ?_ (fun _ => ?_))
      | exact ih0 _ _ _
      | exact ih1 _ _ _ _ _
      | exact gatelinelaw11_tracked.mono _
      | exact gatelineref01_Same.mono _ _ _
      | exact track_Put.mono _ _
      | exact LeO.none _
      | refine LeO.ite ?_ ?_
      | refine LeO.bind ?_ (fun _ => ?_)
    · intro y0 y1 y2 y3 y4
      unfold gatelinelaw11_TrackUnlike.j1
      repeat' first
      | (with_reducible exact ih0 _ _ _)
      | (with_reducible exact ih1 _ _ _ _ _)
      | (with_reducible exact gatelinelaw11_tracked.mono _)
      | (with_reducible exact gatelineref01_Same.mono _ _ _)
      | (with_reducible exact track_Put.mono _ _)
      | (with_reducible exact LeO.refl _)
      | (with_reducible exact LeO.none _)
      | (with_reducible refine LeO.ite ?_ ?_)
      | (with_reducible refine LeO.bind ?_ (fun _ => ?_))
      | exact ih0 _ _ _
      | exact ih1 _ _ _ _ _
      | exact gatelinelaw11_tracked.mono _
      | exact gatelineref01_Same.mono _ _ _
      | exact track_Put.mono _ _
      | exact LeO.none _
      | refine LeO.ite ?_ ?_
      | refine LeO.bind ?_ (fun _ => ?_)
theorem gatelinelaw11_TrackUnlike.mono : ∀ a0 a1 k, LeO (gatelinelaw11_TrackUnlike.f k a0 a1) (gatelinelaw11_TrackUnlike.f (k + 1) a0 a1) := by
  intro a0 a1 k
  obtain ⟨ih0, ih1⟩ := gatelinelaw11_TrackUnlike.mono_l k
  unfold gatelinelaw11_TrackUnlike.f
  repeat' first
      | (with_reducible exact ih0 _ _ _)
      | (with_reducible exact ih1 _ _ _ _ _)
      | (with_reducible exact gatelinelaw11_tracked.mono _)
      | (with_reducible exact gatelineref01_Same.mono _ _ _)
      | (with_reducible exact track_Put.mono _ _)
      | (with_reducible exact LeO.refl _)
      | (with_reducible exact LeO.none _)
      | (with_reducible refine LeO.ite ?_ ?_)
      | (with_reducible refine LeO.bind ?_ (fun _ => ?_))
      | exact ih0 _ _ _
      | exact ih1 _ _ _ _ _
      | exact gatelinelaw11_tracked.mono _
      | exact gatelineref01_Same.mono _ _ _
      | exact track_Put.mono _ _
      | exact LeO.none _
      | refine LeO.ite ?_ ?_
      | refine LeO.bind ?_ (fun _ => ?_)
set_option maxHeartbeats 8000000 in
set_option maxRecDepth 100000 in
theorem gatelinelaw11_TrackUnlike.calls (k : Nat) (A0 : Option Addr) (c0 : Nat) (l0 : List Int) (A1 : Option Addr) (c1 : Nat) (l1 : List Int) (r : Bool) (w : World) (hr0 : Kd.C (Kd.int .u8) w A0 l0.length l0) (hc0 : l0.length ≤ c0) (hr1 : Kd.C (Kd.int .u8) w A1 l1.length l1) (hc1 : l1.length ≤ c1) (h : gatelinelaw11_TrackUnlike.f k l0 l1 = some r) :
    Calls Try.prog 14 #[.slice A0 l0.length c0, .slice A1 l1.length c1] w fun e w' => e = .returned (.bool r) ∧ Below w.heap.size w w' := by
  have HR0 := Aside0.mk hr0
  have HC0 := Aside0.mk hc0
  clear hr0 hc0
  have HR1 := Aside0.mk hr1
  have HC1 := Aside0.mk hc1
  clear hr1 hc1
  have HB := Aside0.mk (Below.refl w.heap.size w)
  have H : (if (l0.length : Int) > 1000 then (gatelinelaw11_TrackUnlike.j0 k l0 l1 true) else (gatelinelaw11_TrackUnlike.j0 k l0 l1 (decide ((l1.length : Int) > 1000)))) = some r := h
  clear h
  have HC3 := Aside0.mk H
  clear H
  go_enter Try.func14, Try.ntmps14
  go_upto_region 1 with (fail)
  go_cut [16] (fun v16 wc => ∃ (kq : Nat) (x16_2 : Bool), v16 = .bool x16_2 ∧ Aside0 (gatelinelaw11_TrackUnlike.j0 kq l0 l1 x16_2 = some r) ∧ Aside0 (kq ≤ k) ∧ Aside0 (Below w.heap.size w wc))
  case first =>
    have H := HC3.out
    clear HC3
    by_cases c4 : (l0.length : Int) > 1000
    · rw [if_pos c4] at H
      have c4b0 : decide (1000 < (l0.length : Int)) = true := decide_eq_true c4
      have c4b1 : decide (1000 < l0.length) = true := decide_eq_true (by omega)
      clear c4
      (first | rw [c4b0] | (simp only [i64_w, i32_w]; rw [c4b0]) | skip)
      have H' := Aside0.mk H
      clear H
      go_wp2
      go_meet
      case rel => exact ⟨_, (true), (by first | rfl | (simp; done) | (simp [*]; done)), H', ⟨by first | omega | exact Nat.le_refl _⟩, ⟨by repeat (first | (with_reducible first | exact HB.out | apply below_alloc | apply pw_below_drewN | apply below_drew1) | exact HB.out)⟩⟩
    · rw [if_neg c4] at H
      have c4b0 : decide (1000 < (l0.length : Int)) = false := decide_eq_false c4
      have c4b1 : decide (1000 < l0.length) = false := decide_eq_false (by omega)
      clear c4
      (first | rw [c4b0] | (simp only [i64_w, i32_w]; rw [c4b0]) | skip)
      have H' := Aside0.mk H
      clear H
      go_wp2
      go_meet
      case rel => exact ⟨_, (decide ((l1.length : Int) > 1000)), (by first | rfl | (simp; done) | (simp [*]; done)), H', ⟨by first | omega | exact Nat.le_refl _⟩, ⟨by repeat (first | (with_reducible first | exact HB.out | apply below_alloc | apply pw_below_drewN | apply below_drew1) | exact HB.out)⟩⟩
  case rest =>
    clear HC3
    try clear c1
    try clear p2
    try clear c4
    try clear c4b0
    try clear c4b1
    obtain ⟨kq, x16_2, rfl, HA, HJ2, HB⟩ := hcut
    cases kq with
    | zero => exact absurd HA.out (by simp [gatelinelaw11_TrackUnlike.j0])
    | succ kj2 =>
      have H := HA.out
      clear HA
      simp only [gatelinelaw11_TrackUnlike.j0] at H
      by_cases c5 : x16_2 = true
      · subst c5
        have H1 : (some true) = some r := by rw [if_pos rfl] at H; exact H
        clear H
        have H := H1
        clear H1
        obtain rfl := Option.some.inj H
        go_wp2
        go_ret
        exact ⟨by first | rfl | (simp [errW_none, errW_some] <;> rfl) | (simp [*, errW_none, errW_some] <;> rfl), by repeat (first | (with_reducible first | exact HB.out | apply below_alloc | apply pw_below_drewN | apply below_drew1) | exact HB.out)⟩
      · replace c5 := Bool.eq_false_iff.mpr c5
        subst c5
        have H1 : ((track_Put.f kj2 l0).bind fun bt457 => ((track_Put.f kj2 l1).bind fun bt461 => (if bt457.2 = 0 then (gatelinelaw11_TrackUnlike.j1 kj2 l0 l1 bt457.1 bt461.1 (bt461.2 != 0)) else (gatelinelaw11_TrackUnlike.j1 kj2 l0 l1 bt457.1 bt461.1 true)))) = some r := by rw [if_neg (show ¬ (false = true) by decide)] at H; exact H
        clear H
        have H := H1
        clear H1
        replace H := Option.bind_eq_some_iff.mp H
        obtain ⟨⟨t457, t458⟩, A60, H⟩ := H
        replace H : ((track_Put.f kj2 l1).bind fun bt461 => (if t458 = 0 then (gatelinelaw11_TrackUnlike.j1 kj2 l0 l1 t457 bt461.1 (bt461.2 != 0)) else (gatelinelaw11_TrackUnlike.j1 kj2 l0 l1 t457 bt461.1 true))) = some r := H
        have A6 := Aside0.mk A60
        clear A60
        replace H := Option.bind_eq_some_iff.mp H
        obtain ⟨⟨t461, t462⟩, A70, H⟩ := H
        replace H : (if t458 = 0 then (gatelinelaw11_TrackUnlike.j1 kj2 l0 l1 t457 t461 (t462 != 0)) else (gatelinelaw11_TrackUnlike.j1 kj2 l0 l1 t457 t461 true)) = some r := H
        have A7 := Aside0.mk A70
        clear A70
        have HC8 := Aside0.mk H
        clear H
        go_upto_region 5 with (first | ((with_reducible refine gate_callee (f := 17) rfl ?_); refine goesL_ (some 19) rfl rfl Try.func17 (by kernel_rfl) rfl #[.slice A0 l0.length c0] rfl (by (try simp only [List.map_toArray, List.map_cons, List.map_nil]); first | done | rfl | (simp only [List.length_drop, List.length_take]; rfl)) ?_; (with_reducible refine (track_Put.calls kj2 _ _ l0 t457 t458 _ ?side1 ?side2 A6.out).mono ?_); (case side1 => repeat (first | exact (Kd.C_below HR0.out HB.out) | (with_reducible refine Kd.C_alloc ?_ _) | (with_reducible refine Kd.C_drewN ?_ _) | (with_reducible refine Kd.C_drew ?_))); (case side2 => exact HC0.out); rintro e w9 ⟨v459, rfl, ho0, hb⟩; refine ⟨_, rfl, ?_⟩; have n0_ := Aside0.mk (Kd.R_lower ho0 (below_size (by repeat (first | (with_reducible first | exact HB.out | apply below_alloc | apply pw_below_drewN | apply below_drew1) | exact HB.out)))); have n1_ := Aside0.mk (below_step (by repeat (first | (with_reducible first | exact HB.out | apply below_alloc | apply pw_below_drewN | apply below_drew1) | exact HB.out)) hb); clear HB; have HO460 := n0_; have HB := n1_; clear n0_ n1_; (try clear hb); (try clear hb2); (try clear hk); (try clear hi); (try clear ho0)) | ((with_reducible refine gate_callee (f := 17) rfl ?_); refine goesL_ (some 24) rfl rfl Try.func17 (by kernel_rfl) rfl #[.slice A1 l1.length c1] rfl (by (try simp only [List.map_toArray, List.map_cons, List.map_nil]); first | done | rfl | (simp only [List.length_drop, List.length_take]; rfl)) ?_; (with_reducible refine (track_Put.calls kj2 _ _ l1 t461 t462 _ ?side1 ?side2 A7.out).mono ?_); (case side1 => repeat (first | exact (Kd.C_below HR1.out HB.out) | (with_reducible refine Kd.C_alloc ?_ _) | (with_reducible refine Kd.C_drewN ?_ _) | (with_reducible refine Kd.C_drew ?_))); (case side2 => exact HC1.out); rintro e w10 ⟨v463, rfl, ho0, hb⟩; refine ⟨_, rfl, ?_⟩; have n0_ := Aside0.mk (Kd.R_elder' (by (with_reducible repeat (first | apply Kd.R_alloc | apply Kd.R_drewN | apply Kd.R_drew)); exact HO460.out) (Kd.R_base ho0) hb); have n1_ := Aside0.mk (Kd.R_lower (Kd.R_new' ho0 (Kd.R_lt (by (with_reducible repeat (first | apply Kd.R_alloc | apply Kd.R_drewN | apply Kd.R_drew)); exact HO460.out))) (below_size (by repeat (first | (with_reducible first | exact HB.out | apply below_alloc | apply pw_below_drewN | apply below_drew1) | exact HB.out)))); have n2_ := Aside0.mk (below_step (by repeat (first | (with_reducible first | exact HB.out | apply below_alloc | apply pw_below_drewN | apply below_drew1) | exact HB.out)) hb); clear HO460; clear HB; have HO460 := n0_; have HO464 := n1_; have HB := n2_; clear n0_ n1_ n2_; (try clear hb); (try clear hb2); (try clear hk); (try clear hi); (try clear ho0)))
        (try simp only [Act.put, List.setIfInBounds_toArray, List.set_cons_zero, List.set_cons_succ])
        go_cut [32] (fun v32 wc => ∃ (kq : Nat) (x32_7 : Bool), v32 = .bool x32_7 ∧ Aside0 (gatelinelaw11_TrackUnlike.j1 kq l0 l1 t457 t461 x32_7 = some r) ∧ Aside0 (kq ≤ kj2) ∧ Aside0 (Kd.R (Kd.int .u8) 5 wc w.heap.size (fun k_ => some k_ ≠ (v463 : Value).ownBlock) v459 t457) ∧ Aside0 (Kd.R (Kd.int .u8) 5 wc w.heap.size (fun k_ => some k_ ≠ (v459 : Value).ownBlock) v463 t461) ∧ Aside0 (Below w.heap.size w wc))
        case first =>
          have H := HC8.out
          clear HC8
          by_cases c11 : t458 = 0
          · rw [if_pos c11] at H
            have c11b0 : (t458 == 0) = true := beq_iff_eq.mpr c11
            have c11b1 : (t458 != 0) = false := bne_eq_false_iff_eq.mpr c11
            clear c11
            (first | rw [c11b0] | (simp only [i64_w, i32_w]; rw [c11b0]) | skip)
            have H' := Aside0.mk H
            clear H
            go_wp2
            go_meet
            case rel => exact ⟨_, ((t462 != 0)), (by first | rfl | (simp; done) | (simp [*]; done)), H', ⟨by have := HJ2.out; first | omega | exact Nat.le_refl _⟩, ⟨by (with_reducible repeat (first | apply Kd.R_alloc | apply Kd.R_drewN | apply Kd.R_drew)); exact Kd.R_mono HO460.out (fun _ hk => hk.2)⟩, ⟨by (with_reducible repeat (first | apply Kd.R_alloc | apply Kd.R_drewN | apply Kd.R_drew)); exact Kd.R_mono HO464.out (fun _ hk => hk.2)⟩, ⟨by repeat (first | (with_reducible first | exact HB.out | apply below_alloc | apply pw_below_drewN | apply below_drew1) | exact HB.out)⟩⟩
          · rw [if_neg c11] at H
            have c11b0 : (t458 == 0) = false := beq_eq_false_iff_ne.mpr c11
            have c11b1 : (t458 != 0) = true := bne_iff_ne.mpr c11
            (first | rw [c11b0] | (simp only [i64_w, i32_w]; rw [c11b0]) | skip)
            have H' := Aside0.mk H
            clear H
            go_wp2
            go_meet
            case rel => exact ⟨_, (true), (by first | rfl | (simp; done) | (simp [*]; done)), H', ⟨by have := HJ2.out; first | omega | exact Nat.le_refl _⟩, ⟨by (with_reducible repeat (first | apply Kd.R_alloc | apply Kd.R_drewN | apply Kd.R_drew)); exact Kd.R_mono HO460.out (fun _ hk => hk.2)⟩, ⟨by (with_reducible repeat (first | apply Kd.R_alloc | apply Kd.R_drewN | apply Kd.R_drew)); exact Kd.R_mono HO464.out (fun _ hk => hk.2)⟩, ⟨by repeat (first | (with_reducible first | exact HB.out | apply below_alloc | apply pw_below_drewN | apply below_drew1) | exact HB.out)⟩⟩
        case rest =>
          clear HC8
          try clear c1
          try clear p2
          try clear c4
          try clear c4b0
          try clear c4b1
          try clear c5
          try clear c11
          try clear c11b0
          try clear c11b1
          try clear p2
          obtain ⟨kq, x32_7, rfl, HA, HJ7, HO_5, HO_7, HB⟩ := hcut
          cases kq with
          | zero => exact absurd HA.out (by simp [gatelinelaw11_TrackUnlike.j1])
          | succ kj7 =>
            have H := HA.out
            clear HA
            simp only [gatelinelaw11_TrackUnlike.j1] at H
            by_cases c12 : x32_7 = true
            · subst c12
              have H1 : ((gatelinelaw11_tracked.f kj7).bind fun t465 => (some t465)) = some r := by rw [if_pos rfl] at H; exact H
              clear H
              have H := H1
              clear H1
              replace H := Option.bind_eq_some_iff.mp H
              obtain ⟨t465, A130, H⟩ := H
              replace H : (some t465) = some r := H
              have A13 := Aside0.mk A130
              clear A130
              obtain rfl := Option.some.inj H
              go_wp2_with (first | ((with_reducible refine gate_callee (f := 34) rfl ?_); refine goesL_ (some 33) rfl rfl Try.func34 (by kernel_rfl) rfl #[] rfl (by (try simp only [List.map_toArray, List.map_cons, List.map_nil]); first | done | rfl | (simp only [List.length_drop, List.length_take]; rfl)) ?_; (with_reducible refine (gatelinelaw11_tracked.calls kj7  t465 _ A13.out).mono ?_); rintro e w14 ⟨rfl, hb⟩; refine ⟨_, rfl, ?_⟩; have n0_ := Aside0.mk (Kd.R_below (by (with_reducible repeat (first | apply Kd.R_alloc | apply Kd.R_drewN | apply Kd.R_drew)); exact HO_5.out) hb); have n1_ := Aside0.mk (Kd.R_below (by (with_reducible repeat (first | apply Kd.R_alloc | apply Kd.R_drewN | apply Kd.R_drew)); exact HO_7.out) hb); have n2_ := Aside0.mk (below_step (by repeat (first | (with_reducible first | exact HB.out | apply below_alloc | apply pw_below_drewN | apply below_drew1) | exact HB.out)) hb); clear HO_5; clear HO_7; clear HB; have HO_5 := n0_; have HO_7 := n1_; have HB := n2_; clear n0_ n1_ n2_; (try clear hb); (try clear hb2); (try clear hk); (try clear hi)))
              go_ret
              exact ⟨by first | rfl | (simp [errW_none, errW_some] <;> rfl) | (simp [*, errW_none, errW_some] <;> rfl), by repeat (first | (with_reducible first | exact HB.out | apply below_alloc | apply pw_below_drewN | apply below_drew1) | exact HB.out)⟩
            · replace c12 := Bool.eq_false_iff.mpr c12
              subst c12
              have H1 : ((gatelinelaw11_tracked.f kj7).bind fun t466 => (if t466 = true then ((gatelineref01_Same.f kj7 t457 t461).bind fun t467 => ((gatelineref01_Same.f kj7 l0 l1).bind fun t468 => (if (t467 == t468) = true then (some ((t457.length : Int) == (wrap64 (Int.tdiv (wrap64 ((wrap64 (5 * (l0.length : Int))) + 22)) 8)))) else (none)))) else (none))) = some r := by rw [if_neg (show ¬ (false = true) by decide)] at H; exact H
              clear H
              have H := H1
              clear H1
              replace H := Option.bind_eq_some_iff.mp H
              obtain ⟨t466, A150, H⟩ := H
              replace H : (if t466 = true then ((gatelineref01_Same.f kj7 t457 t461).bind fun t467 => ((gatelineref01_Same.f kj7 l0 l1).bind fun t468 => (if (t467 == t468) = true then (some ((t457.length : Int) == (wrap64 (Int.tdiv (wrap64 ((wrap64 (5 * (l0.length : Int))) + 22)) 8)))) else (none)))) else (none)) = some r := H
              have A15 := Aside0.mk A150
              clear A150
              by_cases c16 : t466 = true
              · subst c16
                have H1 : ((gatelineref01_Same.f kj7 t457 t461).bind fun t467 => ((gatelineref01_Same.f kj7 l0 l1).bind fun t468 => (if (t467 == t468) = true then (some ((t457.length : Int) == (wrap64 (Int.tdiv (wrap64 ((wrap64 (5 * (l0.length : Int))) + 22)) 8)))) else (none)))) = some r := by rw [if_pos rfl] at H; exact H
                clear H
                have H := H1
                clear H1
                replace H := Option.bind_eq_some_iff.mp H
                obtain ⟨t467, A170, H⟩ := H
                replace H : ((gatelineref01_Same.f kj7 l0 l1).bind fun t468 => (if (t467 == t468) = true then (some ((t457.length : Int) == (wrap64 (Int.tdiv (wrap64 ((wrap64 (5 * (l0.length : Int))) + 22)) 8)))) else (none))) = some r := H
                have A17 := Aside0.mk A170
                clear A170
                replace H := Option.bind_eq_some_iff.mp H
                obtain ⟨t468, A180, H⟩ := H
                replace H : (if (t467 == t468) = true then (some ((t457.length : Int) == (wrap64 (Int.tdiv (wrap64 ((wrap64 (5 * (l0.length : Int))) + 22)) 8)))) else (none)) = some r := H
                have A18 := Aside0.mk A180
                clear A180
                by_cases c19 : (t467 == t468) = true
                · rw [if_pos c19] at H
                  have c19b0 : (t467 == t468) = true := c19
                  (try (have c19b1 : decide (t467 = t468) = true := by simpa using c19))
                  (try (have c19b2 : (t467 == t468) = true := by simpa using c19))
                  clear c19
                  obtain rfl := Option.some.inj H
                  go_wp2_with (first | ((with_reducible refine gate_callee (f := 34) rfl ?_); refine goesL_ (some 34) rfl rfl Try.func34 (by kernel_rfl) rfl #[] rfl (by (try simp only [List.map_toArray, List.map_cons, List.map_nil]); first | done | rfl | (simp only [List.length_drop, List.length_take]; rfl)) ?_; (with_reducible refine (gatelinelaw11_tracked.calls kj7  true _ A15.out).mono ?_); rintro e w20 ⟨rfl, hb⟩; refine ⟨_, rfl, ?_⟩; have n0_ := Aside0.mk (Kd.R_below (by (with_reducible repeat (first | apply Kd.R_alloc | apply Kd.R_drewN | apply Kd.R_drew)); exact HO_5.out) hb); have n1_ := Aside0.mk (Kd.R_below (by (with_reducible repeat (first | apply Kd.R_alloc | apply Kd.R_drewN | apply Kd.R_drew)); exact HO_7.out) hb); have n2_ := Aside0.mk (below_step (by repeat (first | (with_reducible first | exact HB.out | apply below_alloc | apply pw_below_drewN | apply below_drew1) | exact HB.out)) hb); clear HO_5; clear HO_7; clear HB; have HO_5 := n0_; have HO_7 := n1_; have HB := n2_; clear n0_ n1_ n2_; (try clear hb); (try clear hb2); (try clear hk); (try clear hi); obtain ⟨Ao21, co21, eo21⟩ := Kd.R_slice HO_5.out; subst eo21; obtain ⟨Ao22, co22, eo22⟩ := Kd.R_slice HO_7.out; subst eo22) | (go_at_call 20; (with_reducible refine (gatelineref01_Same.calls kj7 _ _ t457 _ _ t461 t467 _ ?side1 ?side2 ?side3 ?side4 A17.out).mono ?_); (case side1 => repeat (first | exact (Kd.R_reads' HO_5.out).2.2 | (with_reducible refine Kd.C_alloc ?_ _) | (with_reducible refine Kd.C_drewN ?_ _) | (with_reducible refine Kd.C_drew ?_))); (case side2 => exact (Kd.R_reads' HO_5.out).2.1); (case side3 => repeat (first | exact (Kd.R_reads' HO_7.out).2.2 | (with_reducible refine Kd.C_alloc ?_ _) | (with_reducible refine Kd.C_drewN ?_ _) | (with_reducible refine Kd.C_drew ?_))); (case side4 => exact (Kd.R_reads' HO_7.out).2.1); rintro e w' ⟨rfl, ⟨nd, rfl⟩⟩) | (go_at_call 20; (with_reducible refine (gatelineref01_Same.calls kj7 _ _ l0 _ _ l1 t468 _ ?side1 ?side2 ?side3 ?side4 A18.out).mono ?_); (case side1 => repeat (first | exact (Kd.C_below HR0.out (by repeat (first | (with_reducible first | exact HB.out | apply below_alloc | apply pw_below_drewN | apply below_drew1) | exact HB.out))) | (with_reducible refine Kd.C_alloc ?_ _) | (with_reducible refine Kd.C_drewN ?_ _) | (with_reducible refine Kd.C_drew ?_))); (case side2 => exact HC0.out); (case side3 => repeat (first | exact (Kd.C_below HR1.out (by repeat (first | (with_reducible first | exact HB.out | apply below_alloc | apply pw_below_drewN | apply below_drew1) | exact HB.out))) | (with_reducible refine Kd.C_alloc ?_ _) | (with_reducible refine Kd.C_drewN ?_ _) | (with_reducible refine Kd.C_drew ?_))); (case side4 => exact HC1.out); rintro e w' ⟨rfl, ⟨nd, rfl⟩⟩))
                  go_ret
                  exact ⟨by first | rfl | (simp [errW_none, errW_some] <;> rfl) | (simp [*, errW_none, errW_some] <;> rfl), by repeat (first | (with_reducible first | exact HB.out | apply below_alloc | apply pw_below_drewN | apply below_drew1) | exact HB.out)⟩
                · rw [if_neg c19] at H
                  exact absurd H (by simp)
              · replace c16 := Bool.eq_false_iff.mpr c16
                subst c16
                have H1 : (none) = some r := by rw [if_neg (show ¬ (false = true) by decide)] at H; exact H
                clear H
                have H := H1
                clear H1
                exact absurd H (by simp)

/-- THE ONE PURE STATEMENT of gatelinelaw11_TrackUnlike: yours. -/
def gatelinelaw11_TrackUnlike.Pure : Prop := ∀ (l0 : List Int) (l1 : List Int), l0.length ≤ maxLen → l0.length * 1 ≤ 140737488351232 → (∀ x ∈ l0, (Lit.int .u8 x).wf = true) → l1.length ≤ maxLen → l1.length * 1 ≤ 140737488351232 → (∀ x ∈ l1, (Lit.int .u8 x).wf = true) → ∃ k, gatelinelaw11_TrackUnlike.f k l0 l1 = some true
theorem gatelinelaw11_TrackUnlike.walk (P : gatelinelaw11_TrackUnlike.Pure) (a0 : Option Addr) (len0 cap0 : Nat) (z0 : List Int) (a1 : Option Addr) (len1 cap1 : Nat) (z1 : List Int) (w : World) (w0 : (a0 = none ∧ len0 = 0 ∧ cap0 = 0 ∧ z0 = []) ∨ ∃ x, a0 = some x ∧ len0 ≤ cap0 ∧ cap0 ≤ maxLen ∧ z0.length = cap0 ∧ (∀ i, i < z0.length → w.cell? (x.add i) = some (.int .u8 (z0.getD i 0))) ∧ ∀ n ∈ z0, (Lit.int .u8 n).wf = true) (y0 : len0 * 1 ≤ 140737488351232) (w1 : (a1 = none ∧ len1 = 0 ∧ cap1 = 0 ∧ z1 = []) ∨ ∃ x, a1 = some x ∧ len1 ≤ cap1 ∧ cap1 ≤ maxLen ∧ z1.length = cap1 ∧ (∀ i, i < z1.length → w.cell? (x.add i) = some (.int .u8 (z1.getD i 0))) ∧ ∀ n ∈ z1, (Lit.int .u8 n).wf = true) (y1 : len1 * 1 ≤ 140737488351232) :
    Calls Try.prog 14 #[.slice a0 len0 cap0, .slice a1 len1 cap1] w fun e w' => e = .returned (.bool true) ∧ Below w.heap.size w w' := by
  obtain ⟨l0, rfl, hr0, hm0, hw0, hc0⟩ := ReadsInt.ofRowC w0
  obtain ⟨l1, rfl, hr1, hm1, hw1, hc1⟩ := ReadsInt.ofRowC w1
  obtain ⟨k, h⟩ := P l0 l1 hm0 y0 hw0 hm1 y1 hw1
  refine (gatelinelaw11_TrackUnlike.calls k _ _ l0 _ _ l1 true w (Kd.C_of_reads (d := (0 : Int)) (h1 := fun _ => rfl) hr0) hc0 (Kd.C_of_reads (d := (0 : Int)) (h1 := fun _ => rfl) hr1) hc1 h).mono ?_
  rintro e w' ⟨rfl, hd⟩
  exact ⟨rfl, hd⟩

end Go.Proofs.Ytfmpeojlaibblaa.S

/-
  track: characters' bits, and what bytes tell of them, the plain part.
-/
namespace Go.Proofs.Ytfmpeojlaibblaa.Pure
open Go.RowKit Go.Proofs.Ytfmpeojlaibblaa.S Go.Proofs.YtfmpeojlaibblaaW.PrintWords Go.Proofs.YtfmpeojlaibblaaW.PrintLast Go.Proofs.YtfmpeojlaibblaaW.PrintMore

theorem v8_bit : ∀ b0 b1 b2 b3 b4 b5 b6 b7 : Bool, bitOf ((v8 b0 b1 b2 b3 b4 b5 b6 b7 : Nat) : Int) 0 = b0 ∧ bitOf ((v8 b0 b1 b2 b3 b4 b5 b6 b7 : Nat) : Int) 1 = b1 ∧ bitOf ((v8 b0 b1 b2 b3 b4 b5 b6 b7 : Nat) : Int) 2 = b2 ∧ bitOf ((v8 b0 b1 b2 b3 b4 b5 b6 b7 : Nat) : Int) 3 = b3 ∧
    bitOf ((v8 b0 b1 b2 b3 b4 b5 b6 b7 : Nat) : Int) 4 = b4 ∧ bitOf ((v8 b0 b1 b2 b3 b4 b5 b6 b7 : Nat) : Int) 5 = b5 ∧ bitOf ((v8 b0 b1 b2 b3 b4 b5 b6 b7 : Nat) : Int) 6 = b6 ∧ bitOf ((v8 b0 b1 b2 b3 b4 b5 b6 b7 : Nat) : Int) 7 = b7 := by decide +kernel
theorem byt_bit (l : List Bool) (i t : Nat) (ht : t < 8) : bitOf ((byt l i 8 : Nat) : Int) t = l.getD (i + t) false := by
  rw [byt8]
  obtain ⟨h0, h1, h2, h3, h4, h5, h6, h7⟩ := v8_bit (l.getD i false) (l.getD (i + 1) false) (l.getD (i + 2) false) (l.getD (i + 3) false) (l.getD (i + 4) false) (l.getD (i + 5) false) (l.getD (i + 6) false) (l.getD (i + 7) false)
  match t, ht with
  | 0, _ => exact h0
  | 1, _ => exact h1
  | 2, _ => exact h2
  | 3, _ => exact h3
  | 4, _ => exact h4
  | 5, _ => exact h5
  | 6, _ => exact h6
  | 7, _ => exact h7
/-- Bits, packed and unpacked: as they were, and nought behind them. -/
theorem unpack_pack (l : List Bool) (j : Nat) (hj : j < 8 * ((l.length + 7) / 8)) : (unpackL (packL l)).getD j false = l.getD j false := by
  rw [unpackL_getD _ _ (by rw [packL_len]; exact hj)]
  have hq : j / 8 < (packL l).length := by rw [packL_len]; omega
  rw [rd_get hq]
  have : (packL l)[j / 8] = ((byt l (8 * (j / 8)) 8 : Nat) : Int) := by simp [packL]
  rw [this, byt_bit _ _ _ (by omega), show 8 * (j / 8) + j % 8 = j by omega]
theorem charsTo_getD (ys : List Int) : ∀ n, n ≤ ys.length → ∀ i t, i < n → t < 5 → (charsTo ys n).getD (5 * i + t) false = (bit5 (chr (rd ys (i : Int)))).getD t false := by
  intro n
  induction n with
  | zero => intro _ i t hi; omega
  | succ n ih =>
    intro hn i t hi ht
    have hl := charsTo_len ys n (by omega)
    rw [charsTo_succ ys n (by omega), List.getD_eq_getElem?_getD, List.getElem?_append]
    rcases Nat.lt_or_ge i n with h | h
    · rw [if_pos (by omega)]
      have := ih (by omega) i t h ht
      rw [List.getD_eq_getElem?_getD] at this
      exact this
    · obtain rfl : i = n := by omega
      rw [if_neg (by omega), hl, show 5 * i + t - 5 * i = t by omega, List.getD_eq_getElem?_getD]
theorem bit5_chr_inj : ∀ v w : Fin 16, bit5 (chr (v.val : Int)) = bit5 (chr (w.val : Int)) → v = w := by decide +kernel
theorem bit5_eq {x y : Int} (hx : 0 ≤ x ∧ x ≤ 15) (hy : 0 ≤ y ∧ y ≤ 15) (h : ∀ t, t < 5 → (bit5 (chr x)).getD t false = (bit5 (chr y)).getD t false) : x = y := by
  have he : bit5 (chr x) = bit5 (chr y) := by
    refine List.ext_getElem (by simp [bit5]) fun t h1 h2 => ?_
    have := h t (by simpa [bit5] using h1)
    rw [List.getD_eq_getElem?_getD, List.getD_eq_getElem?_getD, List.getElem?_eq_getElem h1, List.getElem?_eq_getElem h2] at this
    simpa using this
  obtain ⟨n, rfl⟩ := Int.eq_ofNat_of_zero_le hx.1
  obtain ⟨m, rfl⟩ := Int.eq_ofNat_of_zero_le hy.1
  have := bit5_chr_inj ⟨n, by omega⟩ ⟨m, by omega⟩ he
  simp only [Fin.mk.injEq] at this
  rw [this]
theorem bitsOf_len (l : List Int) : (bitsOf l).length = 5 * l.length + 15 := by
  unfold bitsOf
  rw [charsTo_len _ _ (Nat.le_refl _), vals1_len]
  omega
theorem vals1_rd (l : List Int) (i : Nat) (hi : i < l.length) : rd (vals1 l) ((i + 1 : Nat) : Int) = rd l (i : Int) := by
  rw [rd_get (by rw [vals1_len]; omega), rd_get hi]
  simp only [vals1, vals0, List.cons_append, List.getElem_cons_succ]
  rw [List.getElem_append_left (by simp; omega), List.getElem_append_left (by omega)]
theorem vals1_end (l : List Int) : rd (vals1 l) ((l.length + 1 : Nat) : Int) = 15 := by
  rw [rd_get (by rw [vals1_len]; omega)]
  simp [vals1, vals0]
theorem pack_char {l m : List Int} (h : packL (bitsOf l) = packL (bitsOf m)) (i : Nat) (hi : i < l.length + 3) (hj : i < m.length + 3) (hl : Dig l) (hm : Dig m) : rd (vals1 l) (i : Int) = rd (vals1 m) (i : Int) := by
  have li := bitsOf_len l
  have lm := bitsOf_len m
  have e1 := vals1_len l
  have e2 := vals1_len m
  refine bit5_eq (vals1_in hl _ (by rw [rd_get (by omega)]; exact List.getElem_mem _)) (vals1_in hm _ (by rw [rd_get (by omega)]; exact List.getElem_mem _)) fun t ht => ?_
  rw [← charsTo_getD (vals1 l) (vals1 l).length (Nat.le_refl _) i t (by omega) ht, ← charsTo_getD (vals1 m) (vals1 m).length (Nat.le_refl _) i t (by omega) ht]
  show (bitsOf l).getD _ _ = (bitsOf m).getD _ _
  rw [← unpack_pack (bitsOf l) (5 * i + t) (by omega), ← unpack_pack (bitsOf m) (5 * i + t) (by omega), h]
theorem pack_lt {l m : List Int} (hl : Dig l) (hm : Dig m) (h : packL (bitsOf l) = packL (bitsOf m)) (hn : l.length < m.length) : False := by
  have e := pack_char h (l.length + 1) (by omega) (by omega) hl hm
  rw [vals1_end, vals1_rd m l.length hn] at e
  have := hm (rd m (l.length : Int)) (by rw [rd_get hn]; exact List.getElem_mem _)
  omega
/-- Unlike digits have unlike tracks. -/
theorem pack_inj {l m : List Int} (hl : Dig l) (hm : Dig m) (h : packL (bitsOf l) = packL (bitsOf m)) : l = m := by
  rcases Nat.lt_trichotomy l.length m.length with hn | hn | hn
  · exact (pack_lt hl hm h hn).elim
  · refine eq_of_rd hn fun j hj => ?_
    have e := pack_char h (j + 1) (by omega) (by omega) hl hm
    rw [vals1_rd l j hj, vals1_rd m j (by omega)] at e
    exact e
  · exact (pack_lt hm hl h.symm hn).elim
theorem put_ok {l : List Int} (hb : AllB l) (h : (put l).2 = 0) : l.length ≤ 77 ∧ Dig l ∧ (put l).1 = packL (bitsOf l) := by
  unfold put at h ⊢
  by_cases h7 : (l.length : Int) > 77
  · rw [if_pos h7] at h; simp at h
  · rw [if_neg h7] at h ⊢
    unfold putL at h ⊢
    by_cases ha : (l.drop 0).any (fun x => decide (9 < x)) = true
    · rw [if_pos ha] at h; simp at h
    · rw [if_neg ha]
      refine ⟨by omega, fun v hv => ?_, rfl⟩
      have h0 := (hb v hv).1
      have : ¬ 9 < v := fun h9 => ha (by rw [List.any_eq_true]; exact ⟨v, by simpa using hv, by simpa using h9⟩)
      omega
end Go.Proofs.Ytfmpeojlaibblaa.Pure

/-
  TrackUnlike, the plain part.
-/
namespace Go.Proofs.Ytfmpeojlaibblaa.Pure
open Go.RowKit Go.Proofs.Ytfmpeojlaibblaa.S Go.Proofs.YtfmpeojlaibblaaW.PrintWords Go.Proofs.YtfmpeojlaibblaaW.PrintLast

theorem unlike_no (l m a b : List Int) : Ev (fun k => gatelinelaw11_TrackUnlike.j1 k l m a b true) true :=
  Ev.step (f := fun k => (gatelinelaw11_tracked.f k).bind fun t => some t) (fun k => by show gatelinelaw11_TrackUnlike.j1 (k + 1) _ _ _ _ _ = _; rw [gatelinelaw11_TrackUnlike.j1, if_pos rfl]) (Ev.bind tracked_ev (Ev.now _))
theorem TrackUnlike : gatelinelaw11_TrackUnlike.Pure := by
  intro l m _ _ hw _ _ hw'
  have hb := allB_of_wf hw
  have hb' := allB_of_wf hw'
  refine Ev.rounds (r := true) ?_
  have hno : Ev (fun k => gatelinelaw11_TrackUnlike.j0 k l m true) true := Ev.step (f := fun _ => some true) (fun k => by show gatelinelaw11_TrackUnlike.j0 (k + 1) _ _ _ = _; rw [gatelinelaw11_TrackUnlike.j0, if_pos rfl]) (Ev.now _)
  unfold gatelinelaw11_TrackUnlike.f
  by_cases h : (l.length : Int) > 1000
  · simp only [if_pos h]; exact hno
  simp only [if_neg h]
  by_cases h' : (m.length : Int) > 1000
  · rw [decide_eq_true h']; exact hno
  rw [decide_eq_false h']
  refine Ev.step (f := fun k => (track_Put.f k l).bind fun p => (track_Put.f k m).bind fun q => if p.2 = 0 then gatelinelaw11_TrackUnlike.j1 k l m p.1 q.1 (q.2 != 0) else gatelinelaw11_TrackUnlike.j1 k l m p.1 q.1 true) (fun k => by show gatelinelaw11_TrackUnlike.j0 (k + 1) _ _ _ = _; rw [gatelinelaw11_TrackUnlike.j0, if_neg (by simp)]) (Ev.bind (tput l hb) (Ev.bind (tput m hb') ?_))
  by_cases h1 : (put l).2 = 0
  · simp only [if_pos h1]
    by_cases h2 : (put m).2 = 0
    · obtain ⟨n1, d1, e1⟩ := put_ok hb h1
      obtain ⟨n2, d2, e2⟩ := put_ok hb' h2
      have z : ((put m).2 != 0) = false := bne_eq_false_iff_eq.mpr h2
      rw [z, e1, e2]
      have p1 : (packL (bitsOf l)).length = (5 * l.length + 22) / 8 := by rw [packL_len, bitsOf_len]
      refine Ev.step (f := fun k => (gatelinelaw11_tracked.f k).bind fun t466 => (if t466 = true then ((gatelineref01_Same.f k (packL (bitsOf l)) (packL (bitsOf m))).bind fun t467 => ((gatelineref01_Same.f k l m).bind fun t468 => (if (t467 == t468) = true then some (((packL (bitsOf l)).length : Int) == (wrap64 (Int.tdiv (wrap64 ((wrap64 (5 * (l.length : Int))) + 22)) 8))) else none))) else none)) (fun k => by show gatelinelaw11_TrackUnlike.j1 (k + 1) _ _ _ _ _ = _; rw [gatelinelaw11_TrackUnlike.j1, if_neg (by simp)]) (Ev.bind tracked_ev ?_)
      refine Ev.congr (fun k => by rw [if_pos rfl]) (Ev.bind (same_ev (packL (bitsOf l)) (packL (bitsOf m)) (by omega)) (Ev.bind (same_ev l m (by omega)) ⟨0, fun k _ => ?_⟩))
      have hs : decide (packL (bitsOf l) = packL (bitsOf m)) = decide (l = m) := decide_eq_decide.mpr ⟨pack_inj d1 d2, fun e => by rw [e]⟩
      rw [hs, if_pos (by simp), wrap_in (n := 5 * (l.length : Int)) (by omega) (by omega), wrap_in (n := 5 * (l.length : Int) + 22) (by omega) (by omega), Int.tdiv_eq_ediv_of_nonneg (by omega), wrap_in (n := (5 * (l.length : Int) + 22) / 8) (by omega) (by omega), p1]
      simp only [Option.some.injEq, beq_iff_eq]
      omega
    · have z : ((put m).2 != 0) = true := bne_iff_ne.mpr h2
      rw [z]
      exact unlike_no _ _ _ _
  · simp only [if_neg h1]
    exact unlike_no _ _ _ _
end Go.Proofs.Ytfmpeojlaibblaa.Pure
