import Derived.Test.YtfmpeojlaibblaaBase3
set_option linter.unusedVariables false
set_option linter.unusedSimpArgs false

/- Written for this claim by a program of this session (handprint.py, over the kit's print). Lean checks it. -/
namespace Go.Proofs.Ytfmpeojlaibblaa.S
open Go.RowKit Go.Proofs.YtfmpeojlaibblaaW.PrintWords Go.Proofs.YtfmpeojlaibblaaW.PrintLast Go.Proofs.YtfmpeojlaibblaaW.PrintMore
attribute [local go_sem] max2_int min2_int max_two min_two max_three min_three max_four min_four   -- for this text's walks alone
set_option linter.unusedVariables false
set_option linter.unusedSimpArgs false

/-! ### gatelinelaw11_TrackPacks: function 10 -/
def gatelinelaw11_TrackPacks.j0 : Nat → List Bool → List Int → Bool → Option (Bool)
  | 0, _, _, _ => none
  | k + 1, x0, x1, x12 => if x12 = true then (some true) else ((gatelinelaw11_tracked.f k).bind fun t340 => (if t340 = true then ((track_Pack.f k x0).bind fun t341 => ((gatelineref11_Pack.f k x0).bind fun t344 => ((gatelineref01_Same.f k t341 t344).bind fun t347 => (if t347 = true then ((track_Unpack.f k x1).bind fun t348 => ((gatelineref11_Unpack.f k x1).bind fun t351 => ((gatelineref11_SameBits.f k t348 t351).bind fun t354 => (if t354 = true then ((track_Unpack.f k x1).bind fun t355 => ((track_Pack.f k t355).bind fun t358 => ((gatelineref01_Same.f k t358 x1).bind fun t361 => (some t361)))) else (none))))) else (none))))) else (none)))
def gatelinelaw11_TrackPacks.f (k : Nat) (l0 : List Bool) (l1 : List Int) : Option (Bool) := if (l0.length : Int) > 5000 then (gatelinelaw11_TrackPacks.j0 k l0 l1 true) else (gatelinelaw11_TrackPacks.j0 k l0 l1 (decide ((l1.length : Int) > 1000)))
theorem gatelinelaw11_TrackPacks.mono_l : ∀ k, (∀ y0 y1 y2, LeO (gatelinelaw11_TrackPacks.j0 k y0 y1 y2) (gatelinelaw11_TrackPacks.j0 (k + 1) y0 y1 y2))
  | 0 => fun _ _ _ r h => by simp [gatelinelaw11_TrackPacks.j0] at h
  | k + 1 => by
    have ih0 := gatelinelaw11_TrackPacks.mono_l k
    · intro y0 y1 y2
      unfold gatelinelaw11_TrackPacks.j0
      repeat' first
      | (with_reducible exact ih0 _ _ _)
      | (with_reducible exact gatelinelaw11_tracked.mono _)
      | (with_reducible exact gatelineref01_Same.mono _ _ _)
      | (with_reducible exact gatelineref11_Pack.mono _ _)
      | (with_reducible exact gatelineref11_SameBits.mono _ _ _)
      | (with_reducible exact gatelineref11_Unpack.mono _ _)
      | (with_reducible exact track_Pack.mono _ _)
      | (with_reducible exact track_Unpack.mono _ _)
      | (with_reducible exact LeO.refl _)
      | (with_reducible exact LeO.none _)
      | (with_reducible refine LeO.ite ?_ ?_)
      | (with_reducible refine LeO.bind ?_ (fun _ => ?_))
      | exact ih0 _ _ _
      | exact gatelinelaw11_tracked.mono _
      | exact gatelineref01_Same.mono _ _ _
      | exact gatelineref11_Pack.mono _ _
      | exact gatelineref11_SameBits.mono _ _ _
      | exact gatelineref11_Unpack.mono _ _
      | exact track_Pack.mono _ _
      | exact track_Unpack.mono _ _
      | exact LeO.none _
      | refine LeO.ite ?_ ?_
      | refine LeO.bind ?_ (fun _ => ?_)
theorem gatelinelaw11_TrackPacks.mono : ∀ a0 a1 k, LeO (gatelinelaw11_TrackPacks.f k a0 a1) (gatelinelaw11_TrackPacks.f (k + 1) a0 a1) := by
  intro a0 a1 k
  have ih0 := gatelinelaw11_TrackPacks.mono_l k
  unfold gatelinelaw11_TrackPacks.f
  repeat' first
      | (with_reducible exact ih0 _ _ _)
      | (with_reducible exact gatelinelaw11_tracked.mono _)
      | (with_reducible exact gatelineref01_Same.mono _ _ _)
      | (with_reducible exact gatelineref11_Pack.mono _ _)
      | (with_reducible exact gatelineref11_SameBits.mono _ _ _)
      | (with_reducible exact gatelineref11_Unpack.mono _ _)
      | (with_reducible exact track_Pack.mono _ _)
      | (with_reducible exact track_Unpack.mono _ _)
      | (with_reducible exact LeO.refl _)
      | (with_reducible exact LeO.none _)
      | (with_reducible refine LeO.ite ?_ ?_)
      | (with_reducible refine LeO.bind ?_ (fun _ => ?_))
      | exact ih0 _ _ _
      | exact gatelinelaw11_tracked.mono _
      | exact gatelineref01_Same.mono _ _ _
      | exact gatelineref11_Pack.mono _ _
      | exact gatelineref11_SameBits.mono _ _ _
      | exact gatelineref11_Unpack.mono _ _
      | exact track_Pack.mono _ _
      | exact track_Unpack.mono _ _
      | exact LeO.none _
      | refine LeO.ite ?_ ?_
      | refine LeO.bind ?_ (fun _ => ?_)
set_option maxHeartbeats 8000000 in
set_option maxRecDepth 100000 in
theorem gatelinelaw11_TrackPacks.calls (k : Nat) (A0 : Option Addr) (c0 : Nat) (l0 : List Bool) (A1 : Option Addr) (c1 : Nat) (l1 : List Int) (r : Bool) (w : World) (hr0 : Kd.C Kd.bool w A0 l0.length l0) (hc0 : l0.length ≤ c0) (hr1 : Kd.C (Kd.int .u8) w A1 l1.length l1) (hc1 : l1.length ≤ c1) (h : gatelinelaw11_TrackPacks.f k l0 l1 = some r) :
    Calls Try.prog 10 #[.slice A0 l0.length c0, .slice A1 l1.length c1] w fun e w' => e = .returned (.bool r) ∧ Below w.heap.size w w' := by
  have HR0 := Aside0.mk hr0
  have HC0 := Aside0.mk hc0
  clear hr0 hc0
  have HR1 := Aside0.mk hr1
  have HC1 := Aside0.mk hc1
  clear hr1 hc1
  have HB := Aside0.mk (Below.refl w.heap.size w)
  have H : (if (l0.length : Int) > 5000 then (gatelinelaw11_TrackPacks.j0 k l0 l1 true) else (gatelinelaw11_TrackPacks.j0 k l0 l1 (decide ((l1.length : Int) > 1000)))) = some r := h
  clear h
  have HC3 := Aside0.mk H
  clear H
  go_enter Try.func10, Try.ntmps10
  go_upto_region 1 with (fail)
  go_cut [12] (fun v12 wc => ∃ (kq : Nat) (x12_2 : Bool), v12 = .bool x12_2 ∧ Aside0 (gatelinelaw11_TrackPacks.j0 kq l0 l1 x12_2 = some r) ∧ Aside0 (kq ≤ k) ∧ Aside0 (Below w.heap.size w wc))
  case first =>
    have H := HC3.out
    clear HC3
    by_cases c4 : (l0.length : Int) > 5000
    · rw [if_pos c4] at H
      have c4b0 : decide (5000 < (l0.length : Int)) = true := decide_eq_true c4
      have c4b1 : decide (5000 < l0.length) = true := decide_eq_true (by omega)
      clear c4
      (first | rw [c4b0] | (simp only [i64_w, i32_w]; rw [c4b0]) | skip)
      have H' := Aside0.mk H
      clear H
      go_wp2
      go_meet
      case rel => exact ⟨_, (true), (by first | rfl | (simp; done) | (simp [*]; done)), H', ⟨by first | omega | exact Nat.le_refl _⟩, ⟨by repeat (first | (with_reducible first | exact HB.out | apply below_alloc | apply pw_below_drewN | apply below_drew1) | exact HB.out)⟩⟩
    · rw [if_neg c4] at H
      have c4b0 : decide (5000 < (l0.length : Int)) = false := decide_eq_false c4
      have c4b1 : decide (5000 < l0.length) = false := decide_eq_false (by omega)
      clear c4
      (first | rw [c4b0] | (simp only [i64_w, i32_w]; rw [c4b0]) | skip)
      have H' := Aside0.mk H
      clear H
      go_wp2
      go_meet
      case rel => exact ⟨_, (decide ((l1.length : Int) > 1000)), (by first | rfl | (simp; done) | (simp [*]; done)), H', ⟨by first | omega | exact Nat.le_refl _⟩, ⟨by repeat (first | (with_reducible first | exact HB.out | apply below_alloc | apply pw_below_drewN | apply below_drew1) | exact HB.out)⟩⟩
  case rest =>
    clear HC3
    try clear c1
    try clear p2
    try clear c4
    try clear c4b0
    try clear c4b1
    obtain ⟨kq, x12_2, rfl, HA, HJ2, HB⟩ := hcut
    cases kq with
    | zero => exact absurd HA.out (by simp [gatelinelaw11_TrackPacks.j0])
    | succ kj2 =>
      have H := HA.out
      clear HA
      simp only [gatelinelaw11_TrackPacks.j0] at H
      by_cases c5 : x12_2 = true
      · subst c5
        have H1 : (some true) = some r := by rw [if_pos rfl] at H; exact H
        clear H
        have H := H1
        clear H1
        obtain rfl := Option.some.inj H
        go_wp2
        go_ret
        exact ⟨by first | rfl | (simp [errW_none, errW_some] <;> rfl) | (simp [*, errW_none, errW_some] <;> rfl), by repeat (first | (with_reducible first | exact HB.out | apply below_alloc | apply pw_below_drewN | apply below_drew1) | exact HB.out)⟩
      · replace c5 := Bool.eq_false_iff.mpr c5
        subst c5
        have H1 : ((gatelinelaw11_tracked.f kj2).bind fun t340 => (if t340 = true then ((track_Pack.f kj2 l0).bind fun t341 => ((gatelineref11_Pack.f kj2 l0).bind fun t344 => ((gatelineref01_Same.f kj2 t341 t344).bind fun t347 => (if t347 = true then ((track_Unpack.f kj2 l1).bind fun t348 => ((gatelineref11_Unpack.f kj2 l1).bind fun t351 => ((gatelineref11_SameBits.f kj2 t348 t351).bind fun t354 => (if t354 = true then ((track_Unpack.f kj2 l1).bind fun t355 => ((track_Pack.f kj2 t355).bind fun t358 => ((gatelineref01_Same.f kj2 t358 l1).bind fun t361 => (some t361)))) else (none))))) else (none))))) else (none))) = some r := by rw [if_neg (show ¬ (false = true) by decide)] at H; exact H
        clear H
        have H := H1
        clear H1
        replace H := Option.bind_eq_some_iff.mp H
        obtain ⟨t340, A60, H⟩ := H
        replace H : (if t340 = true then ((track_Pack.f kj2 l0).bind fun t341 => ((gatelineref11_Pack.f kj2 l0).bind fun t344 => ((gatelineref01_Same.f kj2 t341 t344).bind fun t347 => (if t347 = true then ((track_Unpack.f kj2 l1).bind fun t348 => ((gatelineref11_Unpack.f kj2 l1).bind fun t351 => ((gatelineref11_SameBits.f kj2 t348 t351).bind fun t354 => (if t354 = true then ((track_Unpack.f kj2 l1).bind fun t355 => ((track_Pack.f kj2 t355).bind fun t358 => ((gatelineref01_Same.f kj2 t358 l1).bind fun t361 => (some t361)))) else (none))))) else (none))))) else (none)) = some r := H
        have A6 := Aside0.mk A60
        clear A60
        by_cases c7 : t340 = true
        · subst c7
          have H1 : ((track_Pack.f kj2 l0).bind fun t341 => ((gatelineref11_Pack.f kj2 l0).bind fun t344 => ((gatelineref01_Same.f kj2 t341 t344).bind fun t347 => (if t347 = true then ((track_Unpack.f kj2 l1).bind fun t348 => ((gatelineref11_Unpack.f kj2 l1).bind fun t351 => ((gatelineref11_SameBits.f kj2 t348 t351).bind fun t354 => (if t354 = true then ((track_Unpack.f kj2 l1).bind fun t355 => ((track_Pack.f kj2 t355).bind fun t358 => ((gatelineref01_Same.f kj2 t358 l1).bind fun t361 => (some t361)))) else (none))))) else (none))))) = some r := by rw [if_pos rfl] at H; exact H
          clear H
          have H := H1
          clear H1
          replace H := Option.bind_eq_some_iff.mp H
          obtain ⟨t341, A80, H⟩ := H
          replace H : ((gatelineref11_Pack.f kj2 l0).bind fun t344 => ((gatelineref01_Same.f kj2 t341 t344).bind fun t347 => (if t347 = true then ((track_Unpack.f kj2 l1).bind fun t348 => ((gatelineref11_Unpack.f kj2 l1).bind fun t351 => ((gatelineref11_SameBits.f kj2 t348 t351).bind fun t354 => (if t354 = true then ((track_Unpack.f kj2 l1).bind fun t355 => ((track_Pack.f kj2 t355).bind fun t358 => ((gatelineref01_Same.f kj2 t358 l1).bind fun t361 => (some t361)))) else (none))))) else (none)))) = some r := H
          have A8 := Aside0.mk A80
          clear A80
          replace H := Option.bind_eq_some_iff.mp H
          obtain ⟨t344, A90, H⟩ := H
          replace H : ((gatelineref01_Same.f kj2 t341 t344).bind fun t347 => (if t347 = true then ((track_Unpack.f kj2 l1).bind fun t348 => ((gatelineref11_Unpack.f kj2 l1).bind fun t351 => ((gatelineref11_SameBits.f kj2 t348 t351).bind fun t354 => (if t354 = true then ((track_Unpack.f kj2 l1).bind fun t355 => ((track_Pack.f kj2 t355).bind fun t358 => ((gatelineref01_Same.f kj2 t358 l1).bind fun t361 => (some t361)))) else (none))))) else (none))) = some r := H
          have A9 := Aside0.mk A90
          clear A90
          replace H := Option.bind_eq_some_iff.mp H
          obtain ⟨t347, A100, H⟩ := H
          replace H : (if t347 = true then ((track_Unpack.f kj2 l1).bind fun t348 => ((gatelineref11_Unpack.f kj2 l1).bind fun t351 => ((gatelineref11_SameBits.f kj2 t348 t351).bind fun t354 => (if t354 = true then ((track_Unpack.f kj2 l1).bind fun t355 => ((track_Pack.f kj2 t355).bind fun t358 => ((gatelineref01_Same.f kj2 t358 l1).bind fun t361 => (some t361)))) else (none))))) else (none)) = some r := H
          have A10 := Aside0.mk A100
          clear A100
          by_cases c11 : t347 = true
          · subst c11
            have H1 : ((track_Unpack.f kj2 l1).bind fun t348 => ((gatelineref11_Unpack.f kj2 l1).bind fun t351 => ((gatelineref11_SameBits.f kj2 t348 t351).bind fun t354 => (if t354 = true then ((track_Unpack.f kj2 l1).bind fun t355 => ((track_Pack.f kj2 t355).bind fun t358 => ((gatelineref01_Same.f kj2 t358 l1).bind fun t361 => (some t361)))) else (none))))) = some r := by rw [if_pos rfl] at H; exact H
            clear H
            have H := H1
            clear H1
            replace H := Option.bind_eq_some_iff.mp H
            obtain ⟨t348, A120, H⟩ := H
            replace H : ((gatelineref11_Unpack.f kj2 l1).bind fun t351 => ((gatelineref11_SameBits.f kj2 t348 t351).bind fun t354 => (if t354 = true then ((track_Unpack.f kj2 l1).bind fun t355 => ((track_Pack.f kj2 t355).bind fun t358 => ((gatelineref01_Same.f kj2 t358 l1).bind fun t361 => (some t361)))) else (none)))) = some r := H
            have A12 := Aside0.mk A120
            clear A120
            replace H := Option.bind_eq_some_iff.mp H
            obtain ⟨t351, A130, H⟩ := H
            replace H : ((gatelineref11_SameBits.f kj2 t348 t351).bind fun t354 => (if t354 = true then ((track_Unpack.f kj2 l1).bind fun t355 => ((track_Pack.f kj2 t355).bind fun t358 => ((gatelineref01_Same.f kj2 t358 l1).bind fun t361 => (some t361)))) else (none))) = some r := H
            have A13 := Aside0.mk A130
            clear A130
            replace H := Option.bind_eq_some_iff.mp H
            obtain ⟨t354, A140, H⟩ := H
            replace H : (if t354 = true then ((track_Unpack.f kj2 l1).bind fun t355 => ((track_Pack.f kj2 t355).bind fun t358 => ((gatelineref01_Same.f kj2 t358 l1).bind fun t361 => (some t361)))) else (none)) = some r := H
            have A14 := Aside0.mk A140
            clear A140
            by_cases c15 : t354 = true
            · subst c15
              have H1 : ((track_Unpack.f kj2 l1).bind fun t355 => ((track_Pack.f kj2 t355).bind fun t358 => ((gatelineref01_Same.f kj2 t358 l1).bind fun t361 => (some t361)))) = some r := by rw [if_pos rfl] at H; exact H
              clear H
              have H := H1
              clear H1
              replace H := Option.bind_eq_some_iff.mp H
              obtain ⟨t355, A160, H⟩ := H
              replace H : ((track_Pack.f kj2 t355).bind fun t358 => ((gatelineref01_Same.f kj2 t358 l1).bind fun t361 => (some t361))) = some r := H
              have A16 := Aside0.mk A160
              clear A160
              replace H := Option.bind_eq_some_iff.mp H
              obtain ⟨t358, A170, H⟩ := H
              replace H : ((gatelineref01_Same.f kj2 t358 l1).bind fun t361 => (some t361)) = some r := H
              have A17 := Aside0.mk A170
              clear A170
              replace H := Option.bind_eq_some_iff.mp H
              obtain ⟨t361, A180, H⟩ := H
              replace H : (some t361) = some r := H
              have A18 := Aside0.mk A180
              clear A180
              obtain rfl := Option.some.inj H
              go_wp2_with (first | ((with_reducible refine gate_callee (f := 34) rfl ?_); refine goesL_ (some 13) rfl rfl Try.func34 (by kernel_rfl) rfl #[] rfl (by (try simp only [List.map_toArray, List.map_cons, List.map_nil]); first | done | rfl | (simp only [List.length_drop, List.length_take]; rfl)) ?_; (with_reducible refine (gatelinelaw11_tracked.calls kj2  true _ A6.out).mono ?_); rintro e w19 ⟨rfl, hb⟩; refine ⟨_, rfl, ?_⟩; have n0_ := Aside0.mk (below_step (by repeat (first | (with_reducible first | exact HB.out | apply below_alloc | apply pw_below_drewN | apply below_drew1) | exact HB.out)) hb); clear HB; have HB := n0_; clear n0_; (try clear hb); (try clear hb2); (try clear hk); (try clear hi)) | (go_at_call 35; (with_reducible refine (track_Pack.calls kj2 _ _ l0 t341 _ ?side1 ?side2 A8.out).mono ?_); (case side1 => repeat (first | exact (Kd.C_below HR0.out HB.out) | (with_reducible refine Kd.C_alloc ?_ _) | (with_reducible refine Kd.C_drewN ?_ _) | (with_reducible refine Kd.C_drew ?_))); (case side2 => exact HC0.out); rintro e w20 ⟨v342, rfl, ho0, hb⟩; have n0_ := Aside0.mk (Kd.R_lower ho0 (below_size (by repeat (first | (with_reducible first | exact HB.out | apply below_alloc | apply pw_below_drewN | apply below_drew1) | exact HB.out)))); have n1_ := Aside0.mk (below_step (by repeat (first | (with_reducible first | exact HB.out | apply below_alloc | apply pw_below_drewN | apply below_drew1) | exact HB.out)) hb); clear HB; have HO343 := n0_; have HB := n1_; clear n0_ n1_; (try clear hb); (try clear hb2); (try clear hk); (try clear hi); (try clear ho0)) | (go_at_call 36; (with_reducible refine (gatelineref11_Pack.calls kj2 _ _ l0 t344 _ ?side1 ?side2 A9.out).mono ?_); (case side1 => repeat (first | exact (Kd.C_below HR0.out HB.out) | (with_reducible refine Kd.C_alloc ?_ _) | (with_reducible refine Kd.C_drewN ?_ _) | (with_reducible refine Kd.C_drew ?_))); (case side2 => exact HC0.out); rintro e w21 ⟨v345, rfl, ho0, hb⟩; have n0_ := Aside0.mk (Kd.R_elder' (by (with_reducible repeat (first | apply Kd.R_alloc | apply Kd.R_drewN | apply Kd.R_drew)); exact HO343.out) (Kd.R_base ho0) hb); have n1_ := Aside0.mk (Kd.R_lower (Kd.R_new' ho0 (Kd.R_lt (by (with_reducible repeat (first | apply Kd.R_alloc | apply Kd.R_drewN | apply Kd.R_drew)); exact HO343.out))) (below_size (by repeat (first | (with_reducible first | exact HB.out | apply below_alloc | apply pw_below_drewN | apply below_drew1) | exact HB.out)))); have n2_ := Aside0.mk (below_step (by repeat (first | (with_reducible first | exact HB.out | apply below_alloc | apply pw_below_drewN | apply below_drew1) | exact HB.out)) hb); clear HO343; clear HB; have HO343 := n0_; have HO346 := n1_; have HB := n2_; clear n0_ n1_ n2_; (try clear hb); (try clear hb2); (try clear hk); (try clear hi); (try clear ho0); obtain ⟨Ao22, co22, eo22⟩ := Kd.R_slice HO343.out; subst eo22; obtain ⟨Ao23, co23, eo23⟩ := Kd.R_slice HO346.out; subst eo23) | (go_at_call 20; (with_reducible refine (gatelineref01_Same.calls kj2 _ _ t341 _ _ t344 true _ ?side1 ?side2 ?side3 ?side4 A10.out).mono ?_); (case side1 => repeat (first | exact (Kd.R_reads' HO343.out).2.2 | (with_reducible refine Kd.C_alloc ?_ _) | (with_reducible refine Kd.C_drewN ?_ _) | (with_reducible refine Kd.C_drew ?_))); (case side2 => exact (Kd.R_reads' HO343.out).2.1); (case side3 => repeat (first | exact (Kd.R_reads' HO346.out).2.2 | (with_reducible refine Kd.C_alloc ?_ _) | (with_reducible refine Kd.C_drewN ?_ _) | (with_reducible refine Kd.C_drew ?_))); (case side4 => exact (Kd.R_reads' HO346.out).2.1); rintro e w' ⟨rfl, ⟨nd, rfl⟩⟩) | (go_at_call 38; (with_reducible refine (track_Unpack.calls kj2 _ _ l1 t348 _ ?side1 ?side2 A12.out).mono ?_); (case side1 => repeat (first | exact (Kd.C_below HR1.out (by repeat (first | (with_reducible first | exact HB.out | apply below_alloc | apply pw_below_drewN | apply below_drew1) | exact HB.out))) | (with_reducible refine Kd.C_alloc ?_ _) | (with_reducible refine Kd.C_drewN ?_ _) | (with_reducible refine Kd.C_drew ?_))); (case side2 => exact HC1.out); clear A12; rintro e w24 ⟨v349, rfl, ho0, hb⟩; have n0_ := Aside0.mk (Kd.R_below (by (with_reducible repeat (first | apply Kd.R_alloc | apply Kd.R_drewN | apply Kd.R_drew)); exact HO343.out) hb); have n1_ := Aside0.mk (Kd.R_below (by (with_reducible repeat (first | apply Kd.R_alloc | apply Kd.R_drewN | apply Kd.R_drew)); exact HO346.out) hb); have n2_ := Aside0.mk (Kd.R_lower ho0 (below_size (by repeat (first | (with_reducible first | exact HB.out | apply below_alloc | apply pw_below_drewN | apply below_drew1) | exact HB.out)))); have n3_ := Aside0.mk (below_step (by repeat (first | (with_reducible first | exact HB.out | apply below_alloc | apply pw_below_drewN | apply below_drew1) | exact HB.out)) hb); clear HO343; clear HO346; clear HB; have HO343 := n0_; have HO346 := n1_; have HO350 := n2_; have HB := n3_; clear n0_ n1_ n2_ n3_; (try clear hb); (try clear hb2); (try clear hk); (try clear hi); (try clear ho0)) | (go_at_call 39; (with_reducible refine (gatelineref11_Unpack.calls kj2 _ _ l1 t351 _ ?side1 ?side2 A13.out).mono ?_); (case side1 => repeat (first | exact (Kd.C_below HR1.out HB.out) | (with_reducible refine Kd.C_alloc ?_ _) | (with_reducible refine Kd.C_drewN ?_ _) | (with_reducible refine Kd.C_drew ?_))); (case side2 => exact HC1.out); rintro e w25 ⟨v352, rfl, ho0, hb⟩; have n0_ := Aside0.mk (Kd.R_below (by (with_reducible repeat (first | apply Kd.R_alloc | apply Kd.R_drewN | apply Kd.R_drew)); exact HO343.out) hb); have n1_ := Aside0.mk (Kd.R_below (by (with_reducible repeat (first | apply Kd.R_alloc | apply Kd.R_drewN | apply Kd.R_drew)); exact HO346.out) hb); have n2_ := Aside0.mk (Kd.R_elder' (by (with_reducible repeat (first | apply Kd.R_alloc | apply Kd.R_drewN | apply Kd.R_drew)); exact HO350.out) (Kd.R_base ho0) hb); have n3_ := Aside0.mk (Kd.R_lower (Kd.R_new' ho0 (Kd.R_lt (by (with_reducible repeat (first | apply Kd.R_alloc | apply Kd.R_drewN | apply Kd.R_drew)); exact HO350.out))) (below_size (by repeat (first | (with_reducible first | exact HB.out | apply below_alloc | apply pw_below_drewN | apply below_drew1) | exact HB.out)))); have n4_ := Aside0.mk (below_step (by repeat (first | (with_reducible first | exact HB.out | apply below_alloc | apply pw_below_drewN | apply below_drew1) | exact HB.out)) hb); clear HO343; clear HO346; clear HO350; clear HB; have HO343 := n0_; have HO346 := n1_; have HO350 := n2_; have HO353 := n3_; have HB := n4_; clear n0_ n1_ n2_ n3_ n4_; (try clear hb); (try clear hb2); (try clear hk); (try clear hi); (try clear ho0); obtain ⟨Ao26, co26, eo26⟩ := Kd.R_slice HO350.out; subst eo26; obtain ⟨Ao27, co27, eo27⟩ := Kd.R_slice HO353.out; subst eo27) | (go_at_call 37; (with_reducible refine (gatelineref11_SameBits.calls kj2 _ _ t348 _ _ t351 true _ ?side1 ?side2 ?side3 ?side4 A14.out).mono ?_); (case side1 => repeat (first | exact (Kd.R_reads' HO350.out).2.2 | (with_reducible refine Kd.C_alloc ?_ _) | (with_reducible refine Kd.C_drewN ?_ _) | (with_reducible refine Kd.C_drew ?_))); (case side2 => exact (Kd.R_reads' HO350.out).2.1); (case side3 => repeat (first | exact (Kd.R_reads' HO353.out).2.2 | (with_reducible refine Kd.C_alloc ?_ _) | (with_reducible refine Kd.C_drewN ?_ _) | (with_reducible refine Kd.C_drew ?_))); (case side4 => exact (Kd.R_reads' HO353.out).2.1); rintro e w' ⟨rfl, ⟨nd, rfl⟩⟩) | (go_at_call 38; (with_reducible refine (track_Unpack.calls kj2 _ _ l1 t355 _ ?side1 ?side2 A16.out).mono ?_); (case side1 => repeat (first | exact (Kd.C_below HR1.out (by repeat (first | (with_reducible first | exact HB.out | apply below_alloc | apply pw_below_drewN | apply below_drew1) | exact HB.out))) | (with_reducible refine Kd.C_alloc ?_ _) | (with_reducible refine Kd.C_drewN ?_ _) | (with_reducible refine Kd.C_drew ?_))); (case side2 => exact HC1.out); rintro e w28 ⟨v356, rfl, ho0, hb⟩; have n0_ := Aside0.mk (Kd.R_below (by (with_reducible repeat (first | apply Kd.R_alloc | apply Kd.R_drewN | apply Kd.R_drew)); exact HO343.out) hb); have n1_ := Aside0.mk (Kd.R_below (by (with_reducible repeat (first | apply Kd.R_alloc | apply Kd.R_drewN | apply Kd.R_drew)); exact HO346.out) hb); have n2_ := Aside0.mk (Kd.R_elder' (by (with_reducible repeat (first | apply Kd.R_alloc | apply Kd.R_drewN | apply Kd.R_drew)); exact HO350.out) (Kd.R_base ho0) hb); have n3_ := Aside0.mk (Kd.R_elder' (by (with_reducible repeat (first | apply Kd.R_alloc | apply Kd.R_drewN | apply Kd.R_drew)); exact HO353.out) (Kd.R_base ho0) hb); have n4_ := Aside0.mk (Kd.R_lower (Kd.R_new' (Kd.R_new' ho0 (Kd.R_lt (by (with_reducible repeat (first | apply Kd.R_alloc | apply Kd.R_drewN | apply Kd.R_drew)); exact HO350.out))) (Kd.R_lt (by (with_reducible repeat (first | apply Kd.R_alloc | apply Kd.R_drewN | apply Kd.R_drew)); exact HO353.out))) (below_size (by repeat (first | (with_reducible first | exact HB.out | apply below_alloc | apply pw_below_drewN | apply below_drew1) | exact HB.out)))); have n5_ := Aside0.mk (below_step (by repeat (first | (with_reducible first | exact HB.out | apply below_alloc | apply pw_below_drewN | apply below_drew1) | exact HB.out)) hb); clear HO343; clear HO346; clear HO350; clear HO353; clear HB; have HO343 := n0_; have HO346 := n1_; have HO350 := n2_; have HO353 := n3_; have HO357 := n4_; have HB := n5_; clear n0_ n1_ n2_ n3_ n4_ n5_; (try clear hb); (try clear hb2); (try clear hk); (try clear hi); (try clear ho0); obtain ⟨Ao29, co29, eo29⟩ := Kd.R_slice HO357.out; subst eo29) | (go_at_call 35; (with_reducible refine (track_Pack.calls kj2 _ _ t355 t358 _ ?side1 ?side2 A17.out).mono ?_); (case side1 => repeat (first | exact (Kd.R_reads' HO357.out).2.2 | (with_reducible refine Kd.C_alloc ?_ _) | (with_reducible refine Kd.C_drewN ?_ _) | (with_reducible refine Kd.C_drew ?_))); (case side2 => exact (Kd.R_reads' HO357.out).2.1); rintro e w30 ⟨v359, rfl, ho0, hb⟩; have n0_ := Aside0.mk (Kd.R_elder' (by (with_reducible repeat (first | apply Kd.R_alloc | apply Kd.R_drewN | apply Kd.R_drew)); exact HO343.out) (Kd.R_base ho0) hb); have n1_ := Aside0.mk (Kd.R_elder' (by (with_reducible repeat (first | apply Kd.R_alloc | apply Kd.R_drewN | apply Kd.R_drew)); exact HO346.out) (Kd.R_base ho0) hb); have n2_ := Aside0.mk (Kd.R_below (by (with_reducible repeat (first | apply Kd.R_alloc | apply Kd.R_drewN | apply Kd.R_drew)); exact HO350.out) hb); have n3_ := Aside0.mk (Kd.R_below (by (with_reducible repeat (first | apply Kd.R_alloc | apply Kd.R_drewN | apply Kd.R_drew)); exact HO353.out) hb); have n4_ := Aside0.mk (Kd.R_below (by (with_reducible repeat (first | apply Kd.R_alloc | apply Kd.R_drewN | apply Kd.R_drew)); exact HO357.out) hb); have n5_ := Aside0.mk (Kd.R_lower (Kd.R_new' (Kd.R_new' ho0 (Kd.R_lt (by (with_reducible repeat (first | apply Kd.R_alloc | apply Kd.R_drewN | apply Kd.R_drew)); exact HO343.out))) (Kd.R_lt (by (with_reducible repeat (first | apply Kd.R_alloc | apply Kd.R_drewN | apply Kd.R_drew)); exact HO346.out))) (below_size (by repeat (first | (with_reducible first | exact HB.out | apply below_alloc | apply pw_below_drewN | apply below_drew1) | exact HB.out)))); have n6_ := Aside0.mk (below_step (by repeat (first | (with_reducible first | exact HB.out | apply below_alloc | apply pw_below_drewN | apply below_drew1) | exact HB.out)) hb); clear HO343; clear HO346; clear HO350; clear HO353; clear HO357; clear HB; have HO343 := n0_; have HO346 := n1_; have HO350 := n2_; have HO353 := n3_; have HO357 := n4_; have HO360 := n5_; have HB := n6_; clear n0_ n1_ n2_ n3_ n4_ n5_ n6_; (try clear hb); (try clear hb2); (try clear hk); (try clear hi); (try clear ho0); obtain ⟨Ao31, co31, eo31⟩ := Kd.R_slice HO360.out; subst eo31) | (go_at_call 20; (with_reducible refine (gatelineref01_Same.calls kj2 _ _ t358 _ _ l1 t361 _ ?side1 ?side2 ?side3 ?side4 A18.out).mono ?_); (case side1 => repeat (first | exact (Kd.R_reads' HO360.out).2.2 | (with_reducible refine Kd.C_alloc ?_ _) | (with_reducible refine Kd.C_drewN ?_ _) | (with_reducible refine Kd.C_drew ?_))); (case side2 => exact (Kd.R_reads' HO360.out).2.1); (case side3 => repeat (first | exact (Kd.C_below HR1.out HB.out) | (with_reducible refine Kd.C_alloc ?_ _) | (with_reducible refine Kd.C_drewN ?_ _) | (with_reducible refine Kd.C_drew ?_))); (case side4 => exact HC1.out); rintro e w' ⟨rfl, ⟨nd, rfl⟩⟩))
              go_ret
              exact ⟨by first | rfl | (simp [errW_none, errW_some] <;> rfl) | (simp [*, errW_none, errW_some] <;> rfl), by repeat (first | (with_reducible first | exact HB.out | apply below_alloc | apply pw_below_drewN | apply below_drew1) | exact HB.out)⟩
            · replace c15 := Bool.eq_false_iff.mpr c15
              subst c15
              have H1 : (none) = some r := by rw [if_neg (show ¬ (false = true) by decide)] at H; exact H
              clear H
              have H := H1
              clear H1
              exact absurd H (by simp)
          · replace c11 := Bool.eq_false_iff.mpr c11
            subst c11
            have H1 : (none) = some r := by rw [if_neg (show ¬ (false = true) by decide)] at H; exact H
            clear H
            have H := H1
            clear H1
            exact absurd H (by simp)
        · replace c7 := Bool.eq_false_iff.mpr c7
          subst c7
          have H1 : (none) = some r := by rw [if_neg (show ¬ (false = true) by decide)] at H; exact H
          clear H
          have H := H1
          clear H1
          exact absurd H (by simp)

end Go.Proofs.Ytfmpeojlaibblaa.S

/-
  TrackPacks, the plain part.
-/
namespace Go.Proofs.Ytfmpeojlaibblaa.Pure
open Go.RowKit Go.Proofs.Ytfmpeojlaibblaa.S Go.Proofs.YtfmpeojlaibblaaW.PrintWords Go.Proofs.YtfmpeojlaibblaaW.PrintLast

theorem samebits_l (l : List Bool) (hl : l.length ≤ 1000000) : ∀ d i, i + d = l.length → Ev (fun k => gatelineref11_SameBits.l0 k l l (i : Int)) true := by
  intro d
  induction d with
  | zero =>
    intro i hi
    refine Ev.step (f := fun _ => some true) (fun k => ?_) (Ev.now _)
    show gatelineref11_SameBits.l0 (k + 1) _ _ _ = _
    rw [gatelineref11_SameBits.l0, if_neg (by omega)]
  | succ d ih =>
    intro i hi
    refine Ev.step (fun k => ?_) (ih (i + 1) (by omega))
    show gatelineref11_SameBits.l0 (k + 1) _ _ _ = _
    rw [gatelineref11_SameBits.l0, if_pos (by omega), if_pos (by omega), if_pos (by omega), if_neg (by simp), wrap_in (n := (i : Int) + 1) (by omega) (by omega)]
    rfl
theorem samebits (l : List Bool) (hl : l.length ≤ 1000000) : Ev (fun k => gatelineref11_SameBits.f k l l) true := by
  unfold gatelineref11_SameBits.f
  simp only [if_true]
  exact samebits_l l hl l.length 0 (by omega)
theorem TrackPacks (l : List Bool) (b : List Int) (hb : AllB b) : ∃ k, gatelinelaw11_TrackPacks.f k l b = some true := by
  refine Ev.rounds (r := true) ?_
  have hno : Ev (fun k => gatelinelaw11_TrackPacks.j0 k l b true) true := Ev.step (f := fun _ => some true) (fun k => by show gatelinelaw11_TrackPacks.j0 (k + 1) _ _ _ = _; rw [gatelinelaw11_TrackPacks.j0, if_pos rfl]) (Ev.now _)
  unfold gatelinelaw11_TrackPacks.f
  by_cases h : (l.length : Int) > 5000
  · simp only [if_pos h]; exact hno
  simp only [if_neg h]
  by_cases h' : (b.length : Int) > 1000
  · rw [decide_eq_true h']; exact hno
  rw [decide_eq_false h']
  have hu := unpackL_len b
  have hp : (packL l).length = (l.length + 7) / 8 := packL_len l
  refine Ev.step (f := fun k => ((gatelinelaw11_tracked.f k).bind fun t340 => (if t340 = true then ((track_Pack.f k l).bind fun t341 => ((gatelineref11_Pack.f k l).bind fun t344 => ((gatelineref01_Same.f k t341 t344).bind fun t347 => (if t347 = true then ((track_Unpack.f k b).bind fun t348 => ((gatelineref11_Unpack.f k b).bind fun t351 => ((gatelineref11_SameBits.f k t348 t351).bind fun t354 => (if t354 = true then ((track_Unpack.f k b).bind fun t355 => ((track_Pack.f k t355).bind fun t358 => ((gatelineref01_Same.f k t358 b).bind fun t361 => (some t361)))) else (none))))) else (none))))) else (none)))) (fun k => by show gatelinelaw11_TrackPacks.j0 (k + 1) _ _ _ = _; rw [gatelinelaw11_TrackPacks.j0, if_neg (by simp)]) (Ev.bind tracked_ev ?_)
  refine Ev.congr (fun k => by rw [if_pos rfl]) (Ev.bind (tpack l (by omega)) (Ev.bind (rpack l (by omega)) (Ev.bind (same_ev (packL l) (packL l) (by omega)) ?_)))
  refine Ev.congr (fun k => by rw [if_pos (by simp)]) (Ev.bind (tunpack b hb (by omega)) (Ev.bind (runpack b hb (by omega)) (Ev.bind (samebits (unpackL b) (by omega)) ?_)))
  refine Ev.congr (fun k => by rw [if_pos rfl]) (Ev.bind (tunpack b hb (by omega)) (Ev.bind (tpack (unpackL b) (by omega)) ?_))
  rw [pack_unpack b hb]
  exact Ev.bind (same_ev b b (by omega)) ⟨0, fun k _ => by simp⟩
theorem C_bools {w : World} {a0 : Option Addr} {len0 cap0 : Nat} {z0 : List Bool} (w0 : (a0 = none ∧ len0 = 0 ∧ cap0 = 0 ∧ z0 = []) ∨ ∃ x, a0 = some x ∧ len0 ≤ cap0 ∧ cap0 ≤ maxLen ∧ z0.length = cap0 ∧ (∀ i, i < z0.length → w.cell? (x.add i) = some (.bool (z0.getD i false)))) :
    ∃ l0 : List Bool, len0 = l0.length ∧ Kd.C Kd.bool w a0 l0.length l0 ∧ l0.length ≤ cap0 := by
  rcases w0 with ⟨rfl, rfl, rfl, rfl⟩ | ⟨x, rfl, h1, h2, h3, h4⟩
  · exact ⟨[], rfl, ⟨rfl, by simp, fun h => by simp at h⟩, by simp⟩
  · have hl : (z0.take len0).length = len0 := by rw [List.length_take]; omega
    refine ⟨z0.take len0, hl.symm, ⟨rfl, by rw [hl]; unfold maxLen at h2; omega, fun _ => ⟨x, rfl, ?_⟩⟩, by omega⟩
    intro j p hj
    have hjl : j < len0 := by
      have := (List.getElem?_eq_some_iff.mp hj).1
      omega
    refine ⟨[.bool p], rfl, rfl, fun i u hi => ?_⟩
    obtain rfl : i = 0 := by
      have := (List.getElem?_eq_some_iff.mp hi).1
      simpa using this
    simp at hi
    subst hi
    have := h4 j (by omega)
    rw [List.getElem?_take, if_pos hjl] at hj
    rw [List.getD_eq_getElem?_getD, hj] at this
    simpa [Kd.bool, Kd.scalar] using this
theorem TrackPacks_walk (a0 : Option Addr) (len0 cap0 : Nat) (z0 : List Bool) (a1 : Option Addr) (len1 cap1 : Nat) (z1 : List Int) (w : World)
    (w0 : (a0 = none ∧ len0 = 0 ∧ cap0 = 0 ∧ z0 = []) ∨ ∃ x, a0 = some x ∧ len0 ≤ cap0 ∧ cap0 ≤ maxLen ∧ z0.length = cap0 ∧ (∀ i, i < z0.length → w.cell? (x.add i) = some (.bool (z0.getD i false))))
    (w1 : (a1 = none ∧ len1 = 0 ∧ cap1 = 0 ∧ z1 = []) ∨ ∃ x, a1 = some x ∧ len1 ≤ cap1 ∧ cap1 ≤ maxLen ∧ z1.length = cap1 ∧ (∀ i, i < z1.length → w.cell? (x.add i) = some (.int .u8 (z1.getD i 0))) ∧ ∀ n ∈ z1, (Lit.int .u8 n).wf = true) :
    Calls Try.prog 10 #[.slice a0 len0 cap0, .slice a1 len1 cap1] w fun e w' => e = .returned (.bool true) ∧ Below w.heap.size w w' := by
  obtain ⟨l0, rfl, hr0, hc0⟩ := C_bools w0
  obtain ⟨l1, rfl, hr1, hm1, hw1, hc1⟩ := ReadsInt.ofRowC w1
  obtain ⟨k, h⟩ := TrackPacks l0 l1 (allB_of_wf hw1)
  exact gatelinelaw11_TrackPacks.calls k _ _ l0 _ _ l1 true w hr0 hc0 (Kd.C_of_reads (d := (0 : Int)) (h1 := fun _ => rfl) hr1) hc1 h
end Go.Proofs.Ytfmpeojlaibblaa.Pure
