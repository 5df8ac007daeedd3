import Derived.Test.YtfmpeojlaibblaaBase3
import Derived.LoopN
set_option linter.unusedVariables false
set_option linter.unusedSimpArgs false

/- Written for this claim by a program of this session (handprint.py, over the kit's print). Lean checks it. -/
namespace Go.Proofs.Ytfmpeojlaibblaa.S
open Go.RowKit Go.Proofs.YtfmpeojlaibblaaW.PrintWords Go.Proofs.YtfmpeojlaibblaaW.PrintLast Go.Proofs.YtfmpeojlaibblaaW.PrintMore
attribute [local go_sem] max2_int min2_int max_two min_two max_three min_three max_four min_four   -- for this text's walks alone
set_option linter.unusedVariables false
set_option linter.unusedSimpArgs false

/-! ### swipe_Turn: function 19 -/
def swipe_Turn.l0 : Nat → List Bool → Int → Int → Int → Option (List Int)
  | 0, _, _, _, _ => none
  | k + 1, x3, x4, x13, x14 => if x14 < x13 then (if 0 ≤ (wrap64 (x4 - x14)) then (if (wrap64 (x4 - x14)) < (x3.length : Int) then (if 0 ≤ x14 then (if x14 < (x3.length : Int) then (swipe_Turn.l0 k ((x3.set (x14 : Int).toNat (rdOf false x3 (wrap64 (x4 - x14)))).set ((wrap64 (x4 - x14)) : Int).toNat (rdOf false x3 x14)) x4 x13 (wrap64 (x14 + 1))) else (none)) else (none)) else (none)) else (none)) else ((track_Pack.f k x3).bind fun t476 => (some t476))
def swipe_Turn.f (k : Nat) (l0 : List Int) : Option (List Int) := (track_Unpack.f k l0).bind fun t469 => (swipe_Turn.l0 k t469 (wrap64 ((t469.length : Int) - 1)) (wrap64 ((t469.length : Int) / 2)) 0)
theorem swipe_Turn.mono_l : ∀ k, (∀ y0 y1 y2 y3, LeO (swipe_Turn.l0 k y0 y1 y2 y3) (swipe_Turn.l0 (k + 1) y0 y1 y2 y3))
  | 0 => fun _ _ _ _ r h => by simp [swipe_Turn.l0] at h
  | k + 1 => by
    have ih0 := swipe_Turn.mono_l k
    · intro y0 y1 y2 y3
      unfold swipe_Turn.l0
      repeat' first
      | (with_reducible exact ih0 _ _ _ _)
      | (with_reducible exact track_Pack.mono _ _)
      | (with_reducible exact track_Unpack.mono _ _)
      | (with_reducible exact LeO.refl _)
      | (with_reducible exact LeO.none _)
      | (with_reducible refine LeO.ite ?_ ?_)
      | (with_reducible refine LeO.bind ?_ (fun _ => ?_))
      | exact ih0 _ _ _ _
      | exact track_Pack.mono _ _
      | exact track_Unpack.mono _ _
      | exact LeO.none _
      | refine LeO.ite ?_ ?_
      | refine LeO.bind ?_ (fun _ => ?_)
theorem swipe_Turn.mono : ∀ a0 k, LeO (swipe_Turn.f k a0) (swipe_Turn.f (k + 1) a0) := by
  intro a0 k
  have ih0 := swipe_Turn.mono_l k
  unfold swipe_Turn.f
  repeat' first
      | (with_reducible exact ih0 _ _ _ _)
      | (with_reducible exact track_Pack.mono _ _)
      | (with_reducible exact track_Unpack.mono _ _)
      | (with_reducible exact LeO.refl _)
      | (with_reducible exact LeO.none _)
      | (with_reducible refine LeO.ite ?_ ?_)
      | (with_reducible refine LeO.bind ?_ (fun _ => ?_))
      | exact ih0 _ _ _ _
      | exact track_Pack.mono _ _
      | exact track_Unpack.mono _ _
      | exact LeO.none _
      | refine LeO.ite ?_ ?_
      | refine LeO.bind ?_ (fun _ => ?_)
def swipe_Turn.T6 : Bool × List (List Nat × List Nat) := (true, [([], []), ([], []), ([], []), ([], []), ([], []), ([3, 4], [3, 4]), ([], []), ([], []), ([], []), ([7, 8], [7, 8]), ([6, 9], [6, 9]), ([10], [10]), ([], []), ([], []), ([12, 13], [12, 13]), ([14], [14]), ([0, 1, 0, 1, 6, 7, 8, 9, 10, 11, 15], [0, 1]), ([16, 11, 0, 1, 6, 7, 8, 9, 10, 11, 15], [11, 16]), ([2, 5, 0, 1, 2, 3, 4, 5, 6, 7, 8, 9, 10, 11, 12, 13, 14, 15, 16, 17], [2, 5]), ([18, 15, 17, 0, 1, 2, 3, 4, 5, 6, 7, 8, 9, 10, 11, 12, 13, 14, 15, 16, 17], [15, 18])])
def swipe_Turn.B6 : List Nat := [0, 0, 0, 0, 0, 24, 0, 0, 0, 384, 960, 1984, 0, 0, 12288, 28672, 65475, 131011, 262143, 524287]
theorem swipe_Turn.tab6 : rtab .any (opsOf Try.f19 6) = swipe_Turn.T6 := by kernel_rfl
theorem swipe_Turn.bits6 : waitsOk swipe_Turn.T6.2 swipe_Turn.B6 = true := by kernel_rfl
set_option maxHeartbeats 8000000 in
set_option maxRecDepth 100000 in
theorem swipe_Turn.calls (k : Nat) (A0 : Option Addr) (c0 : Nat) (l0 : List Int) (r : List Int) (w : World) (hr0 : Kd.C (Kd.int .u8) w A0 l0.length l0) (hc0 : l0.length ≤ c0) (h : swipe_Turn.f k l0 = some r) :
    Calls Try.prog 19 #[.slice A0 l0.length c0] w fun e w' => ∃ v0_ : Value, e = .returned (v0_) ∧ Kd.R (Kd.int .u8) 5 w' w.heap.size (fun _ => True) v0_ r ∧ Below w.heap.size w w' := by
  have HR0 := Aside0.mk hr0
  have HC0 := Aside0.mk hc0
  clear hr0 hc0
  have HB := Aside0.mk (Below.refl w.heap.size w)
  have H : ((track_Unpack.f k l0).bind fun t469 => (swipe_Turn.l0 k t469 (wrap64 ((t469.length : Int) - 1)) (wrap64 ((t469.length : Int) / 2)) 0)) = some r := h
  clear h
  replace H := Option.bind_eq_some_iff.mp H
  obtain ⟨t469, A20, H⟩ := H
  replace H : (swipe_Turn.l0 k t469 (wrap64 ((t469.length : Int) - 1)) (wrap64 ((t469.length : Int) / 2)) 0) = some r := H
  have A2 := Aside0.mk A20
  clear A20
  have H' := Aside0.mk H
  clear H
  go_enter Try.func19, Try.ntmps19
  go_wp2_with (first | ((with_reducible refine gate_callee (f := 38) rfl ?_); refine goesL_ (some 7) rfl rfl Try.func38 (by kernel_rfl) rfl #[.slice A0 l0.length c0] rfl (by (try simp only [List.map_toArray, List.map_cons, List.map_nil]); first | done | rfl | (simp only [List.length_drop, List.length_take]; rfl)) ?_; (with_reducible refine (track_Unpack.calls k _ _ l0 t469 _ ?side1 ?side2 A2.out).mono ?_); (case side1 => repeat (first | exact HR0.out | (with_reducible refine Kd.C_alloc ?_ _) | (with_reducible refine Kd.C_drewN ?_ _) | (with_reducible refine Kd.C_drew ?_))); (case side2 => exact HC0.out); rintro e w3 ⟨v470, rfl, ho0, hb⟩; refine ⟨_, rfl, ?_⟩; have n0_ := Aside0.mk (Kd.R_lower ho0 (below_size (by repeat (first | (with_reducible first | exact HB.out | apply below_alloc | apply pw_below_drewN | apply below_drew1) | exact HB.out)))); have n1_ := Aside0.mk (below_step (by repeat (first | (with_reducible first | exact HB.out | apply below_alloc | apply pw_below_drewN | apply below_drew1) | exact HB.out)) hb); clear HB; have HO471 := n0_; have HB := n1_; clear n0_ n1_; (try clear hb); (try clear hb2); (try clear hk); (try clear hi); (try clear ho0); obtain ⟨Ao4, co4, eo4⟩ := Kd.R_slice HO471.out; subst eo4))
  go_loopg [14] k (fun kq v14 w' => ∃ (x3_1 : List Bool) (x14_1 : Int), v14 = .int .i64 x14_1 ∧ Aside0 (swipe_Turn.l0 kq x3_1 (wrap64 ((t469.length : Int) - 1)) (wrap64 ((t469.length : Int) / 2)) x14_1 = some r) ∧ Aside0 (kq ≤ k) ∧ Aside0 (Kd.R Kd.bool 4 w' w.heap.size (fun _ => True) (.slice Ao4 t469.length co4) x3_1) ∧ Aside0 (Below w.heap.size w w'))
  case atStart => exact ⟨(t469), (0), (by first | rfl | (simp; done) | (simp [*]; done)), H', ⟨Nat.le_refl _⟩, ⟨by (with_reducible repeat (first | apply Kd.R_alloc | apply Kd.R_drewN | apply Kd.R_drew)); exact HO471.out⟩, ⟨by repeat (first | (with_reducible first | exact HB.out | apply below_alloc | apply pw_below_drewN | apply below_drew1) | exact HB.out)⟩⟩
  case round =>
    clear H'
    try clear c1
    try clear p2
    try clear c3
    obtain ⟨x3_1, x14_1, rfl, HA, HK1, HO_3, HB⟩ := hrel
    have hl3_1 := (Kd.R_reads' HO_3.out).1
    rw [hl3_1] at HO_3
    (try simp only [hl3_1])
    cases gk with
    | zero => exact absurd HA.out (by simp [swipe_Turn.l0])
    | succ k1 =>
      have H := HA.out
      clear HA
      simp only [swipe_Turn.l0] at H
      by_cases c5 : x14_1 < (wrap64 ((t469.length : Int) / 2))
      · rw [if_pos c5] at H
        have c5b0 : decide (x14_1 < (wrap64 ((t469.length : Int) / 2))) = true := decide_eq_true c5
        have c5b0x : decide (x14_1 < (wrap64 ((x3_1.length : Int) / 2))) = true := by rw [← hl3_1]; exact c5b0
        clear c5
        obtain ⟨ji6, hji6⟩ : ∃ j_ : Int, (wrap64 ((wrap64 ((t469.length : Int) - 1)) - x14_1)) = j_ := ⟨_, rfl⟩
        replace H : (if 0 ≤ (ji6) then (if (ji6) < (x3_1.length : Int) then (if 0 ≤ x14_1 then (if x14_1 < (x3_1.length : Int) then (swipe_Turn.l0 k1 ((x3_1.set (x14_1 : Int).toNat (rdOf false x3_1 (ji6))).set ((ji6) : Int).toNat (rdOf false x3_1 x14_1)) (wrap64 ((t469.length : Int) - 1)) (wrap64 ((t469.length : Int) / 2)) (wrap64 (x14_1 + 1))) else (none)) else (none)) else (none)) else (none)) = some r := by first | (rw [hji6] at H; exact H) | (simp only [hji6] at H ⊢; exact H)
        have hji6w : (IntKind.i64.wrap ((wrap64 ((t469.length : Int) - 1)) - x14_1)) = ji6 := (i64_w _).trans hji6
        have hji6b : wrap64 ((wrap64 ((x3_1.length : Int) - 1)) - x14_1) = ji6 := by rw [← hl3_1]; exact hji6
        have hji6c : (IntKind.i64.wrap ((wrap64 ((x3_1.length : Int) - 1)) - x14_1)) = ji6 := (i64_w _).trans hji6b
        by_cases c7 : 0 ≤ (ji6)
        · rw [if_pos c7] at H
          have c7b0 : decide (0 ≤ (ji6)) = true := decide_eq_true c7
          clear c7
          by_cases c8 : (ji6) < (x3_1.length : Int)
          · rw [if_pos c8] at H
            have c8b0 : decide ((ji6) < (x3_1.length : Int)) = true := decide_eq_true c8
            clear c8
            by_cases c9 : 0 ≤ x14_1
            · rw [if_pos c9] at H
              have c9b0 : decide (0 ≤ x14_1) = true := decide_eq_true c9
              clear c9
              by_cases c10 : x14_1 < (x3_1.length : Int)
              · rw [if_pos c10] at H
                have c10b0 : decide (x14_1 < (x3_1.length : Int)) = true := decide_eq_true c10
                clear c10
                obtain ⟨y474, hy474⟩ : ∃ y_ : List Bool, y_ = (x3_1.set (x14_1 : Int).toNat (rdOf false x3_1 (ji6))) := ⟨_, rfl⟩
                replace H : (swipe_Turn.l0 k1 (y474.set ((ji6) : Int).toNat (rdOf false x3_1 x14_1)) (wrap64 ((t469.length : Int) - 1)) (wrap64 ((t469.length : Int) / 2)) (wrap64 (x14_1 + 1))) = some r := by first | (rw [hy474]; with_reducible exact H) | (have H2_ := (Option.bind_some _ _).symm.trans H; rw [hy474]; with_reducible exact H2_) | (have H2_ := (Option.bind_some _ _).symm.trans H; with_reducible exact H2_) | with_reducible exact H | (rw [hy474]; exact H) | exact H
                have Ny474 := Aside0.mk hy474
                clear hy474
                obtain ⟨y475, hy475⟩ : ∃ y_ : List Bool, y_ = (y474.set ((ji6) : Int).toNat (rdOf false x3_1 x14_1)) := ⟨_, rfl⟩
                replace H : (swipe_Turn.l0 k1 y475 (wrap64 ((t469.length : Int) - 1)) (wrap64 ((t469.length : Int) / 2)) (wrap64 (x14_1 + 1))) = some r := by first | (rw [hy475]; with_reducible exact H) | (have H2_ := (Option.bind_some _ _).symm.trans H; rw [hy475]; with_reducible exact H2_) | (have H2_ := (Option.bind_some _ _).symm.trans H; with_reducible exact H2_) | with_reducible exact H | (rw [hy475]; exact H) | exact H
                have Ny475 := Aside0.mk hy475
                clear hy475
                have H' := Aside0.mk H
                clear H
                try go_wp2
                have n0_ := Aside0.mk (Kd.R_drew HO_3.out)
                have n1_ := Aside0.mk (below_drew1 HB.out)
                clear HO_3
                clear HB
                have HO_3 := n0_
                have HB := n1_
                clear n0_ n1_
                have p472 : 0 ≤ ((ji6) : Int) := of_decide_eq_true (by first | (with_reducible assumption) | assumption)
                have q472 : (ji6) < (x3_1.length : Int) := of_decide_eq_true (by first | (with_reducible assumption) | assumption)
                obtain ⟨ad472, e472, hx472_0⟩ := Kd.at_bool (Kd.R_reads' HO_3.out).2.2 (ji6) p472 q472
                cases e472
                replace p472 := eq_true p472
                replace q472 := eq_true q472
                have p473 : 0 ≤ (x14_1 : Int) := of_decide_eq_true (by first | (with_reducible assumption) | assumption)
                have q473 : x14_1 < (x3_1.length : Int) := of_decide_eq_true (by first | (with_reducible assumption) | assumption)
                obtain ⟨ad473, e473, hx473_0⟩ := Kd.at_bool (Kd.R_reads' HO_3.out).2.2 x14_1 p473 q473
                obtain rfl : ad472 = ad473 := (by injection e473)
                replace p473 := eq_true p473
                replace q473 := eq_true q473
                have p11 : 0 ≤ (x14_1 : Int) := of_decide_eq_true (by first | (with_reducible assumption) | assumption)
                have q11 : (x14_1 : Int) < ((x3_1.length : Int) : Int) := of_decide_eq_true (by first | (with_reducible assumption) | assumption)
                obtain ⟨go11, co11, eo11, gb11, gl11, cl11, HG11⟩ := Kd.R_form HO_3.out (by omega)
                (first | cases eo11 | (injection eo11 with ea_ en_ ec_; (first | subst ea_ | (injection ea_ with ea_; subst ea_)); subst ec_; clear en_))
                have GB11 := Aside0.mk gb11
                have GG11 := Aside0.mk HG11
                clear gb11 gl11 HG11
                (first | simp only [add_plain] at hx472_0 | skip)
                (first | simp only [add_plain] at hx473_0 | skip)
                obtain ⟨hx11_0, hf11_0⟩ := Kd.R_celln false HO_3.out (x14_1 : Int) p11 q11
                replace p11 := eq_true p11
                replace q11 := eq_true q11
                have HP14 := Kd.R_putn HO_3.out (x14_1 : Int) (rdOf false x3_1 (ji6))
                rw [← Ny474.out] at HP14
                have HQ14 := Aside0.mk HP14
                clear HP14
                have p12 : 0 ≤ ((ji6) : Int) := of_decide_eq_true (by first | (with_reducible assumption) | assumption)
                have q12 : ((ji6) : Int) < ((x3_1.length : Int) : Int) := of_decide_eq_true (by first | (with_reducible assumption) | assumption)
                obtain ⟨hx12_0, hf12_0⟩ := Kd.R_celln false HQ14.out ((ji6) : Int) p12 q12
                replace p12 := eq_true p12
                replace q12 := eq_true q12
                have HP15 := Kd.R_putn HQ14.out ((ji6) : Int) (rdOf false x3_1 x14_1)
                rw [← Ny475.out] at HP15
                have HQ15 := Aside0.mk HP15
                clear HP15
                refine start_ (n := 20) (S := fun w' => w'.cell? ⟨go11, ((ji6)).toNat, none⟩ = some (.bool (rdOf false x3_1 (ji6))) ∧ w'.cell? ⟨go11, (x14_1).toNat, none⟩ = some (.bool (rdOf false x3_1 x14_1))) (ds := [17, 19]) #[false, false, false, false, false, false, false, false, false, false, false, false, false, false, false, false, false, false, false, false] (by kernel_rfl) rfl rfl ⟨hx472_0, hx473_0⟩ (fun hHeld => ?_); refine with_tabW swipe_Turn.tab6 swipe_Turn.bits6 (fun HT_ HW_ => ?_)
                generalize wr.drew = w13 at HO_3 HB GG11 HQ14 HQ15 hf11_0 hf12_0 hx11_0 hx12_0 hx472_0 hx473_0 hHeld ⊢
                refine pure_ (i := 0) (N := some 17) (v := ?_) (a' := ?_) #[true, false, false, false, false, false, false, false, false, false, false, false, false, false, false, false, false, false, false, false] rfl rfl (any_of HT_.out (by kernel_rfl)) (fun _ _ _ h => h) (Or.inl ⟨by rfl, ?_⟩) ?_ ?_
                rotate_left
                · intro w'
                  go_simp
                  with_reducible rfl
                rotate_left
                · simp only [Act.put, List.setIfInBounds_toArray, List.set_cons_zero, List.set_cons_succ, i64_w, i32_w]
                  rfl
                refine pure_ (i := 1) (N := some 18) (v := ?_) (a' := ?_) #[true, true, false, false, false, false, false, false, false, false, false, false, false, false, false, false, false, false, false, false] rfl rfl (any_of HT_.out (by kernel_rfl)) (fun _ _ _ h => h) (Or.inl ⟨by rfl, ?_⟩) ?_ ?_
                rotate_left
                · intro w'
                  go_simp
                  with_reducible rfl
                rotate_left
                · simp only [Act.put, List.setIfInBounds_toArray, List.set_cons_zero, List.set_cons_succ, i64_w, i32_w]
                  rfl
                refine pure_ (i := 2) (N := some 19) (v := ?_) (a' := ?_) #[true, true, true, false, false, false, false, false, false, false, false, false, false, false, false, false, false, false, false, false] rfl rfl (any_of HT_.out (by kernel_rfl)) (fun _ _ _ h => h) (Or.inl ⟨by rfl, ?_⟩) ?_ ?_
                rotate_left
                · intro w'
                  go_simp
                  with_reducible rfl
                rotate_left
                · simp only [Act.put, List.setIfInBounds_toArray, List.set_cons_zero, List.set_cons_succ, i64_w, i32_w]
                  rfl
                refine pure_ (i := 3) (N := some 20) (v := ?_) (a' := ?_) #[true, true, true, true, false, false, false, false, false, false, false, false, false, false, false, false, false, false, false, false] rfl rfl (any_of HT_.out (by kernel_rfl)) (fun _ _ _ h => h) (Or.inl ⟨by rfl, ?_⟩) ?_ ?_
                rotate_left
                · intro w'
                  go_simp
                  with_reducible rfl
                rotate_left
                · simp only [Act.put, List.setIfInBounds_toArray, List.set_cons_zero, List.set_cons_succ, i64_w, i32_w]
                  rfl
                refine pure_ (i := 4) (N := some 21) (v := ?_) (a' := ?_) #[true, true, true, true, true, false, false, false, false, false, false, false, false, false, false, false, false, false, false, false] rfl rfl (any_of HT_.out (by kernel_rfl)) (fun _ _ _ h => h) (Or.inl ⟨by rfl, ?_⟩) ?_ ?_
                rotate_left
                · intro w'
                  go_simp
                  with_reducible rfl
                rotate_left
                · simp only [Act.put, List.setIfInBounds_toArray, List.set_cons_zero, List.set_cons_succ, i64_w, i32_w]
                  rfl
                refine pure_ (i := 5) (N := some 22) (v := ?_) (a' := ?_) #[true, true, true, true, true, true, false, false, false, false, false, false, false, false, false, false, false, false, false, false] rfl rfl (any_of HT_.out (by kernel_rfl)) (fun _ _ _ h => h) (Or.inl ⟨by rfl, ?_⟩) ?_ ?_
                rotate_left
                · intro w'
                  go_simp
                  with_reducible rfl
                rotate_left
                · simp only [Act.put, List.setIfInBounds_toArray, List.set_cons_zero, List.set_cons_succ, i64_w, i32_w]
                  rfl
                refine pure_ (i := 6) (N := some 23) (v := ?_) (a' := ?_) #[true, true, true, true, true, true, true, false, false, false, false, false, false, false, false, false, false, false, false, false] rfl rfl (any_of HT_.out (by kernel_rfl)) (fun _ _ _ h => h) (Or.inl ⟨by rfl, ?_⟩) ?_ ?_
                rotate_left
                · intro w'
                  go_simp
                  with_reducible rfl
                rotate_left
                · simp only [Act.put, List.setIfInBounds_toArray, List.set_cons_zero, List.set_cons_succ, i64_w, i32_w]
                  rfl
                refine pure_ (i := 7) (N := some 24) (v := ?_) (a' := ?_) #[true, true, true, true, true, true, true, true, false, false, false, false, false, false, false, false, false, false, false, false] rfl rfl (any_of HT_.out (by kernel_rfl)) (fun _ _ _ h => h) (Or.inl ⟨by rfl, ?_⟩) ?_ ?_
                rotate_left
                · intro w'
                  go_simp
                  with_reducible rfl
                rotate_left
                · simp only [Act.put, List.setIfInBounds_toArray, List.set_cons_zero, List.set_cons_succ, i64_w, i32_w]
                  rfl
                refine pure_ (i := 8) (N := some 25) (v := ?_) (a' := ?_) #[true, true, true, true, true, true, true, true, true, false, false, false, false, false, false, false, false, false, false, false] rfl rfl (any_of HT_.out (by kernel_rfl)) (fun _ _ _ h => h) (Or.inl ⟨by rfl, ?_⟩) ?_ ?_
                rotate_left
                · intro w'
                  go_simp
                  with_reducible rfl
                rotate_left
                · simp only [Act.put, List.setIfInBounds_toArray, List.set_cons_zero, List.set_cons_succ, i64_w, i32_w]
                  rfl
                refine pure_ (i := 9) (N := some 26) (v := ?_) (a' := ?_) #[true, true, true, true, true, true, true, true, true, true, false, false, false, false, false, false, false, false, false, false] rfl rfl (any_of HT_.out (by kernel_rfl)) (fun _ _ _ h => h) (Or.inl ⟨by rfl, ?_⟩) ?_ ?_
                rotate_left
                · intro w'
                  go_simp
                  with_reducible rfl
                rotate_left
                · simp only [Act.put, List.setIfInBounds_toArray, List.set_cons_zero, List.set_cons_succ, i64_w, i32_w]
                  rfl
                refine pure_ (i := 10) (N := some 27) (v := ?_) (a' := ?_) #[true, true, true, true, true, true, true, true, true, true, true, false, false, false, false, false, false, false, false, false] rfl rfl (any_of HT_.out (by kernel_rfl)) (fun _ _ _ h => h) (Or.inl ⟨by rfl, ?_⟩) ?_ ?_
                rotate_left
                · intro w'
                  go_simp
                  with_reducible rfl
                rotate_left
                · simp only [Act.put, List.setIfInBounds_toArray, List.set_cons_zero, List.set_cons_succ, i64_w, i32_w]
                  rfl
                refine pure_ (i := 12) (N := some 29) (v := ?_) (a' := ?_) #[true, true, true, true, true, true, true, true, true, true, true, false, true, false, false, false, false, false, false, false] rfl rfl (any_of HT_.out (by kernel_rfl)) (fun _ _ _ h => h) (Or.inl ⟨by rfl, ?_⟩) ?_ ?_
                rotate_left
                · intro w'
                  go_simp
                  with_reducible rfl
                rotate_left
                · simp only [Act.put, List.setIfInBounds_toArray, List.set_cons_zero, List.set_cons_succ, i64_w, i32_w]
                  rfl
                refine pure_ (i := 13) (N := some 30) (v := ?_) (a' := ?_) #[true, true, true, true, true, true, true, true, true, true, true, false, true, true, false, false, false, false, false, false] rfl rfl (any_of HT_.out (by kernel_rfl)) (fun _ _ _ h => h) (Or.inl ⟨by rfl, ?_⟩) ?_ ?_
                rotate_left
                · intro w'
                  go_simp
                  with_reducible rfl
                rotate_left
                · simp only [Act.put, List.setIfInBounds_toArray, List.set_cons_zero, List.set_cons_succ, i64_w, i32_w]
                  rfl
                refine pure_ (i := 14) (N := some 31) (v := ?_) (a' := ?_) #[true, true, true, true, true, true, true, true, true, true, true, false, true, true, true, false, false, false, false, false] rfl rfl (any_of HT_.out (by kernel_rfl)) (fun _ _ _ h => h) (Or.inl ⟨by rfl, ?_⟩) ?_ ?_
                rotate_left
                · intro w'
                  go_simp
                  with_reducible rfl
                rotate_left
                · simp only [Act.put, List.setIfInBounds_toArray, List.set_cons_zero, List.set_cons_succ, i64_w, i32_w]
                  rfl
                refine take_ (i := 11) (N := some 28) (v := ?_) (a' := ?_) #[true, true, true, true, true, true, true, true, true, true, true, true, true, true, true, false, false, false, false, false] rfl rfl (take_ofW HT_.out HW_.out (by kernel_rfl)) (fun _ _ _ h => h) (Or.inl ⟨by rfl, ?_⟩) hHeld ?_ ?_
                rotate_left
                · rintro w' ⟨s0, s1⟩
                  go_simp
                  with_reducible rfl
                rotate_left
                · simp only [Act.put, List.setIfInBounds_toArray, List.set_cons_zero, List.set_cons_succ, i64_w, i32_w]
                  rfl
                refine take_ (i := 15) (N := some 32) (v := ?_) (a' := ?_) #[true, true, true, true, true, true, true, true, true, true, true, true, true, true, true, true, false, false, false, false] rfl rfl (take_ofW HT_.out HW_.out (by kernel_rfl)) (fun _ _ _ h => h) (Or.inl ⟨by rfl, ?_⟩) hHeld ?_ ?_
                rotate_left
                · rintro w' ⟨s0, s1⟩
                  go_simp
                  with_reducible rfl
                rotate_left
                · simp only [Act.put, List.setIfInBounds_toArray, List.set_cons_zero, List.set_cons_succ, i64_w, i32_w]
                  rfl
                refine pure_ (i := 16) (N := some 33) (v := ?_) (a' := ?_) #[true, true, true, true, true, true, true, true, true, true, true, true, true, true, true, true, true, false, false, false] rfl rfl (any_of HT_.out (by kernel_rfl)) (fun _ _ _ h => h) (Or.inl ⟨by rfl, ?_⟩) ?_ ?_
                rotate_left
                · intro w'
                  go_simp
                  with_reducible rfl
                rotate_left
                · simp only [Act.put, List.setIfInBounds_toArray, List.set_cons_zero, List.set_cons_succ, i64_w, i32_w]
                  rfl
                refine last_ (i := 17) (N := none) #[true, true, true, true, true, true, true, true, true, true, true, true, true, true, true, true, true, true, false, false] rfl rfl (one_of HT_.out (by kernel_rfl)) (by decide) (fun K hK => ?_)
                refine skip_ (w1 := ?_) (by rfl) rfl ?_ ?_
                rotate_left
                · go_simp
                  rfl
                refine hK.out _ _ ?_
                clear hK K
                refine pure_ (i := 18) (N := some 34) (v := ?_) (a' := ?_) #[true, true, true, true, true, true, true, true, true, true, true, true, true, true, true, true, true, true, true, false] rfl rfl (any_of HT_.out (by kernel_rfl)) (fun _ _ _ h => h) (Or.inl ⟨by rfl, ?_⟩) ?_ ?_
                rotate_left
                · intro w'
                  go_simp
                  with_reducible rfl
                rotate_left
                · simp only [Act.put, List.setIfInBounds_toArray, List.set_cons_zero, List.set_cons_succ, i64_w, i32_w]
                  rfl
                refine last_ (i := 19) (N := none) #[true, true, true, true, true, true, true, true, true, true, true, true, true, true, true, true, true, true, true, true] rfl rfl (one_of HT_.out (by kernel_rfl)) (by decide) (fun K hK => ?_)
                refine skip_ (w1 := ?_) (by rfl) rfl ?_ ?_
                rotate_left
                · go_simp
                  rfl
                refine hK.out _ _ ?_
                clear hK K
                refine done_ (done_of HT_.out (by kernel_rfl)) ?_
                try go_wp2
                (try simp only [← hl3_1])
                go_roundg k1
                case measure => have := HK1.out; omega
                case rel => exact ⟨(y475), (wrap64 (x14_1 + 1)), (by first | rfl | (simp; done) | (simp [*]; done)), H', ⟨by have := HK1.out; omega⟩, ⟨by (try simp only [hl3_1]); (with_reducible repeat (first | apply Kd.R_alloc | apply Kd.R_drewN | apply Kd.R_drew)); exact HQ15.out⟩, ⟨by repeat (first | (with_reducible first | exact HB.out | apply below_alloc | apply pw_below_drewN | apply below_drew1 | refine below_set ?_ GB11.out | refine below_set ?_ GB11.out) | exact HB.out)⟩⟩
              · rw [if_neg c10] at H
                exact absurd H (by simp)
            · rw [if_neg c9] at H
              exact absurd H (by simp)
          · rw [if_neg c8] at H
            exact absurd H (by simp)
        · rw [if_neg c7] at H
          exact absurd H (by simp)
      · rw [if_neg c5] at H
        have c5b0 : decide (x14_1 < (wrap64 ((t469.length : Int) / 2))) = false := decide_eq_false c5
        have c5b0x : decide (x14_1 < (wrap64 ((x3_1.length : Int) / 2))) = false := by rw [← hl3_1]; exact c5b0
        clear c5
        replace H := Option.bind_eq_some_iff.mp H
        obtain ⟨t476, A160, H⟩ := H
        replace H : (some t476) = some r := H
        have A16 := Aside0.mk A160
        clear A160
        obtain rfl := Option.some.inj H
        go_wp2_with (first | ((with_reducible refine gate_callee (f := 35) rfl ?_); refine goesL_ (some 37) rfl rfl Try.func35 (by kernel_rfl) rfl #[.slice Ao4 x3_1.length co4] rfl (by (try simp only [List.map_toArray, List.map_cons, List.map_nil]); first | done | rfl | (simp only [List.length_drop, List.length_take]; rfl)) ?_; (with_reducible refine (track_Pack.calls k1 _ _ x3_1 t476 _ ?side1 ?side2 A16.out).mono ?_); (case side1 => repeat (first | exact (Kd.R_reads' HO_3.out).2.2 | (with_reducible refine Kd.C_alloc ?_ _) | (with_reducible refine Kd.C_drewN ?_ _) | (with_reducible refine Kd.C_drew ?_))); (case side2 => exact (Kd.R_reads' HO_3.out).2.1); rintro e w17 ⟨v477, rfl, ho0, hb⟩; refine ⟨_, rfl, ?_⟩; have n0_ := Aside0.mk (Kd.R_below (by (with_reducible repeat (first | apply Kd.R_alloc | apply Kd.R_drewN | apply Kd.R_drew)); exact HO_3.out) hb); have n1_ := Aside0.mk (Kd.R_lower ho0 (below_size (by repeat (first | (with_reducible first | exact HB.out | apply below_alloc | apply pw_below_drewN | apply below_drew1) | exact HB.out)))); have n2_ := Aside0.mk (below_step (by repeat (first | (with_reducible first | exact HB.out | apply below_alloc | apply pw_below_drewN | apply below_drew1) | exact HB.out)) hb); clear HO_3; clear HB; have HO_3 := n0_; have HO478 := n1_; have HB := n2_; clear n0_ n1_ n2_; (try clear hb); (try clear hb2); (try clear hk); (try clear hi); (try clear ho0)))
        go_ret
        exact ⟨_, by first | rfl | (simp [errW_none, errW_some] <;> rfl) | (simp [*, errW_none, errW_some] <;> rfl), by (with_reducible repeat (first | apply Kd.R_alloc | apply Kd.R_drewN | apply Kd.R_drew)); exact HO478.out, by repeat (first | (with_reducible first | exact HB.out | apply below_alloc | apply pw_below_drewN | apply below_drew1) | exact HB.out)⟩

end Go.Proofs.Ytfmpeojlaibblaa.S

/-
  swipe.Read: what it answers, as a Lean function, and that the Go code answers just this (two closures, tried in turn).
-/
namespace Go.Proofs.Ytfmpeojlaibblaa.S
open Go.RowKit Go.Proofs.YtfmpeojlaibblaaW.PrintWords Go.Proofs.YtfmpeojlaibblaaW.PrintLast Go.Proofs.YtfmpeojlaibblaaW.PrintMore

def swipe_Read.f (k : Nat) (l0 : List Int) : Option (List Int × Bool × Int) :=
  (track_Get.f k l0).bind fun p => if p.2 = 0 then some (p.1, false, 0) else (swipe_Turn.f k l0).bind fun t => (track_Get.f k t).bind fun q => if q.2 = 0 then some (q.1, true, 0) else some ([], false, p.2)
theorem swipe_Read.mono : ∀ k y0, LeO (swipe_Read.f k y0) (swipe_Read.f (k + 1) y0) := by
  intro k b
  unfold swipe_Read.f
  exact LeO.bind (track_Get.mono _ _) (fun p => LeO.ite (LeO.refl _) (LeO.bind (swipe_Turn.mono _ _) (fun t => LeO.bind (track_Get.mono _ _) (fun q => LeO.refl _))))
theorem way1 (k g : Nat) (A0 : Option Addr) (c0 : Nat) (l0 : List Int) (r1 : List Int) (r2 : Int) (w : World) (hg : w.cell? ⟨g, 0, none⟩ = some (.slice A0 l0.length c0)) (hr0 : Kd.C (Kd.int .u8) w A0 l0.length l0) (hc0 : l0.length ≤ c0) (h : track_Get.f k l0 = some (r1, r2)) :
    Calls Try.prog 45 #[.pointer (some ⟨g, 0, none⟩)] w fun e w' => ∃ v0_ : Value, e = .returned (.tuple #[v0_, .int .i64 r2]) ∧ Kd.R (Kd.int .u8) 5 w' w.heap.size (fun _ => True) v0_ r1 ∧ Below w.heap.size w w' := by
  go_enter Try.func45, Try.ntmps45
  go_wp2_with (go_at_call 22; refine (track_Get.calls k A0 c0 l0 r1 r2 _ hr0 hc0 h).mono ?_; rintro e w1 ⟨v1, rfl, hr, hb⟩)
  go_ret2
  exact ⟨_, rfl, hr, hb⟩
theorem way2 (k g : Nat) (A0 : Option Addr) (c0 : Nat) (l0 t : List Int) (r1 : List Int) (r2 : Int) (w : World) (hg : w.cell? ⟨g, 0, none⟩ = some (.slice A0 l0.length c0)) (hr0 : Kd.C (Kd.int .u8) w A0 l0.length l0) (hc0 : l0.length ≤ c0) (ht : swipe_Turn.f k l0 = some t) (h : track_Get.f k t = some (r1, r2)) :
    Calls Try.prog 46 #[.pointer (some ⟨g, 0, none⟩)] w fun e w' => ∃ v0_ : Value, e = .returned (.tuple #[v0_, .int .i64 r2]) ∧ Kd.R (Kd.int .u8) 5 w' w.heap.size (fun _ => True) v0_ r1 ∧ Below w.heap.size w w' := by
  go_enter Try.func46, Try.ntmps46
  go_wp2_with (first
    | (go_at_call 19; refine (swipe_Turn.calls k A0 c0 l0 t _ hr0 hc0 ht).mono ?_; rintro e w1 ⟨v1, rfl, hr1, hb1⟩; obtain ⟨A1, c1, e1⟩ := Kd.R_slice hr1; subst e1)
    | (go_at_call 22; refine (track_Get.calls k A1 c1 t r1 r2 _ (Kd.R_reads' hr1).2.2 (Kd.R_reads' hr1).2.1 h).mono ?_; rintro e w2 ⟨v2, rfl, hr2, hb2⟩))
  go_ret2
  exact ⟨_, rfl, Kd.R_lower hr2 hb1.size, below_step hb1 hb2⟩

theorem ret_slb {v v' : Value} {b b' : Bool} {x x' : Int} (h : v = v') (h1 : b = b') (h2 : x = x') : Ending.returned (.tuple #[v, .bool b, .int .i64 x]) = .returned (.tuple #[v', .bool b', .int .i64 x']) := by rw [h, h1, h2]
set_option maxHeartbeats 2000000 in
theorem read_first (k : Nat) (A0 : Option Addr) (c0 : Nat) (l0 : List Int) (r1 : List Int) (w : World) (hr0 : Kd.C (Kd.int .u8) w A0 l0.length l0) (hc0 : l0.length ≤ c0) (h : track_Get.f k l0 = some (r1, 0)) :
    Calls Try.prog 21 #[.slice A0 l0.length c0] w fun e w' => ∃ v0_ : Value, e = .returned (.tuple #[v0_, .bool false, .int .i64 0]) ∧ Kd.R (Kd.int .u8) 5 w' w.heap.size (fun _ => True) v0_ r1 ∧ Below w.heap.size w w' := by
  have hmf : ∀ (fn : Fn) (first cap : Array Value) (w : World), (Instr.makeFunc fn first cap).run Try.prog w = .ok (.func fn first cap) w := fun _ _ _ _ => rfl
  have hb0 : Below w.heap.size w ((w.alloc (.cells #[.slice A0 l0.length c0] 22)).alloc (.cells #[.func (.func 45) #[] #[.pointer (some ⟨w.heap.size, 0, none⟩)], .func (.func 46) #[] #[.pointer (some ⟨w.heap.size, 0, none⟩)]] 50)) := ((Below.refl w.heap.size w).alloc (Nat.le_refl _) _).alloc (by simp) _
  have hz0 : w.heap.size ≤ ((w.alloc (.cells #[.slice A0 l0.length c0] 22)).alloc (.cells #[.func (.func 45) #[] #[.pointer (some ⟨w.heap.size, 0, none⟩)], .func (.func 46) #[] #[.pointer (some ⟨w.heap.size, 0, none⟩)]] 50)).heap.size := hb0.size
  have hg0 : ((w.alloc (.cells #[.slice A0 l0.length c0] 22)).alloc (.cells #[.func (.func 45) #[] #[.pointer (some ⟨w.heap.size, 0, none⟩)], .func (.func 46) #[] #[.pointer (some ⟨w.heap.size, 0, none⟩)]] 50)).cell? ⟨w.heap.size, 0, none⟩ = some (.slice A0 l0.length c0) := cell_of_row _ _ 0 _ _ _ (blk_alloc (heap_alloc_new w _) _)
  have W1 := Lib.hid (way1 k w.heap.size A0 c0 l0 r1 0 _ hg0 (Kd.C_below hr0 hb0) hc0 h)
  have HB := Lib.hid hb0
  have HZ := Lib.hid hz0
  clear hb0 hz0 hg0
  go_enter Try.func21, Try.ntmps21
  go_wp2
  refine wp_loop_rounds 3 ?_
  rw [rounds_succ]
  go_wp2_with (go_at_call 45; refine (W1.out).mono ?_; rintro e w1 ⟨v1, rfl, hr1, hb1⟩; obtain ⟨A1, c1, e1⟩ := Kd.R_slice hr1; subst e1)
  exact ⟨rfl, .tuple #[.slice A1 r1.length c1, .bool false, .int .i64 0], by simp [results, Try.results21], _, rfl, Kd.R_lower hr1 HZ.out, below_step HB.out hb1⟩

def ReadOut (er er2 : Int) (r2 : List Int) (w : World) (e : Ending) (w' : World) : Prop :=
  (er2 = 0 → ∃ v0_ : Value, e = .returned (.tuple #[v0_, .bool true, .int .i64 0]) ∧ Kd.R (Kd.int .u8) 5 w' w.heap.size (fun _ => True) v0_ r2 ∧ Below w.heap.size w w') ∧
  (er2 ≠ 0 → e = .returned (.tuple #[.slice none 0 0, .bool false, .int .i64 er]) ∧ Below w.heap.size w w')
set_option maxHeartbeats 2000000 in
theorem read_second (k : Nat) (A0 : Option Addr) (c0 : Nat) (l0 : List Int) (t r1 r2 : List Int) (er er2 : Int) (w : World) (hr0 : Kd.C (Kd.int .u8) w A0 l0.length l0) (hc0 : l0.length ≤ c0) (h : track_Get.f k l0 = some (r1, er)) (her : er ≠ 0) (ht : swipe_Turn.f k l0 = some t) (h2 : track_Get.f k t = some (r2, er2)) :
    Calls Try.prog 21 #[.slice A0 l0.length c0] w (ReadOut er er2 r2 w) := by
  have hmf : ∀ (fn : Fn) (first cap : Array Value) (w : World), (Instr.makeFunc fn first cap).run Try.prog w = .ok (.func fn first cap) w := fun _ _ _ _ => rfl
  have hb0 : Below w.heap.size w ((w.alloc (.cells #[.slice A0 l0.length c0] 22)).alloc (.cells #[.func (.func 45) #[] #[.pointer (some ⟨w.heap.size, 0, none⟩)], .func (.func 46) #[] #[.pointer (some ⟨w.heap.size, 0, none⟩)]] 50)) := ((Below.refl w.heap.size w).alloc (Nat.le_refl _) _).alloc (by simp) _
  have hz0 : w.heap.size ≤ ((w.alloc (.cells #[.slice A0 l0.length c0] 22)).alloc (.cells #[.func (.func 45) #[] #[.pointer (some ⟨w.heap.size, 0, none⟩)], .func (.func 46) #[] #[.pointer (some ⟨w.heap.size, 0, none⟩)]] 50)).heap.size := hb0.size
  have hg0 : ((w.alloc (.cells #[.slice A0 l0.length c0] 22)).alloc (.cells #[.func (.func 45) #[] #[.pointer (some ⟨w.heap.size, 0, none⟩)], .func (.func 46) #[] #[.pointer (some ⟨w.heap.size, 0, none⟩)]] 50)).cell? ⟨w.heap.size, 0, none⟩ = some (.slice A0 l0.length c0) := cell_of_row _ _ 0 _ _ _ (blk_alloc (heap_alloc_new w _) _)
  have W1 := Lib.hid (way1 k w.heap.size A0 c0 l0 r1 er _ hg0 (Kd.C_below hr0 hb0) hc0 h)
  have HB := Lib.hid hb0
  have HZ := Lib.hid hz0
  have HG := Lib.hid hg0
  clear hb0 hz0 hg0
  have e1 : (er == 0) = false := beq_eq_false_iff_ne.mpr her
  have hf0 : ((w.alloc (.cells #[.slice A0 l0.length c0] 22)).alloc (.cells #[.func (.func 45) #[] #[.pointer (some ⟨w.heap.size, 0, none⟩)], .func (.func 46) #[] #[.pointer (some ⟨w.heap.size, 0, none⟩)]] 50)).cell? ⟨w.heap.size + 1, 1, none⟩ = some (.func (.func 46) #[] #[.pointer (some ⟨w.heap.size, 0, none⟩)]) := by
    have := heap_alloc_new (w.alloc (.cells #[.slice A0 l0.length c0] 22)) (.cells #[.func (.func 45) #[] #[.pointer (some ⟨w.heap.size, 0, none⟩)], .func (.func 46) #[] #[.pointer (some ⟨w.heap.size, 0, none⟩)]] 50)
    rw [show (w.alloc (.cells #[.slice A0 l0.length c0] 22)).heap.size = w.heap.size + 1 by simp] at this
    exact cell_of_row _ _ 1 _ _ _ this
  have HF := Lib.hid hf0
  clear hf0
  have HC := Lib.hid hr0
  clear hr0
  by_cases h20 : er2 = 0
  · have e2 : (er2 == 0) = true := beq_iff_eq.mpr h20
    go_enter Try.func21, Try.ntmps21
    go_wp2
    refine wp_loop_rounds 3 ?_
    rw [rounds_succ]
    go_wp2_with (go_at_call 45; refine (W1.out).mono ?_; rintro e w1 ⟨v1, rfl, hr1, hb1⟩; have HB1 := Lib.hid (below_step HB.out hb1); have HG1 := Lib.hid (cell_below hb1 HG.out); have hf1 := cell_below hb1 HF.out; clear hr1 hb1)
    have HC1 := Lib.hid (Kd.C_below HC.out HB1.out)
    rw [rounds_succ]
    go_wp2_with (go_at_call 46; refine (way2 k w.heap.size A0 c0 l0 t r2 er2 w1 HG1.out HC1.out hc0 ht h2).mono ?_; rintro e w2 ⟨v2, rfl, hr2, hb2⟩; obtain ⟨A2, c2, ea2⟩ := Kd.R_slice hr2; subst ea2; have HB2 := Lib.hid (below_step HB1.out hb2); have HR2 := Lib.hid (Kd.R_lower hr2 HB1.out.size); clear hr2 hb2)
    exact ⟨rfl, .tuple #[.slice A2 r2.length c2, .bool true, .int .i64 0], by simp [results, Try.results21], fun _ => ⟨_, rfl, HR2.out, HB2.out⟩, fun hne => absurd h20 hne⟩
  · have e2 : (er2 == 0) = false := beq_eq_false_iff_ne.mpr h20
    go_enter Try.func21, Try.ntmps21
    go_wp2
    refine wp_loop_rounds 3 ?_
    rw [rounds_succ]
    go_wp2_with (go_at_call 45; refine (W1.out).mono ?_; rintro e w1 ⟨v1, rfl, hr1, hb1⟩; have HB1 := Lib.hid (below_step HB.out hb1); have HG1 := Lib.hid (cell_below hb1 HG.out); have hf1 := cell_below hb1 HF.out; clear hr1 hb1)
    have HC1 := Lib.hid (Kd.C_below HC.out HB1.out)
    rw [rounds_succ]
    go_wp2_with (go_at_call 46; refine (way2 k w.heap.size A0 c0 l0 t r2 er2 w1 HG1.out HC1.out hc0 ht h2).mono ?_; rintro e w2 ⟨v2, rfl, hr2, hb2⟩; obtain ⟨A2, c2, ea2⟩ := Kd.R_slice hr2; subst ea2; have HB2 := Lib.hid (below_step HB1.out hb2); have HR2 := Lib.hid (Kd.R_lower hr2 HB1.out.size); clear hr2 hb2)
    rw [rounds_succ]
    go_wp2
    exact ⟨rfl, .tuple #[.slice none 0 0, .bool false, .int .i64 er], by simp [results, Try.results21], fun h0 => absurd h0 h20, fun _ => ⟨rfl, HB2.out⟩⟩
theorem swipe_Read.calls (k : Nat) (A0 : Option Addr) (c0 : Nat) (l0 : List Int) (r1 : List Int) (r2 : Bool) (r3 : Int) (w : World) (hr0 : Kd.C (Kd.int .u8) w A0 l0.length l0) (hc0 : l0.length ≤ c0) (h : swipe_Read.f k l0 = some (r1, r2, r3)) :
    Calls Try.prog 21 #[.slice A0 l0.length c0] w fun e w' => ∃ v0_ : Value, e = .returned (.tuple #[v0_, .bool r2, .int .i64 r3]) ∧ Kd.R (Kd.int .u8) 5 w' w.heap.size (fun _ => True) v0_ r1 ∧ Below w.heap.size w w' := by
  unfold swipe_Read.f at h
  obtain ⟨⟨p1, p2⟩, hp, h⟩ := Option.bind_eq_some_iff.mp h
  by_cases h0 : p2 = 0
  · subst h0
    simp only [if_true, Option.some.injEq, Prod.mk.injEq] at h
    obtain ⟨rfl, rfl, rfl⟩ := h
    exact read_first k A0 c0 l0 p1 w hr0 hc0 hp
  · simp only [if_neg h0] at h
    obtain ⟨t, ht, h⟩ := Option.bind_eq_some_iff.mp h
    obtain ⟨⟨q1, q2⟩, hq, h⟩ := Option.bind_eq_some_iff.mp h
    refine (read_second k A0 c0 l0 t p1 q1 p2 q2 w hr0 hc0 hp h0 ht hq).mono ?_
    rintro e w' ⟨ha, hb⟩
    by_cases h1 : q2 = 0
    · simp only [if_pos h1, Option.some.injEq, Prod.mk.injEq] at h
      obtain ⟨rfl, rfl, rfl⟩ := h
      exact ha h1
    · simp only [if_neg h1, Option.some.injEq, Prod.mk.injEq] at h
      obtain ⟨rfl, rfl, rfl⟩ := h
      obtain ⟨rfl, hbb⟩ := hb h1
      exact ⟨_, rfl, Kd.R_nil _ _ _ _ _, hbb⟩
end Go.Proofs.Ytfmpeojlaibblaa.S

/- Written for this claim by a program of this session (handprint.py, over the kit's print). Lean checks it. -/
namespace Go.Proofs.Ytfmpeojlaibblaa.S
open Go.RowKit Go.Proofs.YtfmpeojlaibblaaW.PrintWords Go.Proofs.YtfmpeojlaibblaaW.PrintLast Go.Proofs.YtfmpeojlaibblaaW.PrintMore
attribute [local go_sem] max2_int min2_int max_two min_two max_three min_three max_four min_four   -- for this text's walks alone
set_option linter.unusedVariables false
set_option linter.unusedSimpArgs false

/-! ### gatelinelaw14_swiped: function 18 -/
def gatelinelaw14_swiped.f (k : Nat)  : Option (Bool) := (track_Put.f k (([1, 9] : List Int))).bind fun bt482 => ((swipe_Turn.f k bt482.1).bind fun t486 => ((swipe_Read.f k t486).bind fun bt489 => ((swipe_Read.f k bt482.1).bind fun bt494 => ((swipe_Turn.f k (([32, 96, 0] : List Int))).bind fun t502 => ((swipe_Read.f k (([0, 0] : List Int))).bind fun bt508 => (if bt482.2 = 0 then ((gatelineref01_Same.f k t486 (([1, 207, 228, 43] : List Int))).bind fun t516 => (if t516 = true then (if bt489.2.2 = bt482.2 then (if bt489.2.1 = true then ((gatelineref01_Same.f k bt489.1 (([1, 9] : List Int))).bind fun t520 => (if t520 = true then (if bt494.2.2 = bt482.2 then (if bt494.2.1 = true then (none) else ((gatelineref01_Same.f k bt494.1 bt489.1).bind fun t521 => (if t521 = true then ((gatelineref01_Same.f k t502 (([0, 6, 4] : List Int))).bind fun t525 => (if t525 = true then (some (bt508.2.2 == 4)) else (none))) else (none)))) else (none)) else (none))) else (none)) else (none)) else (none))) else (none)))))))
theorem gatelinelaw14_swiped.mono : ∀ k, LeO (gatelinelaw14_swiped.f k ) (gatelinelaw14_swiped.f (k + 1) ) := by
  intro  k
  unfold gatelinelaw14_swiped.f
  repeat' first
      | (with_reducible exact gatelineref01_Same.mono _ _ _)
      | (with_reducible exact swipe_Read.mono _ _)
      | (with_reducible exact swipe_Turn.mono _ _)
      | (with_reducible exact track_Put.mono _ _)
      | (with_reducible exact LeO.refl _)
      | (with_reducible exact LeO.none _)
      | (with_reducible refine LeO.ite ?_ ?_)
      | (with_reducible refine LeO.bind ?_ (fun _ => ?_))
      | exact gatelineref01_Same.mono _ _ _
      | exact swipe_Read.mono _ _
      | exact swipe_Turn.mono _ _
      | exact track_Put.mono _ _
      | exact LeO.none _
      | refine LeO.ite ?_ ?_
      | refine LeO.bind ?_ (fun _ => ?_)
set_option maxHeartbeats 8000000 in
set_option maxRecDepth 100000 in
theorem gatelinelaw14_swiped.calls (k : Nat)  (r : Bool) (w : World) (h : gatelinelaw14_swiped.f k  = some r) :
    Calls Try.prog 18 #[] w fun e w' => e = .returned (.bool r) ∧ Below w.heap.size w w' := by
  have HB := Aside0.mk (Below.refl w.heap.size w)
  have H : ((track_Put.f k (([1, 9] : List Int))).bind fun bt482 => ((swipe_Turn.f k bt482.1).bind fun t486 => ((swipe_Read.f k t486).bind fun bt489 => ((swipe_Read.f k bt482.1).bind fun bt494 => ((swipe_Turn.f k (([32, 96, 0] : List Int))).bind fun t502 => ((swipe_Read.f k (([0, 0] : List Int))).bind fun bt508 => (if bt482.2 = 0 then ((gatelineref01_Same.f k t486 (([1, 207, 228, 43] : List Int))).bind fun t516 => (if t516 = true then (if bt489.2.2 = bt482.2 then (if bt489.2.1 = true then ((gatelineref01_Same.f k bt489.1 (([1, 9] : List Int))).bind fun t520 => (if t520 = true then (if bt494.2.2 = bt482.2 then (if bt494.2.1 = true then (none) else ((gatelineref01_Same.f k bt494.1 bt489.1).bind fun t521 => (if t521 = true then ((gatelineref01_Same.f k t502 (([0, 6, 4] : List Int))).bind fun t525 => (if t525 = true then (some (bt508.2.2 == 4)) else (none))) else (none)))) else (none)) else (none))) else (none)) else (none)) else (none))) else (none)))))))) = some r := h
  clear h
  obtain ⟨y479, hy479⟩ : ∃ y_ : List Int, y_ = (([1, 9] : List Int)) := ⟨_, rfl⟩
  replace H : ((track_Put.f k y479).bind fun bt482 => ((swipe_Turn.f k bt482.1).bind fun t486 => ((swipe_Read.f k t486).bind fun bt489 => ((swipe_Read.f k bt482.1).bind fun bt494 => ((swipe_Turn.f k (([32, 96, 0] : List Int))).bind fun t502 => ((swipe_Read.f k (([0, 0] : List Int))).bind fun bt508 => (if bt482.2 = 0 then ((gatelineref01_Same.f k t486 (([1, 207, 228, 43] : List Int))).bind fun t516 => (if t516 = true then (if bt489.2.2 = bt482.2 then (if bt489.2.1 = true then ((gatelineref01_Same.f k bt489.1 (([1, 9] : List Int))).bind fun t520 => (if t520 = true then (if bt494.2.2 = bt482.2 then (if bt494.2.1 = true then (none) else ((gatelineref01_Same.f k bt494.1 bt489.1).bind fun t521 => (if t521 = true then ((gatelineref01_Same.f k t502 (([0, 6, 4] : List Int))).bind fun t525 => (if t525 = true then (some (bt508.2.2 == 4)) else (none))) else (none)))) else (none)) else (none))) else (none)) else (none)) else (none))) else (none)))))))) = some r := by first | (rw [hy479]; with_reducible exact H) | (have H2_ := (Option.bind_some _ _).symm.trans H; rw [hy479]; with_reducible exact H2_) | (have H2_ := (Option.bind_some _ _).symm.trans H; with_reducible exact H2_) | with_reducible exact H | (rw [hy479]; exact H) | exact H
  have Ny479 := Aside0.mk hy479
  clear hy479
  replace H := Option.bind_eq_some_iff.mp H
  obtain ⟨⟨t482, t483⟩, A10, H⟩ := H
  replace H : ((swipe_Turn.f k t482).bind fun t486 => ((swipe_Read.f k t486).bind fun bt489 => ((swipe_Read.f k t482).bind fun bt494 => ((swipe_Turn.f k (([32, 96, 0] : List Int))).bind fun t502 => ((swipe_Read.f k (([0, 0] : List Int))).bind fun bt508 => (if t483 = 0 then ((gatelineref01_Same.f k t486 (([1, 207, 228, 43] : List Int))).bind fun t516 => (if t516 = true then (if bt489.2.2 = t483 then (if bt489.2.1 = true then ((gatelineref01_Same.f k bt489.1 (([1, 9] : List Int))).bind fun t520 => (if t520 = true then (if bt494.2.2 = t483 then (if bt494.2.1 = true then (none) else ((gatelineref01_Same.f k bt494.1 bt489.1).bind fun t521 => (if t521 = true then ((gatelineref01_Same.f k t502 (([0, 6, 4] : List Int))).bind fun t525 => (if t525 = true then (some (bt508.2.2 == 4)) else (none))) else (none)))) else (none)) else (none))) else (none)) else (none)) else (none))) else (none))))))) = some r := H
  have A1 := Aside0.mk A10
  clear A10
  replace H := Option.bind_eq_some_iff.mp H
  obtain ⟨t486, A20, H⟩ := H
  replace H : ((swipe_Read.f k t486).bind fun bt489 => ((swipe_Read.f k t482).bind fun bt494 => ((swipe_Turn.f k (([32, 96, 0] : List Int))).bind fun t502 => ((swipe_Read.f k (([0, 0] : List Int))).bind fun bt508 => (if t483 = 0 then ((gatelineref01_Same.f k t486 (([1, 207, 228, 43] : List Int))).bind fun t516 => (if t516 = true then (if bt489.2.2 = t483 then (if bt489.2.1 = true then ((gatelineref01_Same.f k bt489.1 (([1, 9] : List Int))).bind fun t520 => (if t520 = true then (if bt494.2.2 = t483 then (if bt494.2.1 = true then (none) else ((gatelineref01_Same.f k bt494.1 bt489.1).bind fun t521 => (if t521 = true then ((gatelineref01_Same.f k t502 (([0, 6, 4] : List Int))).bind fun t525 => (if t525 = true then (some (bt508.2.2 == 4)) else (none))) else (none)))) else (none)) else (none))) else (none)) else (none)) else (none))) else (none)))))) = some r := H
  have A2 := Aside0.mk A20
  clear A20
  replace H := Option.bind_eq_some_iff.mp H
  obtain ⟨⟨t489, t490, t491⟩, A30, H⟩ := H
  replace H : ((swipe_Read.f k t482).bind fun bt494 => ((swipe_Turn.f k (([32, 96, 0] : List Int))).bind fun t502 => ((swipe_Read.f k (([0, 0] : List Int))).bind fun bt508 => (if t483 = 0 then ((gatelineref01_Same.f k t486 (([1, 207, 228, 43] : List Int))).bind fun t516 => (if t516 = true then (if t491 = t483 then (if t490 = true then ((gatelineref01_Same.f k t489 (([1, 9] : List Int))).bind fun t520 => (if t520 = true then (if bt494.2.2 = t483 then (if bt494.2.1 = true then (none) else ((gatelineref01_Same.f k bt494.1 t489).bind fun t521 => (if t521 = true then ((gatelineref01_Same.f k t502 (([0, 6, 4] : List Int))).bind fun t525 => (if t525 = true then (some (bt508.2.2 == 4)) else (none))) else (none)))) else (none)) else (none))) else (none)) else (none)) else (none))) else (none))))) = some r := H
  have A3 := Aside0.mk A30
  clear A30
  replace H := Option.bind_eq_some_iff.mp H
  obtain ⟨⟨t494, t495, t496⟩, A40, H⟩ := H
  replace H : ((swipe_Turn.f k (([32, 96, 0] : List Int))).bind fun t502 => ((swipe_Read.f k (([0, 0] : List Int))).bind fun bt508 => (if t483 = 0 then ((gatelineref01_Same.f k t486 (([1, 207, 228, 43] : List Int))).bind fun t516 => (if t516 = true then (if t491 = t483 then (if t490 = true then ((gatelineref01_Same.f k t489 (([1, 9] : List Int))).bind fun t520 => (if t520 = true then (if t496 = t483 then (if t495 = true then (none) else ((gatelineref01_Same.f k t494 t489).bind fun t521 => (if t521 = true then ((gatelineref01_Same.f k t502 (([0, 6, 4] : List Int))).bind fun t525 => (if t525 = true then (some (bt508.2.2 == 4)) else (none))) else (none)))) else (none)) else (none))) else (none)) else (none)) else (none))) else (none)))) = some r := H
  have A4 := Aside0.mk A40
  clear A40
  obtain ⟨y499, hy499⟩ : ∃ y_ : List Int, y_ = (([32, 96, 0] : List Int)) := ⟨_, rfl⟩
  replace H : ((swipe_Turn.f k y499).bind fun t502 => ((swipe_Read.f k (([0, 0] : List Int))).bind fun bt508 => (if t483 = 0 then ((gatelineref01_Same.f k t486 (([1, 207, 228, 43] : List Int))).bind fun t516 => (if t516 = true then (if t491 = t483 then (if t490 = true then ((gatelineref01_Same.f k t489 (([1, 9] : List Int))).bind fun t520 => (if t520 = true then (if t496 = t483 then (if t495 = true then (none) else ((gatelineref01_Same.f k t494 t489).bind fun t521 => (if t521 = true then ((gatelineref01_Same.f k t502 (([0, 6, 4] : List Int))).bind fun t525 => (if t525 = true then (some (bt508.2.2 == 4)) else (none))) else (none)))) else (none)) else (none))) else (none)) else (none)) else (none))) else (none)))) = some r := by first | (rw [hy499]; with_reducible exact H) | (have H2_ := (Option.bind_some _ _).symm.trans H; rw [hy499]; with_reducible exact H2_) | (have H2_ := (Option.bind_some _ _).symm.trans H; with_reducible exact H2_) | with_reducible exact H | (rw [hy499]; exact H) | exact H
  have Ny499 := Aside0.mk hy499
  clear hy499
  replace H := Option.bind_eq_some_iff.mp H
  obtain ⟨t502, A50, H⟩ := H
  replace H : ((swipe_Read.f k (([0, 0] : List Int))).bind fun bt508 => (if t483 = 0 then ((gatelineref01_Same.f k t486 (([1, 207, 228, 43] : List Int))).bind fun t516 => (if t516 = true then (if t491 = t483 then (if t490 = true then ((gatelineref01_Same.f k t489 (([1, 9] : List Int))).bind fun t520 => (if t520 = true then (if t496 = t483 then (if t495 = true then (none) else ((gatelineref01_Same.f k t494 t489).bind fun t521 => (if t521 = true then ((gatelineref01_Same.f k t502 (([0, 6, 4] : List Int))).bind fun t525 => (if t525 = true then (some (bt508.2.2 == 4)) else (none))) else (none)))) else (none)) else (none))) else (none)) else (none)) else (none))) else (none))) = some r := H
  have A5 := Aside0.mk A50
  clear A50
  obtain ⟨y505, hy505⟩ : ∃ y_ : List Int, y_ = (([0, 0] : List Int)) := ⟨_, rfl⟩
  replace H : ((swipe_Read.f k y505).bind fun bt508 => (if t483 = 0 then ((gatelineref01_Same.f k t486 (([1, 207, 228, 43] : List Int))).bind fun t516 => (if t516 = true then (if t491 = t483 then (if t490 = true then ((gatelineref01_Same.f k t489 (([1, 9] : List Int))).bind fun t520 => (if t520 = true then (if t496 = t483 then (if t495 = true then (none) else ((gatelineref01_Same.f k t494 t489).bind fun t521 => (if t521 = true then ((gatelineref01_Same.f k t502 (([0, 6, 4] : List Int))).bind fun t525 => (if t525 = true then (some (bt508.2.2 == 4)) else (none))) else (none)))) else (none)) else (none))) else (none)) else (none)) else (none))) else (none))) = some r := by first | (rw [hy505]; with_reducible exact H) | (have H2_ := (Option.bind_some _ _).symm.trans H; rw [hy505]; with_reducible exact H2_) | (have H2_ := (Option.bind_some _ _).symm.trans H; with_reducible exact H2_) | with_reducible exact H | (rw [hy505]; exact H) | exact H
  have Ny505 := Aside0.mk hy505
  clear hy505
  replace H := Option.bind_eq_some_iff.mp H
  obtain ⟨⟨t508, t509, t510⟩, A60, H⟩ := H
  replace H : (if t483 = 0 then ((gatelineref01_Same.f k t486 (([1, 207, 228, 43] : List Int))).bind fun t516 => (if t516 = true then (if t491 = t483 then (if t490 = true then ((gatelineref01_Same.f k t489 (([1, 9] : List Int))).bind fun t520 => (if t520 = true then (if t496 = t483 then (if t495 = true then (none) else ((gatelineref01_Same.f k t494 t489).bind fun t521 => (if t521 = true then ((gatelineref01_Same.f k t502 (([0, 6, 4] : List Int))).bind fun t525 => (if t525 = true then (some (t510 == 4)) else (none))) else (none)))) else (none)) else (none))) else (none)) else (none)) else (none))) else (none)) = some r := H
  have A6 := Aside0.mk A60
  clear A60
  by_cases c7 : t483 = 0
  · rw [if_pos c7] at H
    have c7b0 : (t483 == 0) = true := beq_iff_eq.mpr c7
    have c7b1 : (t483 != 0) = false := bne_eq_false_iff_eq.mpr c7
    clear c7
    obtain ⟨y513, hy513⟩ : ∃ y_ : List Int, y_ = (([1, 207, 228, 43] : List Int)) := ⟨_, rfl⟩
    replace H : ((gatelineref01_Same.f k t486 y513).bind fun t516 => (if t516 = true then (if t491 = t483 then (if t490 = true then ((gatelineref01_Same.f k t489 (([1, 9] : List Int))).bind fun t520 => (if t520 = true then (if t496 = t483 then (if t495 = true then (none) else ((gatelineref01_Same.f k t494 t489).bind fun t521 => (if t521 = true then ((gatelineref01_Same.f k t502 (([0, 6, 4] : List Int))).bind fun t525 => (if t525 = true then (some (t510 == 4)) else (none))) else (none)))) else (none)) else (none))) else (none)) else (none)) else (none))) = some r := by first | (rw [hy513]; with_reducible exact H) | (have H2_ := (Option.bind_some _ _).symm.trans H; rw [hy513]; with_reducible exact H2_) | (have H2_ := (Option.bind_some _ _).symm.trans H; with_reducible exact H2_) | with_reducible exact H | (rw [hy513]; exact H) | exact H
    have Ny513 := Aside0.mk hy513
    clear hy513
    replace H := Option.bind_eq_some_iff.mp H
    obtain ⟨t516, A80, H⟩ := H
    replace H : (if t516 = true then (if t491 = t483 then (if t490 = true then ((gatelineref01_Same.f k t489 (([1, 9] : List Int))).bind fun t520 => (if t520 = true then (if t496 = t483 then (if t495 = true then (none) else ((gatelineref01_Same.f k t494 t489).bind fun t521 => (if t521 = true then ((gatelineref01_Same.f k t502 (([0, 6, 4] : List Int))).bind fun t525 => (if t525 = true then (some (t510 == 4)) else (none))) else (none)))) else (none)) else (none))) else (none)) else (none)) else (none)) = some r := H
    have A8 := Aside0.mk A80
    clear A80
    by_cases c9 : t516 = true
    · subst c9
      have H1 : (if t491 = t483 then (if t490 = true then ((gatelineref01_Same.f k t489 (([1, 9] : List Int))).bind fun t520 => (if t520 = true then (if t496 = t483 then (if t495 = true then (none) else ((gatelineref01_Same.f k t494 t489).bind fun t521 => (if t521 = true then ((gatelineref01_Same.f k t502 (([0, 6, 4] : List Int))).bind fun t525 => (if t525 = true then (some (t510 == 4)) else (none))) else (none)))) else (none)) else (none))) else (none)) else (none)) = some r := by rw [if_pos rfl] at H; exact H
      clear H
      have H := H1
      clear H1
      by_cases c10 : t491 = t483
      · rw [if_pos c10] at H
        have c10b0 : (t491 == t483) = true := beq_iff_eq.mpr c10
        have c10b1 : (t491 != t483) = false := bne_eq_false_iff_eq.mpr c10
        clear c10
        by_cases c11 : t490 = true
        · subst c11
          have H1 : ((gatelineref01_Same.f k t489 (([1, 9] : List Int))).bind fun t520 => (if t520 = true then (if t496 = t483 then (if t495 = true then (none) else ((gatelineref01_Same.f k t494 t489).bind fun t521 => (if t521 = true then ((gatelineref01_Same.f k t502 (([0, 6, 4] : List Int))).bind fun t525 => (if t525 = true then (some (t510 == 4)) else (none))) else (none)))) else (none)) else (none))) = some r := by rw [if_pos rfl] at H; exact H
          clear H
          have H := H1
          clear H1
          obtain ⟨y517, hy517⟩ : ∃ y_ : List Int, y_ = (([1, 9] : List Int)) := ⟨_, rfl⟩
          replace H : ((gatelineref01_Same.f k t489 y517).bind fun t520 => (if t520 = true then (if t496 = t483 then (if t495 = true then (none) else ((gatelineref01_Same.f k t494 t489).bind fun t521 => (if t521 = true then ((gatelineref01_Same.f k t502 (([0, 6, 4] : List Int))).bind fun t525 => (if t525 = true then (some (t510 == 4)) else (none))) else (none)))) else (none)) else (none))) = some r := by first | (rw [hy517]; with_reducible exact H) | (have H2_ := (Option.bind_some _ _).symm.trans H; rw [hy517]; with_reducible exact H2_) | (have H2_ := (Option.bind_some _ _).symm.trans H; with_reducible exact H2_) | with_reducible exact H | (rw [hy517]; exact H) | exact H
          have Ny517 := Aside0.mk hy517
          clear hy517
          replace H := Option.bind_eq_some_iff.mp H
          obtain ⟨t520, A120, H⟩ := H
          replace H : (if t520 = true then (if t496 = t483 then (if t495 = true then (none) else ((gatelineref01_Same.f k t494 t489).bind fun t521 => (if t521 = true then ((gatelineref01_Same.f k t502 (([0, 6, 4] : List Int))).bind fun t525 => (if t525 = true then (some (t510 == 4)) else (none))) else (none)))) else (none)) else (none)) = some r := H
          have A12 := Aside0.mk A120
          clear A120
          by_cases c13 : t520 = true
          · subst c13
            have H1 : (if t496 = t483 then (if t495 = true then (none) else ((gatelineref01_Same.f k t494 t489).bind fun t521 => (if t521 = true then ((gatelineref01_Same.f k t502 (([0, 6, 4] : List Int))).bind fun t525 => (if t525 = true then (some (t510 == 4)) else (none))) else (none)))) else (none)) = some r := by rw [if_pos rfl] at H; exact H
            clear H
            have H := H1
            clear H1
            by_cases c14 : t496 = t483
            · rw [if_pos c14] at H
              have c14b0 : (t496 == t483) = true := beq_iff_eq.mpr c14
              have c14b1 : (t496 != t483) = false := bne_eq_false_iff_eq.mpr c14
              clear c14
              by_cases c15 : t495 = true
              · subst c15
                have H1 : (none) = some r := by rw [if_pos rfl] at H; exact H
                clear H
                have H := H1
                clear H1
                exact absurd H (by simp)
              · replace c15 := Bool.eq_false_iff.mpr c15
                subst c15
                have H1 : ((gatelineref01_Same.f k t494 t489).bind fun t521 => (if t521 = true then ((gatelineref01_Same.f k t502 (([0, 6, 4] : List Int))).bind fun t525 => (if t525 = true then (some (t510 == 4)) else (none))) else (none))) = some r := by rw [if_neg (show ¬ (false = true) by decide)] at H; exact H
                clear H
                have H := H1
                clear H1
                replace H := Option.bind_eq_some_iff.mp H
                obtain ⟨t521, A160, H⟩ := H
                replace H : (if t521 = true then ((gatelineref01_Same.f k t502 (([0, 6, 4] : List Int))).bind fun t525 => (if t525 = true then (some (t510 == 4)) else (none))) else (none)) = some r := H
                have A16 := Aside0.mk A160
                clear A160
                by_cases c17 : t521 = true
                · subst c17
                  have H1 : ((gatelineref01_Same.f k t502 (([0, 6, 4] : List Int))).bind fun t525 => (if t525 = true then (some (t510 == 4)) else (none))) = some r := by rw [if_pos rfl] at H; exact H
                  clear H
                  have H := H1
                  clear H1
                  obtain ⟨y522, hy522⟩ : ∃ y_ : List Int, y_ = (([0, 6, 4] : List Int)) := ⟨_, rfl⟩
                  replace H : ((gatelineref01_Same.f k t502 y522).bind fun t525 => (if t525 = true then (some (t510 == 4)) else (none))) = some r := by first | (rw [hy522]; with_reducible exact H) | (have H2_ := (Option.bind_some _ _).symm.trans H; rw [hy522]; with_reducible exact H2_) | (have H2_ := (Option.bind_some _ _).symm.trans H; with_reducible exact H2_) | with_reducible exact H | (rw [hy522]; exact H) | exact H
                  have Ny522 := Aside0.mk hy522
                  clear hy522
                  replace H := Option.bind_eq_some_iff.mp H
                  obtain ⟨t525, A180, H⟩ := H
                  replace H : (if t525 = true then (some (t510 == 4)) else (none)) = some r := H
                  have A18 := Aside0.mk A180
                  clear A180
                  by_cases c19 : t525 = true
                  · subst c19
                    have H1 : (some (t510 == 4)) = some r := by rw [if_pos rfl] at H; exact H
                    clear H
                    have H := H1
                    clear H1
                    obtain rfl := Option.some.inj H
                    go_enter Try.func18, Try.ntmps18
                    go_wp2_with (first | ((with_reducible refine gate_dst (N := 15) rfl ?_); (try (refine gate_guard (by rfl) ?_; dsimp only)); refine Kd.R_lit (Kd.int .u8) _ 5 ?hg (N := 15) ?hd (xs := ([1, 9] : List Int)) (inner := [.int .u8 1, .int .u8 9]) (ok := fun _ => True) (okp := fun _ => True) ?hr ?hp (fun _ hk => hk) trivial (Below.refl _ _) (Nat.le_refl _) (by simp) ?_; (case hd => rfl); (case hg => rfl); (case hr => first | (go_simp; done) | (go_simp; rfl)); (case hp => exact (Reps.one (show Kd.M (Kd.int .u8) _ _ _ 1 [.int .u8 1] from rfl) (Reps.one (show Kd.M (Kd.int .u8) _ _ _ 9 [.int .u8 9] from rfl) (Reps.none _ _)))); intro v480 w20 ho21 hb hg_ hnew_; clear hg_ hnew_; (first | rw [← Ny479.out] at ho21 | (simp only [Int.reduceToNat] at ho21; rw [← Ny479.out] at ho21)); have n0_ := Aside0.mk (Kd.R_lower ho21 (below_size (by repeat (first | (with_reducible first | exact HB.out | apply below_alloc | apply pw_below_drewN | apply below_drew1) | exact HB.out)))); have n1_ := Aside0.mk (below_step (by repeat (first | (with_reducible first | exact HB.out | apply below_alloc | apply pw_below_drewN | apply below_drew1) | exact HB.out)) hb); clear HB; have HO481 := n0_; have HB := n1_; clear n0_ n1_; clear hb ho21; obtain ⟨Ao22, co22, eo22⟩ := Kd.R_slice HO481.out; subst eo22) | ((with_reducible refine gate_callee (f := 17) rfl ?_); refine goesL_ (some 16) rfl rfl Try.func17 (by kernel_rfl) rfl #[.slice Ao22 y479.length co22] rfl (by (try simp only [List.map_toArray, List.map_cons, List.map_nil]); first | done | rfl | (simp only [List.length_drop, List.length_take]; rfl)) ?_; (with_reducible refine (track_Put.calls k _ _ y479 t482 t483 _ ?side1 ?side2 A1.out).mono ?_); (case side1 => repeat (first | exact (Kd.R_reads' HO481.out).2.2 | (with_reducible refine Kd.C_alloc ?_ _) | (with_reducible refine Kd.C_drewN ?_ _) | (with_reducible refine Kd.C_drew ?_))); (case side2 => exact (Kd.R_reads' HO481.out).2.1); rintro e w23 ⟨v484, rfl, ho0, hb⟩; refine ⟨_, rfl, ?_⟩; have n0_ := Aside0.mk (Kd.R_elder' (by (with_reducible repeat (first | apply Kd.R_alloc | apply Kd.R_drewN | apply Kd.R_drew)); exact HO481.out) (Kd.R_base ho0) hb); have n1_ := Aside0.mk (Kd.R_lower (Kd.R_new' ho0 (Kd.R_lt (by (with_reducible repeat (first | apply Kd.R_alloc | apply Kd.R_drewN | apply Kd.R_drew)); exact HO481.out))) (below_size (by repeat (first | (with_reducible first | exact HB.out | apply below_alloc | apply pw_below_drewN | apply below_drew1) | exact HB.out)))); have n2_ := Aside0.mk (below_step (by repeat (first | (with_reducible first | exact HB.out | apply below_alloc | apply pw_below_drewN | apply below_drew1) | exact HB.out)) hb); clear HO481; clear HB; have HO481 := n0_; have HO485 := n1_; have HB := n2_; clear n0_ n1_ n2_; (try clear hb); (try clear hb2); (try clear hk); (try clear hi); (try clear ho0); obtain ⟨Ao24, co24, eo24⟩ := Kd.R_slice HO485.out; subst eo24) | ((with_reducible refine gate_callee (f := 19) rfl ?_); refine goesL_ (some 20) rfl rfl Try.func19 (by kernel_rfl) rfl #[.slice Ao24 t482.length co24] rfl (by (try simp only [List.map_toArray, List.map_cons, List.map_nil]); first | done | rfl | (simp only [List.length_drop, List.length_take]; rfl)) ?_; (with_reducible refine (swipe_Turn.calls k _ _ t482 t486 _ ?side1 ?side2 A2.out).mono ?_); (case side1 => repeat (first | exact (Kd.R_reads' HO485.out).2.2 | (with_reducible refine Kd.C_alloc ?_ _) | (with_reducible refine Kd.C_drewN ?_ _) | (with_reducible refine Kd.C_drew ?_))); (case side2 => exact (Kd.R_reads' HO485.out).2.1); rintro e w25 ⟨v487, rfl, ho0, hb⟩; refine ⟨_, rfl, ?_⟩; have n0_ := Aside0.mk (Kd.R_elder' (by (with_reducible repeat (first | apply Kd.R_alloc | apply Kd.R_drewN | apply Kd.R_drew)); exact HO481.out) (Kd.R_base ho0) hb); have n1_ := Aside0.mk (Kd.R_elder' (by (with_reducible repeat (first | apply Kd.R_alloc | apply Kd.R_drewN | apply Kd.R_drew)); exact HO485.out) (Kd.R_base ho0) hb); have n2_ := Aside0.mk (Kd.R_lower (Kd.R_new' (Kd.R_new' ho0 (Kd.R_lt (by (with_reducible repeat (first | apply Kd.R_alloc | apply Kd.R_drewN | apply Kd.R_drew)); exact HO481.out))) (Kd.R_lt (by (with_reducible repeat (first | apply Kd.R_alloc | apply Kd.R_drewN | apply Kd.R_drew)); exact HO485.out))) (below_size (by repeat (first | (with_reducible first | exact HB.out | apply below_alloc | apply pw_below_drewN | apply below_drew1) | exact HB.out)))); have n3_ := Aside0.mk (below_step (by repeat (first | (with_reducible first | exact HB.out | apply below_alloc | apply pw_below_drewN | apply below_drew1) | exact HB.out)) hb); clear HO481; clear HO485; clear HB; have HO481 := n0_; have HO485 := n1_; have HO488 := n2_; have HB := n3_; clear n0_ n1_ n2_ n3_; (try clear hb); (try clear hb2); (try clear hk); (try clear hi); (try clear ho0); obtain ⟨Ao26, co26, eo26⟩ := Kd.R_slice HO488.out; subst eo26) | ((with_reducible refine gate_callee (f := 21) rfl ?_); refine goesL_ (some 23) rfl rfl Try.func21 (by kernel_rfl) rfl #[.slice Ao26 t486.length co26] rfl (by (try simp only [List.map_toArray, List.map_cons, List.map_nil]); first | done | rfl | (simp only [List.length_drop, List.length_take]; rfl)) ?_; (with_reducible refine (swipe_Read.calls k _ _ t486 t489 true t491 _ ?side1 ?side2 A3.out).mono ?_); (case side1 => repeat (first | exact (Kd.R_reads' HO488.out).2.2 | (with_reducible refine Kd.C_alloc ?_ _) | (with_reducible refine Kd.C_drewN ?_ _) | (with_reducible refine Kd.C_drew ?_))); (case side2 => exact (Kd.R_reads' HO488.out).2.1); rintro e w27 ⟨v492, rfl, ho0, hb⟩; refine ⟨_, rfl, ?_⟩; have n0_ := Aside0.mk (Kd.R_elder' (by (with_reducible repeat (first | apply Kd.R_alloc | apply Kd.R_drewN | apply Kd.R_drew)); exact HO481.out) (Kd.R_base ho0) hb); have n1_ := Aside0.mk (Kd.R_elder' (by (with_reducible repeat (first | apply Kd.R_alloc | apply Kd.R_drewN | apply Kd.R_drew)); exact HO485.out) (Kd.R_base ho0) hb); have n2_ := Aside0.mk (Kd.R_elder' (by (with_reducible repeat (first | apply Kd.R_alloc | apply Kd.R_drewN | apply Kd.R_drew)); exact HO488.out) (Kd.R_base ho0) hb); have n3_ := Aside0.mk (Kd.R_lower (Kd.R_new' (Kd.R_new' (Kd.R_new' ho0 (Kd.R_lt (by (with_reducible repeat (first | apply Kd.R_alloc | apply Kd.R_drewN | apply Kd.R_drew)); exact HO481.out))) (Kd.R_lt (by (with_reducible repeat (first | apply Kd.R_alloc | apply Kd.R_drewN | apply Kd.R_drew)); exact HO485.out))) (Kd.R_lt (by (with_reducible repeat (first | apply Kd.R_alloc | apply Kd.R_drewN | apply Kd.R_drew)); exact HO488.out))) (below_size (by repeat (first | (with_reducible first | exact HB.out | apply below_alloc | apply pw_below_drewN | apply below_drew1) | exact HB.out)))); have n4_ := Aside0.mk (below_step (by repeat (first | (with_reducible first | exact HB.out | apply below_alloc | apply pw_below_drewN | apply below_drew1) | exact HB.out)) hb); clear HO481; clear HO485; clear HO488; clear HB; have HO481 := n0_; have HO485 := n1_; have HO488 := n2_; have HO493 := n3_; have HB := n4_; clear n0_ n1_ n2_ n3_ n4_; (try clear hb); (try clear hb2); (try clear hk); (try clear hi); (try clear ho0)) | ((with_reducible refine gate_callee (f := 21) rfl ?_); refine goesL_ (some 29) rfl rfl Try.func21 (by kernel_rfl) rfl #[.slice Ao24 t482.length co24] rfl (by (try simp only [List.map_toArray, List.map_cons, List.map_nil]); first | done | rfl | (simp only [List.length_drop, List.length_take]; rfl)) ?_; (with_reducible refine (swipe_Read.calls k _ _ t482 t494 false t496 _ ?side1 ?side2 A4.out).mono ?_); (case side1 => repeat (first | exact (Kd.R_reads' HO485.out).2.2 | (with_reducible refine Kd.C_alloc ?_ _) | (with_reducible refine Kd.C_drewN ?_ _) | (with_reducible refine Kd.C_drew ?_))); (case side2 => exact (Kd.R_reads' HO485.out).2.1); rintro e w28 ⟨v497, rfl, ho0, hb⟩; refine ⟨_, rfl, ?_⟩; have n0_ := Aside0.mk (Kd.R_elder' (by (with_reducible repeat (first | apply Kd.R_alloc | apply Kd.R_drewN | apply Kd.R_drew)); exact HO481.out) (Kd.R_base ho0) hb); have n1_ := Aside0.mk (Kd.R_elder' (by (with_reducible repeat (first | apply Kd.R_alloc | apply Kd.R_drewN | apply Kd.R_drew)); exact HO485.out) (Kd.R_base ho0) hb); have n2_ := Aside0.mk (Kd.R_elder' (by (with_reducible repeat (first | apply Kd.R_alloc | apply Kd.R_drewN | apply Kd.R_drew)); exact HO488.out) (Kd.R_base ho0) hb); have n3_ := Aside0.mk (Kd.R_elder' (by (with_reducible repeat (first | apply Kd.R_alloc | apply Kd.R_drewN | apply Kd.R_drew)); exact HO493.out) (Kd.R_base ho0) hb); have n4_ := Aside0.mk (Kd.R_lower (Kd.R_new' (Kd.R_new' (Kd.R_new' (Kd.R_new' ho0 (Kd.R_lt (by (with_reducible repeat (first | apply Kd.R_alloc | apply Kd.R_drewN | apply Kd.R_drew)); exact HO481.out))) (Kd.R_lt (by (with_reducible repeat (first | apply Kd.R_alloc | apply Kd.R_drewN | apply Kd.R_drew)); exact HO485.out))) (Kd.R_lt (by (with_reducible repeat (first | apply Kd.R_alloc | apply Kd.R_drewN | apply Kd.R_drew)); exact HO488.out))) (Kd.R_lt (by (with_reducible repeat (first | apply Kd.R_alloc | apply Kd.R_drewN | apply Kd.R_drew)); exact HO493.out))) (below_size (by repeat (first | (with_reducible first | exact HB.out | apply below_alloc | apply pw_below_drewN | apply below_drew1) | exact HB.out)))); have n5_ := Aside0.mk (below_step (by repeat (first | (with_reducible first | exact HB.out | apply below_alloc | apply pw_below_drewN | apply below_drew1) | exact HB.out)) hb); clear HO481; clear HO485; clear HO488; clear HO493; clear HB; have HO481 := n0_; have HO485 := n1_; have HO488 := n2_; have HO493 := n3_; have HO498 := n4_; have HB := n5_; clear n0_ n1_ n2_ n3_ n4_ n5_; (try clear hb); (try clear hb2); (try clear hk); (try clear hi); (try clear ho0)) | ((with_reducible refine gate_dst (N := 33) rfl ?_); (try (refine gate_guard (by rfl) ?_; dsimp only)); refine Kd.R_lit (Kd.int .u8) _ 5 ?hg (N := 33) ?hd (xs := ([32, 96, 0] : List Int)) (inner := [.int .u8 32, .int .u8 96, .int .u8 0]) (ok := fun _ => True) (okp := fun _ => True) ?hr ?hp (fun _ hk => hk) trivial (Below.refl _ _) (Nat.le_refl _) (by simp) ?_; (case hd => rfl); (case hg => rfl); (case hr => first | (go_simp; done) | (go_simp; rfl)); (case hp => exact (Reps.one (show Kd.M (Kd.int .u8) _ _ _ 32 [.int .u8 32] from rfl) (Reps.one (show Kd.M (Kd.int .u8) _ _ _ 96 [.int .u8 96] from rfl) (Reps.one (show Kd.M (Kd.int .u8) _ _ _ 0 [.int .u8 0] from rfl) (Reps.none _ _))))); intro v500 w29 ho30 hb hg_ hnew_; clear hg_ hnew_; (first | rw [← Ny499.out] at ho30 | (simp only [Int.reduceToNat] at ho30; rw [← Ny499.out] at ho30)); have n0_ := Aside0.mk (Kd.R_elder' (by (with_reducible repeat (first | apply Kd.R_alloc | apply Kd.R_drewN | apply Kd.R_drew)); exact HO481.out) (Kd.R_base ho30) hb); have n1_ := Aside0.mk (Kd.R_elder' (by (with_reducible repeat (first | apply Kd.R_alloc | apply Kd.R_drewN | apply Kd.R_drew)); exact HO485.out) (Kd.R_base ho30) hb); have n2_ := Aside0.mk (Kd.R_elder' (by (with_reducible repeat (first | apply Kd.R_alloc | apply Kd.R_drewN | apply Kd.R_drew)); exact HO488.out) (Kd.R_base ho30) hb); have n3_ := Aside0.mk (Kd.R_elder' (by (with_reducible repeat (first | apply Kd.R_alloc | apply Kd.R_drewN | apply Kd.R_drew)); exact HO493.out) (Kd.R_base ho30) hb); have n4_ := Aside0.mk (Kd.R_elder' (by (with_reducible repeat (first | apply Kd.R_alloc | apply Kd.R_drewN | apply Kd.R_drew)); exact HO498.out) (Kd.R_base ho30) hb); have n5_ := Aside0.mk (Kd.R_lower (Kd.R_new' (Kd.R_new' (Kd.R_new' (Kd.R_new' (Kd.R_new' ho30 (Kd.R_lt (by (with_reducible repeat (first | apply Kd.R_alloc | apply Kd.R_drewN | apply Kd.R_drew)); exact HO481.out))) (Kd.R_lt (by (with_reducible repeat (first | apply Kd.R_alloc | apply Kd.R_drewN | apply Kd.R_drew)); exact HO485.out))) (Kd.R_lt (by (with_reducible repeat (first | apply Kd.R_alloc | apply Kd.R_drewN | apply Kd.R_drew)); exact HO488.out))) (Kd.R_lt (by (with_reducible repeat (first | apply Kd.R_alloc | apply Kd.R_drewN | apply Kd.R_drew)); exact HO493.out))) (Kd.R_lt (by (with_reducible repeat (first | apply Kd.R_alloc | apply Kd.R_drewN | apply Kd.R_drew)); exact HO498.out))) (below_size (by repeat (first | (with_reducible first | exact HB.out | apply below_alloc | apply pw_below_drewN | apply below_drew1) | exact HB.out)))); have n6_ := Aside0.mk (below_step (by repeat (first | (with_reducible first | exact HB.out | apply below_alloc | apply pw_below_drewN | apply below_drew1) | exact HB.out)) hb); clear HO481; clear HO485; clear HO488; clear HO493; clear HO498; clear HB; have HO481 := n0_; have HO485 := n1_; have HO488 := n2_; have HO493 := n3_; have HO498 := n4_; have HO501 := n5_; have HB := n6_; clear n0_ n1_ n2_ n3_ n4_ n5_ n6_; clear hb ho30; obtain ⟨Ao31, co31, eo31⟩ := Kd.R_slice HO501.out; subst eo31) | ((with_reducible refine gate_callee (f := 19) rfl ?_); refine goesL_ (some 34) rfl rfl Try.func19 (by kernel_rfl) rfl #[.slice Ao31 y499.length co31] rfl (by (try simp only [List.map_toArray, List.map_cons, List.map_nil]); first | done | rfl | (simp only [List.length_drop, List.length_take]; rfl)) ?_; (with_reducible refine (swipe_Turn.calls k _ _ y499 t502 _ ?side1 ?side2 A5.out).mono ?_); (case side1 => repeat (first | exact (Kd.R_reads' HO501.out).2.2 | (with_reducible refine Kd.C_alloc ?_ _) | (with_reducible refine Kd.C_drewN ?_ _) | (with_reducible refine Kd.C_drew ?_))); (case side2 => exact (Kd.R_reads' HO501.out).2.1); rintro e w32 ⟨v503, rfl, ho0, hb⟩; refine ⟨_, rfl, ?_⟩; have n0_ := Aside0.mk (Kd.R_elder' (by (with_reducible repeat (first | apply Kd.R_alloc | apply Kd.R_drewN | apply Kd.R_drew)); exact HO481.out) (Kd.R_base ho0) hb); have n1_ := Aside0.mk (Kd.R_elder' (by (with_reducible repeat (first | apply Kd.R_alloc | apply Kd.R_drewN | apply Kd.R_drew)); exact HO485.out) (Kd.R_base ho0) hb); have n2_ := Aside0.mk (Kd.R_elder' (by (with_reducible repeat (first | apply Kd.R_alloc | apply Kd.R_drewN | apply Kd.R_drew)); exact HO488.out) (Kd.R_base ho0) hb); have n3_ := Aside0.mk (Kd.R_elder' (by (with_reducible repeat (first | apply Kd.R_alloc | apply Kd.R_drewN | apply Kd.R_drew)); exact HO493.out) (Kd.R_base ho0) hb); have n4_ := Aside0.mk (Kd.R_elder' (by (with_reducible repeat (first | apply Kd.R_alloc | apply Kd.R_drewN | apply Kd.R_drew)); exact HO498.out) (Kd.R_base ho0) hb); have n5_ := Aside0.mk (Kd.R_elder' (by (with_reducible repeat (first | apply Kd.R_alloc | apply Kd.R_drewN | apply Kd.R_drew)); exact HO501.out) (Kd.R_base ho0) hb); have n6_ := Aside0.mk (Kd.R_lower (Kd.R_new' (Kd.R_new' (Kd.R_new' (Kd.R_new' (Kd.R_new' (Kd.R_new' ho0 (Kd.R_lt (by (with_reducible repeat (first | apply Kd.R_alloc | apply Kd.R_drewN | apply Kd.R_drew)); exact HO481.out))) (Kd.R_lt (by (with_reducible repeat (first | apply Kd.R_alloc | apply Kd.R_drewN | apply Kd.R_drew)); exact HO485.out))) (Kd.R_lt (by (with_reducible repeat (first | apply Kd.R_alloc | apply Kd.R_drewN | apply Kd.R_drew)); exact HO488.out))) (Kd.R_lt (by (with_reducible repeat (first | apply Kd.R_alloc | apply Kd.R_drewN | apply Kd.R_drew)); exact HO493.out))) (Kd.R_lt (by (with_reducible repeat (first | apply Kd.R_alloc | apply Kd.R_drewN | apply Kd.R_drew)); exact HO498.out))) (Kd.R_lt (by (with_reducible repeat (first | apply Kd.R_alloc | apply Kd.R_drewN | apply Kd.R_drew)); exact HO501.out))) (below_size (by repeat (first | (with_reducible first | exact HB.out | apply below_alloc | apply pw_below_drewN | apply below_drew1) | exact HB.out)))); have n7_ := Aside0.mk (below_step (by repeat (first | (with_reducible first | exact HB.out | apply below_alloc | apply pw_below_drewN | apply below_drew1) | exact HB.out)) hb); clear HO481; clear HO485; clear HO488; clear HO493; clear HO498; clear HO501; clear HB; have HO481 := n0_; have HO485 := n1_; have HO488 := n2_; have HO493 := n3_; have HO498 := n4_; have HO501 := n5_; have HO504 := n6_; have HB := n7_; clear n0_ n1_ n2_ n3_ n4_ n5_ n6_ n7_; (try clear hb); (try clear hb2); (try clear hk); (try clear hi); (try clear ho0)) | ((with_reducible refine gate_dst (N := 36) rfl ?_); (try (refine gate_guard (by rfl) ?_; dsimp only)); refine Kd.R_lit (Kd.int .u8) _ 5 ?hg (N := 36) ?hd (xs := ([0, 0] : List Int)) (inner := [.int .u8 0, .int .u8 0]) (ok := fun _ => True) (okp := fun _ => True) ?hr ?hp (fun _ hk => hk) trivial (Below.refl _ _) (Nat.le_refl _) (by simp) ?_; (case hd => rfl); (case hg => rfl); (case hr => first | (go_simp; done) | (go_simp; rfl)); (case hp => exact (Reps.one (show Kd.M (Kd.int .u8) _ _ _ 0 [.int .u8 0] from rfl) (Reps.one (show Kd.M (Kd.int .u8) _ _ _ 0 [.int .u8 0] from rfl) (Reps.none _ _)))); intro v506 w33 ho34 hb hg_ hnew_; clear hg_ hnew_; (first | rw [← Ny505.out] at ho34 | (simp only [Int.reduceToNat] at ho34; rw [← Ny505.out] at ho34)); have n0_ := Aside0.mk (Kd.R_elder' (by (with_reducible repeat (first | apply Kd.R_alloc | apply Kd.R_drewN | apply Kd.R_drew)); exact HO481.out) (Kd.R_base ho34) hb); have n1_ := Aside0.mk (Kd.R_elder' (by (with_reducible repeat (first | apply Kd.R_alloc | apply Kd.R_drewN | apply Kd.R_drew)); exact HO485.out) (Kd.R_base ho34) hb); have n2_ := Aside0.mk (Kd.R_elder' (by (with_reducible repeat (first | apply Kd.R_alloc | apply Kd.R_drewN | apply Kd.R_drew)); exact HO488.out) (Kd.R_base ho34) hb); have n3_ := Aside0.mk (Kd.R_elder' (by (with_reducible repeat (first | apply Kd.R_alloc | apply Kd.R_drewN | apply Kd.R_drew)); exact HO493.out) (Kd.R_base ho34) hb); have n4_ := Aside0.mk (Kd.R_elder' (by (with_reducible repeat (first | apply Kd.R_alloc | apply Kd.R_drewN | apply Kd.R_drew)); exact HO498.out) (Kd.R_base ho34) hb); have n5_ := Aside0.mk (Kd.R_elder' (by (with_reducible repeat (first | apply Kd.R_alloc | apply Kd.R_drewN | apply Kd.R_drew)); exact HO501.out) (Kd.R_base ho34) hb); have n6_ := Aside0.mk (Kd.R_elder' (by (with_reducible repeat (first | apply Kd.R_alloc | apply Kd.R_drewN | apply Kd.R_drew)); exact HO504.out) (Kd.R_base ho34) hb); have n7_ := Aside0.mk (Kd.R_lower (Kd.R_new' (Kd.R_new' (Kd.R_new' (Kd.R_new' (Kd.R_new' (Kd.R_new' (Kd.R_new' ho34 (Kd.R_lt (by (with_reducible repeat (first | apply Kd.R_alloc | apply Kd.R_drewN | apply Kd.R_drew)); exact HO481.out))) (Kd.R_lt (by (with_reducible repeat (first | apply Kd.R_alloc | apply Kd.R_drewN | apply Kd.R_drew)); exact HO485.out))) (Kd.R_lt (by (with_reducible repeat (first | apply Kd.R_alloc | apply Kd.R_drewN | apply Kd.R_drew)); exact HO488.out))) (Kd.R_lt (by (with_reducible repeat (first | apply Kd.R_alloc | apply Kd.R_drewN | apply Kd.R_drew)); exact HO493.out))) (Kd.R_lt (by (with_reducible repeat (first | apply Kd.R_alloc | apply Kd.R_drewN | apply Kd.R_drew)); exact HO498.out))) (Kd.R_lt (by (with_reducible repeat (first | apply Kd.R_alloc | apply Kd.R_drewN | apply Kd.R_drew)); exact HO501.out))) (Kd.R_lt (by (with_reducible repeat (first | apply Kd.R_alloc | apply Kd.R_drewN | apply Kd.R_drew)); exact HO504.out))) (below_size (by repeat (first | (with_reducible first | exact HB.out | apply below_alloc | apply pw_below_drewN | apply below_drew1) | exact HB.out)))); have n8_ := Aside0.mk (below_step (by repeat (first | (with_reducible first | exact HB.out | apply below_alloc | apply pw_below_drewN | apply below_drew1) | exact HB.out)) hb); clear HO481; clear HO485; clear HO488; clear HO493; clear HO498; clear HO501; clear HO504; clear HB; have HO481 := n0_; have HO485 := n1_; have HO488 := n2_; have HO493 := n3_; have HO498 := n4_; have HO501 := n5_; have HO504 := n6_; have HO507 := n7_; have HB := n8_; clear n0_ n1_ n2_ n3_ n4_ n5_ n6_ n7_ n8_; clear hb ho34; obtain ⟨Ao35, co35, eo35⟩ := Kd.R_slice HO507.out; subst eo35) | ((with_reducible refine gate_callee (f := 21) rfl ?_); refine goesL_ (some 37) rfl rfl Try.func21 (by kernel_rfl) rfl #[.slice Ao35 y505.length co35] rfl (by (try simp only [List.map_toArray, List.map_cons, List.map_nil]); first | done | rfl | (simp only [List.length_drop, List.length_take]; rfl)) ?_; (with_reducible refine (swipe_Read.calls k _ _ y505 t508 t509 t510 _ ?side1 ?side2 A6.out).mono ?_); (case side1 => repeat (first | exact (Kd.R_reads' HO507.out).2.2 | (with_reducible refine Kd.C_alloc ?_ _) | (with_reducible refine Kd.C_drewN ?_ _) | (with_reducible refine Kd.C_drew ?_))); (case side2 => exact (Kd.R_reads' HO507.out).2.1); rintro e w36 ⟨v511, rfl, ho0, hb⟩; refine ⟨_, rfl, ?_⟩; have n0_ := Aside0.mk (Kd.R_elder' (by (with_reducible repeat (first | apply Kd.R_alloc | apply Kd.R_drewN | apply Kd.R_drew)); exact HO481.out) (Kd.R_base ho0) hb); have n1_ := Aside0.mk (Kd.R_elder' (by (with_reducible repeat (first | apply Kd.R_alloc | apply Kd.R_drewN | apply Kd.R_drew)); exact HO485.out) (Kd.R_base ho0) hb); have n2_ := Aside0.mk (Kd.R_elder' (by (with_reducible repeat (first | apply Kd.R_alloc | apply Kd.R_drewN | apply Kd.R_drew)); exact HO488.out) (Kd.R_base ho0) hb); have n3_ := Aside0.mk (Kd.R_elder' (by (with_reducible repeat (first | apply Kd.R_alloc | apply Kd.R_drewN | apply Kd.R_drew)); exact HO493.out) (Kd.R_base ho0) hb); have n4_ := Aside0.mk (Kd.R_elder' (by (with_reducible repeat (first | apply Kd.R_alloc | apply Kd.R_drewN | apply Kd.R_drew)); exact HO498.out) (Kd.R_base ho0) hb); have n5_ := Aside0.mk (Kd.R_elder' (by (with_reducible repeat (first | apply Kd.R_alloc | apply Kd.R_drewN | apply Kd.R_drew)); exact HO501.out) (Kd.R_base ho0) hb); have n6_ := Aside0.mk (Kd.R_elder' (by (with_reducible repeat (first | apply Kd.R_alloc | apply Kd.R_drewN | apply Kd.R_drew)); exact HO504.out) (Kd.R_base ho0) hb); have n7_ := Aside0.mk (Kd.R_elder' (by (with_reducible repeat (first | apply Kd.R_alloc | apply Kd.R_drewN | apply Kd.R_drew)); exact HO507.out) (Kd.R_base ho0) hb); have n8_ := Aside0.mk (Kd.R_lower (Kd.R_new' (Kd.R_new' (Kd.R_new' (Kd.R_new' (Kd.R_new' (Kd.R_new' (Kd.R_new' (Kd.R_new' ho0 (Kd.R_lt (by (with_reducible repeat (first | apply Kd.R_alloc | apply Kd.R_drewN | apply Kd.R_drew)); exact HO481.out))) (Kd.R_lt (by (with_reducible repeat (first | apply Kd.R_alloc | apply Kd.R_drewN | apply Kd.R_drew)); exact HO485.out))) (Kd.R_lt (by (with_reducible repeat (first | apply Kd.R_alloc | apply Kd.R_drewN | apply Kd.R_drew)); exact HO488.out))) (Kd.R_lt (by (with_reducible repeat (first | apply Kd.R_alloc | apply Kd.R_drewN | apply Kd.R_drew)); exact HO493.out))) (Kd.R_lt (by (with_reducible repeat (first | apply Kd.R_alloc | apply Kd.R_drewN | apply Kd.R_drew)); exact HO498.out))) (Kd.R_lt (by (with_reducible repeat (first | apply Kd.R_alloc | apply Kd.R_drewN | apply Kd.R_drew)); exact HO501.out))) (Kd.R_lt (by (with_reducible repeat (first | apply Kd.R_alloc | apply Kd.R_drewN | apply Kd.R_drew)); exact HO504.out))) (Kd.R_lt (by (with_reducible repeat (first | apply Kd.R_alloc | apply Kd.R_drewN | apply Kd.R_drew)); exact HO507.out))) (below_size (by repeat (first | (with_reducible first | exact HB.out | apply below_alloc | apply pw_below_drewN | apply below_drew1) | exact HB.out)))); have n9_ := Aside0.mk (below_step (by repeat (first | (with_reducible first | exact HB.out | apply below_alloc | apply pw_below_drewN | apply below_drew1) | exact HB.out)) hb); clear HO481; clear HO485; clear HO488; clear HO493; clear HO498; clear HO501; clear HO504; clear HO507; clear HB; have HO481 := n0_; have HO485 := n1_; have HO488 := n2_; have HO493 := n3_; have HO498 := n4_; have HO501 := n5_; have HO504 := n6_; have HO507 := n7_; have HO512 := n8_; have HB := n9_; clear n0_ n1_ n2_ n3_ n4_ n5_ n6_ n7_ n8_ n9_; (try clear hb); (try clear hb2); (try clear hk); (try clear hi); (try clear ho0)) | ((with_reducible refine gate_dst (N := 45) rfl ?_); (try (refine gate_guard (by rfl) ?_; dsimp only)); refine Kd.R_lit (Kd.int .u8) _ 5 ?hg (N := 45) ?hd (xs := ([1, 207, 228, 43] : List Int)) (inner := [.int .u8 1, .int .u8 207, .int .u8 228, .int .u8 43]) (ok := fun _ => True) (okp := fun _ => True) ?hr ?hp (fun _ hk => hk) trivial (Below.refl _ _) (Nat.le_refl _) (by simp) ?_; (case hd => rfl); (case hg => rfl); (case hr => first | (go_simp; done) | (go_simp; rfl)); (case hp => exact (Reps.one (show Kd.M (Kd.int .u8) _ _ _ 1 [.int .u8 1] from rfl) (Reps.one (show Kd.M (Kd.int .u8) _ _ _ 207 [.int .u8 207] from rfl) (Reps.one (show Kd.M (Kd.int .u8) _ _ _ 228 [.int .u8 228] from rfl) (Reps.one (show Kd.M (Kd.int .u8) _ _ _ 43 [.int .u8 43] from rfl) (Reps.none _ _)))))); intro v514 w37 ho38 hb hg_ hnew_; clear hg_ hnew_; (first | rw [← Ny513.out] at ho38 | (simp only [Int.reduceToNat] at ho38; rw [← Ny513.out] at ho38)); have n0_ := Aside0.mk (Kd.R_elder' (by (with_reducible repeat (first | apply Kd.R_alloc | apply Kd.R_drewN | apply Kd.R_drew)); exact HO481.out) (Kd.R_base ho38) hb); have n1_ := Aside0.mk (Kd.R_elder' (by (with_reducible repeat (first | apply Kd.R_alloc | apply Kd.R_drewN | apply Kd.R_drew)); exact HO485.out) (Kd.R_base ho38) hb); have n2_ := Aside0.mk (Kd.R_elder' (by (with_reducible repeat (first | apply Kd.R_alloc | apply Kd.R_drewN | apply Kd.R_drew)); exact HO488.out) (Kd.R_base ho38) hb); have n3_ := Aside0.mk (Kd.R_elder' (by (with_reducible repeat (first | apply Kd.R_alloc | apply Kd.R_drewN | apply Kd.R_drew)); exact HO493.out) (Kd.R_base ho38) hb); have n4_ := Aside0.mk (Kd.R_elder' (by (with_reducible repeat (first | apply Kd.R_alloc | apply Kd.R_drewN | apply Kd.R_drew)); exact HO498.out) (Kd.R_base ho38) hb); have n5_ := Aside0.mk (Kd.R_elder' (by (with_reducible repeat (first | apply Kd.R_alloc | apply Kd.R_drewN | apply Kd.R_drew)); exact HO501.out) (Kd.R_base ho38) hb); have n6_ := Aside0.mk (Kd.R_elder' (by (with_reducible repeat (first | apply Kd.R_alloc | apply Kd.R_drewN | apply Kd.R_drew)); exact HO504.out) (Kd.R_base ho38) hb); have n7_ := Aside0.mk (Kd.R_elder' (by (with_reducible repeat (first | apply Kd.R_alloc | apply Kd.R_drewN | apply Kd.R_drew)); exact HO507.out) (Kd.R_base ho38) hb); have n8_ := Aside0.mk (Kd.R_elder' (by (with_reducible repeat (first | apply Kd.R_alloc | apply Kd.R_drewN | apply Kd.R_drew)); exact HO512.out) (Kd.R_base ho38) hb); have n9_ := Aside0.mk (Kd.R_lower (Kd.R_new' (Kd.R_new' (Kd.R_new' (Kd.R_new' (Kd.R_new' (Kd.R_new' (Kd.R_new' (Kd.R_new' (Kd.R_new' ho38 (Kd.R_lt (by (with_reducible repeat (first | apply Kd.R_alloc | apply Kd.R_drewN | apply Kd.R_drew)); exact HO481.out))) (Kd.R_lt (by (with_reducible repeat (first | apply Kd.R_alloc | apply Kd.R_drewN | apply Kd.R_drew)); exact HO485.out))) (Kd.R_lt (by (with_reducible repeat (first | apply Kd.R_alloc | apply Kd.R_drewN | apply Kd.R_drew)); exact HO488.out))) (Kd.R_lt (by (with_reducible repeat (first | apply Kd.R_alloc | apply Kd.R_drewN | apply Kd.R_drew)); exact HO493.out))) (Kd.R_lt (by (with_reducible repeat (first | apply Kd.R_alloc | apply Kd.R_drewN | apply Kd.R_drew)); exact HO498.out))) (Kd.R_lt (by (with_reducible repeat (first | apply Kd.R_alloc | apply Kd.R_drewN | apply Kd.R_drew)); exact HO501.out))) (Kd.R_lt (by (with_reducible repeat (first | apply Kd.R_alloc | apply Kd.R_drewN | apply Kd.R_drew)); exact HO504.out))) (Kd.R_lt (by (with_reducible repeat (first | apply Kd.R_alloc | apply Kd.R_drewN | apply Kd.R_drew)); exact HO507.out))) (Kd.R_lt (by (with_reducible repeat (first | apply Kd.R_alloc | apply Kd.R_drewN | apply Kd.R_drew)); exact HO512.out))) (below_size (by repeat (first | (with_reducible first | exact HB.out | apply below_alloc | apply pw_below_drewN | apply below_drew1) | exact HB.out)))); have n10_ := Aside0.mk (below_step (by repeat (first | (with_reducible first | exact HB.out | apply below_alloc | apply pw_below_drewN | apply below_drew1) | exact HB.out)) hb); clear HO481; clear HO485; clear HO488; clear HO493; clear HO498; clear HO501; clear HO504; clear HO507; clear HO512; clear HB; have HO481 := n0_; have HO485 := n1_; have HO488 := n2_; have HO493 := n3_; have HO498 := n4_; have HO501 := n5_; have HO504 := n6_; have HO507 := n7_; have HO512 := n8_; have HO515 := n9_; have HB := n10_; clear n0_ n1_ n2_ n3_ n4_ n5_ n6_ n7_ n8_ n9_ n10_; clear hb ho38; obtain ⟨Ao39, co39, eo39⟩ := Kd.R_slice HO515.out; subst eo39) | (go_at_call 20; (with_reducible refine (gatelineref01_Same.calls k _ _ t486 _ _ y513 true _ ?side1 ?side2 ?side3 ?side4 A8.out).mono ?_); (case side1 => repeat (first | exact (Kd.R_reads' HO488.out).2.2 | (with_reducible refine Kd.C_alloc ?_ _) | (with_reducible refine Kd.C_drewN ?_ _) | (with_reducible refine Kd.C_drew ?_))); (case side2 => exact (Kd.R_reads' HO488.out).2.1); (case side3 => repeat (first | exact (Kd.R_reads' HO515.out).2.2 | (with_reducible refine Kd.C_alloc ?_ _) | (with_reducible refine Kd.C_drewN ?_ _) | (with_reducible refine Kd.C_drew ?_))); (case side4 => exact (Kd.R_reads' HO515.out).2.1); rintro e w' ⟨rfl, ⟨nd, rfl⟩⟩) | ((with_reducible refine gate_dst (N := 58) rfl ?_); (try (refine gate_guard (by rfl) ?_; dsimp only)); refine Kd.R_lit (Kd.int .u8) _ 5 ?hg (N := 58) ?hd (xs := ([1, 9] : List Int)) (inner := [.int .u8 1, .int .u8 9]) (ok := fun _ => True) (okp := fun _ => True) ?hr ?hp (fun _ hk => hk) trivial (Below.refl _ _) (Nat.le_refl _) (by simp) ?_; (case hd => rfl); (case hg => rfl); (case hr => first | (go_simp; done) | (go_simp; rfl)); (case hp => exact (Reps.one (show Kd.M (Kd.int .u8) _ _ _ 1 [.int .u8 1] from rfl) (Reps.one (show Kd.M (Kd.int .u8) _ _ _ 9 [.int .u8 9] from rfl) (Reps.none _ _)))); intro v518 w40 ho41 hb hg_ hnew_; clear hg_ hnew_; (first | rw [← Ny517.out] at ho41 | (simp only [Int.reduceToNat] at ho41; rw [← Ny517.out] at ho41)); have n0_ := Aside0.mk (Kd.R_elder' (by (with_reducible repeat (first | apply Kd.R_alloc | apply Kd.R_drewN | apply Kd.R_drew)); exact HO481.out) (Kd.R_base ho41) hb); have n1_ := Aside0.mk (Kd.R_elder' (by (with_reducible repeat (first | apply Kd.R_alloc | apply Kd.R_drewN | apply Kd.R_drew)); exact HO485.out) (Kd.R_base ho41) hb); have n2_ := Aside0.mk (Kd.R_elder' (by (with_reducible repeat (first | apply Kd.R_alloc | apply Kd.R_drewN | apply Kd.R_drew)); exact HO488.out) (Kd.R_base ho41) hb); have n3_ := Aside0.mk (Kd.R_elder' (by (with_reducible repeat (first | apply Kd.R_alloc | apply Kd.R_drewN | apply Kd.R_drew)); exact HO493.out) (Kd.R_base ho41) hb); have n4_ := Aside0.mk (Kd.R_elder' (by (with_reducible repeat (first | apply Kd.R_alloc | apply Kd.R_drewN | apply Kd.R_drew)); exact HO498.out) (Kd.R_base ho41) hb); have n5_ := Aside0.mk (Kd.R_elder' (by (with_reducible repeat (first | apply Kd.R_alloc | apply Kd.R_drewN | apply Kd.R_drew)); exact HO501.out) (Kd.R_base ho41) hb); have n6_ := Aside0.mk (Kd.R_elder' (by (with_reducible repeat (first | apply Kd.R_alloc | apply Kd.R_drewN | apply Kd.R_drew)); exact HO504.out) (Kd.R_base ho41) hb); have n7_ := Aside0.mk (Kd.R_elder' (by (with_reducible repeat (first | apply Kd.R_alloc | apply Kd.R_drewN | apply Kd.R_drew)); exact HO507.out) (Kd.R_base ho41) hb); have n8_ := Aside0.mk (Kd.R_elder' (by (with_reducible repeat (first | apply Kd.R_alloc | apply Kd.R_drewN | apply Kd.R_drew)); exact HO512.out) (Kd.R_base ho41) hb); have n9_ := Aside0.mk (Kd.R_elder' (by (with_reducible repeat (first | apply Kd.R_alloc | apply Kd.R_drewN | apply Kd.R_drew)); exact HO515.out) (Kd.R_base ho41) hb); have n10_ := Aside0.mk (Kd.R_lower (Kd.R_new' (Kd.R_new' (Kd.R_new' (Kd.R_new' (Kd.R_new' (Kd.R_new' (Kd.R_new' (Kd.R_new' (Kd.R_new' (Kd.R_new' ho41 (Kd.R_lt (by (with_reducible repeat (first | apply Kd.R_alloc | apply Kd.R_drewN | apply Kd.R_drew)); exact HO481.out))) (Kd.R_lt (by (with_reducible repeat (first | apply Kd.R_alloc | apply Kd.R_drewN | apply Kd.R_drew)); exact HO485.out))) (Kd.R_lt (by (with_reducible repeat (first | apply Kd.R_alloc | apply Kd.R_drewN | apply Kd.R_drew)); exact HO488.out))) (Kd.R_lt (by (with_reducible repeat (first | apply Kd.R_alloc | apply Kd.R_drewN | apply Kd.R_drew)); exact HO493.out))) (Kd.R_lt (by (with_reducible repeat (first | apply Kd.R_alloc | apply Kd.R_drewN | apply Kd.R_drew)); exact HO498.out))) (Kd.R_lt (by (with_reducible repeat (first | apply Kd.R_alloc | apply Kd.R_drewN | apply Kd.R_drew)); exact HO501.out))) (Kd.R_lt (by (with_reducible repeat (first | apply Kd.R_alloc | apply Kd.R_drewN | apply Kd.R_drew)); exact HO504.out))) (Kd.R_lt (by (with_reducible repeat (first | apply Kd.R_alloc | apply Kd.R_drewN | apply Kd.R_drew)); exact HO507.out))) (Kd.R_lt (by (with_reducible repeat (first | apply Kd.R_alloc | apply Kd.R_drewN | apply Kd.R_drew)); exact HO512.out))) (Kd.R_lt (by (with_reducible repeat (first | apply Kd.R_alloc | apply Kd.R_drewN | apply Kd.R_drew)); exact HO515.out))) (below_size (by repeat (first | (with_reducible first | exact HB.out | apply below_alloc | apply pw_below_drewN | apply below_drew1) | exact HB.out)))); have n11_ := Aside0.mk (below_step (by repeat (first | (with_reducible first | exact HB.out | apply below_alloc | apply pw_below_drewN | apply below_drew1) | exact HB.out)) hb); clear HO481; clear HO485; clear HO488; clear HO493; clear HO498; clear HO501; clear HO504; clear HO507; clear HO512; clear HO515; clear HB; have HO481 := n0_; have HO485 := n1_; have HO488 := n2_; have HO493 := n3_; have HO498 := n4_; have HO501 := n5_; have HO504 := n6_; have HO507 := n7_; have HO512 := n8_; have HO515 := n9_; have HO519 := n10_; have HB := n11_; clear n0_ n1_ n2_ n3_ n4_ n5_ n6_ n7_ n8_ n9_ n10_ n11_; clear hb ho41; obtain ⟨Ao42, co42, eo42⟩ := Kd.R_slice HO493.out; subst eo42; obtain ⟨Ao43, co43, eo43⟩ := Kd.R_slice HO519.out; subst eo43) | (go_at_call 20; (with_reducible refine (gatelineref01_Same.calls k _ _ t489 _ _ y517 true _ ?side1 ?side2 ?side3 ?side4 A12.out).mono ?_); (case side1 => repeat (first | exact (Kd.R_reads' HO493.out).2.2 | (with_reducible refine Kd.C_alloc ?_ _) | (with_reducible refine Kd.C_drewN ?_ _) | (with_reducible refine Kd.C_drew ?_))); (case side2 => exact (Kd.R_reads' HO493.out).2.1); (case side3 => repeat (first | exact (Kd.R_reads' HO519.out).2.2 | (with_reducible refine Kd.C_alloc ?_ _) | (with_reducible refine Kd.C_drewN ?_ _) | (with_reducible refine Kd.C_drew ?_))); (case side4 => exact (Kd.R_reads' HO519.out).2.1); rintro e w' ⟨rfl, ⟨nd, rfl⟩⟩; obtain ⟨Ao44, co44, eo44⟩ := Kd.R_slice HO498.out; subst eo44) | (go_at_call 20; (with_reducible refine (gatelineref01_Same.calls k _ _ t494 _ _ t489 true _ ?side1 ?side2 ?side3 ?side4 A16.out).mono ?_); (case side1 => repeat (first | exact (Kd.R_reads' HO498.out).2.2 | (with_reducible refine Kd.C_alloc ?_ _) | (with_reducible refine Kd.C_drewN ?_ _) | (with_reducible refine Kd.C_drew ?_))); (case side2 => exact (Kd.R_reads' HO498.out).2.1); (case side3 => repeat (first | exact (Kd.R_reads' HO493.out).2.2 | (with_reducible refine Kd.C_alloc ?_ _) | (with_reducible refine Kd.C_drewN ?_ _) | (with_reducible refine Kd.C_drew ?_))); (case side4 => exact (Kd.R_reads' HO493.out).2.1); rintro e w' ⟨rfl, ⟨nd, rfl⟩⟩) | ((with_reducible refine gate_dst (N := 77) rfl ?_); (try (refine gate_guard (by rfl) ?_; dsimp only)); refine Kd.R_lit (Kd.int .u8) _ 5 ?hg (N := 77) ?hd (xs := ([0, 6, 4] : List Int)) (inner := [.int .u8 0, .int .u8 6, .int .u8 4]) (ok := fun _ => True) (okp := fun _ => True) ?hr ?hp (fun _ hk => hk) trivial (Below.refl _ _) (Nat.le_refl _) (by simp) ?_; (case hd => rfl); (case hg => rfl); (case hr => first | (go_simp; done) | (go_simp; rfl)); (case hp => exact (Reps.one (show Kd.M (Kd.int .u8) _ _ _ 0 [.int .u8 0] from rfl) (Reps.one (show Kd.M (Kd.int .u8) _ _ _ 6 [.int .u8 6] from rfl) (Reps.one (show Kd.M (Kd.int .u8) _ _ _ 4 [.int .u8 4] from rfl) (Reps.none _ _))))); intro v523 w45 ho46 hb hg_ hnew_; clear hg_ hnew_; (first | rw [← Ny522.out] at ho46 | (simp only [Int.reduceToNat] at ho46; rw [← Ny522.out] at ho46)); have n0_ := Aside0.mk (Kd.R_elder' (by (with_reducible repeat (first | apply Kd.R_alloc | apply Kd.R_drewN | apply Kd.R_drew)); exact HO481.out) (Kd.R_base ho46) hb); have n1_ := Aside0.mk (Kd.R_elder' (by (with_reducible repeat (first | apply Kd.R_alloc | apply Kd.R_drewN | apply Kd.R_drew)); exact HO485.out) (Kd.R_base ho46) hb); have n2_ := Aside0.mk (Kd.R_elder' (by (with_reducible repeat (first | apply Kd.R_alloc | apply Kd.R_drewN | apply Kd.R_drew)); exact HO488.out) (Kd.R_base ho46) hb); have n3_ := Aside0.mk (Kd.R_elder' (by (with_reducible repeat (first | apply Kd.R_alloc | apply Kd.R_drewN | apply Kd.R_drew)); exact HO493.out) (Kd.R_base ho46) hb); have n4_ := Aside0.mk (Kd.R_elder' (by (with_reducible repeat (first | apply Kd.R_alloc | apply Kd.R_drewN | apply Kd.R_drew)); exact HO498.out) (Kd.R_base ho46) hb); have n5_ := Aside0.mk (Kd.R_elder' (by (with_reducible repeat (first | apply Kd.R_alloc | apply Kd.R_drewN | apply Kd.R_drew)); exact HO501.out) (Kd.R_base ho46) hb); have n6_ := Aside0.mk (Kd.R_elder' (by (with_reducible repeat (first | apply Kd.R_alloc | apply Kd.R_drewN | apply Kd.R_drew)); exact HO504.out) (Kd.R_base ho46) hb); have n7_ := Aside0.mk (Kd.R_elder' (by (with_reducible repeat (first | apply Kd.R_alloc | apply Kd.R_drewN | apply Kd.R_drew)); exact HO507.out) (Kd.R_base ho46) hb); have n8_ := Aside0.mk (Kd.R_elder' (by (with_reducible repeat (first | apply Kd.R_alloc | apply Kd.R_drewN | apply Kd.R_drew)); exact HO512.out) (Kd.R_base ho46) hb); have n9_ := Aside0.mk (Kd.R_elder' (by (with_reducible repeat (first | apply Kd.R_alloc | apply Kd.R_drewN | apply Kd.R_drew)); exact HO515.out) (Kd.R_base ho46) hb); have n10_ := Aside0.mk (Kd.R_elder' (by (with_reducible repeat (first | apply Kd.R_alloc | apply Kd.R_drewN | apply Kd.R_drew)); exact HO519.out) (Kd.R_base ho46) hb); have n11_ := Aside0.mk (Kd.R_lower (Kd.R_new' (Kd.R_new' (Kd.R_new' (Kd.R_new' (Kd.R_new' (Kd.R_new' (Kd.R_new' (Kd.R_new' (Kd.R_new' (Kd.R_new' (Kd.R_new' ho46 (Kd.R_lt (by (with_reducible repeat (first | apply Kd.R_alloc | apply Kd.R_drewN | apply Kd.R_drew)); exact HO481.out))) (Kd.R_lt (by (with_reducible repeat (first | apply Kd.R_alloc | apply Kd.R_drewN | apply Kd.R_drew)); exact HO485.out))) (Kd.R_lt (by (with_reducible repeat (first | apply Kd.R_alloc | apply Kd.R_drewN | apply Kd.R_drew)); exact HO488.out))) (Kd.R_lt (by (with_reducible repeat (first | apply Kd.R_alloc | apply Kd.R_drewN | apply Kd.R_drew)); exact HO493.out))) (Kd.R_lt (by (with_reducible repeat (first | apply Kd.R_alloc | apply Kd.R_drewN | apply Kd.R_drew)); exact HO498.out))) (Kd.R_lt (by (with_reducible repeat (first | apply Kd.R_alloc | apply Kd.R_drewN | apply Kd.R_drew)); exact HO501.out))) (Kd.R_lt (by (with_reducible repeat (first | apply Kd.R_alloc | apply Kd.R_drewN | apply Kd.R_drew)); exact HO504.out))) (Kd.R_lt (by (with_reducible repeat (first | apply Kd.R_alloc | apply Kd.R_drewN | apply Kd.R_drew)); exact HO507.out))) (Kd.R_lt (by (with_reducible repeat (first | apply Kd.R_alloc | apply Kd.R_drewN | apply Kd.R_drew)); exact HO512.out))) (Kd.R_lt (by (with_reducible repeat (first | apply Kd.R_alloc | apply Kd.R_drewN | apply Kd.R_drew)); exact HO515.out))) (Kd.R_lt (by (with_reducible repeat (first | apply Kd.R_alloc | apply Kd.R_drewN | apply Kd.R_drew)); exact HO519.out))) (below_size (by repeat (first | (with_reducible first | exact HB.out | apply below_alloc | apply pw_below_drewN | apply below_drew1) | exact HB.out)))); have n12_ := Aside0.mk (below_step (by repeat (first | (with_reducible first | exact HB.out | apply below_alloc | apply pw_below_drewN | apply below_drew1) | exact HB.out)) hb); clear HO481; clear HO485; clear HO488; clear HO493; clear HO498; clear HO501; clear HO504; clear HO507; clear HO512; clear HO515; clear HO519; clear HB; have HO481 := n0_; have HO485 := n1_; have HO488 := n2_; have HO493 := n3_; have HO498 := n4_; have HO501 := n5_; have HO504 := n6_; have HO507 := n7_; have HO512 := n8_; have HO515 := n9_; have HO519 := n10_; have HO524 := n11_; have HB := n12_; clear n0_ n1_ n2_ n3_ n4_ n5_ n6_ n7_ n8_ n9_ n10_ n11_ n12_; clear hb ho46; obtain ⟨Ao47, co47, eo47⟩ := Kd.R_slice HO504.out; subst eo47; obtain ⟨Ao48, co48, eo48⟩ := Kd.R_slice HO524.out; subst eo48) | (go_at_call 20; (with_reducible refine (gatelineref01_Same.calls k _ _ t502 _ _ y522 true _ ?side1 ?side2 ?side3 ?side4 A18.out).mono ?_); (case side1 => repeat (first | exact (Kd.R_reads' HO504.out).2.2 | (with_reducible refine Kd.C_alloc ?_ _) | (with_reducible refine Kd.C_drewN ?_ _) | (with_reducible refine Kd.C_drew ?_))); (case side2 => exact (Kd.R_reads' HO504.out).2.1); (case side3 => repeat (first | exact (Kd.R_reads' HO524.out).2.2 | (with_reducible refine Kd.C_alloc ?_ _) | (with_reducible refine Kd.C_drewN ?_ _) | (with_reducible refine Kd.C_drew ?_))); (case side4 => exact (Kd.R_reads' HO524.out).2.1); rintro e w' ⟨rfl, ⟨nd, rfl⟩⟩))
                    go_ret
                    exact ⟨by first | rfl | (simp [errW_none, errW_some] <;> rfl) | (simp [*, errW_none, errW_some] <;> rfl), by repeat (first | (with_reducible first | exact HB.out | apply below_alloc | apply pw_below_drewN | apply below_drew1) | exact HB.out)⟩
                  · replace c19 := Bool.eq_false_iff.mpr c19
                    subst c19
                    have H1 : (none) = some r := by rw [if_neg (show ¬ (false = true) by decide)] at H; exact H
                    clear H
                    have H := H1
                    clear H1
                    exact absurd H (by simp)
                · replace c17 := Bool.eq_false_iff.mpr c17
                  subst c17
                  have H1 : (none) = some r := by rw [if_neg (show ¬ (false = true) by decide)] at H; exact H
                  clear H
                  have H := H1
                  clear H1
                  exact absurd H (by simp)
            · rw [if_neg c14] at H
              exact absurd H (by simp)
          · replace c13 := Bool.eq_false_iff.mpr c13
            subst c13
            have H1 : (none) = some r := by rw [if_neg (show ¬ (false = true) by decide)] at H; exact H
            clear H
            have H := H1
            clear H1
            exact absurd H (by simp)
        · replace c11 := Bool.eq_false_iff.mpr c11
          subst c11
          have H1 : (none) = some r := by rw [if_neg (show ¬ (false = true) by decide)] at H; exact H
          clear H
          have H := H1
          clear H1
          exact absurd H (by simp)
      · rw [if_neg c10] at H
        exact absurd H (by simp)
    · replace c9 := Bool.eq_false_iff.mpr c9
      subst c9
      have H1 : (none) = some r := by rw [if_neg (show ¬ (false = true) by decide)] at H; exact H
      clear H
      have H := H1
      clear H1
      exact absurd H (by simp)
  · rw [if_neg c7] at H
    exact absurd H (by simp)

end Go.Proofs.Ytfmpeojlaibblaa.S

/- Written for this claim by a program of this session (handprint.py, over the kit's print). Lean checks it. -/
namespace Go.Proofs.Ytfmpeojlaibblaa.S
open Go.RowKit Go.Proofs.YtfmpeojlaibblaaW.PrintWords Go.Proofs.YtfmpeojlaibblaaW.PrintLast Go.Proofs.YtfmpeojlaibblaaW.PrintMore
attribute [local go_sem] max2_int min2_int max_two min_two max_three min_three max_four min_four   -- for this text's walks alone
set_option linter.unusedVariables false
set_option linter.unusedSimpArgs false

/-! ### gatelinelaw14_SwipeOnce: function 4 -/
def gatelinelaw14_SwipeOnce.j0 : Nat → List Int → List Int → Bool → Bool → Option (Bool)
  | 0, _, _, _, _ => none
  | k + 1, x0, x3, x4, x20 => if x20 = true then ((gatelinelaw14_swiped.f k).bind fun t609 => (some t609)) else ((track_Put.f k x3).bind fun bt610 => (if bt610.2 = 0 then (if x4 = true then ((gatelinelaw14_swiped.f k).bind fun t614 => (if t614 = true then ((swipe_Turn.f k x0).bind fun t615 => ((gatelineref01_Same.f k bt610.1 t615).bind fun t618 => (some t618))) else (none))) else ((gatelinelaw14_swiped.f k).bind fun t619 => (if t619 = true then ((gatelineref01_Same.f k bt610.1 x0).bind fun t620 => (some t620)) else (none)))) else (none)))
def gatelinelaw14_SwipeOnce.f (k : Nat) (l0 : List Int) : Option (Bool) := (swipe_Read.f k l0).bind fun bt604 => (if (l0.length : Int) > 1000 then (gatelinelaw14_SwipeOnce.j0 k l0 bt604.1 bt604.2.1 true) else (gatelinelaw14_SwipeOnce.j0 k l0 bt604.1 bt604.2.1 (bt604.2.2 != 0)))
theorem gatelinelaw14_SwipeOnce.mono_l : ∀ k, (∀ y0 y1 y2 y3, LeO (gatelinelaw14_SwipeOnce.j0 k y0 y1 y2 y3) (gatelinelaw14_SwipeOnce.j0 (k + 1) y0 y1 y2 y3))
  | 0 => fun _ _ _ _ r h => by simp [gatelinelaw14_SwipeOnce.j0] at h
  | k + 1 => by
    have ih0 := gatelinelaw14_SwipeOnce.mono_l k
    · intro y0 y1 y2 y3
      unfold gatelinelaw14_SwipeOnce.j0
      repeat' first
      | (with_reducible exact ih0 _ _ _ _)
      | (with_reducible exact gatelinelaw14_swiped.mono _)
      | (with_reducible exact gatelineref01_Same.mono _ _ _)
      | (with_reducible exact swipe_Read.mono _ _)
      | (with_reducible exact swipe_Turn.mono _ _)
      | (with_reducible exact track_Put.mono _ _)
      | (with_reducible exact LeO.refl _)
      | (with_reducible exact LeO.none _)
      | (with_reducible refine LeO.ite ?_ ?_)
      | (with_reducible refine LeO.bind ?_ (fun _ => ?_))
      | exact ih0 _ _ _ _
      | exact gatelinelaw14_swiped.mono _
      | exact gatelineref01_Same.mono _ _ _
      | exact swipe_Read.mono _ _
      | exact swipe_Turn.mono _ _
      | exact track_Put.mono _ _
      | exact LeO.none _
      | refine LeO.ite ?_ ?_
      | refine LeO.bind ?_ (fun _ => ?_)
theorem gatelinelaw14_SwipeOnce.mono : ∀ a0 k, LeO (gatelinelaw14_SwipeOnce.f k a0) (gatelinelaw14_SwipeOnce.f (k + 1) a0) := by
  intro a0 k
  have ih0 := gatelinelaw14_SwipeOnce.mono_l k
  unfold gatelinelaw14_SwipeOnce.f
  repeat' first
      | (with_reducible exact ih0 _ _ _ _)
      | (with_reducible exact gatelinelaw14_swiped.mono _)
      | (with_reducible exact gatelineref01_Same.mono _ _ _)
      | (with_reducible exact swipe_Read.mono _ _)
      | (with_reducible exact swipe_Turn.mono _ _)
      | (with_reducible exact track_Put.mono _ _)
      | (with_reducible exact LeO.refl _)
      | (with_reducible exact LeO.none _)
      | (with_reducible refine LeO.ite ?_ ?_)
      | (with_reducible refine LeO.bind ?_ (fun _ => ?_))
      | exact ih0 _ _ _ _
      | exact gatelinelaw14_swiped.mono _
      | exact gatelineref01_Same.mono _ _ _
      | exact swipe_Read.mono _ _
      | exact swipe_Turn.mono _ _
      | exact track_Put.mono _ _
      | exact LeO.none _
      | refine LeO.ite ?_ ?_
      | refine LeO.bind ?_ (fun _ => ?_)
set_option maxHeartbeats 8000000 in
set_option maxRecDepth 100000 in
theorem gatelinelaw14_SwipeOnce.calls (k : Nat) (A0 : Option Addr) (c0 : Nat) (l0 : List Int) (r : Bool) (w : World) (hr0 : Kd.C (Kd.int .u8) w A0 l0.length l0) (hc0 : l0.length ≤ c0) (h : gatelinelaw14_SwipeOnce.f k l0 = some r) :
    Calls Try.prog 4 #[.slice A0 l0.length c0] w fun e w' => e = .returned (.bool r) ∧ Below w.heap.size w w' := by
  have HR0 := Aside0.mk hr0
  have HC0 := Aside0.mk hc0
  clear hr0 hc0
  have HB := Aside0.mk (Below.refl w.heap.size w)
  have H : ((swipe_Read.f k l0).bind fun bt604 => (if (l0.length : Int) > 1000 then (gatelinelaw14_SwipeOnce.j0 k l0 bt604.1 bt604.2.1 true) else (gatelinelaw14_SwipeOnce.j0 k l0 bt604.1 bt604.2.1 (bt604.2.2 != 0)))) = some r := h
  clear h
  replace H := Option.bind_eq_some_iff.mp H
  obtain ⟨⟨t604, t605, t606⟩, A20, H⟩ := H
  replace H : (if (l0.length : Int) > 1000 then (gatelinelaw14_SwipeOnce.j0 k l0 t604 t605 true) else (gatelinelaw14_SwipeOnce.j0 k l0 t604 t605 (t606 != 0))) = some r := H
  have A2 := Aside0.mk A20
  clear A20
  have HC3 := Aside0.mk H
  clear H
  go_enter Try.func4, Try.ntmps4
  go_upto_region 2 with (first | ((with_reducible refine gate_callee (f := 21) rfl ?_); refine goesL_ (some 10) rfl rfl Try.func21 (by kernel_rfl) rfl #[.slice A0 l0.length c0] rfl (by (try simp only [List.map_toArray, List.map_cons, List.map_nil]); first | done | rfl | (simp only [List.length_drop, List.length_take]; rfl)) ?_; (with_reducible refine (swipe_Read.calls k _ _ l0 t604 t605 t606 _ ?side1 ?side2 A2.out).mono ?_); (case side1 => repeat (first | exact HR0.out | (with_reducible refine Kd.C_alloc ?_ _) | (with_reducible refine Kd.C_drewN ?_ _) | (with_reducible refine Kd.C_drew ?_))); (case side2 => exact HC0.out); rintro e w4 ⟨v607, rfl, ho0, hb⟩; refine ⟨_, rfl, ?_⟩; have n0_ := Aside0.mk (Kd.R_lower ho0 (below_size (by repeat (first | (with_reducible first | exact HB.out | apply below_alloc | apply pw_below_drewN | apply below_drew1) | exact HB.out)))); have n1_ := Aside0.mk (below_step (by repeat (first | (with_reducible first | exact HB.out | apply below_alloc | apply pw_below_drewN | apply below_drew1) | exact HB.out)) hb); clear HB; have HO608 := n0_; have HB := n1_; clear n0_ n1_; (try clear hb); (try clear hb2); (try clear hk); (try clear hi); (try clear ho0)))
  (try simp only [Act.put, List.setIfInBounds_toArray, List.set_cons_zero, List.set_cons_succ])
  go_cut [20] (fun v20 wc => ∃ (kq : Nat) (x20_2 : Bool), v20 = .bool x20_2 ∧ Aside0 (gatelinelaw14_SwipeOnce.j0 kq l0 t604 t605 x20_2 = some r) ∧ Aside0 (kq ≤ k) ∧ Aside0 (Kd.R (Kd.int .u8) 5 wc w.heap.size (fun _ => True) v607 t604) ∧ Aside0 (Below w.heap.size w wc))
  case first =>
    have H := HC3.out
    clear HC3
    by_cases c5 : (l0.length : Int) > 1000
    · rw [if_pos c5] at H
      have c5b0 : decide (1000 < (l0.length : Int)) = true := decide_eq_true c5
      have c5b1 : decide (1000 < l0.length) = true := decide_eq_true (by omega)
      clear c5
      (first | rw [c5b0] | (simp only [i64_w, i32_w]; rw [c5b0]) | skip)
      have H' := Aside0.mk H
      clear H
      go_wp2
      go_meet
      case rel => exact ⟨_, (true), (by first | rfl | (simp; done) | (simp [*]; done)), H', ⟨by first | omega | exact Nat.le_refl _⟩, ⟨by (with_reducible repeat (first | apply Kd.R_alloc | apply Kd.R_drewN | apply Kd.R_drew)); exact HO608.out⟩, ⟨by repeat (first | (with_reducible first | exact HB.out | apply below_alloc | apply pw_below_drewN | apply below_drew1) | exact HB.out)⟩⟩
    · rw [if_neg c5] at H
      have c5b0 : decide (1000 < (l0.length : Int)) = false := decide_eq_false c5
      have c5b1 : decide (1000 < l0.length) = false := decide_eq_false (by omega)
      clear c5
      (first | rw [c5b0] | (simp only [i64_w, i32_w]; rw [c5b0]) | skip)
      have H' := Aside0.mk H
      clear H
      go_wp2
      go_meet
      case rel => exact ⟨_, ((t606 != 0)), (by first | rfl | (simp; done) | (simp [*]; done)), H', ⟨by first | omega | exact Nat.le_refl _⟩, ⟨by (with_reducible repeat (first | apply Kd.R_alloc | apply Kd.R_drewN | apply Kd.R_drew)); exact HO608.out⟩, ⟨by repeat (first | (with_reducible first | exact HB.out | apply below_alloc | apply pw_below_drewN | apply below_drew1) | exact HB.out)⟩⟩
  case rest =>
    clear HC3
    try clear c2
    try clear p2
    try clear c4
    try clear c5
    try clear c5b0
    try clear c5b1
    obtain ⟨kq, x20_2, rfl, HA, HJ2, HO_3, HB⟩ := hcut
    cases kq with
    | zero => exact absurd HA.out (by simp [gatelinelaw14_SwipeOnce.j0])
    | succ kj2 =>
      have H := HA.out
      clear HA
      simp only [gatelinelaw14_SwipeOnce.j0] at H
      by_cases c6 : x20_2 = true
      · subst c6
        have H1 : ((gatelinelaw14_swiped.f kj2).bind fun t609 => (some t609)) = some r := by rw [if_pos rfl] at H; exact H
        clear H
        have H := H1
        clear H1
        replace H := Option.bind_eq_some_iff.mp H
        obtain ⟨t609, A70, H⟩ := H
        replace H : (some t609) = some r := H
        have A7 := Aside0.mk A70
        clear A70
        obtain rfl := Option.some.inj H
        go_wp2_with (first | ((with_reducible refine gate_callee (f := 18) rfl ?_); refine goesL_ (some 21) rfl rfl Try.func18 (by kernel_rfl) rfl #[] rfl (by (try simp only [List.map_toArray, List.map_cons, List.map_nil]); first | done | rfl | (simp only [List.length_drop, List.length_take]; rfl)) ?_; (with_reducible refine (gatelinelaw14_swiped.calls kj2  t609 _ A7.out).mono ?_); rintro e w8 ⟨rfl, hb⟩; refine ⟨_, rfl, ?_⟩; have n0_ := Aside0.mk (Kd.R_below (by (with_reducible repeat (first | apply Kd.R_alloc | apply Kd.R_drewN | apply Kd.R_drew)); exact HO_3.out) hb); have n1_ := Aside0.mk (below_step (by repeat (first | (with_reducible first | exact HB.out | apply below_alloc | apply pw_below_drewN | apply below_drew1) | exact HB.out)) hb); clear HO_3; clear HB; have HO_3 := n0_; have HB := n1_; clear n0_ n1_; (try clear hb); (try clear hb2); (try clear hk); (try clear hi)))
        go_ret
        exact ⟨by first | rfl | (simp [errW_none, errW_some] <;> rfl) | (simp [*, errW_none, errW_some] <;> rfl), by repeat (first | (with_reducible first | exact HB.out | apply below_alloc | apply pw_below_drewN | apply below_drew1) | exact HB.out)⟩
      · replace c6 := Bool.eq_false_iff.mpr c6
        subst c6
        have H1 : ((track_Put.f kj2 t604).bind fun bt610 => (if bt610.2 = 0 then (if t605 = true then ((gatelinelaw14_swiped.f kj2).bind fun t614 => (if t614 = true then ((swipe_Turn.f kj2 l0).bind fun t615 => ((gatelineref01_Same.f kj2 bt610.1 t615).bind fun t618 => (some t618))) else (none))) else ((gatelinelaw14_swiped.f kj2).bind fun t619 => (if t619 = true then ((gatelineref01_Same.f kj2 bt610.1 l0).bind fun t620 => (some t620)) else (none)))) else (none))) = some r := by rw [if_neg (show ¬ (false = true) by decide)] at H; exact H
        clear H
        have H := H1
        clear H1
        replace H := Option.bind_eq_some_iff.mp H
        obtain ⟨⟨t610, t611⟩, A90, H⟩ := H
        replace H : (if t611 = 0 then (if t605 = true then ((gatelinelaw14_swiped.f kj2).bind fun t614 => (if t614 = true then ((swipe_Turn.f kj2 l0).bind fun t615 => ((gatelineref01_Same.f kj2 t610 t615).bind fun t618 => (some t618))) else (none))) else ((gatelinelaw14_swiped.f kj2).bind fun t619 => (if t619 = true then ((gatelineref01_Same.f kj2 t610 l0).bind fun t620 => (some t620)) else (none)))) else (none)) = some r := H
        have A9 := Aside0.mk A90
        clear A90
        by_cases c10 : t611 = 0
        · rw [if_pos c10] at H
          have c10b0 : (t611 == 0) = true := beq_iff_eq.mpr c10
          have c10b1 : (t611 != 0) = false := bne_eq_false_iff_eq.mpr c10
          clear c10
          by_cases c11 : t605 = true
          · subst c11
            have H1 : ((gatelinelaw14_swiped.f kj2).bind fun t614 => (if t614 = true then ((swipe_Turn.f kj2 l0).bind fun t615 => ((gatelineref01_Same.f kj2 t610 t615).bind fun t618 => (some t618))) else (none))) = some r := by rw [if_pos rfl] at H; exact H
            clear H
            have H := H1
            clear H1
            replace H := Option.bind_eq_some_iff.mp H
            obtain ⟨t614, A120, H⟩ := H
            replace H : (if t614 = true then ((swipe_Turn.f kj2 l0).bind fun t615 => ((gatelineref01_Same.f kj2 t610 t615).bind fun t618 => (some t618))) else (none)) = some r := H
            have A12 := Aside0.mk A120
            clear A120
            by_cases c13 : t614 = true
            · subst c13
              have H1 : ((swipe_Turn.f kj2 l0).bind fun t615 => ((gatelineref01_Same.f kj2 t610 t615).bind fun t618 => (some t618))) = some r := by rw [if_pos rfl] at H; exact H
              clear H
              have H := H1
              clear H1
              replace H := Option.bind_eq_some_iff.mp H
              obtain ⟨t615, A140, H⟩ := H
              replace H : ((gatelineref01_Same.f kj2 t610 t615).bind fun t618 => (some t618)) = some r := H
              have A14 := Aside0.mk A140
              clear A140
              replace H := Option.bind_eq_some_iff.mp H
              obtain ⟨t618, A150, H⟩ := H
              replace H : (some t618) = some r := H
              have A15 := Aside0.mk A150
              clear A150
              obtain rfl := Option.some.inj H
              obtain ⟨Ao16, co16, eo16⟩ := Kd.R_slice HO_3.out
              subst eo16
              go_wp2_with (first | ((with_reducible refine gate_callee (f := 17) rfl ?_); refine goesL_ (some 24) rfl rfl Try.func17 (by kernel_rfl) rfl #[.slice Ao16 t604.length co16] rfl (by (try simp only [List.map_toArray, List.map_cons, List.map_nil]); first | done | rfl | (simp only [List.length_drop, List.length_take]; rfl)) ?_; (with_reducible refine (track_Put.calls kj2 _ _ t604 t610 t611 _ ?side1 ?side2 A9.out).mono ?_); (case side1 => repeat (first | exact (Kd.R_reads' HO_3.out).2.2 | (with_reducible refine Kd.C_alloc ?_ _) | (with_reducible refine Kd.C_drewN ?_ _) | (with_reducible refine Kd.C_drew ?_))); (case side2 => exact (Kd.R_reads' HO_3.out).2.1); rintro e w17 ⟨v612, rfl, ho0, hb⟩; refine ⟨_, rfl, ?_⟩; have n0_ := Aside0.mk (Kd.R_elder' (by (with_reducible repeat (first | apply Kd.R_alloc | apply Kd.R_drewN | apply Kd.R_drew)); exact HO_3.out) (Kd.R_base ho0) hb); have n1_ := Aside0.mk (Kd.R_lower (Kd.R_new' ho0 (Kd.R_lt (by (with_reducible repeat (first | apply Kd.R_alloc | apply Kd.R_drewN | apply Kd.R_drew)); exact HO_3.out))) (below_size (by repeat (first | (with_reducible first | exact HB.out | apply below_alloc | apply pw_below_drewN | apply below_drew1) | exact HB.out)))); have n2_ := Aside0.mk (below_step (by repeat (first | (with_reducible first | exact HB.out | apply below_alloc | apply pw_below_drewN | apply below_drew1) | exact HB.out)) hb); clear HO_3; clear HB; have HO_3 := n0_; have HO613 := n1_; have HB := n2_; clear n0_ n1_ n2_; (try clear hb); (try clear hb2); (try clear hk); (try clear hi); (try clear ho0)) | ((with_reducible refine gate_callee (f := 18) rfl ?_); refine goesL_ (some 37) rfl rfl Try.func18 (by kernel_rfl) rfl #[] rfl (by (try simp only [List.map_toArray, List.map_cons, List.map_nil]); first | done | rfl | (simp only [List.length_drop, List.length_take]; rfl)) ?_; (with_reducible refine (gatelinelaw14_swiped.calls kj2  true _ A12.out).mono ?_); rintro e w18 ⟨rfl, hb⟩; refine ⟨_, rfl, ?_⟩; have n0_ := Aside0.mk (Kd.R_below (by (with_reducible repeat (first | apply Kd.R_alloc | apply Kd.R_drewN | apply Kd.R_drew)); exact HO_3.out) hb); have n1_ := Aside0.mk (Kd.R_below (by (with_reducible repeat (first | apply Kd.R_alloc | apply Kd.R_drewN | apply Kd.R_drew)); exact HO613.out) hb); have n2_ := Aside0.mk (below_step (by repeat (first | (with_reducible first | exact HB.out | apply below_alloc | apply pw_below_drewN | apply below_drew1) | exact HB.out)) hb); clear HO_3; clear HO613; clear HB; have HO_3 := n0_; have HO613 := n1_; have HB := n2_; clear n0_ n1_ n2_; (try clear hb); (try clear hb2); (try clear hk); (try clear hi)) | (go_at_call 19; (with_reducible refine (swipe_Turn.calls kj2 _ _ l0 t615 _ ?side1 ?side2 A14.out).mono ?_); (case side1 => repeat (first | exact (Kd.C_below HR0.out HB.out) | (with_reducible refine Kd.C_alloc ?_ _) | (with_reducible refine Kd.C_drewN ?_ _) | (with_reducible refine Kd.C_drew ?_))); (case side2 => exact HC0.out); rintro e w19 ⟨v616, rfl, ho0, hb⟩; have n0_ := Aside0.mk (Kd.R_elder' (by (with_reducible repeat (first | apply Kd.R_alloc | apply Kd.R_drewN | apply Kd.R_drew)); exact HO_3.out) (Kd.R_base ho0) hb); have n1_ := Aside0.mk (Kd.R_elder' (by (with_reducible repeat (first | apply Kd.R_alloc | apply Kd.R_drewN | apply Kd.R_drew)); exact HO613.out) (Kd.R_base ho0) hb); have n2_ := Aside0.mk (Kd.R_lower (Kd.R_new' (Kd.R_new' ho0 (Kd.R_lt (by (with_reducible repeat (first | apply Kd.R_alloc | apply Kd.R_drewN | apply Kd.R_drew)); exact HO_3.out))) (Kd.R_lt (by (with_reducible repeat (first | apply Kd.R_alloc | apply Kd.R_drewN | apply Kd.R_drew)); exact HO613.out))) (below_size (by repeat (first | (with_reducible first | exact HB.out | apply below_alloc | apply pw_below_drewN | apply below_drew1) | exact HB.out)))); have n3_ := Aside0.mk (below_step (by repeat (first | (with_reducible first | exact HB.out | apply below_alloc | apply pw_below_drewN | apply below_drew1) | exact HB.out)) hb); clear HO_3; clear HO613; clear HB; have HO_3 := n0_; have HO613 := n1_; have HO617 := n2_; have HB := n3_; clear n0_ n1_ n2_ n3_; (try clear hb); (try clear hb2); (try clear hk); (try clear hi); (try clear ho0); obtain ⟨Ao20, co20, eo20⟩ := Kd.R_slice HO613.out; subst eo20; obtain ⟨Ao21, co21, eo21⟩ := Kd.R_slice HO617.out; subst eo21) | (go_at_call 20; (with_reducible refine (gatelineref01_Same.calls kj2 _ _ t610 _ _ t615 t618 _ ?side1 ?side2 ?side3 ?side4 A15.out).mono ?_); (case side1 => repeat (first | exact (Kd.R_reads' HO613.out).2.2 | (with_reducible refine Kd.C_alloc ?_ _) | (with_reducible refine Kd.C_drewN ?_ _) | (with_reducible refine Kd.C_drew ?_))); (case side2 => exact (Kd.R_reads' HO613.out).2.1); (case side3 => repeat (first | exact (Kd.R_reads' HO617.out).2.2 | (with_reducible refine Kd.C_alloc ?_ _) | (with_reducible refine Kd.C_drewN ?_ _) | (with_reducible refine Kd.C_drew ?_))); (case side4 => exact (Kd.R_reads' HO617.out).2.1); rintro e w' ⟨rfl, ⟨nd, rfl⟩⟩))
              go_ret
              exact ⟨by first | rfl | (simp [errW_none, errW_some] <;> rfl) | (simp [*, errW_none, errW_some] <;> rfl), by repeat (first | (with_reducible first | exact HB.out | apply below_alloc | apply pw_below_drewN | apply below_drew1) | exact HB.out)⟩
            · replace c13 := Bool.eq_false_iff.mpr c13
              subst c13
              have H1 : (none) = some r := by rw [if_neg (show ¬ (false = true) by decide)] at H; exact H
              clear H
              have H := H1
              clear H1
              exact absurd H (by simp)
          · replace c11 := Bool.eq_false_iff.mpr c11
            subst c11
            have H1 : ((gatelinelaw14_swiped.f kj2).bind fun t619 => (if t619 = true then ((gatelineref01_Same.f kj2 t610 l0).bind fun t620 => (some t620)) else (none))) = some r := by rw [if_neg (show ¬ (false = true) by decide)] at H; exact H
            clear H
            have H := H1
            clear H1
            replace H := Option.bind_eq_some_iff.mp H
            obtain ⟨t619, A220, H⟩ := H
            replace H : (if t619 = true then ((gatelineref01_Same.f kj2 t610 l0).bind fun t620 => (some t620)) else (none)) = some r := H
            have A22 := Aside0.mk A220
            clear A220
            by_cases c23 : t619 = true
            · subst c23
              have H1 : ((gatelineref01_Same.f kj2 t610 l0).bind fun t620 => (some t620)) = some r := by rw [if_pos rfl] at H; exact H
              clear H
              have H := H1
              clear H1
              replace H := Option.bind_eq_some_iff.mp H
              obtain ⟨t620, A240, H⟩ := H
              replace H : (some t620) = some r := H
              have A24 := Aside0.mk A240
              clear A240
              obtain rfl := Option.some.inj H
              obtain ⟨Ao25, co25, eo25⟩ := Kd.R_slice HO_3.out
              subst eo25
              go_wp2_with (first | ((with_reducible refine gate_callee (f := 17) rfl ?_); refine goesL_ (some 24) rfl rfl Try.func17 (by kernel_rfl) rfl #[.slice Ao25 t604.length co25] rfl (by (try simp only [List.map_toArray, List.map_cons, List.map_nil]); first | done | rfl | (simp only [List.length_drop, List.length_take]; rfl)) ?_; (with_reducible refine (track_Put.calls kj2 _ _ t604 t610 t611 _ ?side1 ?side2 A9.out).mono ?_); (case side1 => repeat (first | exact (Kd.R_reads' HO_3.out).2.2 | (with_reducible refine Kd.C_alloc ?_ _) | (with_reducible refine Kd.C_drewN ?_ _) | (with_reducible refine Kd.C_drew ?_))); (case side2 => exact (Kd.R_reads' HO_3.out).2.1); rintro e w26 ⟨v612, rfl, ho0, hb⟩; refine ⟨_, rfl, ?_⟩; have n0_ := Aside0.mk (Kd.R_elder' (by (with_reducible repeat (first | apply Kd.R_alloc | apply Kd.R_drewN | apply Kd.R_drew)); exact HO_3.out) (Kd.R_base ho0) hb); have n1_ := Aside0.mk (Kd.R_lower (Kd.R_new' ho0 (Kd.R_lt (by (with_reducible repeat (first | apply Kd.R_alloc | apply Kd.R_drewN | apply Kd.R_drew)); exact HO_3.out))) (below_size (by repeat (first | (with_reducible first | exact HB.out | apply below_alloc | apply pw_below_drewN | apply below_drew1) | exact HB.out)))); have n2_ := Aside0.mk (below_step (by repeat (first | (with_reducible first | exact HB.out | apply below_alloc | apply pw_below_drewN | apply below_drew1) | exact HB.out)) hb); clear HO_3; clear HB; have HO_3 := n0_; have HO613 := n1_; have HB := n2_; clear n0_ n1_ n2_; (try clear hb); (try clear hb2); (try clear hk); (try clear hi); (try clear ho0)) | ((with_reducible refine gate_callee (f := 18) rfl ?_); refine goesL_ (some 31) rfl rfl Try.func18 (by kernel_rfl) rfl #[] rfl (by (try simp only [List.map_toArray, List.map_cons, List.map_nil]); first | done | rfl | (simp only [List.length_drop, List.length_take]; rfl)) ?_; (with_reducible refine (gatelinelaw14_swiped.calls kj2  true _ A22.out).mono ?_); rintro e w27 ⟨rfl, hb⟩; refine ⟨_, rfl, ?_⟩; have n0_ := Aside0.mk (Kd.R_below (by (with_reducible repeat (first | apply Kd.R_alloc | apply Kd.R_drewN | apply Kd.R_drew)); exact HO_3.out) hb); have n1_ := Aside0.mk (Kd.R_below (by (with_reducible repeat (first | apply Kd.R_alloc | apply Kd.R_drewN | apply Kd.R_drew)); exact HO613.out) hb); have n2_ := Aside0.mk (below_step (by repeat (first | (with_reducible first | exact HB.out | apply below_alloc | apply pw_below_drewN | apply below_drew1) | exact HB.out)) hb); clear HO_3; clear HO613; clear HB; have HO_3 := n0_; have HO613 := n1_; have HB := n2_; clear n0_ n1_ n2_; (try clear hb); (try clear hb2); (try clear hk); (try clear hi); obtain ⟨Ao28, co28, eo28⟩ := Kd.R_slice HO613.out; subst eo28) | (go_at_call 20; (with_reducible refine (gatelineref01_Same.calls kj2 _ _ t610 _ _ l0 t620 _ ?side1 ?side2 ?side3 ?side4 A24.out).mono ?_); (case side1 => repeat (first | exact (Kd.R_reads' HO613.out).2.2 | (with_reducible refine Kd.C_alloc ?_ _) | (with_reducible refine Kd.C_drewN ?_ _) | (with_reducible refine Kd.C_drew ?_))); (case side2 => exact (Kd.R_reads' HO613.out).2.1); (case side3 => repeat (first | exact (Kd.C_below HR0.out HB.out) | (with_reducible refine Kd.C_alloc ?_ _) | (with_reducible refine Kd.C_drewN ?_ _) | (with_reducible refine Kd.C_drew ?_))); (case side4 => exact HC0.out); rintro e w' ⟨rfl, ⟨nd, rfl⟩⟩))
              go_ret
              exact ⟨by first | rfl | (simp [errW_none, errW_some] <;> rfl) | (simp [*, errW_none, errW_some] <;> rfl), by repeat (first | (with_reducible first | exact HB.out | apply below_alloc | apply pw_below_drewN | apply below_drew1) | exact HB.out)⟩
            · replace c23 := Bool.eq_false_iff.mpr c23
              subst c23
              have H1 : (none) = some r := by rw [if_neg (show ¬ (false = true) by decide)] at H; exact H
              clear H
              have H := H1
              clear H1
              exact absurd H (by simp)
        · rw [if_neg c10] at H
          exact absurd H (by simp)

/-- THE ONE PURE STATEMENT of gatelinelaw14_SwipeOnce: yours. -/
def gatelinelaw14_SwipeOnce.Pure : Prop := ∀ (l0 : List Int), l0.length ≤ maxLen → l0.length * 1 ≤ 140737488351232 → (∀ x ∈ l0, (Lit.int .u8 x).wf = true) → ∃ k, gatelinelaw14_SwipeOnce.f k l0 = some true
theorem gatelinelaw14_SwipeOnce.walk (P : gatelinelaw14_SwipeOnce.Pure) (a0 : Option Addr) (len0 cap0 : Nat) (z0 : List Int) (w : World) (w0 : (a0 = none ∧ len0 = 0 ∧ cap0 = 0 ∧ z0 = []) ∨ ∃ x, a0 = some x ∧ len0 ≤ cap0 ∧ cap0 ≤ maxLen ∧ z0.length = cap0 ∧ (∀ i, i < z0.length → w.cell? (x.add i) = some (.int .u8 (z0.getD i 0))) ∧ ∀ n ∈ z0, (Lit.int .u8 n).wf = true) (y0 : len0 * 1 ≤ 140737488351232) :
    Calls Try.prog 4 #[.slice a0 len0 cap0] w fun e w' => e = .returned (.bool true) ∧ Below w.heap.size w w' := by
  obtain ⟨l0, rfl, hr0, hm0, hw0, hc0⟩ := ReadsInt.ofRowC w0
  obtain ⟨k, h⟩ := P l0 hm0 y0 hw0
  refine (gatelinelaw14_SwipeOnce.calls k _ _ l0 true w (Kd.C_of_reads (d := (0 : Int)) (h1 := fun _ => rfl) hr0) hc0 h).mono ?_
  rintro e w' ⟨rfl, hd⟩
  exact ⟨rfl, hd⟩

end Go.Proofs.Ytfmpeojlaibblaa.S

/- Written for this claim by a program of this session (handprint.py, over the kit's print). Lean checks it. -/
namespace Go.Proofs.Ytfmpeojlaibblaa.S
open Go.RowKit Go.Proofs.YtfmpeojlaibblaaW.PrintWords Go.Proofs.YtfmpeojlaibblaaW.PrintLast Go.Proofs.YtfmpeojlaibblaaW.PrintMore
attribute [local go_sem] max2_int min2_int max_two min_two max_three min_three max_four min_four   -- for this text's walks alone
set_option linter.unusedVariables false
set_option linter.unusedSimpArgs false

/-! ### gatelineref11_Get: function 41 -/
mutual
def gatelineref11_Get.j0 : Nat → List Int → Bool → Option (List Int × Int)
  | 0, _, _ => none
  | k + 1, x0, x21 => if x21 = true then (some (([] : List Int), 14)) else ((gatelineref11_Unpack.f k x0).bind fun t394 => ((gatelineref11_at.f t394 0).bind fun t397 => (if t397 = 11 then (gatelineref11_Get.l0 k x0 t394 (([11] : List Int)) (([] : List Int)) 5) else (some (([] : List Int), 4)))))
def gatelineref11_Get.l0 : Nat → List Int → List Bool → List Int → List Int → Int → Option (List Int × Int)
  | 0, _, _, _, _, _ => none
  | k + 1, x0, x4, x5, x6, x7 => if 0 ≤ (wrap64 ((x5.length : Int) - 1)) then (if (wrap64 ((x5.length : Int) - 1)) < (x5.length : Int) then (if (rd x5 (wrap64 ((x5.length : Int) - 1))) = 15 then (if (wrap64 (x7 + 5)) > (x4.length : Int) then (some (([] : List Int), 5)) else ((gatelineref11_at.f x4 x7).bind fun t414 => ((gatelineref10_Value.f k t414).bind fun bt415 => (if bt415.2 = 0 then ((gatelineref10_Sum.f k x5).bind fun bt417 => (if bt415.1 = bt417.1 then (if (x6.length : Int) > 77 then (some (([] : List Int), 21)) else (if 0 ≤ (wrap64 (x7 + 5)) then (if (wrap64 (x7 + 5)) ≤ (x4.length : Int) then ((gatelineref11_Pack.f k (x4.take ((wrap64 (x7 + 5)) : Int).toNat)).bind fun t423 => ((gatelineref01_Same.f k t423 x0).bind fun t426 => (if t426 = true then (some (x6, 0)) else (some (([] : List Int), 14))))) else (none)) else (none))) else (some (([] : List Int), 6)))) else (some (([] : List Int), bt415.2)))))) else (if (wrap64 (x7 + 5)) > (x4.length : Int) then (some (([] : List Int), 5)) else ((gatelineref11_at.f x4 x7).bind fun t405 => ((gatelineref10_Value.f k t405).bind fun bt406 => (if bt406.2 = 0 then (if bt406.1 > 9 then (gatelineref11_Get.j2 k x0 x4 x5 x6 x7 bt406.1 (bt406.1 != 15)) else (gatelineref11_Get.j2 k x0 x4 x5 x6 x7 bt406.1 false)) else (some (([] : List Int), bt406.2))))))) else (none)) else (none)
def gatelineref11_Get.j2 : Nat → List Int → List Bool → List Int → List Int → Int → Int → Bool → Option (List Int × Int)
  | 0, _, _, _, _, _, _, _ => none
  | k + 1, x0, x4, x5, x6, x7, x8, x56 => if x56 = true then (some (([] : List Int), 7)) else (if x5.length < 17592186044416 then ((some (x5 ++ [x8] : List Int)).bind fun y408 => (if x8 = 15 then (gatelineref11_Get.l0 k x0 x4 y408 x6 (wrap64 (x7 + 5))) else (if x6.length < 140737488355328 then (gatelineref11_Get.l0 k x0 x4 y408 (x6 ++ [(x8) % 256]) (wrap64 (x7 + 5))) else (none)))) else (none))
end
def gatelineref11_Get.f (k : Nat) (l0 : List Int) : Option (List Int × Int) := if (l0.length : Int) < 2 then (gatelineref11_Get.j0 k l0 true) else (gatelineref11_Get.j0 k l0 (decide ((l0.length : Int) > 50)))
theorem gatelineref11_Get.mono_l : ∀ k, (∀ y0 y1, LeO (gatelineref11_Get.j0 k y0 y1) (gatelineref11_Get.j0 (k + 1) y0 y1)) ∧ (∀ y0 y1 y2 y3 y4, LeO (gatelineref11_Get.l0 k y0 y1 y2 y3 y4) (gatelineref11_Get.l0 (k + 1) y0 y1 y2 y3 y4)) ∧ (∀ y0 y1 y2 y3 y4 y5 y6, LeO (gatelineref11_Get.j2 k y0 y1 y2 y3 y4 y5 y6) (gatelineref11_Get.j2 (k + 1) y0 y1 y2 y3 y4 y5 y6))
  | 0 => ⟨fun _ _ r h => by simp [gatelineref11_Get.j0] at h, fun _ _ _ _ _ r h => by simp [gatelineref11_Get.l0] at h, fun _ _ _ _ _ _ _ r h => by simp [gatelineref11_Get.j2] at h⟩
  | k + 1 => by
    obtain ⟨ih0, ih1, ih2⟩ := gatelineref11_Get.mono_l k
    refine ⟨?_, ?_, ?_⟩
    · intro y0 y1
      unfold gatelineref11_Get.j0
      repeat' first
      | (with_reducible exact ih0 _ _)
      | (with_reducible exact ih1 _ _ _ _ _)
      | (with_reducible exact ih2 _ _ _ _ _ _ _)
      | (with_reducible exact gatelineref01_Same.mono _ _ _)
      | (with_reducible exact gatelineref10_Sum.mono _ _)
      | (with_reducible exact gatelineref10_Value.mono _ _)
      | (with_reducible exact gatelineref11_Pack.mono _ _)
      | (with_reducible exact gatelineref11_Unpack.mono _ _)
      | (with_reducible exact LeO.refl _)
      | (with_reducible exact LeO.none _)
      | (with_reducible refine LeO.ite ?_ ?_)
      | (with_reducible refine LeO.bind ?_ (fun _ => ?_))
      | exact ih0 _ _
      | exact ih1 _ _ _ _ _
      | exact ih2 _ _ _ _ _ _ _
      | exact gatelineref01_Same.mono _ _ _
      | exact gatelineref10_Sum.mono _ _
      | exact gatelineref10_Value.mono _ _
      | exact gatelineref11_Pack.mono _ _
      | exact gatelineref11_Unpack.mono _ _
      | exact LeO.none _
      | refine LeO.ite ?_ ?_
      | refine LeO.bind ?_ (fun _ => ?_)
    · intro y0 y1 y2 y3 y4
      unfold gatelineref11_Get.l0
      repeat' first
      | (with_reducible exact ih0 _ _)
      | (with_reducible exact ih1 _ _ _ _ _)
      | (with_reducible exact ih2 _ _ _ _ _ _ _)
      | (with_reducible exact gatelineref01_Same.mono _ _ _)
      | (with_reducible exact gatelineref10_Sum.mono _ _)
      | (with_reducible exact gatelineref10_Value.mono _ _)
      | (with_reducible exact gatelineref11_Pack.mono _ _)
      | (with_reducible exact gatelineref11_Unpack.mono _ _)
      | (with_reducible exact LeO.refl _)
      | (with_reducible exact LeO.none _)
      | (with_reducible refine LeO.ite ?_ ?_)
      | (with_reducible refine LeO.bind ?_ (fun _ => ?_))
      | exact ih0 _ _
      | exact ih1 _ _ _ _ _
      | exact ih2 _ _ _ _ _ _ _
      | exact gatelineref01_Same.mono _ _ _
      | exact gatelineref10_Sum.mono _ _
      | exact gatelineref10_Value.mono _ _
      | exact gatelineref11_Pack.mono _ _
      | exact gatelineref11_Unpack.mono _ _
      | exact LeO.none _
      | refine LeO.ite ?_ ?_
      | refine LeO.bind ?_ (fun _ => ?_)
    · intro y0 y1 y2 y3 y4 y5 y6
      unfold gatelineref11_Get.j2
      repeat' first
      | (with_reducible exact ih0 _ _)
      | (with_reducible exact ih1 _ _ _ _ _)
      | (with_reducible exact ih2 _ _ _ _ _ _ _)
      | (with_reducible exact gatelineref01_Same.mono _ _ _)
      | (with_reducible exact gatelineref10_Sum.mono _ _)
      | (with_reducible exact gatelineref10_Value.mono _ _)
      | (with_reducible exact gatelineref11_Pack.mono _ _)
      | (with_reducible exact gatelineref11_Unpack.mono _ _)
      | (with_reducible exact LeO.refl _)
      | (with_reducible exact LeO.none _)
      | (with_reducible refine LeO.ite ?_ ?_)
      | (with_reducible refine LeO.bind ?_ (fun _ => ?_))
      | exact ih0 _ _
      | exact ih1 _ _ _ _ _
      | exact ih2 _ _ _ _ _ _ _
      | exact gatelineref01_Same.mono _ _ _
      | exact gatelineref10_Sum.mono _ _
      | exact gatelineref10_Value.mono _ _
      | exact gatelineref11_Pack.mono _ _
      | exact gatelineref11_Unpack.mono _ _
      | exact LeO.none _
      | refine LeO.ite ?_ ?_
      | refine LeO.bind ?_ (fun _ => ?_)
theorem gatelineref11_Get.mono : ∀ a0 k, LeO (gatelineref11_Get.f k a0) (gatelineref11_Get.f (k + 1) a0) := by
  intro a0 k
  obtain ⟨ih0, ih1, ih2⟩ := gatelineref11_Get.mono_l k
  unfold gatelineref11_Get.f
  repeat' first
      | (with_reducible exact ih0 _ _)
      | (with_reducible exact ih1 _ _ _ _ _)
      | (with_reducible exact ih2 _ _ _ _ _ _ _)
      | (with_reducible exact gatelineref01_Same.mono _ _ _)
      | (with_reducible exact gatelineref10_Sum.mono _ _)
      | (with_reducible exact gatelineref10_Value.mono _ _)
      | (with_reducible exact gatelineref11_Pack.mono _ _)
      | (with_reducible exact gatelineref11_Unpack.mono _ _)
      | (with_reducible exact LeO.refl _)
      | (with_reducible exact LeO.none _)
      | (with_reducible refine LeO.ite ?_ ?_)
      | (with_reducible refine LeO.bind ?_ (fun _ => ?_))
      | exact ih0 _ _
      | exact ih1 _ _ _ _ _
      | exact ih2 _ _ _ _ _ _ _
      | exact gatelineref01_Same.mono _ _ _
      | exact gatelineref10_Sum.mono _ _
      | exact gatelineref10_Value.mono _ _
      | exact gatelineref11_Pack.mono _ _
      | exact gatelineref11_Unpack.mono _ _
      | exact LeO.none _
      | refine LeO.ite ?_ ?_
      | refine LeO.bind ?_ (fun _ => ?_)
set_option maxHeartbeats 8000000 in
set_option maxRecDepth 100000 in
theorem gatelineref11_Get.calls (k : Nat) (A0 : Option Addr) (c0 : Nat) (l0 : List Int) (r1 : List Int) (r2 : Int) (w : World) (hr0 : Kd.C (Kd.int .u8) w A0 l0.length l0) (hc0 : l0.length ≤ c0) (h : gatelineref11_Get.f k l0 = some (r1, r2)) :
    Calls Try.prog 41 #[.slice A0 l0.length c0] w fun e w' => ∃ v0_ : Value, e = .returned (.tuple #[v0_, .int .i64 r2]) ∧ Kd.R (Kd.int .u8) 5 w' w.heap.size (fun _ => True) v0_ r1 ∧ Below w.heap.size w w' := by
  have HR0 := Aside0.mk hr0
  have HC0 := Aside0.mk hc0
  clear hr0 hc0
  have HB := Aside0.mk (Below.refl w.heap.size w)
  have H : (if (l0.length : Int) < 2 then (gatelineref11_Get.j0 k l0 true) else (gatelineref11_Get.j0 k l0 (decide ((l0.length : Int) > 50)))) = some (r1, r2) := h
  clear h
  have HC2 := Aside0.mk H
  clear H
  go_enter Try.func41, Try.ntmps41
  go_upto_region 1 with (fail)
  go_cut [21] (fun v21 wc => ∃ (kq : Nat) (x21_1 : Bool), v21 = .bool x21_1 ∧ Aside0 (gatelineref11_Get.j0 kq l0 x21_1 = some (r1, r2)) ∧ Aside0 (kq ≤ k) ∧ Aside0 (Below w.heap.size w wc))
  case first =>
    have H := HC2.out
    clear HC2
    by_cases c3 : (l0.length : Int) < 2
    · rw [if_pos c3] at H
      have c3b0 : decide ((l0.length : Int) < 2) = true := decide_eq_true c3
      have c3b1 : decide (l0.length < 2) = true := decide_eq_true (by omega)
      clear c3
      (first | rw [c3b0] | (simp only [i64_w, i32_w]; rw [c3b0]) | skip)
      have H' := Aside0.mk H
      clear H
      go_wp2
      go_meet
      case rel => exact ⟨_, (true), (by first | rfl | (simp; done) | (simp [*]; done)), H', ⟨by first | omega | exact Nat.le_refl _⟩, ⟨by repeat (first | (with_reducible first | exact HB.out | apply below_alloc | apply pw_below_drewN | apply below_drew1) | exact HB.out)⟩⟩
    · rw [if_neg c3] at H
      have c3b0 : decide ((l0.length : Int) < 2) = false := decide_eq_false c3
      have c3b1 : decide (l0.length < 2) = false := decide_eq_false (by omega)
      clear c3
      (first | rw [c3b0] | (simp only [i64_w, i32_w]; rw [c3b0]) | skip)
      have H' := Aside0.mk H
      clear H
      go_wp2
      go_meet
      case rel => exact ⟨_, (decide ((l0.length : Int) > 50)), (by first | rfl | (simp; done) | (simp [*]; done)), H', ⟨by first | omega | exact Nat.le_refl _⟩, ⟨by repeat (first | (with_reducible first | exact HB.out | apply below_alloc | apply pw_below_drewN | apply below_drew1) | exact HB.out)⟩⟩
  case rest =>
    clear HC2
    try clear p2
    try clear c3
    try clear c3b0
    try clear c3b1
    obtain ⟨kq, x21_1, rfl, HA, HJ1, HB⟩ := hcut
    cases kq with
    | zero => exact absurd HA.out (by simp [gatelineref11_Get.j0])
    | succ kj1 =>
      have H := HA.out
      clear HA
      simp only [gatelineref11_Get.j0] at H
      by_cases c4 : x21_1 = true
      · subst c4
        have H1 : (some (([] : List Int), 14)) = some (r1, r2) := by rw [if_pos rfl] at H; exact H
        clear H
        have H := H1
        clear H1
        simp only [Option.some.injEq, Prod.mk.injEq] at H
        obtain ⟨rfl, rfl⟩ := H
        go_wp2
        go_ret2
        exact ⟨_, by first | rfl | (simp [errW_none, errW_some] <;> rfl) | (simp [*, errW_none, errW_some] <;> rfl), by first | exact Kd.R_nil _ _ _ _ _ | exact Kd.N_nil _ _ _ _ _ | exact Kd.V_nil _ _ _ _ _ | exact Kd.Q_nil _ _ _ _ _ | exact Kd.S_nil _ _ _ _ _, by repeat (first | (with_reducible first | exact HB.out | apply below_alloc | apply pw_below_drewN | apply below_drew1) | exact HB.out)⟩
      · replace c4 := Bool.eq_false_iff.mpr c4
        subst c4
        have H1 : ((gatelineref11_Unpack.f kj1 l0).bind fun t394 => ((gatelineref11_at.f t394 0).bind fun t397 => (if t397 = 11 then (gatelineref11_Get.l0 kj1 l0 t394 (([11] : List Int)) (([] : List Int)) 5) else (some (([] : List Int), 4))))) = some (r1, r2) := by rw [if_neg (show ¬ (false = true) by decide)] at H; exact H
        clear H
        have H := H1
        clear H1
        replace H := Option.bind_eq_some_iff.mp H
        obtain ⟨t394, A50, H⟩ := H
        replace H : ((gatelineref11_at.f t394 0).bind fun t397 => (if t397 = 11 then (gatelineref11_Get.l0 kj1 l0 t394 (([11] : List Int)) (([] : List Int)) 5) else (some (([] : List Int), 4)))) = some (r1, r2) := H
        have A5 := Aside0.mk A50
        clear A50
        replace H := Option.bind_eq_some_iff.mp H
        obtain ⟨t397, A60, H⟩ := H
        replace H : (if t397 = 11 then (gatelineref11_Get.l0 kj1 l0 t394 (([11] : List Int)) (([] : List Int)) 5) else (some (([] : List Int), 4))) = some (r1, r2) := H
        have A6 := Aside0.mk A60
        clear A60
        by_cases c7 : t397 = 11
        · rw [if_pos c7] at H
          have c7b0 : (t397 == 11) = true := beq_iff_eq.mpr c7
          have c7b1 : (t397 != 11) = false := bne_eq_false_iff_eq.mpr c7
          clear c7
          obtain ⟨y398, hy398⟩ : ∃ y_ : List Int, y_ = (([11] : List Int)) := ⟨_, rfl⟩
          replace H : (gatelineref11_Get.l0 kj1 l0 t394 y398 (([] : List Int)) 5) = some (r1, r2) := by first | (rw [hy398]; with_reducible exact H) | (have H2_ := (Option.bind_some _ _).symm.trans H; rw [hy398]; with_reducible exact H2_) | (have H2_ := (Option.bind_some _ _).symm.trans H; with_reducible exact H2_) | with_reducible exact H | (rw [hy398]; exact H) | exact H
          have Ny398 := Aside0.mk hy398
          clear hy398
          obtain ⟨y401, hy401⟩ : ∃ y_ : List Int, y_ = (([] : List Int)) := ⟨_, rfl⟩
          replace H : (gatelineref11_Get.l0 kj1 l0 t394 y398 y401 5) = some (r1, r2) := by first | (rw [hy401]; with_reducible exact H) | (have H2_ := (Option.bind_some _ _).symm.trans H; rw [hy401]; with_reducible exact H2_) | (have H2_ := (Option.bind_some _ _).symm.trans H; with_reducible exact H2_) | with_reducible exact H | (rw [hy401]; exact H) | exact H
          have Ny401 := Aside0.mk hy401
          clear hy401
          have H' := Aside0.mk H
          clear H
          go_wp2_with (first | ((with_reducible refine gate_callee (f := 39) rfl ?_); refine goesL_ (some 23) rfl rfl Try.func39 (by kernel_rfl) rfl #[.slice A0 l0.length c0] rfl (by (try simp only [List.map_toArray, List.map_cons, List.map_nil]); first | done | rfl | (simp only [List.length_drop, List.length_take]; rfl)) ?_; (with_reducible refine (gatelineref11_Unpack.calls kj1 _ _ l0 t394 _ ?side1 ?side2 A5.out).mono ?_); (case side1 => repeat (first | exact (Kd.C_below HR0.out HB.out) | (with_reducible refine Kd.C_alloc ?_ _) | (with_reducible refine Kd.C_drewN ?_ _) | (with_reducible refine Kd.C_drew ?_))); (case side2 => exact HC0.out); rintro e w8 ⟨v395, rfl, ho0, hb⟩; refine ⟨_, rfl, ?_⟩; have n0_ := Aside0.mk (Kd.R_lower ho0 (below_size (by repeat (first | (with_reducible first | exact HB.out | apply below_alloc | apply pw_below_drewN | apply below_drew1) | exact HB.out)))); have n1_ := Aside0.mk (below_step (by repeat (first | (with_reducible first | exact HB.out | apply below_alloc | apply pw_below_drewN | apply below_drew1) | exact HB.out)) hb); clear HB; have HO396 := n0_; have HB := n1_; clear n0_ n1_; (try clear hb); (try clear hb2); (try clear hk); (try clear hi); (try clear ho0); obtain ⟨Ao9, co9, eo9⟩ := Kd.R_slice HO396.out; subst eo9) | ((with_reducible refine gate_callee (f := 55) rfl ?_); refine goesL_ (some 25) rfl rfl Try.func55 (by kernel_rfl) rfl #[.slice Ao9 t394.length co9, .int .i64 0] rfl (by (try simp only [List.map_toArray, List.map_cons, List.map_nil]); first | done | rfl | (simp only [List.length_drop, List.length_take]; rfl)) ?_; (with_reducible refine (gatelineref11_at.calls _ _ t394 0 t397 _ ?side1 ?side2 A6.out).mono ?_); (case side1 => repeat (first | exact (Kd.R_reads' HO396.out).2.2 | (with_reducible refine Kd.C_alloc ?_ _) | (with_reducible refine Kd.C_drewN ?_ _) | (with_reducible refine Kd.C_drew ?_))); (case side2 => exact (Kd.R_reads' HO396.out).2.1); rintro e w10 ⟨rfl, hb⟩; refine ⟨_, rfl, ?_⟩; have n0_ := Aside0.mk (Kd.R_below (by (with_reducible repeat (first | apply Kd.R_alloc | apply Kd.R_drewN | apply Kd.R_drew)); exact HO396.out) hb); have n1_ := Aside0.mk (below_step (by repeat (first | (with_reducible first | exact HB.out | apply below_alloc | apply pw_below_drewN | apply below_drew1) | exact HB.out)) hb); clear HO396; clear HB; have HO396 := n0_; have HB := n1_; clear n0_ n1_; (try clear hb); (try clear hb2); (try clear hk); (try clear hi)) | ((with_reducible refine gate_dst (N := 27) rfl ?_); (try (refine gate_guard (by rfl) ?_; dsimp only)); refine Kd.R_lit (Kd.int .i64) _ 3 ?hg (N := 27) ?hd (xs := ([11] : List Int)) (inner := [.int .i64 11]) (ok := fun _ => True) (okp := fun _ => True) ?hr ?hp (fun _ hk => hk) trivial (Below.refl _ _) (Nat.le_refl _) (by simp) ?_; (case hd => rfl); (case hg => rfl); (case hr => first | (go_simp; done) | (go_simp; rfl)); (case hp => exact (Reps.one (show Kd.M (Kd.int .i64) _ _ _ 11 [.int .i64 11] from rfl) (Reps.none _ _))); intro v399 w11 ho12 hb hg_ hnew_; clear hg_ hnew_; (first | rw [← Ny398.out] at ho12 | (simp only [Int.reduceToNat] at ho12; rw [← Ny398.out] at ho12)); have n0_ := Aside0.mk (Kd.R_below (by (with_reducible repeat (first | apply Kd.R_alloc | apply Kd.R_drewN | apply Kd.R_drew)); exact HO396.out) hb); have n1_ := Aside0.mk (Kd.R_lower ho12 (below_size (by repeat (first | (with_reducible first | exact HB.out | apply below_alloc | apply pw_below_drewN | apply below_drew1) | exact HB.out)))); have n2_ := Aside0.mk (below_step (by repeat (first | (with_reducible first | exact HB.out | apply below_alloc | apply pw_below_drewN | apply below_drew1) | exact HB.out)) hb); clear HO396; clear HB; have HO396 := n0_; have HO400 := n1_; have HB := n2_; clear n0_ n1_ n2_; clear hb ho12) | ((with_reducible refine gate_dst (N := 28) rfl ?_); (try (refine gate_guard (by rfl) ?_; dsimp only)); refine Kd.R_lit (Kd.int .u8) _ 5 ?hg (N := 28) ?hd (xs := ([] : List Int)) (inner := []) (ok := fun _ => True) (okp := fun _ => True) ?hr ?hp (fun _ hk => hk) trivial (Below.refl _ _) (Nat.le_refl _) (by simp) ?_; (case hd => rfl); (case hg => rfl); (case hr => first | (go_simp; done) | (go_simp; rfl)); (case hp => exact (Reps.none _ _)); intro v402 w13 ho14 hb hg_ hnew_; clear hg_ hnew_; (first | rw [← Ny401.out] at ho14 | (simp only [Int.reduceToNat] at ho14; rw [← Ny401.out] at ho14)); have n0_ := Aside0.mk (Kd.R_below (by (with_reducible repeat (first | apply Kd.R_alloc | apply Kd.R_drewN | apply Kd.R_drew)); exact HO396.out) hb); have n1_ := Aside0.mk (Kd.R_below (by (with_reducible repeat (first | apply Kd.R_alloc | apply Kd.R_drewN | apply Kd.R_drew)); exact HO400.out) hb); have n2_ := Aside0.mk (Kd.R_lower ho14 (below_size (by repeat (first | (with_reducible first | exact HB.out | apply below_alloc | apply pw_below_drewN | apply below_drew1) | exact HB.out)))); have n3_ := Aside0.mk (below_step (by repeat (first | (with_reducible first | exact HB.out | apply below_alloc | apply pw_below_drewN | apply below_drew1) | exact HB.out)) hb); clear HO396; clear HO400; clear HB; have HO396 := n0_; have HO400 := n1_; have HO403 := n2_; have HB := n3_; clear n0_ n1_ n2_ n3_; clear hb ho14))
          go_loopg [5, 6, 7] kj1 (fun kq v5 v6 v7 w' => ∃ (x5_2 : List Int) (x6_2 : List Int) (x7_2 : Int), v7 = .int .i64 x7_2 ∧ Aside0 (gatelineref11_Get.l0 kq l0 t394 x5_2 x6_2 x7_2 = some (r1, r2)) ∧ Aside0 (kq ≤ kj1) ∧ Aside0 (Kd.R Kd.bool 4 w' w.heap.size (fun _ => True) (.slice Ao9 t394.length co9) t394) ∧ Aside0 (Kd.R (Kd.int .i64) 3 w' w.heap.size (fun _ => True) v5 x5_2) ∧ Aside0 (Kd.R (Kd.int .u8) 5 w' w.heap.size (fun _ => True) v6 x6_2) ∧ Aside0 (Below w.heap.size w w'))
          case atStart => exact ⟨(y398), (y401), (5), (by first | rfl | (simp; done) | (simp [*]; done)), H', ⟨Nat.le_refl _⟩, ⟨by (with_reducible repeat (first | apply Kd.R_alloc | apply Kd.R_drewN | apply Kd.R_drew)); exact HO396.out⟩, ⟨by (with_reducible repeat (first | apply Kd.R_alloc | apply Kd.R_drewN | apply Kd.R_drew)); exact HO400.out⟩, ⟨by (with_reducible repeat (first | apply Kd.R_alloc | apply Kd.R_drewN | apply Kd.R_drew)); exact HO403.out⟩, ⟨by repeat (first | (with_reducible first | exact HB.out | apply below_alloc | apply pw_below_drewN | apply below_drew1) | exact HB.out)⟩⟩
          case round =>
            clear H'
            try clear p2
            try clear c3
            try clear c3b0
            try clear c3b1
            try clear c4
            try clear c5
            try clear c7
            try clear c7b0
            try clear c7b1
            try clear p2
            obtain ⟨x5_2, x6_2, x7_2, rfl, HA, HK2, HO_4, HO_5, HO_6, HB⟩ := hrel
            cases gk with
            | zero => exact absurd HA.out (by simp [gatelineref11_Get.l0])
            | succ k2 =>
              have H := HA.out
              clear HA
              simp only [gatelineref11_Get.l0] at H
              obtain ⟨ji15, hji15⟩ : ∃ j_ : Int, (wrap64 ((x5_2.length : Int) - 1)) = j_ := ⟨_, rfl⟩
              replace H : (if 0 ≤ (ji15) then (if (ji15) < (x5_2.length : Int) then (if (rd x5_2 (ji15)) = 15 then (if (wrap64 (x7_2 + 5)) > (t394.length : Int) then (some (([] : List Int), 5)) else ((gatelineref11_at.f t394 x7_2).bind fun t414 => ((gatelineref10_Value.f k2 t414).bind fun bt415 => (if bt415.2 = 0 then ((gatelineref10_Sum.f k2 x5_2).bind fun bt417 => (if bt415.1 = bt417.1 then (if (x6_2.length : Int) > 77 then (some (([] : List Int), 21)) else (if 0 ≤ (wrap64 (x7_2 + 5)) then (if (wrap64 (x7_2 + 5)) ≤ (t394.length : Int) then ((gatelineref11_Pack.f k2 (t394.take ((wrap64 (x7_2 + 5)) : Int).toNat)).bind fun t423 => ((gatelineref01_Same.f k2 t423 l0).bind fun t426 => (if t426 = true then (some (x6_2, 0)) else (some (([] : List Int), 14))))) else (none)) else (none))) else (some (([] : List Int), 6)))) else (some (([] : List Int), bt415.2)))))) else (if (wrap64 (x7_2 + 5)) > (t394.length : Int) then (some (([] : List Int), 5)) else ((gatelineref11_at.f t394 x7_2).bind fun t405 => ((gatelineref10_Value.f k2 t405).bind fun bt406 => (if bt406.2 = 0 then (if bt406.1 > 9 then (gatelineref11_Get.j2 k2 l0 t394 x5_2 x6_2 x7_2 bt406.1 (bt406.1 != 15)) else (gatelineref11_Get.j2 k2 l0 t394 x5_2 x6_2 x7_2 bt406.1 false)) else (some (([] : List Int), bt406.2))))))) else (none)) else (none)) = some (r1, r2) := by first | (rw [hji15] at H; exact H) | (simp only [hji15] at H ⊢; exact H)
              have hji15w : (IntKind.i64.wrap ((x5_2.length : Int) - 1)) = ji15 := (i64_w _).trans hji15
              by_cases c16 : 0 ≤ (ji15)
              · rw [if_pos c16] at H
                have c16b0 : decide (0 ≤ (ji15)) = true := decide_eq_true c16
                clear c16
                by_cases c17 : (ji15) < (x5_2.length : Int)
                · rw [if_pos c17] at H
                  have c17b0 : decide ((ji15) < (x5_2.length : Int)) = true := decide_eq_true c17
                  clear c17
                  by_cases c18 : (rd x5_2 (ji15)) = 15
                  · rw [if_pos c18] at H
                    have c18b0 : ((rd x5_2 (ji15)) == 15) = true := beq_iff_eq.mpr c18
                    have c18b1 : ((rd x5_2 (ji15)) != 15) = false := bne_eq_false_iff_eq.mpr c18
                    clear c18
                    by_cases c19 : (wrap64 (x7_2 + 5)) > (t394.length : Int)
                    · rw [if_pos c19] at H
                      have c19b0 : decide ((t394.length : Int) < (wrap64 (x7_2 + 5))) = true := decide_eq_true c19
                      clear c19
                      simp only [Option.some.injEq, Prod.mk.injEq] at H
                      obtain ⟨rfl, rfl⟩ := H
                      obtain ⟨Ao20, co20, eo20⟩ := Kd.R_slice HO_5.out
                      subst eo20
                      have p404 : 0 ≤ ((ji15) : Int) := of_decide_eq_true (by first | (with_reducible assumption) | assumption)
                      have q404 : (ji15) < (x5_2.length : Int) := of_decide_eq_true (by first | (with_reducible assumption) | assumption)
                      obtain ⟨ad404, e404, hx404_0⟩ := Kd.at_int (Kd.R_reads' HO_5.out).2.2 (ji15) p404 q404
                      cases e404
                      replace p404 := eq_true p404
                      replace q404 := eq_true q404
                      go_wp2
                      go_ret2
                      exact ⟨_, by first | rfl | (simp [errW_none, errW_some] <;> rfl) | (simp only [← hji15]; first | rfl | (simp [errW_none, errW_some] <;> rfl)) | (simp [*, errW_none, errW_some] <;> rfl), by first | exact Kd.R_nil _ _ _ _ _ | exact Kd.N_nil _ _ _ _ _ | exact Kd.V_nil _ _ _ _ _ | exact Kd.Q_nil _ _ _ _ _ | exact Kd.S_nil _ _ _ _ _, by repeat (first | (with_reducible first | exact HB.out | apply below_alloc | apply pw_below_drewN | apply below_drew1) | exact HB.out)⟩
                    · rw [if_neg c19] at H
                      have c19b0 : decide ((t394.length : Int) < (wrap64 (x7_2 + 5))) = false := decide_eq_false c19
                      clear c19
                      replace H := Option.bind_eq_some_iff.mp H
                      obtain ⟨t414, A210, H⟩ := H
                      replace H : ((gatelineref10_Value.f k2 t414).bind fun bt415 => (if bt415.2 = 0 then ((gatelineref10_Sum.f k2 x5_2).bind fun bt417 => (if bt415.1 = bt417.1 then (if (x6_2.length : Int) > 77 then (some (([] : List Int), 21)) else (if 0 ≤ (wrap64 (x7_2 + 5)) then (if (wrap64 (x7_2 + 5)) ≤ (t394.length : Int) then ((gatelineref11_Pack.f k2 (t394.take ((wrap64 (x7_2 + 5)) : Int).toNat)).bind fun t423 => ((gatelineref01_Same.f k2 t423 l0).bind fun t426 => (if t426 = true then (some (x6_2, 0)) else (some (([] : List Int), 14))))) else (none)) else (none))) else (some (([] : List Int), 6)))) else (some (([] : List Int), bt415.2)))) = some (r1, r2) := H
                      have A21 := Aside0.mk A210
                      clear A210
                      replace H := Option.bind_eq_some_iff.mp H
                      obtain ⟨⟨t415, t416⟩, A220, H⟩ := H
                      replace H : (if t416 = 0 then ((gatelineref10_Sum.f k2 x5_2).bind fun bt417 => (if t415 = bt417.1 then (if (x6_2.length : Int) > 77 then (some (([] : List Int), 21)) else (if 0 ≤ (wrap64 (x7_2 + 5)) then (if (wrap64 (x7_2 + 5)) ≤ (t394.length : Int) then ((gatelineref11_Pack.f k2 (t394.take ((wrap64 (x7_2 + 5)) : Int).toNat)).bind fun t423 => ((gatelineref01_Same.f k2 t423 l0).bind fun t426 => (if t426 = true then (some (x6_2, 0)) else (some (([] : List Int), 14))))) else (none)) else (none))) else (some (([] : List Int), 6)))) else (some (([] : List Int), t416))) = some (r1, r2) := H
                      have A22 := Aside0.mk A220
                      clear A220
                      by_cases c23 : t416 = 0
                      · rw [if_pos c23] at H
                        have c23b0 : (t416 == 0) = true := beq_iff_eq.mpr c23
                        have c23b1 : (t416 != 0) = false := bne_eq_false_iff_eq.mpr c23
                        clear c23
                        replace H := Option.bind_eq_some_iff.mp H
                        obtain ⟨⟨t417, t418⟩, A240, H⟩ := H
                        replace H : (if t415 = t417 then (if (x6_2.length : Int) > 77 then (some (([] : List Int), 21)) else (if 0 ≤ (wrap64 (x7_2 + 5)) then (if (wrap64 (x7_2 + 5)) ≤ (t394.length : Int) then ((gatelineref11_Pack.f k2 (t394.take ((wrap64 (x7_2 + 5)) : Int).toNat)).bind fun t423 => ((gatelineref01_Same.f k2 t423 l0).bind fun t426 => (if t426 = true then (some (x6_2, 0)) else (some (([] : List Int), 14))))) else (none)) else (none))) else (some (([] : List Int), 6))) = some (r1, r2) := H
                        have A24 := Aside0.mk A240
                        clear A240
                        by_cases c25 : t415 = t417
                        · rw [if_pos c25] at H
                          have c25b0 : (t415 == t417) = true := beq_iff_eq.mpr c25
                          have c25b1 : (t415 != t417) = false := bne_eq_false_iff_eq.mpr c25
                          clear c25
                          by_cases c26 : (x6_2.length : Int) > 77
                          · rw [if_pos c26] at H
                            have c26b0 : decide (77 < (x6_2.length : Int)) = true := decide_eq_true c26
                            have c26b1 : decide (77 < x6_2.length) = true := decide_eq_true (by omega)
                            clear c26
                            simp only [Option.some.injEq, Prod.mk.injEq] at H
                            obtain ⟨rfl, rfl⟩ := H
                            obtain ⟨Ao27, co27, eo27⟩ := Kd.R_slice HO_5.out
                            subst eo27
                            have p404 : 0 ≤ ((ji15) : Int) := of_decide_eq_true (by first | (with_reducible assumption) | assumption)
                            have q404 : (ji15) < (x5_2.length : Int) := of_decide_eq_true (by first | (with_reducible assumption) | assumption)
                            obtain ⟨ad404, e404, hx404_0⟩ := Kd.at_int (Kd.R_reads' HO_5.out).2.2 (ji15) p404 q404
                            cases e404
                            replace p404 := eq_true p404
                            replace q404 := eq_true q404
                            go_wp2_with (first | ((with_reducible refine gate_callee (f := 55) rfl ?_); refine goesL_ (some 78) rfl rfl Try.func55 (by kernel_rfl) rfl #[.slice Ao9 t394.length co9, .int .i64 x7_2] rfl (by (try simp only [List.map_toArray, List.map_cons, List.map_nil]); first | done | rfl | (simp only [List.length_drop, List.length_take]; rfl)) ?_; (with_reducible refine (gatelineref11_at.calls _ _ t394 x7_2 t414 _ ?side1 ?side2 A21.out).mono ?_); (case side1 => repeat (first | exact (Kd.R_reads' HO_4.out).2.2 | (with_reducible refine Kd.C_alloc ?_ _) | (with_reducible refine Kd.C_drewN ?_ _) | (with_reducible refine Kd.C_drew ?_))); (case side2 => exact (Kd.R_reads' HO_4.out).2.1); rintro e w28 ⟨rfl, hb⟩; refine ⟨_, rfl, ?_⟩; have n0_ := Aside0.mk (Kd.R_below (by (with_reducible repeat (first | apply Kd.R_alloc | apply Kd.R_drewN | apply Kd.R_drew)); exact HO_4.out) hb); have n1_ := Aside0.mk (Kd.R_below (by (with_reducible repeat (first | apply Kd.R_alloc | apply Kd.R_drewN | apply Kd.R_drew)); exact HO_5.out) hb); have n2_ := Aside0.mk (Kd.R_below (by (with_reducible repeat (first | apply Kd.R_alloc | apply Kd.R_drewN | apply Kd.R_drew)); exact HO_6.out) hb); have n3_ := Aside0.mk (below_step (by repeat (first | (with_reducible first | exact HB.out | apply below_alloc | apply pw_below_drewN | apply below_drew1) | exact HB.out)) hb); clear HO_4; clear HO_5; clear HO_6; clear HB; have HO_4 := n0_; have HO_5 := n1_; have HO_6 := n2_; have HB := n3_; clear n0_ n1_ n2_ n3_; (try clear hb); (try clear hb2); (try clear hk); (try clear hi)) | ((with_reducible refine gate_callee (f := 26) rfl ?_); refine goesL_ (some 79) rfl rfl Try.func26 (by kernel_rfl) rfl #[.int .i64 t414] rfl (by (try simp only [List.map_toArray, List.map_cons, List.map_nil]); first | done | rfl | (simp only [List.length_drop, List.length_take]; rfl)) ?_; (with_reducible refine (gatelineref10_Value.calls k2 t414 t415 t416 _ A22.out).mono ?_); rintro e w' ⟨rfl, ⟨nd, rfl⟩⟩; refine ⟨_, rfl, ?_⟩) | ((with_reducible refine gate_callee (f := 29) rfl ?_); refine goesL_ (some 87) rfl rfl Try.func29 (by kernel_rfl) rfl #[.slice (some ad404) x5_2.length co27] rfl (by (try simp only [List.map_toArray, List.map_cons, List.map_nil]); first | done | rfl | (simp only [List.length_drop, List.length_take]; rfl)) ?_; (with_reducible refine (gatelineref10_Sum.calls k2 _ _ x5_2 t417 t418 _ ?side1 ?side2 A24.out).mono ?_); (case side1 => repeat (first | exact (Kd.R_reads' HO_5.out).2.2 | (with_reducible refine Kd.C_alloc ?_ _) | (with_reducible refine Kd.C_drewN ?_ _) | (with_reducible refine Kd.C_drew ?_))); (case side2 => exact (Kd.R_reads' HO_5.out).2.1); rintro e w' ⟨rfl, ⟨nd, rfl⟩⟩; refine ⟨_, rfl, ?_⟩; obtain ⟨Ao29, co29, eo29⟩ := Kd.R_slice HO_6.out; subst eo29))
                            go_ret2
                            exact ⟨_, by first | rfl | (simp [errW_none, errW_some] <;> rfl) | (simp only [← hji15]; first | rfl | (simp [errW_none, errW_some] <;> rfl)) | (simp [*, errW_none, errW_some] <;> rfl), by first | exact Kd.R_nil _ _ _ _ _ | exact Kd.N_nil _ _ _ _ _ | exact Kd.V_nil _ _ _ _ _ | exact Kd.Q_nil _ _ _ _ _ | exact Kd.S_nil _ _ _ _ _, by repeat (first | (with_reducible first | exact HB.out | apply below_alloc | apply pw_below_drewN | apply below_drew1) | exact HB.out)⟩
                          · rw [if_neg c26] at H
                            have c26b0 : decide (77 < (x6_2.length : Int)) = false := decide_eq_false c26
                            have c26b1 : decide (77 < x6_2.length) = false := decide_eq_false (by omega)
                            clear c26
                            obtain ⟨ji30, hji30⟩ : ∃ j_ : Int, (wrap64 (x7_2 + 5)) = j_ := ⟨_, rfl⟩
                            replace H : (if 0 ≤ (ji30) then (if (ji30) ≤ (t394.length : Int) then ((gatelineref11_Pack.f k2 (t394.take ((ji30) : Int).toNat)).bind fun t423 => ((gatelineref01_Same.f k2 t423 l0).bind fun t426 => (if t426 = true then (some (x6_2, 0)) else (some (([] : List Int), 14))))) else (none)) else (none)) = some (r1, r2) := by first | (rw [hji30] at H; exact H) | (simp only [hji30] at H ⊢; exact H)
                            (try rw [hji30] at c19b0)
                            (try rw [hji30] at A21)
                            (try rw [hji30] at A22)
                            (try rw [hji30] at A24)
                            have hji30w : (IntKind.i64.wrap (x7_2 + 5)) = ji30 := (i64_w _).trans hji30
                            by_cases c31 : 0 ≤ (ji30)
                            · rw [if_pos c31] at H
                              have c31b0 := eq_true c31
                              have c31b1 : decide (0 ≤ (ji30)) = true := decide_eq_true c31
                              clear c31
                              by_cases c32 : (ji30) ≤ (t394.length : Int)
                              · rw [if_pos c32] at H
                                have c32b0 := eq_true c32
                                have c32b1 : decide ((ji30) ≤ (t394.length : Int)) = true := decide_eq_true c32
                                clear c32
                                obtain ⟨y419, hy419⟩ : ∃ y_ : List Bool, y_ = (t394.take ((ji30) : Int).toNat) := ⟨_, rfl⟩
                                replace H : ((gatelineref11_Pack.f k2 y419).bind fun t423 => ((gatelineref01_Same.f k2 t423 l0).bind fun t426 => (if t426 = true then (some (x6_2, 0)) else (some (([] : List Int), 14))))) = some (r1, r2) := by first | (rw [hy419]; with_reducible exact H) | (have H2_ := (Option.bind_some _ _).symm.trans H; rw [hy419]; with_reducible exact H2_) | (have H2_ := (Option.bind_some _ _).symm.trans H; with_reducible exact H2_) | with_reducible exact H | (rw [hy419]; exact H) | exact H
                                have Ny419 := Aside0.mk hy419
                                clear hy419
                                replace H := Option.bind_eq_some_iff.mp H
                                obtain ⟨t423, A330, H⟩ := H
                                replace H : ((gatelineref01_Same.f k2 t423 l0).bind fun t426 => (if t426 = true then (some (x6_2, 0)) else (some (([] : List Int), 14)))) = some (r1, r2) := H
                                have A33 := Aside0.mk A330
                                clear A330
                                replace H := Option.bind_eq_some_iff.mp H
                                obtain ⟨t426, A340, H⟩ := H
                                replace H : (if t426 = true then (some (x6_2, 0)) else (some (([] : List Int), 14))) = some (r1, r2) := H
                                have A34 := Aside0.mk A340
                                clear A340
                                by_cases c35 : t426 = true
                                · subst c35
                                  have H1 : (some (x6_2, 0)) = some (r1, r2) := by rw [if_pos rfl] at H; exact H
                                  clear H
                                  have H := H1
                                  clear H1
                                  simp only [Option.some.injEq, Prod.mk.injEq] at H
                                  obtain ⟨rfl, rfl⟩ := H
                                  obtain ⟨Ao36, co36, eo36⟩ := Kd.R_slice HO_5.out
                                  subst eo36
                                  have p404 : 0 ≤ ((ji15) : Int) := of_decide_eq_true (by first | (with_reducible assumption) | assumption)
                                  have q404 : (ji15) < (x5_2.length : Int) := of_decide_eq_true (by first | (with_reducible assumption) | assumption)
                                  obtain ⟨ad404, e404, hx404_0⟩ := Kd.at_int (Kd.R_reads' HO_5.out).2.2 (ji15) p404 q404
                                  cases e404
                                  replace p404 := eq_true p404
                                  replace q404 := eq_true q404
                                  go_wp2_with (first | ((with_reducible refine gate_callee (f := 55) rfl ?_); refine goesL_ (some 78) rfl rfl Try.func55 (by kernel_rfl) rfl #[.slice Ao9 t394.length co9, .int .i64 x7_2] rfl (by (try simp only [List.map_toArray, List.map_cons, List.map_nil]); first | done | rfl | (simp only [List.length_drop, List.length_take]; rfl)) ?_; (with_reducible refine (gatelineref11_at.calls _ _ t394 x7_2 t414 _ ?side1 ?side2 A21.out).mono ?_); (case side1 => repeat (first | exact (Kd.R_reads' HO_4.out).2.2 | (with_reducible refine Kd.C_alloc ?_ _) | (with_reducible refine Kd.C_drewN ?_ _) | (with_reducible refine Kd.C_drew ?_))); (case side2 => exact (Kd.R_reads' HO_4.out).2.1); rintro e w37 ⟨rfl, hb⟩; refine ⟨_, rfl, ?_⟩; have n0_ := Aside0.mk (Kd.R_below (by (with_reducible repeat (first | apply Kd.R_alloc | apply Kd.R_drewN | apply Kd.R_drew)); exact HO_4.out) hb); have n1_ := Aside0.mk (Kd.R_below (by (with_reducible repeat (first | apply Kd.R_alloc | apply Kd.R_drewN | apply Kd.R_drew)); exact HO_5.out) hb); have n2_ := Aside0.mk (Kd.R_below (by (with_reducible repeat (first | apply Kd.R_alloc | apply Kd.R_drewN | apply Kd.R_drew)); exact HO_6.out) hb); have n3_ := Aside0.mk (below_step (by repeat (first | (with_reducible first | exact HB.out | apply below_alloc | apply pw_below_drewN | apply below_drew1) | exact HB.out)) hb); clear HO_4; clear HO_5; clear HO_6; clear HB; have HO_4 := n0_; have HO_5 := n1_; have HO_6 := n2_; have HB := n3_; clear n0_ n1_ n2_ n3_; (try clear hb); (try clear hb2); (try clear hk); (try clear hi)) | ((with_reducible refine gate_callee (f := 26) rfl ?_); refine goesL_ (some 79) rfl rfl Try.func26 (by kernel_rfl) rfl #[.int .i64 t414] rfl (by (try simp only [List.map_toArray, List.map_cons, List.map_nil]); first | done | rfl | (simp only [List.length_drop, List.length_take]; rfl)) ?_; (with_reducible refine (gatelineref10_Value.calls k2 t414 t415 t416 _ A22.out).mono ?_); rintro e w' ⟨rfl, ⟨nd, rfl⟩⟩; refine ⟨_, rfl, ?_⟩) | ((with_reducible refine gate_callee (f := 29) rfl ?_); refine goesL_ (some 87) rfl rfl Try.func29 (by kernel_rfl) rfl #[.slice (some ad404) x5_2.length co36] rfl (by (try simp only [List.map_toArray, List.map_cons, List.map_nil]); first | done | rfl | (simp only [List.length_drop, List.length_take]; rfl)) ?_; (with_reducible refine (gatelineref10_Sum.calls k2 _ _ x5_2 t417 t418 _ ?side1 ?side2 A24.out).mono ?_); (case side1 => repeat (first | exact (Kd.R_reads' HO_5.out).2.2 | (with_reducible refine Kd.C_alloc ?_ _) | (with_reducible refine Kd.C_drewN ?_ _) | (with_reducible refine Kd.C_drew ?_))); (case side2 => exact (Kd.R_reads' HO_5.out).2.1); rintro e w' ⟨rfl, ⟨nd, rfl⟩⟩; refine ⟨_, rfl, ?_⟩; obtain ⟨Ao38, co38, eo38⟩ := Kd.R_slice HO_6.out; subst eo38; have q39 : ((ji30) : Int) ≤ ((t394.length : Int) : Int) := of_decide_eq_true (by first | (with_reducible assumption) | assumption); obtain ⟨i039, hi039, _, hsz39, _⟩ := info_parts info4; have hroom39 : t394.length ≤ co9 := (Kd.R_reads' HO_4.out).2.1; have hC39 : Kd.C Kd.bool _ Ao9 t394.length t394 := (Kd.R_reads' HO_4.out).2.2; have hcut39 := cut_to (P := Try.prog) 44 4 .i64 Try.underlying44 hi039 Ao9 t394.length co9 (ji30) (of_decide_eq_true (by first | (with_reducible assumption) | assumption)) q39 hroom39; have hr39 := Kd.C_take (m := ((ji30) : Int).toNat) hC39 (by omega); have hy39 : y419.length = ((ji30) : Int).toNat := (by rw [Ny419.out, List.length_take]; omega); rw [← Ny419.out] at hr39; rw [← hy39] at hcut39; have HR422 := Aside0.mk hr39; have HC422 := Aside0.mk (show y419.length ≤ co9 from by omega); clear hr39 hC39 hroom39 hi039 hsz39; have KY39 := Aside0.mk hy39; clear hy39; have KL39 := Aside0.mk (show ((ji30) : Int).toNat ≤ t394.length from by omega); replace q39 := eq_true q39) | ((with_reducible refine gate_callee (f := 36) rfl ?_); refine goesL_ (some 100) rfl rfl Try.func36 (by kernel_rfl) rfl #[.slice Ao9 y419.length co9] rfl (by (try simp only [List.map_toArray, List.map_cons, List.map_nil]); first | done | rfl | (simp only [List.length_drop, List.length_take]; rfl)) ?_; (with_reducible refine (gatelineref11_Pack.calls k2 _ _ y419 t423 _ ?side1 ?side2 A33.out).mono ?_); (case side1 => repeat (first | exact (by repeat (first | (with_reducible exact HR422.out) | (with_reducible refine Kd.C_alloc ?_ _) | (with_reducible refine Kd.C_drewN ?_ _) | (with_reducible refine Kd.C_drew ?_) | exact HR422.out)) | (with_reducible refine Kd.C_alloc ?_ _) | (with_reducible refine Kd.C_drewN ?_ _) | (with_reducible refine Kd.C_drew ?_))); (case side2 => exact HC422.out); rintro e w40 ⟨v424, rfl, ho0, hb⟩; refine ⟨_, rfl, ?_⟩; have n0_ := Aside0.mk (Kd.R_below (by (with_reducible repeat (first | apply Kd.R_alloc | apply Kd.R_drewN | apply Kd.R_drew)); exact HO_4.out) hb); have n1_ := Aside0.mk (Kd.R_below (by (with_reducible repeat (first | apply Kd.R_alloc | apply Kd.R_drewN | apply Kd.R_drew)); exact HO_5.out) hb); have n2_ := Aside0.mk (Kd.R_elder' (by (with_reducible repeat (first | apply Kd.R_alloc | apply Kd.R_drewN | apply Kd.R_drew)); exact HO_6.out) (Kd.R_base ho0) hb); have n3_ := Aside0.mk (Kd.R_lower (Kd.R_new' ho0 (Kd.R_lt (by (with_reducible repeat (first | apply Kd.R_alloc | apply Kd.R_drewN | apply Kd.R_drew)); exact HO_6.out))) (below_size (by repeat (first | (with_reducible first | exact HB.out | apply below_alloc | apply pw_below_drewN | apply below_drew1) | exact HB.out)))); have n4_ := Aside0.mk (Kd.C_below (by repeat (first | (with_reducible exact HR422.out) | (with_reducible refine Kd.C_alloc ?_ _) | (with_reducible refine Kd.C_drewN ?_ _) | (with_reducible refine Kd.C_drew ?_) | exact HR422.out)) hb); have n5_ := Aside0.mk (below_step (by repeat (first | (with_reducible first | exact HB.out | apply below_alloc | apply pw_below_drewN | apply below_drew1) | exact HB.out)) hb); clear HO_4; clear HO_5; clear HO_6; clear HR422; clear HB; have HO_4 := n0_; have HO_5 := n1_; have HO_6 := n2_; have HO425 := n3_; have HR422 := n4_; have HB := n5_; clear n0_ n1_ n2_ n3_ n4_ n5_; (try clear hb); (try clear hb2); (try clear hk); (try clear hi); (try clear ho0); obtain ⟨Ao41, co41, eo41⟩ := Kd.R_slice HO425.out; subst eo41) | ((with_reducible refine gate_callee (f := 20) rfl ?_); refine goesL_ (some 102) rfl rfl Try.func20 (by kernel_rfl) rfl #[.slice Ao41 t423.length co41, .slice A0 l0.length c0] rfl (by (try simp only [List.map_toArray, List.map_cons, List.map_nil]); first | done | rfl | (simp only [List.length_drop, List.length_take]; rfl)) ?_; (with_reducible refine (gatelineref01_Same.calls k2 _ _ t423 _ _ l0 true _ ?side1 ?side2 ?side3 ?side4 A34.out).mono ?_); (case side1 => repeat (first | exact (Kd.R_reads' HO425.out).2.2 | (with_reducible refine Kd.C_alloc ?_ _) | (with_reducible refine Kd.C_drewN ?_ _) | (with_reducible refine Kd.C_drew ?_))); (case side2 => exact (Kd.R_reads' HO425.out).2.1); (case side3 => repeat (first | exact (Kd.C_below HR0.out HB.out) | (with_reducible refine Kd.C_alloc ?_ _) | (with_reducible refine Kd.C_drewN ?_ _) | (with_reducible refine Kd.C_drew ?_))); (case side4 => exact HC0.out); rintro e w' ⟨rfl, ⟨nd, rfl⟩⟩; refine ⟨_, rfl, ?_⟩))
                                  go_ret2
                                  exact ⟨_, by first | rfl | (simp [errW_none, errW_some] <;> rfl) | (simp only [← hji15, ← hji30]; first | rfl | (simp [errW_none, errW_some] <;> rfl)) | (simp [*, errW_none, errW_some] <;> rfl), by (with_reducible repeat (first | apply Kd.R_alloc | apply Kd.R_drewN | apply Kd.R_drew)); exact Kd.R_mono HO_6.out (fun _ hk => trivial), by repeat (first | (with_reducible first | exact HB.out | apply below_alloc | apply pw_below_drewN | apply below_drew1) | exact HB.out)⟩
                                · replace c35 := Bool.eq_false_iff.mpr c35
                                  subst c35
                                  have H1 : (some (([] : List Int), 14)) = some (r1, r2) := by rw [if_neg (show ¬ (false = true) by decide)] at H; exact H
                                  clear H
                                  have H := H1
                                  clear H1
                                  simp only [Option.some.injEq, Prod.mk.injEq] at H
                                  obtain ⟨rfl, rfl⟩ := H
                                  obtain ⟨Ao42, co42, eo42⟩ := Kd.R_slice HO_5.out
                                  subst eo42
                                  have p404 : 0 ≤ ((ji15) : Int) := of_decide_eq_true (by first | (with_reducible assumption) | assumption)
                                  have q404 : (ji15) < (x5_2.length : Int) := of_decide_eq_true (by first | (with_reducible assumption) | assumption)
                                  obtain ⟨ad404, e404, hx404_0⟩ := Kd.at_int (Kd.R_reads' HO_5.out).2.2 (ji15) p404 q404
                                  cases e404
                                  replace p404 := eq_true p404
                                  replace q404 := eq_true q404
                                  go_wp2_with (first | ((with_reducible refine gate_callee (f := 55) rfl ?_); refine goesL_ (some 78) rfl rfl Try.func55 (by kernel_rfl) rfl #[.slice Ao9 t394.length co9, .int .i64 x7_2] rfl (by (try simp only [List.map_toArray, List.map_cons, List.map_nil]); first | done | rfl | (simp only [List.length_drop, List.length_take]; rfl)) ?_; (with_reducible refine (gatelineref11_at.calls _ _ t394 x7_2 t414 _ ?side1 ?side2 A21.out).mono ?_); (case side1 => repeat (first | exact (Kd.R_reads' HO_4.out).2.2 | (with_reducible refine Kd.C_alloc ?_ _) | (with_reducible refine Kd.C_drewN ?_ _) | (with_reducible refine Kd.C_drew ?_))); (case side2 => exact (Kd.R_reads' HO_4.out).2.1); rintro e w43 ⟨rfl, hb⟩; refine ⟨_, rfl, ?_⟩; have n0_ := Aside0.mk (Kd.R_below (by (with_reducible repeat (first | apply Kd.R_alloc | apply Kd.R_drewN | apply Kd.R_drew)); exact HO_4.out) hb); have n1_ := Aside0.mk (Kd.R_below (by (with_reducible repeat (first | apply Kd.R_alloc | apply Kd.R_drewN | apply Kd.R_drew)); exact HO_5.out) hb); have n2_ := Aside0.mk (Kd.R_below (by (with_reducible repeat (first | apply Kd.R_alloc | apply Kd.R_drewN | apply Kd.R_drew)); exact HO_6.out) hb); have n3_ := Aside0.mk (below_step (by repeat (first | (with_reducible first | exact HB.out | apply below_alloc | apply pw_below_drewN | apply below_drew1) | exact HB.out)) hb); clear HO_4; clear HO_5; clear HO_6; clear HB; have HO_4 := n0_; have HO_5 := n1_; have HO_6 := n2_; have HB := n3_; clear n0_ n1_ n2_ n3_; (try clear hb); (try clear hb2); (try clear hk); (try clear hi)) | ((with_reducible refine gate_callee (f := 26) rfl ?_); refine goesL_ (some 79) rfl rfl Try.func26 (by kernel_rfl) rfl #[.int .i64 t414] rfl (by (try simp only [List.map_toArray, List.map_cons, List.map_nil]); first | done | rfl | (simp only [List.length_drop, List.length_take]; rfl)) ?_; (with_reducible refine (gatelineref10_Value.calls k2 t414 t415 t416 _ A22.out).mono ?_); rintro e w' ⟨rfl, ⟨nd, rfl⟩⟩; refine ⟨_, rfl, ?_⟩) | ((with_reducible refine gate_callee (f := 29) rfl ?_); refine goesL_ (some 87) rfl rfl Try.func29 (by kernel_rfl) rfl #[.slice (some ad404) x5_2.length co42] rfl (by (try simp only [List.map_toArray, List.map_cons, List.map_nil]); first | done | rfl | (simp only [List.length_drop, List.length_take]; rfl)) ?_; (with_reducible refine (gatelineref10_Sum.calls k2 _ _ x5_2 t417 t418 _ ?side1 ?side2 A24.out).mono ?_); (case side1 => repeat (first | exact (Kd.R_reads' HO_5.out).2.2 | (with_reducible refine Kd.C_alloc ?_ _) | (with_reducible refine Kd.C_drewN ?_ _) | (with_reducible refine Kd.C_drew ?_))); (case side2 => exact (Kd.R_reads' HO_5.out).2.1); rintro e w' ⟨rfl, ⟨nd, rfl⟩⟩; refine ⟨_, rfl, ?_⟩; obtain ⟨Ao44, co44, eo44⟩ := Kd.R_slice HO_6.out; subst eo44; have q45 : ((ji30) : Int) ≤ ((t394.length : Int) : Int) := of_decide_eq_true (by first | (with_reducible assumption) | assumption); obtain ⟨i045, hi045, _, hsz45, _⟩ := info_parts info4; have hroom45 : t394.length ≤ co9 := (Kd.R_reads' HO_4.out).2.1; have hC45 : Kd.C Kd.bool _ Ao9 t394.length t394 := (Kd.R_reads' HO_4.out).2.2; have hcut45 := cut_to (P := Try.prog) 44 4 .i64 Try.underlying44 hi045 Ao9 t394.length co9 (ji30) (of_decide_eq_true (by first | (with_reducible assumption) | assumption)) q45 hroom45; have hr45 := Kd.C_take (m := ((ji30) : Int).toNat) hC45 (by omega); have hy45 : y419.length = ((ji30) : Int).toNat := (by rw [Ny419.out, List.length_take]; omega); rw [← Ny419.out] at hr45; rw [← hy45] at hcut45; have HR422 := Aside0.mk hr45; have HC422 := Aside0.mk (show y419.length ≤ co9 from by omega); clear hr45 hC45 hroom45 hi045 hsz45; have KY45 := Aside0.mk hy45; clear hy45; have KL45 := Aside0.mk (show ((ji30) : Int).toNat ≤ t394.length from by omega); replace q45 := eq_true q45) | ((with_reducible refine gate_callee (f := 36) rfl ?_); refine goesL_ (some 100) rfl rfl Try.func36 (by kernel_rfl) rfl #[.slice Ao9 y419.length co9] rfl (by (try simp only [List.map_toArray, List.map_cons, List.map_nil]); first | done | rfl | (simp only [List.length_drop, List.length_take]; rfl)) ?_; (with_reducible refine (gatelineref11_Pack.calls k2 _ _ y419 t423 _ ?side1 ?side2 A33.out).mono ?_); (case side1 => repeat (first | exact (by repeat (first | (with_reducible exact HR422.out) | (with_reducible refine Kd.C_alloc ?_ _) | (with_reducible refine Kd.C_drewN ?_ _) | (with_reducible refine Kd.C_drew ?_) | exact HR422.out)) | (with_reducible refine Kd.C_alloc ?_ _) | (with_reducible refine Kd.C_drewN ?_ _) | (with_reducible refine Kd.C_drew ?_))); (case side2 => exact HC422.out); rintro e w46 ⟨v424, rfl, ho0, hb⟩; refine ⟨_, rfl, ?_⟩; have n0_ := Aside0.mk (Kd.R_below (by (with_reducible repeat (first | apply Kd.R_alloc | apply Kd.R_drewN | apply Kd.R_drew)); exact HO_4.out) hb); have n1_ := Aside0.mk (Kd.R_below (by (with_reducible repeat (first | apply Kd.R_alloc | apply Kd.R_drewN | apply Kd.R_drew)); exact HO_5.out) hb); have n2_ := Aside0.mk (Kd.R_elder' (by (with_reducible repeat (first | apply Kd.R_alloc | apply Kd.R_drewN | apply Kd.R_drew)); exact HO_6.out) (Kd.R_base ho0) hb); have n3_ := Aside0.mk (Kd.R_lower (Kd.R_new' ho0 (Kd.R_lt (by (with_reducible repeat (first | apply Kd.R_alloc | apply Kd.R_drewN | apply Kd.R_drew)); exact HO_6.out))) (below_size (by repeat (first | (with_reducible first | exact HB.out | apply below_alloc | apply pw_below_drewN | apply below_drew1) | exact HB.out)))); have n4_ := Aside0.mk (Kd.C_below (by repeat (first | (with_reducible exact HR422.out) | (with_reducible refine Kd.C_alloc ?_ _) | (with_reducible refine Kd.C_drewN ?_ _) | (with_reducible refine Kd.C_drew ?_) | exact HR422.out)) hb); have n5_ := Aside0.mk (below_step (by repeat (first | (with_reducible first | exact HB.out | apply below_alloc | apply pw_below_drewN | apply below_drew1) | exact HB.out)) hb); clear HO_4; clear HO_5; clear HO_6; clear HR422; clear HB; have HO_4 := n0_; have HO_5 := n1_; have HO_6 := n2_; have HO425 := n3_; have HR422 := n4_; have HB := n5_; clear n0_ n1_ n2_ n3_ n4_ n5_; (try clear hb); (try clear hb2); (try clear hk); (try clear hi); (try clear ho0); obtain ⟨Ao47, co47, eo47⟩ := Kd.R_slice HO425.out; subst eo47) | ((with_reducible refine gate_callee (f := 20) rfl ?_); refine goesL_ (some 102) rfl rfl Try.func20 (by kernel_rfl) rfl #[.slice Ao47 t423.length co47, .slice A0 l0.length c0] rfl (by (try simp only [List.map_toArray, List.map_cons, List.map_nil]); first | done | rfl | (simp only [List.length_drop, List.length_take]; rfl)) ?_; (with_reducible refine (gatelineref01_Same.calls k2 _ _ t423 _ _ l0 false _ ?side1 ?side2 ?side3 ?side4 A34.out).mono ?_); (case side1 => repeat (first | exact (Kd.R_reads' HO425.out).2.2 | (with_reducible refine Kd.C_alloc ?_ _) | (with_reducible refine Kd.C_drewN ?_ _) | (with_reducible refine Kd.C_drew ?_))); (case side2 => exact (Kd.R_reads' HO425.out).2.1); (case side3 => repeat (first | exact (Kd.C_below HR0.out HB.out) | (with_reducible refine Kd.C_alloc ?_ _) | (with_reducible refine Kd.C_drewN ?_ _) | (with_reducible refine Kd.C_drew ?_))); (case side4 => exact HC0.out); rintro e w' ⟨rfl, ⟨nd, rfl⟩⟩; refine ⟨_, rfl, ?_⟩))
                                  go_ret2
                                  exact ⟨_, by first | rfl | (simp [errW_none, errW_some] <;> rfl) | (simp only [← hji15, ← hji30]; first | rfl | (simp [errW_none, errW_some] <;> rfl)) | (simp [*, errW_none, errW_some] <;> rfl), by first | exact Kd.R_nil _ _ _ _ _ | exact Kd.N_nil _ _ _ _ _ | exact Kd.V_nil _ _ _ _ _ | exact Kd.Q_nil _ _ _ _ _ | exact Kd.S_nil _ _ _ _ _, by repeat (first | (with_reducible first | exact HB.out | apply below_alloc | apply pw_below_drewN | apply below_drew1) | exact HB.out)⟩
                              · rw [if_neg c32] at H
                                exact absurd H (by simp)
                            · rw [if_neg c31] at H
                              exact absurd H (by simp)
                        · rw [if_neg c25] at H
                          have c25b0 : (t415 == t417) = false := beq_eq_false_iff_ne.mpr c25
                          have c25b1 : (t415 != t417) = true := bne_iff_ne.mpr c25
                          simp only [Option.some.injEq, Prod.mk.injEq] at H
                          obtain ⟨rfl, rfl⟩ := H
                          obtain ⟨Ao48, co48, eo48⟩ := Kd.R_slice HO_5.out
                          subst eo48
                          have p404 : 0 ≤ ((ji15) : Int) := of_decide_eq_true (by first | (with_reducible assumption) | assumption)
                          have q404 : (ji15) < (x5_2.length : Int) := of_decide_eq_true (by first | (with_reducible assumption) | assumption)
                          obtain ⟨ad404, e404, hx404_0⟩ := Kd.at_int (Kd.R_reads' HO_5.out).2.2 (ji15) p404 q404
                          cases e404
                          replace p404 := eq_true p404
                          replace q404 := eq_true q404
                          go_wp2_with (first | ((with_reducible refine gate_callee (f := 55) rfl ?_); refine goesL_ (some 78) rfl rfl Try.func55 (by kernel_rfl) rfl #[.slice Ao9 t394.length co9, .int .i64 x7_2] rfl (by (try simp only [List.map_toArray, List.map_cons, List.map_nil]); first | done | rfl | (simp only [List.length_drop, List.length_take]; rfl)) ?_; (with_reducible refine (gatelineref11_at.calls _ _ t394 x7_2 t414 _ ?side1 ?side2 A21.out).mono ?_); (case side1 => repeat (first | exact (Kd.R_reads' HO_4.out).2.2 | (with_reducible refine Kd.C_alloc ?_ _) | (with_reducible refine Kd.C_drewN ?_ _) | (with_reducible refine Kd.C_drew ?_))); (case side2 => exact (Kd.R_reads' HO_4.out).2.1); rintro e w49 ⟨rfl, hb⟩; refine ⟨_, rfl, ?_⟩; have n0_ := Aside0.mk (Kd.R_below (by (with_reducible repeat (first | apply Kd.R_alloc | apply Kd.R_drewN | apply Kd.R_drew)); exact HO_4.out) hb); have n1_ := Aside0.mk (Kd.R_below (by (with_reducible repeat (first | apply Kd.R_alloc | apply Kd.R_drewN | apply Kd.R_drew)); exact HO_5.out) hb); have n2_ := Aside0.mk (Kd.R_below (by (with_reducible repeat (first | apply Kd.R_alloc | apply Kd.R_drewN | apply Kd.R_drew)); exact HO_6.out) hb); have n3_ := Aside0.mk (below_step (by repeat (first | (with_reducible first | exact HB.out | apply below_alloc | apply pw_below_drewN | apply below_drew1) | exact HB.out)) hb); clear HO_4; clear HO_5; clear HO_6; clear HB; have HO_4 := n0_; have HO_5 := n1_; have HO_6 := n2_; have HB := n3_; clear n0_ n1_ n2_ n3_; (try clear hb); (try clear hb2); (try clear hk); (try clear hi)) | ((with_reducible refine gate_callee (f := 26) rfl ?_); refine goesL_ (some 79) rfl rfl Try.func26 (by kernel_rfl) rfl #[.int .i64 t414] rfl (by (try simp only [List.map_toArray, List.map_cons, List.map_nil]); first | done | rfl | (simp only [List.length_drop, List.length_take]; rfl)) ?_; (with_reducible refine (gatelineref10_Value.calls k2 t414 t415 t416 _ A22.out).mono ?_); rintro e w' ⟨rfl, ⟨nd, rfl⟩⟩; refine ⟨_, rfl, ?_⟩) | ((with_reducible refine gate_callee (f := 29) rfl ?_); refine goesL_ (some 87) rfl rfl Try.func29 (by kernel_rfl) rfl #[.slice (some ad404) x5_2.length co48] rfl (by (try simp only [List.map_toArray, List.map_cons, List.map_nil]); first | done | rfl | (simp only [List.length_drop, List.length_take]; rfl)) ?_; (with_reducible refine (gatelineref10_Sum.calls k2 _ _ x5_2 t417 t418 _ ?side1 ?side2 A24.out).mono ?_); (case side1 => repeat (first | exact (Kd.R_reads' HO_5.out).2.2 | (with_reducible refine Kd.C_alloc ?_ _) | (with_reducible refine Kd.C_drewN ?_ _) | (with_reducible refine Kd.C_drew ?_))); (case side2 => exact (Kd.R_reads' HO_5.out).2.1); rintro e w' ⟨rfl, ⟨nd, rfl⟩⟩; refine ⟨_, rfl, ?_⟩))
                          go_ret2
                          exact ⟨_, by first | rfl | (simp [errW_none, errW_some] <;> rfl) | (simp only [← hji15]; first | rfl | (simp [errW_none, errW_some] <;> rfl)) | (simp [*, errW_none, errW_some] <;> rfl), by first | exact Kd.R_nil _ _ _ _ _ | exact Kd.N_nil _ _ _ _ _ | exact Kd.V_nil _ _ _ _ _ | exact Kd.Q_nil _ _ _ _ _ | exact Kd.S_nil _ _ _ _ _, by repeat (first | (with_reducible first | exact HB.out | apply below_alloc | apply pw_below_drewN | apply below_drew1) | exact HB.out)⟩
                      · rw [if_neg c23] at H
                        have c23b0 : (t416 == 0) = false := beq_eq_false_iff_ne.mpr c23
                        have c23b1 : (t416 != 0) = true := bne_iff_ne.mpr c23
                        simp only [Option.some.injEq, Prod.mk.injEq] at H
                        obtain ⟨rfl, rfl⟩ := H
                        obtain ⟨Ao50, co50, eo50⟩ := Kd.R_slice HO_5.out
                        subst eo50
                        have p404 : 0 ≤ ((ji15) : Int) := of_decide_eq_true (by first | (with_reducible assumption) | assumption)
                        have q404 : (ji15) < (x5_2.length : Int) := of_decide_eq_true (by first | (with_reducible assumption) | assumption)
                        obtain ⟨ad404, e404, hx404_0⟩ := Kd.at_int (Kd.R_reads' HO_5.out).2.2 (ji15) p404 q404
                        cases e404
                        replace p404 := eq_true p404
                        replace q404 := eq_true q404
                        go_wp2_with (first | ((with_reducible refine gate_callee (f := 55) rfl ?_); refine goesL_ (some 78) rfl rfl Try.func55 (by kernel_rfl) rfl #[.slice Ao9 t394.length co9, .int .i64 x7_2] rfl (by (try simp only [List.map_toArray, List.map_cons, List.map_nil]); first | done | rfl | (simp only [List.length_drop, List.length_take]; rfl)) ?_; (with_reducible refine (gatelineref11_at.calls _ _ t394 x7_2 t414 _ ?side1 ?side2 A21.out).mono ?_); (case side1 => repeat (first | exact (Kd.R_reads' HO_4.out).2.2 | (with_reducible refine Kd.C_alloc ?_ _) | (with_reducible refine Kd.C_drewN ?_ _) | (with_reducible refine Kd.C_drew ?_))); (case side2 => exact (Kd.R_reads' HO_4.out).2.1); rintro e w51 ⟨rfl, hb⟩; refine ⟨_, rfl, ?_⟩; have n0_ := Aside0.mk (Kd.R_below (by (with_reducible repeat (first | apply Kd.R_alloc | apply Kd.R_drewN | apply Kd.R_drew)); exact HO_4.out) hb); have n1_ := Aside0.mk (Kd.R_below (by (with_reducible repeat (first | apply Kd.R_alloc | apply Kd.R_drewN | apply Kd.R_drew)); exact HO_5.out) hb); have n2_ := Aside0.mk (Kd.R_below (by (with_reducible repeat (first | apply Kd.R_alloc | apply Kd.R_drewN | apply Kd.R_drew)); exact HO_6.out) hb); have n3_ := Aside0.mk (below_step (by repeat (first | (with_reducible first | exact HB.out | apply below_alloc | apply pw_below_drewN | apply below_drew1) | exact HB.out)) hb); clear HO_4; clear HO_5; clear HO_6; clear HB; have HO_4 := n0_; have HO_5 := n1_; have HO_6 := n2_; have HB := n3_; clear n0_ n1_ n2_ n3_; (try clear hb); (try clear hb2); (try clear hk); (try clear hi)) | ((with_reducible refine gate_callee (f := 26) rfl ?_); refine goesL_ (some 79) rfl rfl Try.func26 (by kernel_rfl) rfl #[.int .i64 t414] rfl (by (try simp only [List.map_toArray, List.map_cons, List.map_nil]); first | done | rfl | (simp only [List.length_drop, List.length_take]; rfl)) ?_; (with_reducible refine (gatelineref10_Value.calls k2 t414 t415 t416 _ A22.out).mono ?_); rintro e w' ⟨rfl, ⟨nd, rfl⟩⟩; refine ⟨_, rfl, ?_⟩))
                        go_ret2
                        exact ⟨_, by first | rfl | (simp [errW_none, errW_some] <;> rfl) | (simp only [← hji15]; first | rfl | (simp [errW_none, errW_some] <;> rfl)) | (simp [*, errW_none, errW_some] <;> rfl), by first | exact Kd.R_nil _ _ _ _ _ | exact Kd.N_nil _ _ _ _ _ | exact Kd.V_nil _ _ _ _ _ | exact Kd.Q_nil _ _ _ _ _ | exact Kd.S_nil _ _ _ _ _, by repeat (first | (with_reducible first | exact HB.out | apply below_alloc | apply pw_below_drewN | apply below_drew1) | exact HB.out)⟩
                  · rw [if_neg c18] at H
                    have c18b0 : ((rd x5_2 (ji15)) == 15) = false := beq_eq_false_iff_ne.mpr c18
                    have c18b1 : ((rd x5_2 (ji15)) != 15) = true := bne_iff_ne.mpr c18
                    by_cases c52 : (wrap64 (x7_2 + 5)) > (t394.length : Int)
                    · rw [if_pos c52] at H
                      have c52b0 : decide ((t394.length : Int) < (wrap64 (x7_2 + 5))) = true := decide_eq_true c52
                      clear c52
                      simp only [Option.some.injEq, Prod.mk.injEq] at H
                      obtain ⟨rfl, rfl⟩ := H
                      obtain ⟨Ao53, co53, eo53⟩ := Kd.R_slice HO_5.out
                      subst eo53
                      have p404 : 0 ≤ ((ji15) : Int) := of_decide_eq_true (by first | (with_reducible assumption) | assumption)
                      have q404 : (ji15) < (x5_2.length : Int) := of_decide_eq_true (by first | (with_reducible assumption) | assumption)
                      obtain ⟨ad404, e404, hx404_0⟩ := Kd.at_int (Kd.R_reads' HO_5.out).2.2 (ji15) p404 q404
                      cases e404
                      replace p404 := eq_true p404
                      replace q404 := eq_true q404
                      go_wp2
                      go_ret2
                      exact ⟨_, by first | rfl | (simp [errW_none, errW_some] <;> rfl) | (simp only [← hji15]; first | rfl | (simp [errW_none, errW_some] <;> rfl)) | (simp [*, errW_none, errW_some] <;> rfl), by first | exact Kd.R_nil _ _ _ _ _ | exact Kd.N_nil _ _ _ _ _ | exact Kd.V_nil _ _ _ _ _ | exact Kd.Q_nil _ _ _ _ _ | exact Kd.S_nil _ _ _ _ _, by repeat (first | (with_reducible first | exact HB.out | apply below_alloc | apply pw_below_drewN | apply below_drew1) | exact HB.out)⟩
                    · rw [if_neg c52] at H
                      have c52b0 : decide ((t394.length : Int) < (wrap64 (x7_2 + 5))) = false := decide_eq_false c52
                      clear c52
                      replace H := Option.bind_eq_some_iff.mp H
                      obtain ⟨t405, A540, H⟩ := H
                      replace H : ((gatelineref10_Value.f k2 t405).bind fun bt406 => (if bt406.2 = 0 then (if bt406.1 > 9 then (gatelineref11_Get.j2 k2 l0 t394 x5_2 x6_2 x7_2 bt406.1 (bt406.1 != 15)) else (gatelineref11_Get.j2 k2 l0 t394 x5_2 x6_2 x7_2 bt406.1 false)) else (some (([] : List Int), bt406.2)))) = some (r1, r2) := H
                      have A54 := Aside0.mk A540
                      clear A540
                      replace H := Option.bind_eq_some_iff.mp H
                      obtain ⟨⟨t406, t407⟩, A550, H⟩ := H
                      replace H : (if t407 = 0 then (if t406 > 9 then (gatelineref11_Get.j2 k2 l0 t394 x5_2 x6_2 x7_2 t406 (t406 != 15)) else (gatelineref11_Get.j2 k2 l0 t394 x5_2 x6_2 x7_2 t406 false)) else (some (([] : List Int), t407))) = some (r1, r2) := H
                      have A55 := Aside0.mk A550
                      clear A550
                      by_cases c56 : t407 = 0
                      · rw [if_pos c56] at H
                        have c56b0 : (t407 == 0) = true := beq_iff_eq.mpr c56
                        have c56b1 : (t407 != 0) = false := bne_eq_false_iff_eq.mpr c56
                        clear c56
                        have HC57 := Aside0.mk H
                        clear H
                        obtain ⟨Ao58, co58, eo58⟩ := Kd.R_slice HO_5.out
                        subst eo58
                        have p404 : 0 ≤ ((ji15) : Int) := of_decide_eq_true (by first | (with_reducible assumption) | assumption)
                        have q404 : (ji15) < (x5_2.length : Int) := of_decide_eq_true (by first | (with_reducible assumption) | assumption)
                        obtain ⟨ad404, e404, hx404_0⟩ := Kd.at_int (Kd.R_reads' HO_5.out).2.2 (ji15) p404 q404
                        cases e404
                        replace p404 := eq_true p404
                        replace q404 := eq_true q404
                        go_upto_region 15 with (first | ((with_reducible refine gate_callee (f := 55) rfl ?_); refine goesL_ (some 44) rfl rfl Try.func55 (by kernel_rfl) rfl #[.slice Ao9 t394.length co9, .int .i64 x7_2] rfl (by (try simp only [List.map_toArray, List.map_cons, List.map_nil]); first | done | rfl | (simp only [List.length_drop, List.length_take]; rfl)) ?_; (with_reducible refine (gatelineref11_at.calls _ _ t394 x7_2 t405 _ ?side1 ?side2 A54.out).mono ?_); (case side1 => repeat (first | exact (Kd.R_reads' HO_4.out).2.2 | (with_reducible refine Kd.C_alloc ?_ _) | (with_reducible refine Kd.C_drewN ?_ _) | (with_reducible refine Kd.C_drew ?_))); (case side2 => exact (Kd.R_reads' HO_4.out).2.1); rintro e w59 ⟨rfl, hb⟩; refine ⟨_, rfl, ?_⟩; have n0_ := Aside0.mk (Kd.R_below (by (with_reducible repeat (first | apply Kd.R_alloc | apply Kd.R_drewN | apply Kd.R_drew)); exact HO_4.out) hb); have n1_ := Aside0.mk (Kd.R_below (by (with_reducible repeat (first | apply Kd.R_alloc | apply Kd.R_drewN | apply Kd.R_drew)); exact HO_5.out) hb); have n2_ := Aside0.mk (Kd.R_below (by (with_reducible repeat (first | apply Kd.R_alloc | apply Kd.R_drewN | apply Kd.R_drew)); exact HO_6.out) hb); have n3_ := Aside0.mk (below_step (by repeat (first | (with_reducible first | exact HB.out | apply below_alloc | apply pw_below_drewN | apply below_drew1) | exact HB.out)) hb); clear HO_4; clear HO_5; clear HO_6; clear HB; have HO_4 := n0_; have HO_5 := n1_; have HO_6 := n2_; have HB := n3_; clear n0_ n1_ n2_ n3_; (try clear hb); (try clear hb2); (try clear hk); (try clear hi)) | ((with_reducible refine gate_callee (f := 26) rfl ?_); refine goesL_ (some 45) rfl rfl Try.func26 (by kernel_rfl) rfl #[.int .i64 t405] rfl (by (try simp only [List.map_toArray, List.map_cons, List.map_nil]); first | done | rfl | (simp only [List.length_drop, List.length_take]; rfl)) ?_; (with_reducible refine (gatelineref10_Value.calls k2 t405 t406 t407 _ A55.out).mono ?_); rintro e w' ⟨rfl, ⟨nd, rfl⟩⟩; refine ⟨_, rfl, ?_⟩))
                        (try simp only [Act.put, List.setIfInBounds_toArray, List.set_cons_zero, List.set_cons_succ])
                        go_cut [56] (fun v56 wc => ∃ (kq : Nat) (x56_56 : Bool), v56 = .bool x56_56 ∧ Aside0 (gatelineref11_Get.j2 kq l0 t394 x5_2 x6_2 x7_2 t406 x56_56 = some (r1, r2)) ∧ Aside0 (kq ≤ k2) ∧ Aside0 (Kd.R Kd.bool 4 wc w.heap.size (fun _ => True) (.slice Ao9 t394.length co9) t394) ∧ Aside0 (Kd.R (Kd.int .i64) 3 wc w.heap.size (fun _ => True) (.slice (some ad404) x5_2.length co58) x5_2) ∧ Aside0 (Kd.R (Kd.int .u8) 5 wc w.heap.size (fun _ => True) u6 x6_2) ∧ Aside0 (Below w.heap.size w wc))
                        case first =>
                          have H := HC57.out
                          clear HC57
                          by_cases c60 : t406 > 9
                          · rw [if_pos c60] at H
                            have c60b0 : decide (9 < t406) = true := decide_eq_true c60
                            clear c60
                            (first | rw [c60b0] | (simp only [i64_w, i32_w]; rw [c60b0]) | skip)
                            have H' := Aside0.mk H
                            clear H
                            go_wp2
                            go_meet
                            case rel => exact ⟨_, ((t406 != 15)), (by first | rfl | (simp; done) | (simp [*]; done)), H', ⟨by have := HJ1.out; have := HK2.out; first | omega | exact Nat.le_refl _⟩, ⟨by (with_reducible repeat (first | apply Kd.R_alloc | apply Kd.R_drewN | apply Kd.R_drew)); exact HO_4.out⟩, ⟨by (with_reducible repeat (first | apply Kd.R_alloc | apply Kd.R_drewN | apply Kd.R_drew)); exact HO_5.out⟩, ⟨by (with_reducible repeat (first | apply Kd.R_alloc | apply Kd.R_drewN | apply Kd.R_drew)); exact HO_6.out⟩, ⟨by repeat (first | (with_reducible first | exact HB.out | apply below_alloc | apply pw_below_drewN | apply below_drew1) | exact HB.out)⟩⟩
                          · rw [if_neg c60] at H
                            have c60b0 : decide (9 < t406) = false := decide_eq_false c60
                            clear c60
                            (first | rw [c60b0] | (simp only [i64_w, i32_w]; rw [c60b0]) | skip)
                            have H' := Aside0.mk H
                            clear H
                            go_wp2
                            go_meet
                            case rel => exact ⟨_, (false), (by first | rfl | (simp; done) | (simp [*]; done)), H', ⟨by have := HJ1.out; have := HK2.out; first | omega | exact Nat.le_refl _⟩, ⟨by (with_reducible repeat (first | apply Kd.R_alloc | apply Kd.R_drewN | apply Kd.R_drew)); exact HO_4.out⟩, ⟨by (with_reducible repeat (first | apply Kd.R_alloc | apply Kd.R_drewN | apply Kd.R_drew)); exact HO_5.out⟩, ⟨by (with_reducible repeat (first | apply Kd.R_alloc | apply Kd.R_drewN | apply Kd.R_drew)); exact HO_6.out⟩, ⟨by repeat (first | (with_reducible first | exact HB.out | apply below_alloc | apply pw_below_drewN | apply below_drew1) | exact HB.out)⟩⟩
                        case rest =>
                          clear HC57
                          try clear c1
                          try clear c2
                          try clear p2
                          try clear c3
                          try clear c3b0
                          try clear c3b1
                          try clear q3
                          try clear c4
                          try clear p4
                          try clear q4
                          try clear hx4
                          try clear c5
                          try clear c6
                          try clear p6
                          try clear c7
                          try clear c7b0
                          try clear c7b1
                          try clear c16
                          try clear c16b0
                          try clear c17
                          try clear c17b0
                          try clear c18
                          try clear c18b0
                          try clear c18b1
                          try clear c19
                          try clear c19b0
                          try clear c20
                          try clear c23
                          try clear c23b0
                          try clear c23b1
                          try clear c25
                          try clear c25b0
                          try clear c25b1
                          try clear c26
                          try clear c26b0
                          try clear c26b1
                          try clear c29
                          try clear c31
                          try clear c31b0
                          try clear c31b1
                          try clear c32
                          try clear c32b0
                          try clear c32b1
                          try clear c35
                          try clear c36
                          try clear c39
                          try clear q39
                          try clear p40
                          try clear q40
                          try clear hx40
                          try clear c41
                          try clear q45
                          try clear c52
                          try clear c52b0
                          try clear c55
                          try clear c56
                          try clear c56b0
                          try clear c56b1
                          try clear c60
                          try clear c60b0
                          try clear hx404_0
                          try clear p2
                          try clear p404
                          try clear q39
                          try clear q404
                          try clear q45
                          obtain ⟨kq, x56_56, rfl, HA, HJ56, HO_4, HO_5, HO_6, HB⟩ := hcut
                          cases kq with
                          | zero => exact absurd HA.out (by simp [gatelineref11_Get.j2])
                          | succ kj56 =>
                            have H := HA.out
                            clear HA
                            simp only [gatelineref11_Get.j2] at H
                            by_cases c61 : x56_56 = true
                            · subst c61
                              have H1 : (some (([] : List Int), 7)) = some (r1, r2) := by rw [if_pos rfl] at H; exact H
                              clear H
                              have H := H1
                              clear H1
                              simp only [Option.some.injEq, Prod.mk.injEq] at H
                              obtain ⟨rfl, rfl⟩ := H
                              go_wp2
                              go_ret2
                              exact ⟨_, by first | rfl | (simp [errW_none, errW_some] <;> rfl) | (simp only [← hji15]; first | rfl | (simp [errW_none, errW_some] <;> rfl)) | (simp [*, errW_none, errW_some] <;> rfl), by first | exact Kd.R_nil _ _ _ _ _ | exact Kd.N_nil _ _ _ _ _ | exact Kd.V_nil _ _ _ _ _ | exact Kd.Q_nil _ _ _ _ _ | exact Kd.S_nil _ _ _ _ _, by repeat (first | (with_reducible first | exact HB.out | apply below_alloc | apply pw_below_drewN | apply below_drew1) | exact HB.out)⟩
                            · replace c61 := Bool.eq_false_iff.mpr c61
                              subst c61
                              have H1 : (if x5_2.length < 17592186044416 then ((some (x5_2 ++ [t406] : List Int)).bind fun y408 => (if t406 = 15 then (gatelineref11_Get.l0 kj56 l0 t394 y408 x6_2 (wrap64 (x7_2 + 5))) else (if x6_2.length < 140737488355328 then (gatelineref11_Get.l0 kj56 l0 t394 y408 (x6_2 ++ [(t406) % 256]) (wrap64 (x7_2 + 5))) else (none)))) else (none)) = some (r1, r2) := by rw [if_neg (show ¬ (false = true) by decide)] at H; exact H
                              clear H
                              have H := H1
                              clear H1
                              by_cases c62 : x5_2.length < 17592186044416
                              · rw [if_pos c62] at H
                                have LMc62 := Aside0.mk c62
                                clear c62
                                obtain ⟨y408, hy408⟩ : ∃ y_ : List Int, y_ = (x5_2 ++ [t406]) := ⟨_, rfl⟩
                                replace H : (if t406 = 15 then (gatelineref11_Get.l0 kj56 l0 t394 y408 x6_2 (wrap64 (x7_2 + 5))) else (if x6_2.length < 140737488355328 then (gatelineref11_Get.l0 kj56 l0 t394 y408 (x6_2 ++ [(t406) % 256]) (wrap64 (x7_2 + 5))) else (none))) = some (r1, r2) := by first | (rw [hy408]; with_reducible exact H) | (have H2_ := (Option.bind_some _ _).symm.trans H; rw [hy408]; with_reducible exact H2_) | (have H2_ := (Option.bind_some _ _).symm.trans H; with_reducible exact H2_) | with_reducible exact H | (rw [hy408]; exact H) | exact H
                                have Ny408 := Aside0.mk hy408
                                clear hy408
                                by_cases c63 : t406 = 15
                                · rw [if_pos c63] at H
                                  have c63b0 : (t406 == 15) = true := beq_iff_eq.mpr c63
                                  have c63b1 : (t406 != 15) = false := bne_eq_false_iff_eq.mpr c63
                                  clear c63
                                  have H' := Aside0.mk H
                                  clear H
                                  go_wp2_with (first | ((with_reducible refine gate_builtin (b := .append) (xs := #[.tmp 57, .tmp 59]) rfl ?_); (try (refine gate_guard (by rfl) ?_; dsimp only)); at_builtin; refine Kd.R_append (Kd.int .i64) (w0 := w) w.heap.size rfl (.tmp 57) (.tmp 59) 35 3 (.int .i64 0) 8 rfl Try.underlying35 info3 rfl (by decide) (by omega) (.slice (some ad404) x5_2.length co58) x5_2 t406 [.int .i64 t406] (fun _ => True) (fun _ => False) rfl rfl ?aP (fun _ hk => hk.elim) ?aF ?aO ?aB ?aS ?aL ?_; (case aP => exact rfl); (case aB => exact (by repeat (first | (with_reducible first | exact HB.out | apply below_alloc | apply pw_below_drewN | apply below_drew1) | exact HB.out))); (case aF => exact (fun _ _ => trivial)); (case aO => exact (by (with_reducible repeat (first | apply Kd.R_alloc | apply Kd.R_drewN | apply Kd.R_drew)); exact HO_5.out)); (case aS => exact (below_size (by repeat (first | (with_reducible first | exact HB.out | apply below_alloc | apply pw_below_drewN | apply below_drew1) | exact HB.out)))); (case aL => have := LMc62.out; omega); intro v409 w64 ho hb hg hat; rw [← Ny408.out] at ho; have n0_ := Aside0.mk (Kd.R_over' (by (with_reducible repeat (first | apply Kd.R_alloc | apply Kd.R_drewN | apply Kd.R_drew)); exact HO_4.out) (Kd.R_typed (by (with_reducible repeat (first | apply Kd.R_alloc | apply Kd.R_drewN | apply Kd.R_drew)); exact HO_5.out)) (by decide) hg); have n1_ := Aside0.mk (Kd.R_over' (by (with_reducible repeat (first | apply Kd.R_alloc | apply Kd.R_drewN | apply Kd.R_drew)); exact HO_6.out) (Kd.R_typed (by (with_reducible repeat (first | apply Kd.R_alloc | apply Kd.R_drewN | apply Kd.R_drew)); exact HO_5.out)) (by decide) hg); have n2_ := Aside0.mk (hb); have n3_ := Aside0.mk (ho); clear HO_4; clear HO_6; clear HB; clear HO_5; have HO_4 := n0_; have HO_6 := n1_; have HB := n2_; have HO410 := n3_; clear n0_ n1_ n2_ n3_; clear ho hb hg hat))
                                  go_roundg kj56
                                  case measure => have := HJ1.out; have := HK2.out; have := HJ56.out; omega
                                  case rel => exact ⟨(y408), (x6_2), (wrap64 (x7_2 + 5)), (by first | rfl | (simp; done) | (simp [*]; done)), H', ⟨by have := HJ1.out; have := HK2.out; have := HJ56.out; omega⟩, ⟨by (with_reducible repeat (first | apply Kd.R_alloc | apply Kd.R_drewN | apply Kd.R_drew)); exact HO_4.out⟩, ⟨by (with_reducible repeat (first | apply Kd.R_alloc | apply Kd.R_drewN | apply Kd.R_drew)); exact HO410.out⟩, ⟨by (with_reducible repeat (first | apply Kd.R_alloc | apply Kd.R_drewN | apply Kd.R_drew)); exact HO_6.out⟩, ⟨by repeat (first | (with_reducible first | exact HB.out | apply below_alloc | apply pw_below_drewN | apply below_drew1) | exact HB.out)⟩⟩
                                · rw [if_neg c63] at H
                                  have c63b0 : (t406 == 15) = false := beq_eq_false_iff_ne.mpr c63
                                  have c63b1 : (t406 != 15) = true := bne_iff_ne.mpr c63
                                  by_cases c65 : x6_2.length < 140737488355328
                                  · rw [if_pos c65] at H
                                    have LMc65 := Aside0.mk c65
                                    clear c65
                                    obtain ⟨y411, hy411⟩ : ∃ y_ : List Int, y_ = (x6_2 ++ [(t406) % 256]) := ⟨_, rfl⟩
                                    replace H : (gatelineref11_Get.l0 kj56 l0 t394 y408 y411 (wrap64 (x7_2 + 5))) = some (r1, r2) := by first | (rw [hy411]; with_reducible exact H) | (have H2_ := (Option.bind_some _ _).symm.trans H; rw [hy411]; with_reducible exact H2_) | (have H2_ := (Option.bind_some _ _).symm.trans H; with_reducible exact H2_) | with_reducible exact H | (rw [hy411]; exact H) | exact H
                                    have Ny411 := Aside0.mk hy411
                                    clear hy411
                                    have H' := Aside0.mk H
                                    clear H
                                    go_wp2_with (first | ((with_reducible refine gate_builtin (b := .append) (xs := #[.tmp 57, .tmp 59]) rfl ?_); (try (refine gate_guard (by rfl) ?_; dsimp only)); at_builtin; refine Kd.R_append (Kd.int .i64) (w0 := w) w.heap.size rfl (.tmp 57) (.tmp 59) 35 3 (.int .i64 0) 8 rfl Try.underlying35 info3 rfl (by decide) (by omega) (.slice (some ad404) x5_2.length co58) x5_2 t406 [.int .i64 t406] (fun _ => True) (fun _ => False) rfl rfl ?aP (fun _ hk => hk.elim) ?aF ?aO ?aB ?aS ?aL ?_; (case aP => exact rfl); (case aB => exact (by repeat (first | (with_reducible first | exact HB.out | apply below_alloc | apply pw_below_drewN | apply below_drew1) | exact HB.out))); (case aF => exact (fun _ _ => trivial)); (case aO => exact (by (with_reducible repeat (first | apply Kd.R_alloc | apply Kd.R_drewN | apply Kd.R_drew)); exact HO_5.out)); (case aS => exact (below_size (by repeat (first | (with_reducible first | exact HB.out | apply below_alloc | apply pw_below_drewN | apply below_drew1) | exact HB.out)))); (case aL => have := LMc62.out; omega); intro v409 w66 ho hb hg hat; rw [← Ny408.out] at ho; have n0_ := Aside0.mk (Kd.R_over' (by (with_reducible repeat (first | apply Kd.R_alloc | apply Kd.R_drewN | apply Kd.R_drew)); exact HO_4.out) (Kd.R_typed (by (with_reducible repeat (first | apply Kd.R_alloc | apply Kd.R_drewN | apply Kd.R_drew)); exact HO_5.out)) (by decide) hg); have n1_ := Aside0.mk (Kd.R_over' (by (with_reducible repeat (first | apply Kd.R_alloc | apply Kd.R_drewN | apply Kd.R_drew)); exact HO_6.out) (Kd.R_typed (by (with_reducible repeat (first | apply Kd.R_alloc | apply Kd.R_drewN | apply Kd.R_drew)); exact HO_5.out)) (by decide) hg); have n2_ := Aside0.mk (hb); have n3_ := Aside0.mk (ho); clear HO_4; clear HO_6; clear HB; clear HO_5; have HO_4 := n0_; have HO_6 := n1_; have HB := n2_; have HO410 := n3_; clear n0_ n1_ n2_ n3_; clear ho hb hg hat) | ((with_reducible refine gate_builtin (b := .append) (xs := #[.tmp 63, .tmp 66]) rfl ?_); (try (refine gate_guard (by rfl) ?_; dsimp only)); at_builtin; refine Kd.R_append (Kd.int .u8) (w0 := w) w.heap.size rfl (.tmp 63) (.tmp 66) 22 5 (.int .u8 0) 1 rfl Try.underlying22 info5 rfl (by decide) (by omega) u6 x6_2 ((t406) % 256) [.int .u8 ((t406) % 256)] (fun _ => True) (fun _ => False) rfl rfl ?aP (fun _ hk => hk.elim) ?aF ?aO ?aB ?aS ?aL ?_; (case aP => exact rfl); (case aB => exact (by repeat (first | (with_reducible first | exact HB.out | apply below_alloc | apply pw_below_drewN | apply below_drew1) | exact HB.out))); (case aF => exact (fun _ _ => trivial)); (case aO => exact (by (with_reducible repeat (first | apply Kd.R_alloc | apply Kd.R_drewN | apply Kd.R_drew)); exact HO_6.out)); (case aS => exact (below_size (by repeat (first | (with_reducible first | exact HB.out | apply below_alloc | apply pw_below_drewN | apply below_drew1) | exact HB.out)))); (case aL => have := LMc65.out; omega); intro v412 w67 ho hb hg hat; rw [← Ny411.out] at ho; have n0_ := Aside0.mk (Kd.R_over' (by (with_reducible repeat (first | apply Kd.R_alloc | apply Kd.R_drewN | apply Kd.R_drew)); exact HO_4.out) (Kd.R_typed (by (with_reducible repeat (first | apply Kd.R_alloc | apply Kd.R_drewN | apply Kd.R_drew)); exact HO_6.out)) (by decide) hg); have n1_ := Aside0.mk (Kd.R_over' (by (with_reducible repeat (first | apply Kd.R_alloc | apply Kd.R_drewN | apply Kd.R_drew)); exact HO410.out) (Kd.R_typed (by (with_reducible repeat (first | apply Kd.R_alloc | apply Kd.R_drewN | apply Kd.R_drew)); exact HO_6.out)) (by decide) hg); have n2_ := Aside0.mk (hb); have n3_ := Aside0.mk (ho); clear HO_4; clear HO410; clear HB; clear HO_6; have HO_4 := n0_; have HO410 := n1_; have HB := n2_; have HO413 := n3_; clear n0_ n1_ n2_ n3_; clear ho hb hg hat))
                                    go_roundg kj56
                                    case measure => have := HJ1.out; have := HK2.out; have := HJ56.out; omega
                                    case rel => exact ⟨(y408), (y411), (wrap64 (x7_2 + 5)), (by first | rfl | (simp; done) | (simp [*]; done)), H', ⟨by have := HJ1.out; have := HK2.out; have := HJ56.out; omega⟩, ⟨by (with_reducible repeat (first | apply Kd.R_alloc | apply Kd.R_drewN | apply Kd.R_drew)); exact HO_4.out⟩, ⟨by (with_reducible repeat (first | apply Kd.R_alloc | apply Kd.R_drewN | apply Kd.R_drew)); exact HO410.out⟩, ⟨by (with_reducible repeat (first | apply Kd.R_alloc | apply Kd.R_drewN | apply Kd.R_drew)); exact HO413.out⟩, ⟨by repeat (first | (with_reducible first | exact HB.out | apply below_alloc | apply pw_below_drewN | apply below_drew1) | exact HB.out)⟩⟩
                                  · rw [if_neg c65] at H
                                    exact absurd H (by simp)
                              · rw [if_neg c62] at H
                                exact absurd H (by simp)
                      · rw [if_neg c56] at H
                        have c56b0 : (t407 == 0) = false := beq_eq_false_iff_ne.mpr c56
                        have c56b1 : (t407 != 0) = true := bne_iff_ne.mpr c56
                        simp only [Option.some.injEq, Prod.mk.injEq] at H
                        obtain ⟨rfl, rfl⟩ := H
                        obtain ⟨Ao68, co68, eo68⟩ := Kd.R_slice HO_5.out
                        subst eo68
                        have p404 : 0 ≤ ((ji15) : Int) := of_decide_eq_true (by first | (with_reducible assumption) | assumption)
                        have q404 : (ji15) < (x5_2.length : Int) := of_decide_eq_true (by first | (with_reducible assumption) | assumption)
                        obtain ⟨ad404, e404, hx404_0⟩ := Kd.at_int (Kd.R_reads' HO_5.out).2.2 (ji15) p404 q404
                        cases e404
                        replace p404 := eq_true p404
                        replace q404 := eq_true q404
                        go_wp2_with (first | ((with_reducible refine gate_callee (f := 55) rfl ?_); refine goesL_ (some 44) rfl rfl Try.func55 (by kernel_rfl) rfl #[.slice Ao9 t394.length co9, .int .i64 x7_2] rfl (by (try simp only [List.map_toArray, List.map_cons, List.map_nil]); first | done | rfl | (simp only [List.length_drop, List.length_take]; rfl)) ?_; (with_reducible refine (gatelineref11_at.calls _ _ t394 x7_2 t405 _ ?side1 ?side2 A54.out).mono ?_); (case side1 => repeat (first | exact (Kd.R_reads' HO_4.out).2.2 | (with_reducible refine Kd.C_alloc ?_ _) | (with_reducible refine Kd.C_drewN ?_ _) | (with_reducible refine Kd.C_drew ?_))); (case side2 => exact (Kd.R_reads' HO_4.out).2.1); rintro e w69 ⟨rfl, hb⟩; refine ⟨_, rfl, ?_⟩; have n0_ := Aside0.mk (Kd.R_below (by (with_reducible repeat (first | apply Kd.R_alloc | apply Kd.R_drewN | apply Kd.R_drew)); exact HO_4.out) hb); have n1_ := Aside0.mk (Kd.R_below (by (with_reducible repeat (first | apply Kd.R_alloc | apply Kd.R_drewN | apply Kd.R_drew)); exact HO_5.out) hb); have n2_ := Aside0.mk (Kd.R_below (by (with_reducible repeat (first | apply Kd.R_alloc | apply Kd.R_drewN | apply Kd.R_drew)); exact HO_6.out) hb); have n3_ := Aside0.mk (below_step (by repeat (first | (with_reducible first | exact HB.out | apply below_alloc | apply pw_below_drewN | apply below_drew1) | exact HB.out)) hb); clear HO_4; clear HO_5; clear HO_6; clear HB; have HO_4 := n0_; have HO_5 := n1_; have HO_6 := n2_; have HB := n3_; clear n0_ n1_ n2_ n3_; (try clear hb); (try clear hb2); (try clear hk); (try clear hi)) | ((with_reducible refine gate_callee (f := 26) rfl ?_); refine goesL_ (some 45) rfl rfl Try.func26 (by kernel_rfl) rfl #[.int .i64 t405] rfl (by (try simp only [List.map_toArray, List.map_cons, List.map_nil]); first | done | rfl | (simp only [List.length_drop, List.length_take]; rfl)) ?_; (with_reducible refine (gatelineref10_Value.calls k2 t405 t406 t407 _ A55.out).mono ?_); rintro e w' ⟨rfl, ⟨nd, rfl⟩⟩; refine ⟨_, rfl, ?_⟩))
                        go_ret2
                        exact ⟨_, by first | rfl | (simp [errW_none, errW_some] <;> rfl) | (simp only [← hji15]; first | rfl | (simp [errW_none, errW_some] <;> rfl)) | (simp [*, errW_none, errW_some] <;> rfl), by first | exact Kd.R_nil _ _ _ _ _ | exact Kd.N_nil _ _ _ _ _ | exact Kd.V_nil _ _ _ _ _ | exact Kd.Q_nil _ _ _ _ _ | exact Kd.S_nil _ _ _ _ _, by repeat (first | (with_reducible first | exact HB.out | apply below_alloc | apply pw_below_drewN | apply below_drew1) | exact HB.out)⟩
                · rw [if_neg c17] at H
                  exact absurd H (by simp)
              · rw [if_neg c16] at H
                exact absurd H (by simp)
        · rw [if_neg c7] at H
          have c7b0 : (t397 == 11) = false := beq_eq_false_iff_ne.mpr c7
          have c7b1 : (t397 != 11) = true := bne_iff_ne.mpr c7
          simp only [Option.some.injEq, Prod.mk.injEq] at H
          obtain ⟨rfl, rfl⟩ := H
          go_wp2_with (first | ((with_reducible refine gate_callee (f := 39) rfl ?_); refine goesL_ (some 23) rfl rfl Try.func39 (by kernel_rfl) rfl #[.slice A0 l0.length c0] rfl (by (try simp only [List.map_toArray, List.map_cons, List.map_nil]); first | done | rfl | (simp only [List.length_drop, List.length_take]; rfl)) ?_; (with_reducible refine (gatelineref11_Unpack.calls kj1 _ _ l0 t394 _ ?side1 ?side2 A5.out).mono ?_); (case side1 => repeat (first | exact (Kd.C_below HR0.out HB.out) | (with_reducible refine Kd.C_alloc ?_ _) | (with_reducible refine Kd.C_drewN ?_ _) | (with_reducible refine Kd.C_drew ?_))); (case side2 => exact HC0.out); rintro e w70 ⟨v395, rfl, ho0, hb⟩; refine ⟨_, rfl, ?_⟩; have n0_ := Aside0.mk (Kd.R_lower ho0 (below_size (by repeat (first | (with_reducible first | exact HB.out | apply below_alloc | apply pw_below_drewN | apply below_drew1) | exact HB.out)))); have n1_ := Aside0.mk (below_step (by repeat (first | (with_reducible first | exact HB.out | apply below_alloc | apply pw_below_drewN | apply below_drew1) | exact HB.out)) hb); clear HB; have HO396 := n0_; have HB := n1_; clear n0_ n1_; (try clear hb); (try clear hb2); (try clear hk); (try clear hi); (try clear ho0); obtain ⟨Ao71, co71, eo71⟩ := Kd.R_slice HO396.out; subst eo71) | ((with_reducible refine gate_callee (f := 55) rfl ?_); refine goesL_ (some 25) rfl rfl Try.func55 (by kernel_rfl) rfl #[.slice Ao71 t394.length co71, .int .i64 0] rfl (by (try simp only [List.map_toArray, List.map_cons, List.map_nil]); first | done | rfl | (simp only [List.length_drop, List.length_take]; rfl)) ?_; (with_reducible refine (gatelineref11_at.calls _ _ t394 0 t397 _ ?side1 ?side2 A6.out).mono ?_); (case side1 => repeat (first | exact (Kd.R_reads' HO396.out).2.2 | (with_reducible refine Kd.C_alloc ?_ _) | (with_reducible refine Kd.C_drewN ?_ _) | (with_reducible refine Kd.C_drew ?_))); (case side2 => exact (Kd.R_reads' HO396.out).2.1); rintro e w72 ⟨rfl, hb⟩; refine ⟨_, rfl, ?_⟩; have n0_ := Aside0.mk (Kd.R_below (by (with_reducible repeat (first | apply Kd.R_alloc | apply Kd.R_drewN | apply Kd.R_drew)); exact HO396.out) hb); have n1_ := Aside0.mk (below_step (by repeat (first | (with_reducible first | exact HB.out | apply below_alloc | apply pw_below_drewN | apply below_drew1) | exact HB.out)) hb); clear HO396; clear HB; have HO396 := n0_; have HB := n1_; clear n0_ n1_; (try clear hb); (try clear hb2); (try clear hk); (try clear hi)))
          go_ret2
          exact ⟨_, by first | rfl | (simp [errW_none, errW_some] <;> rfl) | (simp [*, errW_none, errW_some] <;> rfl), by first | exact Kd.R_nil _ _ _ _ _ | exact Kd.N_nil _ _ _ _ _ | exact Kd.V_nil _ _ _ _ _ | exact Kd.Q_nil _ _ _ _ _ | exact Kd.S_nil _ _ _ _ _, by repeat (first | (with_reducible first | exact HB.out | apply below_alloc | apply pw_below_drewN | apply below_drew1) | exact HB.out)⟩

end Go.Proofs.Ytfmpeojlaibblaa.S
