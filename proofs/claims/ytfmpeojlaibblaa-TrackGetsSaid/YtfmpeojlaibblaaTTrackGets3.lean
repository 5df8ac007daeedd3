import Derived.Test.YtfmpeojlaibblaaTTrackGets2
import Derived.Laws.BitsAllLaws
import Derived.Laws.BitsLemmas
set_option linter.unusedVariables false
set_option linter.unusedSimpArgs false

/- Written for this claim by a program of this session (handprint.py, over the kit's print). Lean checks it. -/
namespace Go.Proofs.Ytfmpeojlaibblaa.S
open Go.RowKit Go.Proofs.YtfmpeojlaibblaaW.PrintWords Go.Proofs.YtfmpeojlaibblaaW.PrintLast Go.Proofs.YtfmpeojlaibblaaW.PrintMore
attribute [local go_sem] max2_int min2_int max_two min_two max_three min_three max_four min_four   -- for this text's walks alone
set_option linter.unusedVariables false
set_option linter.unusedSimpArgs false

/-! ### gatelineref11_Get: function 41 -/
mutual
def gatelineref11_Get.j0 : Nat → List Int → Bool → Option (List Int × Int)
  | 0, _, _ => none
  | k + 1, x0, x21 => if x21 = true then (some (([] : List Int), 14)) else ((gatelineref11_Unpack.f k x0).bind fun t394 => ((gatelineref11_at.f t394 0).bind fun t397 => (if t397 = 11 then (gatelineref11_Get.l0 k x0 t394 (([11] : List Int)) (([] : List Int)) 5) else (some (([] : List Int), 4)))))
def gatelineref11_Get.l0 : Nat → List Int → List Bool → List Int → List Int → Int → Option (List Int × Int)
  | 0, _, _, _, _, _ => none
  | k + 1, x0, x4, x5, x6, x7 => if 0 ≤ (wrap64 ((x5.length : Int) - 1)) then (if (wrap64 ((x5.length : Int) - 1)) < (x5.length : Int) then (if (rd x5 (wrap64 ((x5.length : Int) - 1))) = 15 then (if (wrap64 (x7 + 5)) > (x4.length : Int) then (some (([] : List Int), 5)) else ((gatelineref11_at.f x4 x7).bind fun t414 => ((gatelineref10_Value.f k t414).bind fun bt415 => (if bt415.2 = 0 then ((gatelineref10_Sum.f k x5).bind fun bt417 => (if bt415.1 = bt417.1 then (if (x6.length : Int) > 77 then (some (([] : List Int), 21)) else (if 0 ≤ (wrap64 (x7 + 5)) then (if (wrap64 (x7 + 5)) ≤ (x4.length : Int) then ((gatelineref11_Pack.f k (x4.take ((wrap64 (x7 + 5)) : Int).toNat)).bind fun t423 => ((gatelineref01_Same.f k t423 x0).bind fun t426 => (if t426 = true then (some (x6, 0)) else (some (([] : List Int), 14))))) else (none)) else (none))) else (some (([] : List Int), 6)))) else (some (([] : List Int), bt415.2)))))) else (if (wrap64 (x7 + 5)) > (x4.length : Int) then (some (([] : List Int), 5)) else ((gatelineref11_at.f x4 x7).bind fun t405 => ((gatelineref10_Value.f k t405).bind fun bt406 => (if bt406.2 = 0 then (if bt406.1 > 9 then (gatelineref11_Get.j2 k x0 x4 x5 x6 x7 bt406.1 (bt406.1 != 15)) else (gatelineref11_Get.j2 k x0 x4 x5 x6 x7 bt406.1 false)) else (some (([] : List Int), bt406.2))))))) else (none)) else (none)
def gatelineref11_Get.j2 : Nat → List Int → List Bool → List Int → List Int → Int → Int → Bool → Option (List Int × Int)
  | 0, _, _, _, _, _, _, _ => none
  | k + 1, x0, x4, x5, x6, x7, x8, x56 => if x56 = true then (some (([] : List Int), 7)) else (if x5.length < 17592186044416 then ((some (x5 ++ [x8] : List Int)).bind fun y408 => (if x8 = 15 then (gatelineref11_Get.l0 k x0 x4 y408 x6 (wrap64 (x7 + 5))) else (if x6.length < 140737488355328 then (gatelineref11_Get.l0 k x0 x4 y408 (x6 ++ [(x8) % 256]) (wrap64 (x7 + 5))) else (none)))) else (none))
end
def gatelineref11_Get.f (k : Nat) (l0 : List Int) : Option (List Int × Int) := if (l0.length : Int) < 2 then (gatelineref11_Get.j0 k l0 true) else (gatelineref11_Get.j0 k l0 (decide ((l0.length : Int) > 50)))
theorem gatelineref11_Get.mono_l : ∀ k, (∀ y0 y1, LeO (gatelineref11_Get.j0 k y0 y1) (gatelineref11_Get.j0 (k + 1) y0 y1)) ∧ (∀ y0 y1 y2 y3 y4, LeO (gatelineref11_Get.l0 k y0 y1 y2 y3 y4) (gatelineref11_Get.l0 (k + 1) y0 y1 y2 y3 y4)) ∧ (∀ y0 y1 y2 y3 y4 y5 y6, LeO (gatelineref11_Get.j2 k y0 y1 y2 y3 y4 y5 y6) (gatelineref11_Get.j2 (k + 1) y0 y1 y2 y3 y4 y5 y6))
  | 0 => ⟨fun _ _ r h => by simp [gatelineref11_Get.j0] at h, fun _ _ _ _ _ r h => by simp [gatelineref11_Get.l0] at h, fun _ _ _ _ _ _ _ r h => by simp [gatelineref11_Get.j2] at h⟩
  | k + 1 => by
    obtain ⟨ih0, ih1, ih2⟩ := gatelineref11_Get.mono_l k
    refine ⟨?_, ?_, ?_⟩
    · intro y0 y1
      unfold gatelineref11_Get.j0
      repeat' first
      | (with_reducible exact ih0 _ _)
      | (with_reducible exact ih1 _ _ _ _ _)
      | (with_reducible exact ih2 _ _ _ _ _ _ _)
      | (with_reducible exact gatelineref01_Same.mono _ _ _)
      | (with_reducible exact gatelineref10_Sum.mono _ _)
      | (with_reducible exact gatelineref10_Value.mono _ _)
      | (with_reducible exact gatelineref11_Pack.mono _ _)
      | (with_reducible exact gatelineref11_Unpack.mono _ _)
      | (with_reducible exact LeO.refl _)
      | (with_reducible exact LeO.none _)
      | (with_reducible refine LeO.ite ?_ ?_)
      | (with_reducible refine LeO.bind ?_ (fun _ => ?_))
      | exact ih0 _ _
      | exact ih1 _ _ _ _ _
      | exact ih2 _ _ _ _ _ _ _
      | exact gatelineref01_Same.mono _ _ _
      | exact gatelineref10_Sum.mono _ _
      | exact gatelineref10_Value.mono _ _
      | exact gatelineref11_Pack.mono _ _
      | exact gatelineref11_Unpack.mono _ _
      | exact LeO.none _
      | refine LeO.ite ?_ ?_
      | refine LeO.bind ?_ (fun _ => ?_)
    · intro y0 y1 y2 y3 y4
      unfold gatelineref11_Get.l0
      repeat' first
      | (with_reducible exact ih0 _ _)
      | (with_reducible exact ih1 _ _ _ _ _)
      | (with_reducible exact ih2 _ _ _ _ _ _ _)
      | (with_reducible exact gatelineref01_Same.mono _ _ _)
      | (with_reducible exact gatelineref10_Sum.mono _ _)
      | (with_reducible exact gatelineref10_Value.mono _ _)
      | (with_reducible exact gatelineref11_Pack.mono _ _)
      | (with_reducible exact gatelineref11_Unpack.mono _ _)
      | (with_reducible exact LeO.refl _)
      | (with_reducible exact LeO.none _)
      | (with_reducible refine LeO.ite ?_ ?_)
      | (with_reducible refine LeO.bind ?_ (fun _ => ?_))
      | exact ih0 _ _
      | exact ih1 _ _ _ _ _
      | exact ih2 _ _ _ _ _ _ _
      | exact gatelineref01_Same.mono _ _ _
      | exact gatelineref10_Sum.mono _ _
      | exact gatelineref10_Value.mono _ _
      | exact gatelineref11_Pack.mono _ _
      | exact gatelineref11_Unpack.mono _ _
      | exact LeO.none _
      | refine LeO.ite ?_ ?_
      | refine LeO.bind ?_ (fun _ => ?_)
    · intro y0 y1 y2 y3 y4 y5 y6
      unfold gatelineref11_Get.j2
      repeat' first
      | (with_reducible exact ih0 _ _)
      | (with_reducible exact ih1 _ _ _ _ _)
      | (with_reducible exact ih2 _ _ _ _ _ _ _)
      | (with_reducible exact gatelineref01_Same.mono _ _ _)
      | (with_reducible exact gatelineref10_Sum.mono _ _)
      | (with_reducible exact gatelineref10_Value.mono _ _)
      | (with_reducible exact gatelineref11_Pack.mono _ _)
      | (with_reducible exact gatelineref11_Unpack.mono _ _)
      | (with_reducible exact LeO.refl _)
      | (with_reducible exact LeO.none _)
      | (with_reducible refine LeO.ite ?_ ?_)
      | (with_reducible refine LeO.bind ?_ (fun _ => ?_))
      | exact ih0 _ _
      | exact ih1 _ _ _ _ _
      | exact ih2 _ _ _ _ _ _ _
      | exact gatelineref01_Same.mono _ _ _
      | exact gatelineref10_Sum.mono _ _
      | exact gatelineref10_Value.mono _ _
      | exact gatelineref11_Pack.mono _ _
      | exact gatelineref11_Unpack.mono _ _
      | exact LeO.none _
      | refine LeO.ite ?_ ?_
      | refine LeO.bind ?_ (fun _ => ?_)
theorem gatelineref11_Get.mono : ∀ a0 k, LeO (gatelineref11_Get.f k a0) (gatelineref11_Get.f (k + 1) a0) := by
  intro a0 k
  obtain ⟨ih0, ih1, ih2⟩ := gatelineref11_Get.mono_l k
  unfold gatelineref11_Get.f
  repeat' first
      | (with_reducible exact ih0 _ _)
      | (with_reducible exact ih1 _ _ _ _ _)
      | (with_reducible exact ih2 _ _ _ _ _ _ _)
      | (with_reducible exact gatelineref01_Same.mono _ _ _)
      | (with_reducible exact gatelineref10_Sum.mono _ _)
      | (with_reducible exact gatelineref10_Value.mono _ _)
      | (with_reducible exact gatelineref11_Pack.mono _ _)
      | (with_reducible exact gatelineref11_Unpack.mono _ _)
      | (with_reducible exact LeO.refl _)
      | (with_reducible exact LeO.none _)
      | (with_reducible refine LeO.ite ?_ ?_)
      | (with_reducible refine LeO.bind ?_ (fun _ => ?_))
      | exact ih0 _ _
      | exact ih1 _ _ _ _ _
      | exact ih2 _ _ _ _ _ _ _
      | exact gatelineref01_Same.mono _ _ _
      | exact gatelineref10_Sum.mono _ _
      | exact gatelineref10_Value.mono _ _
      | exact gatelineref11_Pack.mono _ _
      | exact gatelineref11_Unpack.mono _ _
      | exact LeO.none _
      | refine LeO.ite ?_ ?_
      | refine LeO.bind ?_ (fun _ => ?_)
set_option maxHeartbeats 8000000 in
set_option maxRecDepth 100000 in
theorem gatelineref11_Get.calls (k : Nat) (A0 : Option Addr) (c0 : Nat) (l0 : List Int) (r1 : List Int) (r2 : Int) (w : World) (hr0 : Kd.C (Kd.int .u8) w A0 l0.length l0) (hc0 : l0.length ≤ c0) (h : gatelineref11_Get.f k l0 = some (r1, r2)) :
    Calls Try.prog 41 #[.slice A0 l0.length c0] w fun e w' => ∃ v0_ : Value, e = .returned (.tuple #[v0_, .int .i64 r2]) ∧ Kd.R (Kd.int .u8) 5 w' w.heap.size (fun _ => True) v0_ r1 ∧ Below w.heap.size w w' := by
  have HR0 := Aside0.mk hr0
  have HC0 := Aside0.mk hc0
  clear hr0 hc0
  have HB := Aside0.mk (Below.refl w.heap.size w)
  have H : (if (l0.length : Int) < 2 then (gatelineref11_Get.j0 k l0 true) else (gatelineref11_Get.j0 k l0 (decide ((l0.length : Int) > 50)))) = some (r1, r2) := h
  clear h
  have HC2 := Aside0.mk H
  clear H
  go_enter Try.func41, Try.ntmps41
  go_upto_region 1 with (fail)
  go_cut [21] (fun v21 wc => ∃ (kq : Nat) (x21_1 : Bool), v21 = .bool x21_1 ∧ Aside0 (gatelineref11_Get.j0 kq l0 x21_1 = some (r1, r2)) ∧ Aside0 (kq ≤ k) ∧ Aside0 (Below w.heap.size w wc))
  case first =>
    have H := HC2.out
    clear HC2
    by_cases c3 : (l0.length : Int) < 2
    · rw [if_pos c3] at H
      have c3b0 : decide ((l0.length : Int) < 2) = true := decide_eq_true c3
      have c3b1 : decide (l0.length < 2) = true := decide_eq_true (by omega)
      clear c3
      (first | rw [c3b0] | (simp only [i64_w, i32_w]; rw [c3b0]) | skip)
      have H' := Aside0.mk H
      clear H
      go_wp2
      go_meet
      case rel => exact ⟨_, (true), (by first | rfl | (simp; done) | (simp [*]; done)), H', ⟨by first | omega | exact Nat.le_refl _⟩, ⟨by repeat (first | (with_reducible first | exact HB.out | apply below_alloc | apply pw_below_drewN | apply below_drew1) | exact HB.out)⟩⟩
    · rw [if_neg c3] at H
      have c3b0 : decide ((l0.length : Int) < 2) = false := decide_eq_false c3
      have c3b1 : decide (l0.length < 2) = false := decide_eq_false (by omega)
      clear c3
      (first | rw [c3b0] | (simp only [i64_w, i32_w]; rw [c3b0]) | skip)
      have H' := Aside0.mk H
      clear H
      go_wp2
      go_meet
      case rel => exact ⟨_, (decide ((l0.length : Int) > 50)), (by first | rfl | (simp; done) | (simp [*]; done)), H', ⟨by first | omega | exact Nat.le_refl _⟩, ⟨by repeat (first | (with_reducible first | exact HB.out | apply below_alloc | apply pw_below_drewN | apply below_drew1) | exact HB.out)⟩⟩
  case rest =>
    clear HC2
    try clear p2
    try clear c3
    try clear c3b0
    try clear c3b1
    obtain ⟨kq, x21_1, rfl, HA, HJ1, HB⟩ := hcut
    cases kq with
    | zero => exact absurd HA.out (by simp [gatelineref11_Get.j0])
    | succ kj1 =>
      have H := HA.out
      clear HA
      simp only [gatelineref11_Get.j0] at H
      by_cases c4 : x21_1 = true
      · subst c4
        have H1 : (some (([] : List Int), 14)) = some (r1, r2) := by rw [if_pos rfl] at H; exact H
        clear H
        have H := H1
        clear H1
        simp only [Option.some.injEq, Prod.mk.injEq] at H
        obtain ⟨rfl, rfl⟩ := H
        go_wp2
        go_ret2
        exact ⟨_, by first | rfl | (simp [errW_none, errW_some] <;> rfl) | (simp [*, errW_none, errW_some] <;> rfl), by first | exact Kd.R_nil _ _ _ _ _ | exact Kd.N_nil _ _ _ _ _ | exact Kd.V_nil _ _ _ _ _ | exact Kd.Q_nil _ _ _ _ _ | exact Kd.S_nil _ _ _ _ _, by repeat (first | (with_reducible first | exact HB.out | apply below_alloc | apply pw_below_drewN | apply below_drew1) | exact HB.out)⟩
      · replace c4 := Bool.eq_false_iff.mpr c4
        subst c4
        have H1 : ((gatelineref11_Unpack.f kj1 l0).bind fun t394 => ((gatelineref11_at.f t394 0).bind fun t397 => (if t397 = 11 then (gatelineref11_Get.l0 kj1 l0 t394 (([11] : List Int)) (([] : List Int)) 5) else (some (([] : List Int), 4))))) = some (r1, r2) := by rw [if_neg (show ¬ (false = true) by decide)] at H; exact H
        clear H
        have H := H1
        clear H1
        replace H := Option.bind_eq_some_iff.mp H
        obtain ⟨t394, A50, H⟩ := H
        replace H : ((gatelineref11_at.f t394 0).bind fun t397 => (if t397 = 11 then (gatelineref11_Get.l0 kj1 l0 t394 (([11] : List Int)) (([] : List Int)) 5) else (some (([] : List Int), 4)))) = some (r1, r2) := H
        have A5 := Aside0.mk A50
        clear A50
        replace H := Option.bind_eq_some_iff.mp H
        obtain ⟨t397, A60, H⟩ := H
        replace H : (if t397 = 11 then (gatelineref11_Get.l0 kj1 l0 t394 (([11] : List Int)) (([] : List Int)) 5) else (some (([] : List Int), 4))) = some (r1, r2) := H
        have A6 := Aside0.mk A60
        clear A60
        by_cases c7 : t397 = 11
        · rw [if_pos c7] at H
          have c7b0 : (t397 == 11) = true := beq_iff_eq.mpr c7
          have c7b1 : (t397 != 11) = false := bne_eq_false_iff_eq.mpr c7
          clear c7
          obtain ⟨y398, hy398⟩ : ∃ y_ : List Int, y_ = (([11] : List Int)) := ⟨_, rfl⟩
          replace H : (gatelineref11_Get.l0 kj1 l0 t394 y398 (([] : List Int)) 5) = some (r1, r2) := by first | (rw [hy398]; with_reducible exact H) | (have H2_ := (Option.bind_some _ _).symm.trans H; rw [hy398]; with_reducible exact H2_) | (have H2_ := (Option.bind_some _ _).symm.trans H; with_reducible exact H2_) | with_reducible exact H | (rw [hy398]; exact H) | exact H
          have Ny398 := Aside0.mk hy398
          clear hy398
          obtain ⟨y401, hy401⟩ : ∃ y_ : List Int, y_ = (([] : List Int)) := ⟨_, rfl⟩
          replace H : (gatelineref11_Get.l0 kj1 l0 t394 y398 y401 5) = some (r1, r2) := by first | (rw [hy401]; with_reducible exact H) | (have H2_ := (Option.bind_some _ _).symm.trans H; rw [hy401]; with_reducible exact H2_) | (have H2_ := (Option.bind_some _ _).symm.trans H; with_reducible exact H2_) | with_reducible exact H | (rw [hy401]; exact H) | exact H
          have Ny401 := Aside0.mk hy401
          clear hy401
          have H' := Aside0.mk H
          clear H
          go_wp2_with (first | ((with_reducible refine gate_callee (f := 39) rfl ?_); refine goesL_ (some 23) rfl rfl Try.func39 (by kernel_rfl) rfl #[.slice A0 l0.length c0] rfl (by (try simp only [List.map_toArray, List.map_cons, List.map_nil]); first | done | rfl | (simp only [List.length_drop, List.length_take]; rfl)) ?_; (with_reducible refine (gatelineref11_Unpack.calls kj1 _ _ l0 t394 _ ?side1 ?side2 A5.out).mono ?_); (case side1 => repeat (first | exact (Kd.C_below HR0.out HB.out) | (with_reducible refine Kd.C_alloc ?_ _) | (with_reducible refine Kd.C_drewN ?_ _) | (with_reducible refine Kd.C_drew ?_))); (case side2 => exact HC0.out); rintro e w8 ⟨v395, rfl, ho0, hb⟩; refine ⟨_, rfl, ?_⟩; have n0_ := Aside0.mk (Kd.R_lower ho0 (below_size (by repeat (first | (with_reducible first | exact HB.out | apply below_alloc | apply pw_below_drewN | apply below_drew1) | exact HB.out)))); have n1_ := Aside0.mk (below_step (by repeat (first | (with_reducible first | exact HB.out | apply below_alloc | apply pw_below_drewN | apply below_drew1) | exact HB.out)) hb); clear HB; have HO396 := n0_; have HB := n1_; clear n0_ n1_; (try clear hb); (try clear hb2); (try clear hk); (try clear hi); (try clear ho0); obtain ⟨Ao9, co9, eo9⟩ := Kd.R_slice HO396.out; subst eo9) | ((with_reducible refine gate_callee (f := 55) rfl ?_); refine goesL_ (some 25) rfl rfl Try.func55 (by kernel_rfl) rfl #[.slice Ao9 t394.length co9, .int .i64 0] rfl (by (try simp only [List.map_toArray, List.map_cons, List.map_nil]); first | done | rfl | (simp only [List.length_drop, List.length_take]; rfl)) ?_; (with_reducible refine (gatelineref11_at.calls _ _ t394 0 t397 _ ?side1 ?side2 A6.out).mono ?_); (case side1 => repeat (first | exact (Kd.R_reads' HO396.out).2.2 | (with_reducible refine Kd.C_alloc ?_ _) | (with_reducible refine Kd.C_drewN ?_ _) | (with_reducible refine Kd.C_drew ?_))); (case side2 => exact (Kd.R_reads' HO396.out).2.1); rintro e w10 ⟨rfl, hb⟩; refine ⟨_, rfl, ?_⟩; have n0_ := Aside0.mk (Kd.R_below (by (with_reducible repeat (first | apply Kd.R_alloc | apply Kd.R_drewN | apply Kd.R_drew)); exact HO396.out) hb); have n1_ := Aside0.mk (below_step (by repeat (first | (with_reducible first | exact HB.out | apply below_alloc | apply pw_below_drewN | apply below_drew1) | exact HB.out)) hb); clear HO396; clear HB; have HO396 := n0_; have HB := n1_; clear n0_ n1_; (try clear hb); (try clear hb2); (try clear hk); (try clear hi)) | ((with_reducible refine gate_dst (N := 27) rfl ?_); (try (refine gate_guard (by rfl) ?_; dsimp only)); refine Kd.R_lit (Kd.int .i64) _ 3 ?hg (N := 27) ?hd (xs := ([11] : List Int)) (inner := [.int .i64 11]) (ok := fun _ => True) (okp := fun _ => True) ?hr ?hp (fun _ hk => hk) trivial (Below.refl _ _) (Nat.le_refl _) (by simp) ?_; (case hd => rfl); (case hg => rfl); (case hr => first | (go_simp; done) | (go_simp; rfl)); (case hp => exact (Reps.one (show Kd.M (Kd.int .i64) _ _ _ 11 [.int .i64 11] from rfl) (Reps.none _ _))); intro v399 w11 ho12 hb hg_ hnew_; clear hg_ hnew_; (first | rw [← Ny398.out] at ho12 | (simp only [Int.reduceToNat] at ho12; rw [← Ny398.out] at ho12)); have n0_ := Aside0.mk (Kd.R_below (by (with_reducible repeat (first | apply Kd.R_alloc | apply Kd.R_drewN | apply Kd.R_drew)); exact HO396.out) hb); have n1_ := Aside0.mk (Kd.R_lower ho12 (below_size (by repeat (first | (with_reducible first | exact HB.out | apply below_alloc | apply pw_below_drewN | apply below_drew1) | exact HB.out)))); have n2_ := Aside0.mk (below_step (by repeat (first | (with_reducible first | exact HB.out | apply below_alloc | apply pw_below_drewN | apply below_drew1) | exact HB.out)) hb); clear HO396; clear HB; have HO396 := n0_; have HO400 := n1_; have HB := n2_; clear n0_ n1_ n2_; clear hb ho12) | ((with_reducible refine gate_dst (N := 28) rfl ?_); (try (refine gate_guard (by rfl) ?_; dsimp only)); refine Kd.R_lit (Kd.int .u8) _ 5 ?hg (N := 28) ?hd (xs := ([] : List Int)) (inner := []) (ok := fun _ => True) (okp := fun _ => True) ?hr ?hp (fun _ hk => hk) trivial (Below.refl _ _) (Nat.le_refl _) (by simp) ?_; (case hd => rfl); (case hg => rfl); (case hr => first | (go_simp; done) | (go_simp; rfl)); (case hp => exact (Reps.none _ _)); intro v402 w13 ho14 hb hg_ hnew_; clear hg_ hnew_; (first | rw [← Ny401.out] at ho14 | (simp only [Int.reduceToNat] at ho14; rw [← Ny401.out] at ho14)); have n0_ := Aside0.mk (Kd.R_below (by (with_reducible repeat (first | apply Kd.R_alloc | apply Kd.R_drewN | apply Kd.R_drew)); exact HO396.out) hb); have n1_ := Aside0.mk (Kd.R_below (by (with_reducible repeat (first | apply Kd.R_alloc | apply Kd.R_drewN | apply Kd.R_drew)); exact HO400.out) hb); have n2_ := Aside0.mk (Kd.R_lower ho14 (below_size (by repeat (first | (with_reducible first | exact HB.out | apply below_alloc | apply pw_below_drewN | apply below_drew1) | exact HB.out)))); have n3_ := Aside0.mk (below_step (by repeat (first | (with_reducible first | exact HB.out | apply below_alloc | apply pw_below_drewN | apply below_drew1) | exact HB.out)) hb); clear HO396; clear HO400; clear HB; have HO396 := n0_; have HO400 := n1_; have HO403 := n2_; have HB := n3_; clear n0_ n1_ n2_ n3_; clear hb ho14))
          go_loopg [5, 6, 7] kj1 (fun kq v5 v6 v7 w' => ∃ (x5_2 : List Int) (x6_2 : List Int) (x7_2 : Int), v7 = .int .i64 x7_2 ∧ Aside0 (gatelineref11_Get.l0 kq l0 t394 x5_2 x6_2 x7_2 = some (r1, r2)) ∧ Aside0 (kq ≤ kj1) ∧ Aside0 (Kd.R Kd.bool 4 w' w.heap.size (fun _ => True) (.slice Ao9 t394.length co9) t394) ∧ Aside0 (Kd.R (Kd.int .i64) 3 w' w.heap.size (fun _ => True) v5 x5_2) ∧ Aside0 (Kd.R (Kd.int .u8) 5 w' w.heap.size (fun _ => True) v6 x6_2) ∧ Aside0 (Below w.heap.size w w'))
          case atStart => exact ⟨(y398), (y401), (5), (by first | rfl | (simp; done) | (simp [*]; done)), H', ⟨Nat.le_refl _⟩, ⟨by (with_reducible repeat (first | apply Kd.R_alloc | apply Kd.R_drewN | apply Kd.R_drew)); exact HO396.out⟩, ⟨by (with_reducible repeat (first | apply Kd.R_alloc | apply Kd.R_drewN | apply Kd.R_drew)); exact HO400.out⟩, ⟨by (with_reducible repeat (first | apply Kd.R_alloc | apply Kd.R_drewN | apply Kd.R_drew)); exact HO403.out⟩, ⟨by repeat (first | (with_reducible first | exact HB.out | apply below_alloc | apply pw_below_drewN | apply below_drew1) | exact HB.out)⟩⟩
          case round =>
            clear H'
            try clear p2
            try clear c3
            try clear c3b0
            try clear c3b1
            try clear c4
            try clear c5
            try clear c7
            try clear c7b0
            try clear c7b1
            try clear p2
            obtain ⟨x5_2, x6_2, x7_2, rfl, HA, HK2, HO_4, HO_5, HO_6, HB⟩ := hrel
            cases gk with
            | zero => exact absurd HA.out (by simp [gatelineref11_Get.l0])
            | succ k2 =>
              have H := HA.out
              clear HA
              simp only [gatelineref11_Get.l0] at H
              obtain ⟨ji15, hji15⟩ : ∃ j_ : Int, (wrap64 ((x5_2.length : Int) - 1)) = j_ := ⟨_, rfl⟩
              replace H : (if 0 ≤ (ji15) then (if (ji15) < (x5_2.length : Int) then (if (rd x5_2 (ji15)) = 15 then (if (wrap64 (x7_2 + 5)) > (t394.length : Int) then (some (([] : List Int), 5)) else ((gatelineref11_at.f t394 x7_2).bind fun t414 => ((gatelineref10_Value.f k2 t414).bind fun bt415 => (if bt415.2 = 0 then ((gatelineref10_Sum.f k2 x5_2).bind fun bt417 => (if bt415.1 = bt417.1 then (if (x6_2.length : Int) > 77 then (some (([] : List Int), 21)) else (if 0 ≤ (wrap64 (x7_2 + 5)) then (if (wrap64 (x7_2 + 5)) ≤ (t394.length : Int) then ((gatelineref11_Pack.f k2 (t394.take ((wrap64 (x7_2 + 5)) : Int).toNat)).bind fun t423 => ((gatelineref01_Same.f k2 t423 l0).bind fun t426 => (if t426 = true then (some (x6_2, 0)) else (some (([] : List Int), 14))))) else (none)) else (none))) else (some (([] : List Int), 6)))) else (some (([] : List Int), bt415.2)))))) else (if (wrap64 (x7_2 + 5)) > (t394.length : Int) then (some (([] : List Int), 5)) else ((gatelineref11_at.f t394 x7_2).bind fun t405 => ((gatelineref10_Value.f k2 t405).bind fun bt406 => (if bt406.2 = 0 then (if bt406.1 > 9 then (gatelineref11_Get.j2 k2 l0 t394 x5_2 x6_2 x7_2 bt406.1 (bt406.1 != 15)) else (gatelineref11_Get.j2 k2 l0 t394 x5_2 x6_2 x7_2 bt406.1 false)) else (some (([] : List Int), bt406.2))))))) else (none)) else (none)) = some (r1, r2) := by first | (rw [hji15] at H; exact H) | (simp only [hji15] at H ⊢; exact H)
              have hji15w : (IntKind.i64.wrap ((x5_2.length : Int) - 1)) = ji15 := (i64_w _).trans hji15
              by_cases c16 : 0 ≤ (ji15)
              · rw [if_pos c16] at H
                have c16b0 : decide (0 ≤ (ji15)) = true := decide_eq_true c16
                clear c16
                by_cases c17 : (ji15) < (x5_2.length : Int)
                · rw [if_pos c17] at H
                  have c17b0 : decide ((ji15) < (x5_2.length : Int)) = true := decide_eq_true c17
                  clear c17
                  by_cases c18 : (rd x5_2 (ji15)) = 15
                  · rw [if_pos c18] at H
                    have c18b0 : ((rd x5_2 (ji15)) == 15) = true := beq_iff_eq.mpr c18
                    have c18b1 : ((rd x5_2 (ji15)) != 15) = false := bne_eq_false_iff_eq.mpr c18
                    clear c18
                    by_cases c19 : (wrap64 (x7_2 + 5)) > (t394.length : Int)
                    · rw [if_pos c19] at H
                      have c19b0 : decide ((t394.length : Int) < (wrap64 (x7_2 + 5))) = true := decide_eq_true c19
                      clear c19
                      simp only [Option.some.injEq, Prod.mk.injEq] at H
                      obtain ⟨rfl, rfl⟩ := H
                      obtain ⟨Ao20, co20, eo20⟩ := Kd.R_slice HO_5.out
                      subst eo20
                      have p404 : 0 ≤ ((ji15) : Int) := of_decide_eq_true (by first | (with_reducible assumption) | assumption)
                      have q404 : (ji15) < (x5_2.length : Int) := of_decide_eq_true (by first | (with_reducible assumption) | assumption)
                      obtain ⟨ad404, e404, hx404_0⟩ := Kd.at_int (Kd.R_reads' HO_5.out).2.2 (ji15) p404 q404
                      cases e404
                      replace p404 := eq_true p404
                      replace q404 := eq_true q404
                      go_wp2
                      go_ret2
                      exact ⟨_, by first | rfl | (simp [errW_none, errW_some] <;> rfl) | (simp only [← hji15]; first | rfl | (simp [errW_none, errW_some] <;> rfl)) | (simp [*, errW_none, errW_some] <;> rfl), by first | exact Kd.R_nil _ _ _ _ _ | exact Kd.N_nil _ _ _ _ _ | exact Kd.V_nil _ _ _ _ _ | exact Kd.Q_nil _ _ _ _ _ | exact Kd.S_nil _ _ _ _ _, by repeat (first | (with_reducible first | exact HB.out | apply below_alloc | apply pw_below_drewN | apply below_drew1) | exact HB.out)⟩
                    · rw [if_neg c19] at H
                      have c19b0 : decide ((t394.length : Int) < (wrap64 (x7_2 + 5))) = false := decide_eq_false c19
                      clear c19
                      replace H := Option.bind_eq_some_iff.mp H
                      obtain ⟨t414, A210, H⟩ := H
                      replace H : ((gatelineref10_Value.f k2 t414).bind fun bt415 => (if bt415.2 = 0 then ((gatelineref10_Sum.f k2 x5_2).bind fun bt417 => (if bt415.1 = bt417.1 then (if (x6_2.length : Int) > 77 then (some (([] : List Int), 21)) else (if 0 ≤ (wrap64 (x7_2 + 5)) then (if (wrap64 (x7_2 + 5)) ≤ (t394.length : Int) then ((gatelineref11_Pack.f k2 (t394.take ((wrap64 (x7_2 + 5)) : Int).toNat)).bind fun t423 => ((gatelineref01_Same.f k2 t423 l0).bind fun t426 => (if t426 = true then (some (x6_2, 0)) else (some (([] : List Int), 14))))) else (none)) else (none))) else (some (([] : List Int), 6)))) else (some (([] : List Int), bt415.2)))) = some (r1, r2) := H
                      have A21 := Aside0.mk A210
                      clear A210
                      replace H := Option.bind_eq_some_iff.mp H
                      obtain ⟨⟨t415, t416⟩, A220, H⟩ := H
                      replace H : (if t416 = 0 then ((gatelineref10_Sum.f k2 x5_2).bind fun bt417 => (if t415 = bt417.1 then (if (x6_2.length : Int) > 77 then (some (([] : List Int), 21)) else (if 0 ≤ (wrap64 (x7_2 + 5)) then (if (wrap64 (x7_2 + 5)) ≤ (t394.length : Int) then ((gatelineref11_Pack.f k2 (t394.take ((wrap64 (x7_2 + 5)) : Int).toNat)).bind fun t423 => ((gatelineref01_Same.f k2 t423 l0).bind fun t426 => (if t426 = true then (some (x6_2, 0)) else (some (([] : List Int), 14))))) else (none)) else (none))) else (some (([] : List Int), 6)))) else (some (([] : List Int), t416))) = some (r1, r2) := H
                      have A22 := Aside0.mk A220
                      clear A220
                      by_cases c23 : t416 = 0
                      · rw [if_pos c23] at H
                        have c23b0 : (t416 == 0) = true := beq_iff_eq.mpr c23
                        have c23b1 : (t416 != 0) = false := bne_eq_false_iff_eq.mpr c23
                        clear c23
                        replace H := Option.bind_eq_some_iff.mp H
                        obtain ⟨⟨t417, t418⟩, A240, H⟩ := H
                        replace H : (if t415 = t417 then (if (x6_2.length : Int) > 77 then (some (([] : List Int), 21)) else (if 0 ≤ (wrap64 (x7_2 + 5)) then (if (wrap64 (x7_2 + 5)) ≤ (t394.length : Int) then ((gatelineref11_Pack.f k2 (t394.take ((wrap64 (x7_2 + 5)) : Int).toNat)).bind fun t423 => ((gatelineref01_Same.f k2 t423 l0).bind fun t426 => (if t426 = true then (some (x6_2, 0)) else (some (([] : List Int), 14))))) else (none)) else (none))) else (some (([] : List Int), 6))) = some (r1, r2) := H
                        have A24 := Aside0.mk A240
                        clear A240
                        by_cases c25 : t415 = t417
                        · rw [if_pos c25] at H
                          have c25b0 : (t415 == t417) = true := beq_iff_eq.mpr c25
                          have c25b1 : (t415 != t417) = false := bne_eq_false_iff_eq.mpr c25
                          clear c25
                          by_cases c26 : (x6_2.length : Int) > 77
                          · rw [if_pos c26] at H
                            have c26b0 : decide (77 < (x6_2.length : Int)) = true := decide_eq_true c26
                            have c26b1 : decide (77 < x6_2.length) = true := decide_eq_true (by omega)
                            clear c26
                            simp only [Option.some.injEq, Prod.mk.injEq] at H
                            obtain ⟨rfl, rfl⟩ := H
                            obtain ⟨Ao27, co27, eo27⟩ := Kd.R_slice HO_5.out
                            subst eo27
                            have p404 : 0 ≤ ((ji15) : Int) := of_decide_eq_true (by first | (with_reducible assumption) | assumption)
                            have q404 : (ji15) < (x5_2.length : Int) := of_decide_eq_true (by first | (with_reducible assumption) | assumption)
                            obtain ⟨ad404, e404, hx404_0⟩ := Kd.at_int (Kd.R_reads' HO_5.out).2.2 (ji15) p404 q404
                            cases e404
                            replace p404 := eq_true p404
                            replace q404 := eq_true q404
                            go_wp2_with (first | ((with_reducible refine gate_callee (f := 55) rfl ?_); refine goesL_ (some 78) rfl rfl Try.func55 (by kernel_rfl) rfl #[.slice Ao9 t394.length co9, .int .i64 x7_2] rfl (by (try simp only [List.map_toArray, List.map_cons, List.map_nil]); first | done | rfl | (simp only [List.length_drop, List.length_take]; rfl)) ?_; (with_reducible refine (gatelineref11_at.calls _ _ t394 x7_2 t414 _ ?side1 ?side2 A21.out).mono ?_); (case side1 => repeat (first | exact (Kd.R_reads' HO_4.out).2.2 | (with_reducible refine Kd.C_alloc ?_ _) | (with_reducible refine Kd.C_drewN ?_ _) | (with_reducible refine Kd.C_drew ?_))); (case side2 => exact (Kd.R_reads' HO_4.out).2.1); rintro e w28 ⟨rfl, hb⟩; refine ⟨_, rfl, ?_⟩; have n0_ := Aside0.mk (Kd.R_below (by (with_reducible repeat (first | apply Kd.R_alloc | apply Kd.R_drewN | apply Kd.R_drew)); exact HO_4.out) hb); have n1_ := Aside0.mk (Kd.R_below (by (with_reducible repeat (first | apply Kd.R_alloc | apply Kd.R_drewN | apply Kd.R_drew)); exact HO_5.out) hb); have n2_ := Aside0.mk (Kd.R_below (by (with_reducible repeat (first | apply Kd.R_alloc | apply Kd.R_drewN | apply Kd.R_drew)); exact HO_6.out) hb); have n3_ := Aside0.mk (below_step (by repeat (first | (with_reducible first | exact HB.out | apply below_alloc | apply pw_below_drewN | apply below_drew1) | exact HB.out)) hb); clear HO_4; clear HO_5; clear HO_6; clear HB; have HO_4 := n0_; have HO_5 := n1_; have HO_6 := n2_; have HB := n3_; clear n0_ n1_ n2_ n3_; (try clear hb); (try clear hb2); (try clear hk); (try clear hi)) | ((with_reducible refine gate_callee (f := 26) rfl ?_); refine goesL_ (some 79) rfl rfl Try.func26 (by kernel_rfl) rfl #[.int .i64 t414] rfl (by (try simp only [List.map_toArray, List.map_cons, List.map_nil]); first | done | rfl | (simp only [List.length_drop, List.length_take]; rfl)) ?_; (with_reducible refine (gatelineref10_Value.calls k2 t414 t415 t416 _ A22.out).mono ?_); rintro e w' ⟨rfl, ⟨nd, rfl⟩⟩; refine ⟨_, rfl, ?_⟩) | ((with_reducible refine gate_callee (f := 29) rfl ?_); refine goesL_ (some 87) rfl rfl Try.func29 (by kernel_rfl) rfl #[.slice (some ad404) x5_2.length co27] rfl (by (try simp only [List.map_toArray, List.map_cons, List.map_nil]); first | done | rfl | (simp only [List.length_drop, List.length_take]; rfl)) ?_; (with_reducible refine (gatelineref10_Sum.calls k2 _ _ x5_2 t417 t418 _ ?side1 ?side2 A24.out).mono ?_); (case side1 => repeat (first | exact (Kd.R_reads' HO_5.out).2.2 | (with_reducible refine Kd.C_alloc ?_ _) | (with_reducible refine Kd.C_drewN ?_ _) | (with_reducible refine Kd.C_drew ?_))); (case side2 => exact (Kd.R_reads' HO_5.out).2.1); rintro e w' ⟨rfl, ⟨nd, rfl⟩⟩; refine ⟨_, rfl, ?_⟩; obtain ⟨Ao29, co29, eo29⟩ := Kd.R_slice HO_6.out; subst eo29))
                            go_ret2
                            exact ⟨_, by first | rfl | (simp [errW_none, errW_some] <;> rfl) | (simp only [← hji15]; first | rfl | (simp [errW_none, errW_some] <;> rfl)) | (simp [*, errW_none, errW_some] <;> rfl), by first | exact Kd.R_nil _ _ _ _ _ | exact Kd.N_nil _ _ _ _ _ | exact Kd.V_nil _ _ _ _ _ | exact Kd.Q_nil _ _ _ _ _ | exact Kd.S_nil _ _ _ _ _, by repeat (first | (with_reducible first | exact HB.out | apply below_alloc | apply pw_below_drewN | apply below_drew1) | exact HB.out)⟩
                          · rw [if_neg c26] at H
                            have c26b0 : decide (77 < (x6_2.length : Int)) = false := decide_eq_false c26
                            have c26b1 : decide (77 < x6_2.length) = false := decide_eq_false (by omega)
                            clear c26
                            obtain ⟨ji30, hji30⟩ : ∃ j_ : Int, (wrap64 (x7_2 + 5)) = j_ := ⟨_, rfl⟩
                            replace H : (if 0 ≤ (ji30) then (if (ji30) ≤ (t394.length : Int) then ((gatelineref11_Pack.f k2 (t394.take ((ji30) : Int).toNat)).bind fun t423 => ((gatelineref01_Same.f k2 t423 l0).bind fun t426 => (if t426 = true then (some (x6_2, 0)) else (some (([] : List Int), 14))))) else (none)) else (none)) = some (r1, r2) := by first | (rw [hji30] at H; exact H) | (simp only [hji30] at H ⊢; exact H)
                            (try rw [hji30] at c19b0)
                            (try rw [hji30] at A21)
                            (try rw [hji30] at A22)
                            (try rw [hji30] at A24)
                            have hji30w : (IntKind.i64.wrap (x7_2 + 5)) = ji30 := (i64_w _).trans hji30
                            by_cases c31 : 0 ≤ (ji30)
                            · rw [if_pos c31] at H
                              have c31b0 := eq_true c31
                              have c31b1 : decide (0 ≤ (ji30)) = true := decide_eq_true c31
                              clear c31
                              by_cases c32 : (ji30) ≤ (t394.length : Int)
                              · rw [if_pos c32] at H
                                have c32b0 := eq_true c32
                                have c32b1 : decide ((ji30) ≤ (t394.length : Int)) = true := decide_eq_true c32
                                clear c32
                                obtain ⟨y419, hy419⟩ : ∃ y_ : List Bool, y_ = (t394.take ((ji30) : Int).toNat) := ⟨_, rfl⟩
                                replace H : ((gatelineref11_Pack.f k2 y419).bind fun t423 => ((gatelineref01_Same.f k2 t423 l0).bind fun t426 => (if t426 = true then (some (x6_2, 0)) else (some (([] : List Int), 14))))) = some (r1, r2) := by first | (rw [hy419]; with_reducible exact H) | (have H2_ := (Option.bind_some _ _).symm.trans H; rw [hy419]; with_reducible exact H2_) | (have H2_ := (Option.bind_some _ _).symm.trans H; with_reducible exact H2_) | with_reducible exact H | (rw [hy419]; exact H) | exact H
                                have Ny419 := Aside0.mk hy419
                                clear hy419
                                replace H := Option.bind_eq_some_iff.mp H
                                obtain ⟨t423, A330, H⟩ := H
                                replace H : ((gatelineref01_Same.f k2 t423 l0).bind fun t426 => (if t426 = true then (some (x6_2, 0)) else (some (([] : List Int), 14)))) = some (r1, r2) := H
                                have A33 := Aside0.mk A330
                                clear A330
                                replace H := Option.bind_eq_some_iff.mp H
                                obtain ⟨t426, A340, H⟩ := H
                                replace H : (if t426 = true then (some (x6_2, 0)) else (some (([] : List Int), 14))) = some (r1, r2) := H
                                have A34 := Aside0.mk A340
                                clear A340
                                by_cases c35 : t426 = true
                                · subst c35
                                  have H1 : (some (x6_2, 0)) = some (r1, r2) := by rw [if_pos rfl] at H; exact H
                                  clear H
                                  have H := H1
                                  clear H1
                                  simp only [Option.some.injEq, Prod.mk.injEq] at H
                                  obtain ⟨rfl, rfl⟩ := H
                                  obtain ⟨Ao36, co36, eo36⟩ := Kd.R_slice HO_5.out
                                  subst eo36
                                  have p404 : 0 ≤ ((ji15) : Int) := of_decide_eq_true (by first | (with_reducible assumption) | assumption)
                                  have q404 : (ji15) < (x5_2.length : Int) := of_decide_eq_true (by first | (with_reducible assumption) | assumption)
                                  obtain ⟨ad404, e404, hx404_0⟩ := Kd.at_int (Kd.R_reads' HO_5.out).2.2 (ji15) p404 q404
                                  cases e404
                                  replace p404 := eq_true p404
                                  replace q404 := eq_true q404
                                  go_wp2_with (first | ((with_reducible refine gate_callee (f := 55) rfl ?_); refine goesL_ (some 78) rfl rfl Try.func55 (by kernel_rfl) rfl #[.slice Ao9 t394.length co9, .int .i64 x7_2] rfl (by (try simp only [List.map_toArray, List.map_cons, List.map_nil]); first | done | rfl | (simp only [List.length_drop, List.length_take]; rfl)) ?_; (with_reducible refine (gatelineref11_at.calls _ _ t394 x7_2 t414 _ ?side1 ?side2 A21.out).mono ?_); (case side1 => repeat (first | exact (Kd.R_reads' HO_4.out).2.2 | (with_reducible refine Kd.C_alloc ?_ _) | (with_reducible refine Kd.C_drewN ?_ _) | (with_reducible refine Kd.C_drew ?_))); (case side2 => exact (Kd.R_reads' HO_4.out).2.1); rintro e w37 ⟨rfl, hb⟩; refine ⟨_, rfl, ?_⟩; have n0_ := Aside0.mk (Kd.R_below (by (with_reducible repeat (first | apply Kd.R_alloc | apply Kd.R_drewN | apply Kd.R_drew)); exact HO_4.out) hb); have n1_ := Aside0.mk (Kd.R_below (by (with_reducible repeat (first | apply Kd.R_alloc | apply Kd.R_drewN | apply Kd.R_drew)); exact HO_5.out) hb); have n2_ := Aside0.mk (Kd.R_below (by (with_reducible repeat (first | apply Kd.R_alloc | apply Kd.R_drewN | apply Kd.R_drew)); exact HO_6.out) hb); have n3_ := Aside0.mk (below_step (by repeat (first | (with_reducible first | exact HB.out | apply below_alloc | apply pw_below_drewN | apply below_drew1) | exact HB.out)) hb); clear HO_4; clear HO_5; clear HO_6; clear HB; have HO_4 := n0_; have HO_5 := n1_; have HO_6 := n2_; have HB := n3_; clear n0_ n1_ n2_ n3_; (try clear hb); (try clear hb2); (try clear hk); (try clear hi)) | ((with_reducible refine gate_callee (f := 26) rfl ?_); refine goesL_ (some 79) rfl rfl Try.func26 (by kernel_rfl) rfl #[.int .i64 t414] rfl (by (try simp only [List.map_toArray, List.map_cons, List.map_nil]); first | done | rfl | (simp only [List.length_drop, List.length_take]; rfl)) ?_; (with_reducible refine (gatelineref10_Value.calls k2 t414 t415 t416 _ A22.out).mono ?_); rintro e w' ⟨rfl, ⟨nd, rfl⟩⟩; refine ⟨_, rfl, ?_⟩) | ((with_reducible refine gate_callee (f := 29) rfl ?_); refine goesL_ (some 87) rfl rfl Try.func29 (by kernel_rfl) rfl #[.slice (some ad404) x5_2.length co36] rfl (by (try simp only [List.map_toArray, List.map_cons, List.map_nil]); first | done | rfl | (simp only [List.length_drop, List.length_take]; rfl)) ?_; (with_reducible refine (gatelineref10_Sum.calls k2 _ _ x5_2 t417 t418 _ ?side1 ?side2 A24.out).mono ?_); (case side1 => repeat (first | exact (Kd.R_reads' HO_5.out).2.2 | (with_reducible refine Kd.C_alloc ?_ _) | (with_reducible refine Kd.C_drewN ?_ _) | (with_reducible refine Kd.C_drew ?_))); (case side2 => exact (Kd.R_reads' HO_5.out).2.1); rintro e w' ⟨rfl, ⟨nd, rfl⟩⟩; refine ⟨_, rfl, ?_⟩; obtain ⟨Ao38, co38, eo38⟩ := Kd.R_slice HO_6.out; subst eo38; have q39 : ((ji30) : Int) ≤ ((t394.length : Int) : Int) := of_decide_eq_true (by first | (with_reducible assumption) | assumption); obtain ⟨i039, hi039, _, hsz39, _⟩ := info_parts info4; have hroom39 : t394.length ≤ co9 := (Kd.R_reads' HO_4.out).2.1; have hC39 : Kd.C Kd.bool _ Ao9 t394.length t394 := (Kd.R_reads' HO_4.out).2.2; have hcut39 := cut_to (P := Try.prog) 44 4 .i64 Try.underlying44 hi039 Ao9 t394.length co9 (ji30) (of_decide_eq_true (by first | (with_reducible assumption) | assumption)) q39 hroom39; have hr39 := Kd.C_take (m := ((ji30) : Int).toNat) hC39 (by omega); have hy39 : y419.length = ((ji30) : Int).toNat := (by rw [Ny419.out, List.length_take]; omega); rw [← Ny419.out] at hr39; rw [← hy39] at hcut39; have HR422 := Aside0.mk hr39; have HC422 := Aside0.mk (show y419.length ≤ co9 from by omega); clear hr39 hC39 hroom39 hi039 hsz39; have KY39 := Aside0.mk hy39; clear hy39; have KL39 := Aside0.mk (show ((ji30) : Int).toNat ≤ t394.length from by omega); replace q39 := eq_true q39) | ((with_reducible refine gate_callee (f := 36) rfl ?_); refine goesL_ (some 100) rfl rfl Try.func36 (by kernel_rfl) rfl #[.slice Ao9 y419.length co9] rfl (by (try simp only [List.map_toArray, List.map_cons, List.map_nil]); first | done | rfl | (simp only [List.length_drop, List.length_take]; rfl)) ?_; (with_reducible refine (gatelineref11_Pack.calls k2 _ _ y419 t423 _ ?side1 ?side2 A33.out).mono ?_); (case side1 => repeat (first | exact (by repeat (first | (with_reducible exact HR422.out) | (with_reducible refine Kd.C_alloc ?_ _) | (with_reducible refine Kd.C_drewN ?_ _) | (with_reducible refine Kd.C_drew ?_) | exact HR422.out)) | (with_reducible refine Kd.C_alloc ?_ _) | (with_reducible refine Kd.C_drewN ?_ _) | (with_reducible refine Kd.C_drew ?_))); (case side2 => exact HC422.out); rintro e w40 ⟨v424, rfl, ho0, hb⟩; refine ⟨_, rfl, ?_⟩; have n0_ := Aside0.mk (Kd.R_below (by (with_reducible repeat (first | apply Kd.R_alloc | apply Kd.R_drewN | apply Kd.R_drew)); exact HO_4.out) hb); have n1_ := Aside0.mk (Kd.R_below (by (with_reducible repeat (first | apply Kd.R_alloc | apply Kd.R_drewN | apply Kd.R_drew)); exact HO_5.out) hb); have n2_ := Aside0.mk (Kd.R_elder' (by (with_reducible repeat (first | apply Kd.R_alloc | apply Kd.R_drewN | apply Kd.R_drew)); exact HO_6.out) (Kd.R_base ho0) hb); have n3_ := Aside0.mk (Kd.R_lower (Kd.R_new' ho0 (Kd.R_lt (by (with_reducible repeat (first | apply Kd.R_alloc | apply Kd.R_drewN | apply Kd.R_drew)); exact HO_6.out))) (below_size (by repeat (first | (with_reducible first | exact HB.out | apply below_alloc | apply pw_below_drewN | apply below_drew1) | exact HB.out)))); have n4_ := Aside0.mk (Kd.C_below (by repeat (first | (with_reducible exact HR422.out) | (with_reducible refine Kd.C_alloc ?_ _) | (with_reducible refine Kd.C_drewN ?_ _) | (with_reducible refine Kd.C_drew ?_) | exact HR422.out)) hb); have n5_ := Aside0.mk (below_step (by repeat (first | (with_reducible first | exact HB.out | apply below_alloc | apply pw_below_drewN | apply below_drew1) | exact HB.out)) hb); clear HO_4; clear HO_5; clear HO_6; clear HR422; clear HB; have HO_4 := n0_; have HO_5 := n1_; have HO_6 := n2_; have HO425 := n3_; have HR422 := n4_; have HB := n5_; clear n0_ n1_ n2_ n3_ n4_ n5_; (try clear hb); (try clear hb2); (try clear hk); (try clear hi); (try clear ho0); obtain ⟨Ao41, co41, eo41⟩ := Kd.R_slice HO425.out; subst eo41) | ((with_reducible refine gate_callee (f := 20) rfl ?_); refine goesL_ (some 102) rfl rfl Try.func20 (by kernel_rfl) rfl #[.slice Ao41 t423.length co41, .slice A0 l0.length c0] rfl (by (try simp only [List.map_toArray, List.map_cons, List.map_nil]); first | done | rfl | (simp only [List.length_drop, List.length_take]; rfl)) ?_; (with_reducible refine (gatelineref01_Same.calls k2 _ _ t423 _ _ l0 true _ ?side1 ?side2 ?side3 ?side4 A34.out).mono ?_); (case side1 => repeat (first | exact (Kd.R_reads' HO425.out).2.2 | (with_reducible refine Kd.C_alloc ?_ _) | (with_reducible refine Kd.C_drewN ?_ _) | (with_reducible refine Kd.C_drew ?_))); (case side2 => exact (Kd.R_reads' HO425.out).2.1); (case side3 => repeat (first | exact (Kd.C_below HR0.out HB.out) | (with_reducible refine Kd.C_alloc ?_ _) | (with_reducible refine Kd.C_drewN ?_ _) | (with_reducible refine Kd.C_drew ?_))); (case side4 => exact HC0.out); rintro e w' ⟨rfl, ⟨nd, rfl⟩⟩; refine ⟨_, rfl, ?_⟩))
                                  go_ret2
                                  exact ⟨_, by first | rfl | (simp [errW_none, errW_some] <;> rfl) | (simp only [← hji15, ← hji30]; first | rfl | (simp [errW_none, errW_some] <;> rfl)) | (simp [*, errW_none, errW_some] <;> rfl), by (with_reducible repeat (first | apply Kd.R_alloc | apply Kd.R_drewN | apply Kd.R_drew)); exact Kd.R_mono HO_6.out (fun _ hk => trivial), by repeat (first | (with_reducible first | exact HB.out | apply below_alloc | apply pw_below_drewN | apply below_drew1) | exact HB.out)⟩
                                · replace c35 := Bool.eq_false_iff.mpr c35
                                  subst c35
                                  have H1 : (some (([] : List Int), 14)) = some (r1, r2) := by rw [if_neg (show ¬ (false = true) by decide)] at H; exact H
                                  clear H
                                  have H := H1
                                  clear H1
                                  simp only [Option.some.injEq, Prod.mk.injEq] at H
                                  obtain ⟨rfl, rfl⟩ := H
                                  obtain ⟨Ao42, co42, eo42⟩ := Kd.R_slice HO_5.out
                                  subst eo42
                                  have p404 : 0 ≤ ((ji15) : Int) := of_decide_eq_true (by first | (with_reducible assumption) | assumption)
                                  have q404 : (ji15) < (x5_2.length : Int) := of_decide_eq_true (by first | (with_reducible assumption) | assumption)
                                  obtain ⟨ad404, e404, hx404_0⟩ := Kd.at_int (Kd.R_reads' HO_5.out).2.2 (ji15) p404 q404
                                  cases e404
                                  replace p404 := eq_true p404
                                  replace q404 := eq_true q404
                                  go_wp2_with (first | ((with_reducible refine gate_callee (f := 55) rfl ?_); refine goesL_ (some 78) rfl rfl Try.func55 (by kernel_rfl) rfl #[.slice Ao9 t394.length co9, .int .i64 x7_2] rfl (by (try simp only [List.map_toArray, List.map_cons, List.map_nil]); first | done | rfl | (simp only [List.length_drop, List.length_take]; rfl)) ?_; (with_reducible refine (gatelineref11_at.calls _ _ t394 x7_2 t414 _ ?side1 ?side2 A21.out).mono ?_); (case side1 => repeat (first | exact (Kd.R_reads' HO_4.out).2.2 | (with_reducible refine Kd.C_alloc ?_ _) | (with_reducible refine Kd.C_drewN ?_ _) | (with_reducible refine Kd.C_drew ?_))); (case side2 => exact (Kd.R_reads' HO_4.out).2.1); rintro e w43 ⟨rfl, hb⟩; refine ⟨_, rfl, ?_⟩; have n0_ := Aside0.mk (Kd.R_below (by (with_reducible repeat (first | apply Kd.R_alloc | apply Kd.R_drewN | apply Kd.R_drew)); exact HO_4.out) hb); have n1_ := Aside0.mk (Kd.R_below (by (with_reducible repeat (first | apply Kd.R_alloc | apply Kd.R_drewN | apply Kd.R_drew)); exact HO_5.out) hb); have n2_ := Aside0.mk (Kd.R_below (by (with_reducible repeat (first | apply Kd.R_alloc | apply Kd.R_drewN | apply Kd.R_drew)); exact HO_6.out) hb); have n3_ := Aside0.mk (below_step (by repeat (first | (with_reducible first | exact HB.out | apply below_alloc | apply pw_below_drewN | apply below_drew1) | exact HB.out)) hb); clear HO_4; clear HO_5; clear HO_6; clear HB; have HO_4 := n0_; have HO_5 := n1_; have HO_6 := n2_; have HB := n3_; clear n0_ n1_ n2_ n3_; (try clear hb); (try clear hb2); (try clear hk); (try clear hi)) | ((with_reducible refine gate_callee (f := 26) rfl ?_); refine goesL_ (some 79) rfl rfl Try.func26 (by kernel_rfl) rfl #[.int .i64 t414] rfl (by (try simp only [List.map_toArray, List.map_cons, List.map_nil]); first | done | rfl | (simp only [List.length_drop, List.length_take]; rfl)) ?_; (with_reducible refine (gatelineref10_Value.calls k2 t414 t415 t416 _ A22.out).mono ?_); rintro e w' ⟨rfl, ⟨nd, rfl⟩⟩; refine ⟨_, rfl, ?_⟩) | ((with_reducible refine gate_callee (f := 29) rfl ?_); refine goesL_ (some 87) rfl rfl Try.func29 (by kernel_rfl) rfl #[.slice (some ad404) x5_2.length co42] rfl (by (try simp only [List.map_toArray, List.map_cons, List.map_nil]); first | done | rfl | (simp only [List.length_drop, List.length_take]; rfl)) ?_; (with_reducible refine (gatelineref10_Sum.calls k2 _ _ x5_2 t417 t418 _ ?side1 ?side2 A24.out).mono ?_); (case side1 => repeat (first | exact (Kd.R_reads' HO_5.out).2.2 | (with_reducible refine Kd.C_alloc ?_ _) | (with_reducible refine Kd.C_drewN ?_ _) | (with_reducible refine Kd.C_drew ?_))); (case side2 => exact (Kd.R_reads' HO_5.out).2.1); rintro e w' ⟨rfl, ⟨nd, rfl⟩⟩; refine ⟨_, rfl, ?_⟩; obtain ⟨Ao44, co44, eo44⟩ := Kd.R_slice HO_6.out; subst eo44; have q45 : ((ji30) : Int) ≤ ((t394.length : Int) : Int) := of_decide_eq_true (by first | (with_reducible assumption) | assumption); obtain ⟨i045, hi045, _, hsz45, _⟩ := info_parts info4; have hroom45 : t394.length ≤ co9 := (Kd.R_reads' HO_4.out).2.1; have hC45 : Kd.C Kd.bool _ Ao9 t394.length t394 := (Kd.R_reads' HO_4.out).2.2; have hcut45 := cut_to (P := Try.prog) 44 4 .i64 Try.underlying44 hi045 Ao9 t394.length co9 (ji30) (of_decide_eq_true (by first | (with_reducible assumption) | assumption)) q45 hroom45; have hr45 := Kd.C_take (m := ((ji30) : Int).toNat) hC45 (by omega); have hy45 : y419.length = ((ji30) : Int).toNat := (by rw [Ny419.out, List.length_take]; omega); rw [← Ny419.out] at hr45; rw [← hy45] at hcut45; have HR422 := Aside0.mk hr45; have HC422 := Aside0.mk (show y419.length ≤ co9 from by omega); clear hr45 hC45 hroom45 hi045 hsz45; have KY45 := Aside0.mk hy45; clear hy45; have KL45 := Aside0.mk (show ((ji30) : Int).toNat ≤ t394.length from by omega); replace q45 := eq_true q45) | ((with_reducible refine gate_callee (f := 36) rfl ?_); refine goesL_ (some 100) rfl rfl Try.func36 (by kernel_rfl) rfl #[.slice Ao9 y419.length co9] rfl (by (try simp only [List.map_toArray, List.map_cons, List.map_nil]); first | done | rfl | (simp only [List.length_drop, List.length_take]; rfl)) ?_; (with_reducible refine (gatelineref11_Pack.calls k2 _ _ y419 t423 _ ?side1 ?side2 A33.out).mono ?_); (case side1 => repeat (first | exact (by repeat (first | (with_reducible exact HR422.out) | (with_reducible refine Kd.C_alloc ?_ _) | (with_reducible refine Kd.C_drewN ?_ _) | (with_reducible refine Kd.C_drew ?_) | exact HR422.out)) | (with_reducible refine Kd.C_alloc ?_ _) | (with_reducible refine Kd.C_drewN ?_ _) | (with_reducible refine Kd.C_drew ?_))); (case side2 => exact HC422.out); rintro e w46 ⟨v424, rfl, ho0, hb⟩; refine ⟨_, rfl, ?_⟩; have n0_ := Aside0.mk (Kd.R_below (by (with_reducible repeat (first | apply Kd.R_alloc | apply Kd.R_drewN | apply Kd.R_drew)); exact HO_4.out) hb); have n1_ := Aside0.mk (Kd.R_below (by (with_reducible repeat (first | apply Kd.R_alloc | apply Kd.R_drewN | apply Kd.R_drew)); exact HO_5.out) hb); have n2_ := Aside0.mk (Kd.R_elder' (by (with_reducible repeat (first | apply Kd.R_alloc | apply Kd.R_drewN | apply Kd.R_drew)); exact HO_6.out) (Kd.R_base ho0) hb); have n3_ := Aside0.mk (Kd.R_lower (Kd.R_new' ho0 (Kd.R_lt (by (with_reducible repeat (first | apply Kd.R_alloc | apply Kd.R_drewN | apply Kd.R_drew)); exact HO_6.out))) (below_size (by repeat (first | (with_reducible first | exact HB.out | apply below_alloc | apply pw_below_drewN | apply below_drew1) | exact HB.out)))); have n4_ := Aside0.mk (Kd.C_below (by repeat (first | (with_reducible exact HR422.out) | (with_reducible refine Kd.C_alloc ?_ _) | (with_reducible refine Kd.C_drewN ?_ _) | (with_reducible refine Kd.C_drew ?_) | exact HR422.out)) hb); have n5_ := Aside0.mk (below_step (by repeat (first | (with_reducible first | exact HB.out | apply below_alloc | apply pw_below_drewN | apply below_drew1) | exact HB.out)) hb); clear HO_4; clear HO_5; clear HO_6; clear HR422; clear HB; have HO_4 := n0_; have HO_5 := n1_; have HO_6 := n2_; have HO425 := n3_; have HR422 := n4_; have HB := n5_; clear n0_ n1_ n2_ n3_ n4_ n5_; (try clear hb); (try clear hb2); (try clear hk); (try clear hi); (try clear ho0); obtain ⟨Ao47, co47, eo47⟩ := Kd.R_slice HO425.out; subst eo47) | ((with_reducible refine gate_callee (f := 20) rfl ?_); refine goesL_ (some 102) rfl rfl Try.func20 (by kernel_rfl) rfl #[.slice Ao47 t423.length co47, .slice A0 l0.length c0] rfl (by (try simp only [List.map_toArray, List.map_cons, List.map_nil]); first | done | rfl | (simp only [List.length_drop, List.length_take]; rfl)) ?_; (with_reducible refine (gatelineref01_Same.calls k2 _ _ t423 _ _ l0 false _ ?side1 ?side2 ?side3 ?side4 A34.out).mono ?_); (case side1 => repeat (first | exact (Kd.R_reads' HO425.out).2.2 | (with_reducible refine Kd.C_alloc ?_ _) | (with_reducible refine Kd.C_drewN ?_ _) | (with_reducible refine Kd.C_drew ?_))); (case side2 => exact (Kd.R_reads' HO425.out).2.1); (case side3 => repeat (first | exact (Kd.C_below HR0.out HB.out) | (with_reducible refine Kd.C_alloc ?_ _) | (with_reducible refine Kd.C_drewN ?_ _) | (with_reducible refine Kd.C_drew ?_))); (case side4 => exact HC0.out); rintro e w' ⟨rfl, ⟨nd, rfl⟩⟩; refine ⟨_, rfl, ?_⟩))
                                  go_ret2
                                  exact ⟨_, by first | rfl | (simp [errW_none, errW_some] <;> rfl) | (simp only [← hji15, ← hji30]; first | rfl | (simp [errW_none, errW_some] <;> rfl)) | (simp [*, errW_none, errW_some] <;> rfl), by first | exact Kd.R_nil _ _ _ _ _ | exact Kd.N_nil _ _ _ _ _ | exact Kd.V_nil _ _ _ _ _ | exact Kd.Q_nil _ _ _ _ _ | exact Kd.S_nil _ _ _ _ _, by repeat (first | (with_reducible first | exact HB.out | apply below_alloc | apply pw_below_drewN | apply below_drew1) | exact HB.out)⟩
                              · rw [if_neg c32] at H
                                exact absurd H (by simp)
                            · rw [if_neg c31] at H
                              exact absurd H (by simp)
                        · rw [if_neg c25] at H
                          have c25b0 : (t415 == t417) = false := beq_eq_false_iff_ne.mpr c25
                          have c25b1 : (t415 != t417) = true := bne_iff_ne.mpr c25
                          simp only [Option.some.injEq, Prod.mk.injEq] at H
                          obtain ⟨rfl, rfl⟩ := H
                          obtain ⟨Ao48, co48, eo48⟩ := Kd.R_slice HO_5.out
                          subst eo48
                          have p404 : 0 ≤ ((ji15) : Int) := of_decide_eq_true (by first | (with_reducible assumption) | assumption)
                          have q404 : (ji15) < (x5_2.length : Int) := of_decide_eq_true (by first | (with_reducible assumption) | assumption)
                          obtain ⟨ad404, e404, hx404_0⟩ := Kd.at_int (Kd.R_reads' HO_5.out).2.2 (ji15) p404 q404
                          cases e404
                          replace p404 := eq_true p404
                          replace q404 := eq_true q404
                          go_wp2_with (first | ((with_reducible refine gate_callee (f := 55) rfl ?_); refine goesL_ (some 78) rfl rfl Try.func55 (by kernel_rfl) rfl #[.slice Ao9 t394.length co9, .int .i64 x7_2] rfl (by (try simp only [List.map_toArray, List.map_cons, List.map_nil]); first | done | rfl | (simp only [List.length_drop, List.length_take]; rfl)) ?_; (with_reducible refine (gatelineref11_at.calls _ _ t394 x7_2 t414 _ ?side1 ?side2 A21.out).mono ?_); (case side1 => repeat (first | exact (Kd.R_reads' HO_4.out).2.2 | (with_reducible refine Kd.C_alloc ?_ _) | (with_reducible refine Kd.C_drewN ?_ _) | (with_reducible refine Kd.C_drew ?_))); (case side2 => exact (Kd.R_reads' HO_4.out).2.1); rintro e w49 ⟨rfl, hb⟩; refine ⟨_, rfl, ?_⟩; have n0_ := Aside0.mk (Kd.R_below (by (with_reducible repeat (first | apply Kd.R_alloc | apply Kd.R_drewN | apply Kd.R_drew)); exact HO_4.out) hb); have n1_ := Aside0.mk (Kd.R_below (by (with_reducible repeat (first | apply Kd.R_alloc | apply Kd.R_drewN | apply Kd.R_drew)); exact HO_5.out) hb); have n2_ := Aside0.mk (Kd.R_below (by (with_reducible repeat (first | apply Kd.R_alloc | apply Kd.R_drewN | apply Kd.R_drew)); exact HO_6.out) hb); have n3_ := Aside0.mk (below_step (by repeat (first | (with_reducible first | exact HB.out | apply below_alloc | apply pw_below_drewN | apply below_drew1) | exact HB.out)) hb); clear HO_4; clear HO_5; clear HO_6; clear HB; have HO_4 := n0_; have HO_5 := n1_; have HO_6 := n2_; have HB := n3_; clear n0_ n1_ n2_ n3_; (try clear hb); (try clear hb2); (try clear hk); (try clear hi)) | ((with_reducible refine gate_callee (f := 26) rfl ?_); refine goesL_ (some 79) rfl rfl Try.func26 (by kernel_rfl) rfl #[.int .i64 t414] rfl (by (try simp only [List.map_toArray, List.map_cons, List.map_nil]); first | done | rfl | (simp only [List.length_drop, List.length_take]; rfl)) ?_; (with_reducible refine (gatelineref10_Value.calls k2 t414 t415 t416 _ A22.out).mono ?_); rintro e w' ⟨rfl, ⟨nd, rfl⟩⟩; refine ⟨_, rfl, ?_⟩) | ((with_reducible refine gate_callee (f := 29) rfl ?_); refine goesL_ (some 87) rfl rfl Try.func29 (by kernel_rfl) rfl #[.slice (some ad404) x5_2.length co48] rfl (by (try simp only [List.map_toArray, List.map_cons, List.map_nil]); first | done | rfl | (simp only [List.length_drop, List.length_take]; rfl)) ?_; (with_reducible refine (gatelineref10_Sum.calls k2 _ _ x5_2 t417 t418 _ ?side1 ?side2 A24.out).mono ?_); (case side1 => repeat (first | exact (Kd.R_reads' HO_5.out).2.2 | (with_reducible refine Kd.C_alloc ?_ _) | (with_reducible refine Kd.C_drewN ?_ _) | (with_reducible refine Kd.C_drew ?_))); (case side2 => exact (Kd.R_reads' HO_5.out).2.1); rintro e w' ⟨rfl, ⟨nd, rfl⟩⟩; refine ⟨_, rfl, ?_⟩))
                          go_ret2
                          exact ⟨_, by first | rfl | (simp [errW_none, errW_some] <;> rfl) | (simp only [← hji15]; first | rfl | (simp [errW_none, errW_some] <;> rfl)) | (simp [*, errW_none, errW_some] <;> rfl), by first | exact Kd.R_nil _ _ _ _ _ | exact Kd.N_nil _ _ _ _ _ | exact Kd.V_nil _ _ _ _ _ | exact Kd.Q_nil _ _ _ _ _ | exact Kd.S_nil _ _ _ _ _, by repeat (first | (with_reducible first | exact HB.out | apply below_alloc | apply pw_below_drewN | apply below_drew1) | exact HB.out)⟩
                      · rw [if_neg c23] at H
                        have c23b0 : (t416 == 0) = false := beq_eq_false_iff_ne.mpr c23
                        have c23b1 : (t416 != 0) = true := bne_iff_ne.mpr c23
                        simp only [Option.some.injEq, Prod.mk.injEq] at H
                        obtain ⟨rfl, rfl⟩ := H
                        obtain ⟨Ao50, co50, eo50⟩ := Kd.R_slice HO_5.out
                        subst eo50
                        have p404 : 0 ≤ ((ji15) : Int) := of_decide_eq_true (by first | (with_reducible assumption) | assumption)
                        have q404 : (ji15) < (x5_2.length : Int) := of_decide_eq_true (by first | (with_reducible assumption) | assumption)
                        obtain ⟨ad404, e404, hx404_0⟩ := Kd.at_int (Kd.R_reads' HO_5.out).2.2 (ji15) p404 q404
                        cases e404
                        replace p404 := eq_true p404
                        replace q404 := eq_true q404
                        go_wp2_with (first | ((with_reducible refine gate_callee (f := 55) rfl ?_); refine goesL_ (some 78) rfl rfl Try.func55 (by kernel_rfl) rfl #[.slice Ao9 t394.length co9, .int .i64 x7_2] rfl (by (try simp only [List.map_toArray, List.map_cons, List.map_nil]); first | done | rfl | (simp only [List.length_drop, List.length_take]; rfl)) ?_; (with_reducible refine (gatelineref11_at.calls _ _ t394 x7_2 t414 _ ?side1 ?side2 A21.out).mono ?_); (case side1 => repeat (first | exact (Kd.R_reads' HO_4.out).2.2 | (with_reducible refine Kd.C_alloc ?_ _) | (with_reducible refine Kd.C_drewN ?_ _) | (with_reducible refine Kd.C_drew ?_))); (case side2 => exact (Kd.R_reads' HO_4.out).2.1); rintro e w51 ⟨rfl, hb⟩; refine ⟨_, rfl, ?_⟩; have n0_ := Aside0.mk (Kd.R_below (by (with_reducible repeat (first | apply Kd.R_alloc | apply Kd.R_drewN | apply Kd.R_drew)); exact HO_4.out) hb); have n1_ := Aside0.mk (Kd.R_below (by (with_reducible repeat (first | apply Kd.R_alloc | apply Kd.R_drewN | apply Kd.R_drew)); exact HO_5.out) hb); have n2_ := Aside0.mk (Kd.R_below (by (with_reducible repeat (first | apply Kd.R_alloc | apply Kd.R_drewN | apply Kd.R_drew)); exact HO_6.out) hb); have n3_ := Aside0.mk (below_step (by repeat (first | (with_reducible first | exact HB.out | apply below_alloc | apply pw_below_drewN | apply below_drew1) | exact HB.out)) hb); clear HO_4; clear HO_5; clear HO_6; clear HB; have HO_4 := n0_; have HO_5 := n1_; have HO_6 := n2_; have HB := n3_; clear n0_ n1_ n2_ n3_; (try clear hb); (try clear hb2); (try clear hk); (try clear hi)) | ((with_reducible refine gate_callee (f := 26) rfl ?_); refine goesL_ (some 79) rfl rfl Try.func26 (by kernel_rfl) rfl #[.int .i64 t414] rfl (by (try simp only [List.map_toArray, List.map_cons, List.map_nil]); first | done | rfl | (simp only [List.length_drop, List.length_take]; rfl)) ?_; (with_reducible refine (gatelineref10_Value.calls k2 t414 t415 t416 _ A22.out).mono ?_); rintro e w' ⟨rfl, ⟨nd, rfl⟩⟩; refine ⟨_, rfl, ?_⟩))
                        go_ret2
                        exact ⟨_, by first | rfl | (simp [errW_none, errW_some] <;> rfl) | (simp only [← hji15]; first | rfl | (simp [errW_none, errW_some] <;> rfl)) | (simp [*, errW_none, errW_some] <;> rfl), by first | exact Kd.R_nil _ _ _ _ _ | exact Kd.N_nil _ _ _ _ _ | exact Kd.V_nil _ _ _ _ _ | exact Kd.Q_nil _ _ _ _ _ | exact Kd.S_nil _ _ _ _ _, by repeat (first | (with_reducible first | exact HB.out | apply below_alloc | apply pw_below_drewN | apply below_drew1) | exact HB.out)⟩
                  · rw [if_neg c18] at H
                    have c18b0 : ((rd x5_2 (ji15)) == 15) = false := beq_eq_false_iff_ne.mpr c18
                    have c18b1 : ((rd x5_2 (ji15)) != 15) = true := bne_iff_ne.mpr c18
                    by_cases c52 : (wrap64 (x7_2 + 5)) > (t394.length : Int)
                    · rw [if_pos c52] at H
                      have c52b0 : decide ((t394.length : Int) < (wrap64 (x7_2 + 5))) = true := decide_eq_true c52
                      clear c52
                      simp only [Option.some.injEq, Prod.mk.injEq] at H
                      obtain ⟨rfl, rfl⟩ := H
                      obtain ⟨Ao53, co53, eo53⟩ := Kd.R_slice HO_5.out
                      subst eo53
                      have p404 : 0 ≤ ((ji15) : Int) := of_decide_eq_true (by first | (with_reducible assumption) | assumption)
                      have q404 : (ji15) < (x5_2.length : Int) := of_decide_eq_true (by first | (with_reducible assumption) | assumption)
                      obtain ⟨ad404, e404, hx404_0⟩ := Kd.at_int (Kd.R_reads' HO_5.out).2.2 (ji15) p404 q404
                      cases e404
                      replace p404 := eq_true p404
                      replace q404 := eq_true q404
                      go_wp2
                      go_ret2
                      exact ⟨_, by first | rfl | (simp [errW_none, errW_some] <;> rfl) | (simp only [← hji15]; first | rfl | (simp [errW_none, errW_some] <;> rfl)) | (simp [*, errW_none, errW_some] <;> rfl), by first | exact Kd.R_nil _ _ _ _ _ | exact Kd.N_nil _ _ _ _ _ | exact Kd.V_nil _ _ _ _ _ | exact Kd.Q_nil _ _ _ _ _ | exact Kd.S_nil _ _ _ _ _, by repeat (first | (with_reducible first | exact HB.out | apply below_alloc | apply pw_below_drewN | apply below_drew1) | exact HB.out)⟩
                    · rw [if_neg c52] at H
                      have c52b0 : decide ((t394.length : Int) < (wrap64 (x7_2 + 5))) = false := decide_eq_false c52
                      clear c52
                      replace H := Option.bind_eq_some_iff.mp H
                      obtain ⟨t405, A540, H⟩ := H
                      replace H : ((gatelineref10_Value.f k2 t405).bind fun bt406 => (if bt406.2 = 0 then (if bt406.1 > 9 then (gatelineref11_Get.j2 k2 l0 t394 x5_2 x6_2 x7_2 bt406.1 (bt406.1 != 15)) else (gatelineref11_Get.j2 k2 l0 t394 x5_2 x6_2 x7_2 bt406.1 false)) else (some (([] : List Int), bt406.2)))) = some (r1, r2) := H
                      have A54 := Aside0.mk A540
                      clear A540
                      replace H := Option.bind_eq_some_iff.mp H
                      obtain ⟨⟨t406, t407⟩, A550, H⟩ := H
                      replace H : (if t407 = 0 then (if t406 > 9 then (gatelineref11_Get.j2 k2 l0 t394 x5_2 x6_2 x7_2 t406 (t406 != 15)) else (gatelineref11_Get.j2 k2 l0 t394 x5_2 x6_2 x7_2 t406 false)) else (some (([] : List Int), t407))) = some (r1, r2) := H
                      have A55 := Aside0.mk A550
                      clear A550
                      by_cases c56 : t407 = 0
                      · rw [if_pos c56] at H
                        have c56b0 : (t407 == 0) = true := beq_iff_eq.mpr c56
                        have c56b1 : (t407 != 0) = false := bne_eq_false_iff_eq.mpr c56
                        clear c56
                        have HC57 := Aside0.mk H
                        clear H
                        obtain ⟨Ao58, co58, eo58⟩ := Kd.R_slice HO_5.out
                        subst eo58
                        have p404 : 0 ≤ ((ji15) : Int) := of_decide_eq_true (by first | (with_reducible assumption) | assumption)
                        have q404 : (ji15) < (x5_2.length : Int) := of_decide_eq_true (by first | (with_reducible assumption) | assumption)
                        obtain ⟨ad404, e404, hx404_0⟩ := Kd.at_int (Kd.R_reads' HO_5.out).2.2 (ji15) p404 q404
                        cases e404
                        replace p404 := eq_true p404
                        replace q404 := eq_true q404
                        go_upto_region 15 with (first | ((with_reducible refine gate_callee (f := 55) rfl ?_); refine goesL_ (some 44) rfl rfl Try.func55 (by kernel_rfl) rfl #[.slice Ao9 t394.length co9, .int .i64 x7_2] rfl (by (try simp only [List.map_toArray, List.map_cons, List.map_nil]); first | done | rfl | (simp only [List.length_drop, List.length_take]; rfl)) ?_; (with_reducible refine (gatelineref11_at.calls _ _ t394 x7_2 t405 _ ?side1 ?side2 A54.out).mono ?_); (case side1 => repeat (first | exact (Kd.R_reads' HO_4.out).2.2 | (with_reducible refine Kd.C_alloc ?_ _) | (with_reducible refine Kd.C_drewN ?_ _) | (with_reducible refine Kd.C_drew ?_))); (case side2 => exact (Kd.R_reads' HO_4.out).2.1); rintro e w59 ⟨rfl, hb⟩; refine ⟨_, rfl, ?_⟩; have n0_ := Aside0.mk (Kd.R_below (by (with_reducible repeat (first | apply Kd.R_alloc | apply Kd.R_drewN | apply Kd.R_drew)); exact HO_4.out) hb); have n1_ := Aside0.mk (Kd.R_below (by (with_reducible repeat (first | apply Kd.R_alloc | apply Kd.R_drewN | apply Kd.R_drew)); exact HO_5.out) hb); have n2_ := Aside0.mk (Kd.R_below (by (with_reducible repeat (first | apply Kd.R_alloc | apply Kd.R_drewN | apply Kd.R_drew)); exact HO_6.out) hb); have n3_ := Aside0.mk (below_step (by repeat (first | (with_reducible first | exact HB.out | apply below_alloc | apply pw_below_drewN | apply below_drew1) | exact HB.out)) hb); clear HO_4; clear HO_5; clear HO_6; clear HB; have HO_4 := n0_; have HO_5 := n1_; have HO_6 := n2_; have HB := n3_; clear n0_ n1_ n2_ n3_; (try clear hb); (try clear hb2); (try clear hk); (try clear hi)) | ((with_reducible refine gate_callee (f := 26) rfl ?_); refine goesL_ (some 45) rfl rfl Try.func26 (by kernel_rfl) rfl #[.int .i64 t405] rfl (by (try simp only [List.map_toArray, List.map_cons, List.map_nil]); first | done | rfl | (simp only [List.length_drop, List.length_take]; rfl)) ?_; (with_reducible refine (gatelineref10_Value.calls k2 t405 t406 t407 _ A55.out).mono ?_); rintro e w' ⟨rfl, ⟨nd, rfl⟩⟩; refine ⟨_, rfl, ?_⟩))
                        (try simp only [Act.put, List.setIfInBounds_toArray, List.set_cons_zero, List.set_cons_succ])
                        go_cut [56] (fun v56 wc => ∃ (kq : Nat) (x56_56 : Bool), v56 = .bool x56_56 ∧ Aside0 (gatelineref11_Get.j2 kq l0 t394 x5_2 x6_2 x7_2 t406 x56_56 = some (r1, r2)) ∧ Aside0 (kq ≤ k2) ∧ Aside0 (Kd.R Kd.bool 4 wc w.heap.size (fun _ => True) (.slice Ao9 t394.length co9) t394) ∧ Aside0 (Kd.R (Kd.int .i64) 3 wc w.heap.size (fun _ => True) (.slice (some ad404) x5_2.length co58) x5_2) ∧ Aside0 (Kd.R (Kd.int .u8) 5 wc w.heap.size (fun _ => True) u6 x6_2) ∧ Aside0 (Below w.heap.size w wc))
                        case first =>
                          have H := HC57.out
                          clear HC57
                          by_cases c60 : t406 > 9
                          · rw [if_pos c60] at H
                            have c60b0 : decide (9 < t406) = true := decide_eq_true c60
                            clear c60
                            (first | rw [c60b0] | (simp only [i64_w, i32_w]; rw [c60b0]) | skip)
                            have H' := Aside0.mk H
                            clear H
                            go_wp2
                            go_meet
                            case rel => exact ⟨_, ((t406 != 15)), (by first | rfl | (simp; done) | (simp [*]; done)), H', ⟨by have := HJ1.out; have := HK2.out; first | omega | exact Nat.le_refl _⟩, ⟨by (with_reducible repeat (first | apply Kd.R_alloc | apply Kd.R_drewN | apply Kd.R_drew)); exact HO_4.out⟩, ⟨by (with_reducible repeat (first | apply Kd.R_alloc | apply Kd.R_drewN | apply Kd.R_drew)); exact HO_5.out⟩, ⟨by (with_reducible repeat (first | apply Kd.R_alloc | apply Kd.R_drewN | apply Kd.R_drew)); exact HO_6.out⟩, ⟨by repeat (first | (with_reducible first | exact HB.out | apply below_alloc | apply pw_below_drewN | apply below_drew1) | exact HB.out)⟩⟩
                          · rw [if_neg c60] at H
                            have c60b0 : decide (9 < t406) = false := decide_eq_false c60
                            clear c60
                            (first | rw [c60b0] | (simp only [i64_w, i32_w]; rw [c60b0]) | skip)
                            have H' := Aside0.mk H
                            clear H
                            go_wp2
                            go_meet
                            case rel => exact ⟨_, (false), (by first | rfl | (simp; done) | (simp [*]; done)), H', ⟨by have := HJ1.out; have := HK2.out; first | omega | exact Nat.le_refl _⟩, ⟨by (with_reducible repeat (first | apply Kd.R_alloc | apply Kd.R_drewN | apply Kd.R_drew)); exact HO_4.out⟩, ⟨by (with_reducible repeat (first | apply Kd.R_alloc | apply Kd.R_drewN | apply Kd.R_drew)); exact HO_5.out⟩, ⟨by (with_reducible repeat (first | apply Kd.R_alloc | apply Kd.R_drewN | apply Kd.R_drew)); exact HO_6.out⟩, ⟨by repeat (first | (with_reducible first | exact HB.out | apply below_alloc | apply pw_below_drewN | apply below_drew1) | exact HB.out)⟩⟩
                        case rest =>
                          clear HC57
                          try clear c1
                          try clear c2
                          try clear p2
                          try clear c3
                          try clear c3b0
                          try clear c3b1
                          try clear q3
                          try clear c4
                          try clear p4
                          try clear q4
                          try clear hx4
                          try clear c5
                          try clear c6
                          try clear p6
                          try clear c7
                          try clear c7b0
                          try clear c7b1
                          try clear c16
                          try clear c16b0
                          try clear c17
                          try clear c17b0
                          try clear c18
                          try clear c18b0
                          try clear c18b1
                          try clear c19
                          try clear c19b0
                          try clear c20
                          try clear c23
                          try clear c23b0
                          try clear c23b1
                          try clear c25
                          try clear c25b0
                          try clear c25b1
                          try clear c26
                          try clear c26b0
                          try clear c26b1
                          try clear c29
                          try clear c31
                          try clear c31b0
                          try clear c31b1
                          try clear c32
                          try clear c32b0
                          try clear c32b1
                          try clear c35
                          try clear c36
                          try clear c39
                          try clear q39
                          try clear p40
                          try clear q40
                          try clear hx40
                          try clear c41
                          try clear q45
                          try clear c52
                          try clear c52b0
                          try clear c55
                          try clear c56
                          try clear c56b0
                          try clear c56b1
                          try clear c60
                          try clear c60b0
                          try clear hx404_0
                          try clear p2
                          try clear p404
                          try clear q39
                          try clear q404
                          try clear q45
                          obtain ⟨kq, x56_56, rfl, HA, HJ56, HO_4, HO_5, HO_6, HB⟩ := hcut
                          cases kq with
                          | zero => exact absurd HA.out (by simp [gatelineref11_Get.j2])
                          | succ kj56 =>
                            have H := HA.out
                            clear HA
                            simp only [gatelineref11_Get.j2] at H
                            by_cases c61 : x56_56 = true
                            · subst c61
                              have H1 : (some (([] : List Int), 7)) = some (r1, r2) := by rw [if_pos rfl] at H; exact H
                              clear H
                              have H := H1
                              clear H1
                              simp only [Option.some.injEq, Prod.mk.injEq] at H
                              obtain ⟨rfl, rfl⟩ := H
                              go_wp2
                              go_ret2
                              exact ⟨_, by first | rfl | (simp [errW_none, errW_some] <;> rfl) | (simp only [← hji15]; first | rfl | (simp [errW_none, errW_some] <;> rfl)) | (simp [*, errW_none, errW_some] <;> rfl), by first | exact Kd.R_nil _ _ _ _ _ | exact Kd.N_nil _ _ _ _ _ | exact Kd.V_nil _ _ _ _ _ | exact Kd.Q_nil _ _ _ _ _ | exact Kd.S_nil _ _ _ _ _, by repeat (first | (with_reducible first | exact HB.out | apply below_alloc | apply pw_below_drewN | apply below_drew1) | exact HB.out)⟩
                            · replace c61 := Bool.eq_false_iff.mpr c61
                              subst c61
                              have H1 : (if x5_2.length < 17592186044416 then ((some (x5_2 ++ [t406] : List Int)).bind fun y408 => (if t406 = 15 then (gatelineref11_Get.l0 kj56 l0 t394 y408 x6_2 (wrap64 (x7_2 + 5))) else (if x6_2.length < 140737488355328 then (gatelineref11_Get.l0 kj56 l0 t394 y408 (x6_2 ++ [(t406) % 256]) (wrap64 (x7_2 + 5))) else (none)))) else (none)) = some (r1, r2) := by rw [if_neg (show ¬ (false = true) by decide)] at H; exact H
                              clear H
                              have H := H1
                              clear H1
                              by_cases c62 : x5_2.length < 17592186044416
                              · rw [if_pos c62] at H
                                have LMc62 := Aside0.mk c62
                                clear c62
                                obtain ⟨y408, hy408⟩ : ∃ y_ : List Int, y_ = (x5_2 ++ [t406]) := ⟨_, rfl⟩
                                replace H : (if t406 = 15 then (gatelineref11_Get.l0 kj56 l0 t394 y408 x6_2 (wrap64 (x7_2 + 5))) else (if x6_2.length < 140737488355328 then (gatelineref11_Get.l0 kj56 l0 t394 y408 (x6_2 ++ [(t406) % 256]) (wrap64 (x7_2 + 5))) else (none))) = some (r1, r2) := by first | (rw [hy408]; with_reducible exact H) | (have H2_ := (Option.bind_some _ _).symm.trans H; rw [hy408]; with_reducible exact H2_) | (have H2_ := (Option.bind_some _ _).symm.trans H; with_reducible exact H2_) | with_reducible exact H | (rw [hy408]; exact H) | exact H
                                have Ny408 := Aside0.mk hy408
                                clear hy408
                                by_cases c63 : t406 = 15
                                · rw [if_pos c63] at H
                                  have c63b0 : (t406 == 15) = true := beq_iff_eq.mpr c63
                                  have c63b1 : (t406 != 15) = false := bne_eq_false_iff_eq.mpr c63
                                  clear c63
                                  have H' := Aside0.mk H
                                  clear H
                                  go_wp2_with (first | ((with_reducible refine gate_builtin (b := .append) (xs := #[.tmp 57, .tmp 59]) rfl ?_); (try (refine gate_guard (by rfl) ?_; dsimp only)); at_builtin; refine Kd.R_append (Kd.int .i64) (w0 := w) w.heap.size rfl (.tmp 57) (.tmp 59) 35 3 (.int .i64 0) 8 rfl Try.underlying35 info3 rfl (by decide) (by omega) (.slice (some ad404) x5_2.length co58) x5_2 t406 [.int .i64 t406] (fun _ => True) (fun _ => False) rfl rfl ?aP (fun _ hk => hk.elim) ?aF ?aO ?aB ?aS ?aL ?_; (case aP => exact rfl); (case aB => exact (by repeat (first | (with_reducible first | exact HB.out | apply below_alloc | apply pw_below_drewN | apply below_drew1) | exact HB.out))); (case aF => exact (fun _ _ => trivial)); (case aO => exact (by (with_reducible repeat (first | apply Kd.R_alloc | apply Kd.R_drewN | apply Kd.R_drew)); exact HO_5.out)); (case aS => exact (below_size (by repeat (first | (with_reducible first | exact HB.out | apply below_alloc | apply pw_below_drewN | apply below_drew1) | exact HB.out)))); (case aL => have := LMc62.out; omega); intro v409 w64 ho hb hg hat; rw [← Ny408.out] at ho; have n0_ := Aside0.mk (Kd.R_over' (by (with_reducible repeat (first | apply Kd.R_alloc | apply Kd.R_drewN | apply Kd.R_drew)); exact HO_4.out) (Kd.R_typed (by (with_reducible repeat (first | apply Kd.R_alloc | apply Kd.R_drewN | apply Kd.R_drew)); exact HO_5.out)) (by decide) hg); have n1_ := Aside0.mk (Kd.R_over' (by (with_reducible repeat (first | apply Kd.R_alloc | apply Kd.R_drewN | apply Kd.R_drew)); exact HO_6.out) (Kd.R_typed (by (with_reducible repeat (first | apply Kd.R_alloc | apply Kd.R_drewN | apply Kd.R_drew)); exact HO_5.out)) (by decide) hg); have n2_ := Aside0.mk (hb); have n3_ := Aside0.mk (ho); clear HO_4; clear HO_6; clear HB; clear HO_5; have HO_4 := n0_; have HO_6 := n1_; have HB := n2_; have HO410 := n3_; clear n0_ n1_ n2_ n3_; clear ho hb hg hat))
                                  go_roundg kj56
                                  case measure => have := HJ1.out; have := HK2.out; have := HJ56.out; omega
                                  case rel => exact ⟨(y408), (x6_2), (wrap64 (x7_2 + 5)), (by first | rfl | (simp; done) | (simp [*]; done)), H', ⟨by have := HJ1.out; have := HK2.out; have := HJ56.out; omega⟩, ⟨by (with_reducible repeat (first | apply Kd.R_alloc | apply Kd.R_drewN | apply Kd.R_drew)); exact HO_4.out⟩, ⟨by (with_reducible repeat (first | apply Kd.R_alloc | apply Kd.R_drewN | apply Kd.R_drew)); exact HO410.out⟩, ⟨by (with_reducible repeat (first | apply Kd.R_alloc | apply Kd.R_drewN | apply Kd.R_drew)); exact HO_6.out⟩, ⟨by repeat (first | (with_reducible first | exact HB.out | apply below_alloc | apply pw_below_drewN | apply below_drew1) | exact HB.out)⟩⟩
                                · rw [if_neg c63] at H
                                  have c63b0 : (t406 == 15) = false := beq_eq_false_iff_ne.mpr c63
                                  have c63b1 : (t406 != 15) = true := bne_iff_ne.mpr c63
                                  by_cases c65 : x6_2.length < 140737488355328
                                  · rw [if_pos c65] at H
                                    have LMc65 := Aside0.mk c65
                                    clear c65
                                    obtain ⟨y411, hy411⟩ : ∃ y_ : List Int, y_ = (x6_2 ++ [(t406) % 256]) := ⟨_, rfl⟩
                                    replace H : (gatelineref11_Get.l0 kj56 l0 t394 y408 y411 (wrap64 (x7_2 + 5))) = some (r1, r2) := by first | (rw [hy411]; with_reducible exact H) | (have H2_ := (Option.bind_some _ _).symm.trans H; rw [hy411]; with_reducible exact H2_) | (have H2_ := (Option.bind_some _ _).symm.trans H; with_reducible exact H2_) | with_reducible exact H | (rw [hy411]; exact H) | exact H
                                    have Ny411 := Aside0.mk hy411
                                    clear hy411
                                    have H' := Aside0.mk H
                                    clear H
                                    go_wp2_with (first | ((with_reducible refine gate_builtin (b := .append) (xs := #[.tmp 57, .tmp 59]) rfl ?_); (try (refine gate_guard (by rfl) ?_; dsimp only)); at_builtin; refine Kd.R_append (Kd.int .i64) (w0 := w) w.heap.size rfl (.tmp 57) (.tmp 59) 35 3 (.int .i64 0) 8 rfl Try.underlying35 info3 rfl (by decide) (by omega) (.slice (some ad404) x5_2.length co58) x5_2 t406 [.int .i64 t406] (fun _ => True) (fun _ => False) rfl rfl ?aP (fun _ hk => hk.elim) ?aF ?aO ?aB ?aS ?aL ?_; (case aP => exact rfl); (case aB => exact (by repeat (first | (with_reducible first | exact HB.out | apply below_alloc | apply pw_below_drewN | apply below_drew1) | exact HB.out))); (case aF => exact (fun _ _ => trivial)); (case aO => exact (by (with_reducible repeat (first | apply Kd.R_alloc | apply Kd.R_drewN | apply Kd.R_drew)); exact HO_5.out)); (case aS => exact (below_size (by repeat (first | (with_reducible first | exact HB.out | apply below_alloc | apply pw_below_drewN | apply below_drew1) | exact HB.out)))); (case aL => have := LMc62.out; omega); intro v409 w66 ho hb hg hat; rw [← Ny408.out] at ho; have n0_ := Aside0.mk (Kd.R_over' (by (with_reducible repeat (first | apply Kd.R_alloc | apply Kd.R_drewN | apply Kd.R_drew)); exact HO_4.out) (Kd.R_typed (by (with_reducible repeat (first | apply Kd.R_alloc | apply Kd.R_drewN | apply Kd.R_drew)); exact HO_5.out)) (by decide) hg); have n1_ := Aside0.mk (Kd.R_over' (by (with_reducible repeat (first | apply Kd.R_alloc | apply Kd.R_drewN | apply Kd.R_drew)); exact HO_6.out) (Kd.R_typed (by (with_reducible repeat (first | apply Kd.R_alloc | apply Kd.R_drewN | apply Kd.R_drew)); exact HO_5.out)) (by decide) hg); have n2_ := Aside0.mk (hb); have n3_ := Aside0.mk (ho); clear HO_4; clear HO_6; clear HB; clear HO_5; have HO_4 := n0_; have HO_6 := n1_; have HB := n2_; have HO410 := n3_; clear n0_ n1_ n2_ n3_; clear ho hb hg hat) | ((with_reducible refine gate_builtin (b := .append) (xs := #[.tmp 63, .tmp 66]) rfl ?_); (try (refine gate_guard (by rfl) ?_; dsimp only)); at_builtin; refine Kd.R_append (Kd.int .u8) (w0 := w) w.heap.size rfl (.tmp 63) (.tmp 66) 22 5 (.int .u8 0) 1 rfl Try.underlying22 info5 rfl (by decide) (by omega) u6 x6_2 ((t406) % 256) [.int .u8 ((t406) % 256)] (fun _ => True) (fun _ => False) rfl rfl ?aP (fun _ hk => hk.elim) ?aF ?aO ?aB ?aS ?aL ?_; (case aP => exact rfl); (case aB => exact (by repeat (first | (with_reducible first | exact HB.out | apply below_alloc | apply pw_below_drewN | apply below_drew1) | exact HB.out))); (case aF => exact (fun _ _ => trivial)); (case aO => exact (by (with_reducible repeat (first | apply Kd.R_alloc | apply Kd.R_drewN | apply Kd.R_drew)); exact HO_6.out)); (case aS => exact (below_size (by repeat (first | (with_reducible first | exact HB.out | apply below_alloc | apply pw_below_drewN | apply below_drew1) | exact HB.out)))); (case aL => have := LMc65.out; omega); intro v412 w67 ho hb hg hat; rw [← Ny411.out] at ho; have n0_ := Aside0.mk (Kd.R_over' (by (with_reducible repeat (first | apply Kd.R_alloc | apply Kd.R_drewN | apply Kd.R_drew)); exact HO_4.out) (Kd.R_typed (by (with_reducible repeat (first | apply Kd.R_alloc | apply Kd.R_drewN | apply Kd.R_drew)); exact HO_6.out)) (by decide) hg); have n1_ := Aside0.mk (Kd.R_over' (by (with_reducible repeat (first | apply Kd.R_alloc | apply Kd.R_drewN | apply Kd.R_drew)); exact HO410.out) (Kd.R_typed (by (with_reducible repeat (first | apply Kd.R_alloc | apply Kd.R_drewN | apply Kd.R_drew)); exact HO_6.out)) (by decide) hg); have n2_ := Aside0.mk (hb); have n3_ := Aside0.mk (ho); clear HO_4; clear HO410; clear HB; clear HO_6; have HO_4 := n0_; have HO410 := n1_; have HB := n2_; have HO413 := n3_; clear n0_ n1_ n2_ n3_; clear ho hb hg hat))
                                    go_roundg kj56
                                    case measure => have := HJ1.out; have := HK2.out; have := HJ56.out; omega
                                    case rel => exact ⟨(y408), (y411), (wrap64 (x7_2 + 5)), (by first | rfl | (simp; done) | (simp [*]; done)), H', ⟨by have := HJ1.out; have := HK2.out; have := HJ56.out; omega⟩, ⟨by (with_reducible repeat (first | apply Kd.R_alloc | apply Kd.R_drewN | apply Kd.R_drew)); exact HO_4.out⟩, ⟨by (with_reducible repeat (first | apply Kd.R_alloc | apply Kd.R_drewN | apply Kd.R_drew)); exact HO410.out⟩, ⟨by (with_reducible repeat (first | apply Kd.R_alloc | apply Kd.R_drewN | apply Kd.R_drew)); exact HO413.out⟩, ⟨by repeat (first | (with_reducible first | exact HB.out | apply below_alloc | apply pw_below_drewN | apply below_drew1) | exact HB.out)⟩⟩
                                  · rw [if_neg c65] at H
                                    exact absurd H (by simp)
                              · rw [if_neg c62] at H
                                exact absurd H (by simp)
                      · rw [if_neg c56] at H
                        have c56b0 : (t407 == 0) = false := beq_eq_false_iff_ne.mpr c56
                        have c56b1 : (t407 != 0) = true := bne_iff_ne.mpr c56
                        simp only [Option.some.injEq, Prod.mk.injEq] at H
                        obtain ⟨rfl, rfl⟩ := H
                        obtain ⟨Ao68, co68, eo68⟩ := Kd.R_slice HO_5.out
                        subst eo68
                        have p404 : 0 ≤ ((ji15) : Int) := of_decide_eq_true (by first | (with_reducible assumption) | assumption)
                        have q404 : (ji15) < (x5_2.length : Int) := of_decide_eq_true (by first | (with_reducible assumption) | assumption)
                        obtain ⟨ad404, e404, hx404_0⟩ := Kd.at_int (Kd.R_reads' HO_5.out).2.2 (ji15) p404 q404
                        cases e404
                        replace p404 := eq_true p404
                        replace q404 := eq_true q404
                        go_wp2_with (first | ((with_reducible refine gate_callee (f := 55) rfl ?_); refine goesL_ (some 44) rfl rfl Try.func55 (by kernel_rfl) rfl #[.slice Ao9 t394.length co9, .int .i64 x7_2] rfl (by (try simp only [List.map_toArray, List.map_cons, List.map_nil]); first | done | rfl | (simp only [List.length_drop, List.length_take]; rfl)) ?_; (with_reducible refine (gatelineref11_at.calls _ _ t394 x7_2 t405 _ ?side1 ?side2 A54.out).mono ?_); (case side1 => repeat (first | exact (Kd.R_reads' HO_4.out).2.2 | (with_reducible refine Kd.C_alloc ?_ _) | (with_reducible refine Kd.C_drewN ?_ _) | (with_reducible refine Kd.C_drew ?_))); (case side2 => exact (Kd.R_reads' HO_4.out).2.1); rintro e w69 ⟨rfl, hb⟩; refine ⟨_, rfl, ?_⟩; have n0_ := Aside0.mk (Kd.R_below (by (with_reducible repeat (first | apply Kd.R_alloc | apply Kd.R_drewN | apply Kd.R_drew)); exact HO_4.out) hb); have n1_ := Aside0.mk (Kd.R_below (by (with_reducible repeat (first | apply Kd.R_alloc | apply Kd.R_drewN | apply Kd.R_drew)); exact HO_5.out) hb); have n2_ := Aside0.mk (Kd.R_below (by (with_reducible repeat (first | apply Kd.R_alloc | apply Kd.R_drewN | apply Kd.R_drew)); exact HO_6.out) hb); have n3_ := Aside0.mk (below_step (by repeat (first | (with_reducible first | exact HB.out | apply below_alloc | apply pw_below_drewN | apply below_drew1) | exact HB.out)) hb); clear HO_4; clear HO_5; clear HO_6; clear HB; have HO_4 := n0_; have HO_5 := n1_; have HO_6 := n2_; have HB := n3_; clear n0_ n1_ n2_ n3_; (try clear hb); (try clear hb2); (try clear hk); (try clear hi)) | ((with_reducible refine gate_callee (f := 26) rfl ?_); refine goesL_ (some 45) rfl rfl Try.func26 (by kernel_rfl) rfl #[.int .i64 t405] rfl (by (try simp only [List.map_toArray, List.map_cons, List.map_nil]); first | done | rfl | (simp only [List.length_drop, List.length_take]; rfl)) ?_; (with_reducible refine (gatelineref10_Value.calls k2 t405 t406 t407 _ A55.out).mono ?_); rintro e w' ⟨rfl, ⟨nd, rfl⟩⟩; refine ⟨_, rfl, ?_⟩))
                        go_ret2
                        exact ⟨_, by first | rfl | (simp [errW_none, errW_some] <;> rfl) | (simp only [← hji15]; first | rfl | (simp [errW_none, errW_some] <;> rfl)) | (simp [*, errW_none, errW_some] <;> rfl), by first | exact Kd.R_nil _ _ _ _ _ | exact Kd.N_nil _ _ _ _ _ | exact Kd.V_nil _ _ _ _ _ | exact Kd.Q_nil _ _ _ _ _ | exact Kd.S_nil _ _ _ _ _, by repeat (first | (with_reducible first | exact HB.out | apply below_alloc | apply pw_below_drewN | apply below_drew1) | exact HB.out)⟩
                · rw [if_neg c17] at H
                  exact absurd H (by simp)
              · rw [if_neg c16] at H
                exact absurd H (by simp)
        · rw [if_neg c7] at H
          have c7b0 : (t397 == 11) = false := beq_eq_false_iff_ne.mpr c7
          have c7b1 : (t397 != 11) = true := bne_iff_ne.mpr c7
          simp only [Option.some.injEq, Prod.mk.injEq] at H
          obtain ⟨rfl, rfl⟩ := H
          go_wp2_with (first | ((with_reducible refine gate_callee (f := 39) rfl ?_); refine goesL_ (some 23) rfl rfl Try.func39 (by kernel_rfl) rfl #[.slice A0 l0.length c0] rfl (by (try simp only [List.map_toArray, List.map_cons, List.map_nil]); first | done | rfl | (simp only [List.length_drop, List.length_take]; rfl)) ?_; (with_reducible refine (gatelineref11_Unpack.calls kj1 _ _ l0 t394 _ ?side1 ?side2 A5.out).mono ?_); (case side1 => repeat (first | exact (Kd.C_below HR0.out HB.out) | (with_reducible refine Kd.C_alloc ?_ _) | (with_reducible refine Kd.C_drewN ?_ _) | (with_reducible refine Kd.C_drew ?_))); (case side2 => exact HC0.out); rintro e w70 ⟨v395, rfl, ho0, hb⟩; refine ⟨_, rfl, ?_⟩; have n0_ := Aside0.mk (Kd.R_lower ho0 (below_size (by repeat (first | (with_reducible first | exact HB.out | apply below_alloc | apply pw_below_drewN | apply below_drew1) | exact HB.out)))); have n1_ := Aside0.mk (below_step (by repeat (first | (with_reducible first | exact HB.out | apply below_alloc | apply pw_below_drewN | apply below_drew1) | exact HB.out)) hb); clear HB; have HO396 := n0_; have HB := n1_; clear n0_ n1_; (try clear hb); (try clear hb2); (try clear hk); (try clear hi); (try clear ho0); obtain ⟨Ao71, co71, eo71⟩ := Kd.R_slice HO396.out; subst eo71) | ((with_reducible refine gate_callee (f := 55) rfl ?_); refine goesL_ (some 25) rfl rfl Try.func55 (by kernel_rfl) rfl #[.slice Ao71 t394.length co71, .int .i64 0] rfl (by (try simp only [List.map_toArray, List.map_cons, List.map_nil]); first | done | rfl | (simp only [List.length_drop, List.length_take]; rfl)) ?_; (with_reducible refine (gatelineref11_at.calls _ _ t394 0 t397 _ ?side1 ?side2 A6.out).mono ?_); (case side1 => repeat (first | exact (Kd.R_reads' HO396.out).2.2 | (with_reducible refine Kd.C_alloc ?_ _) | (with_reducible refine Kd.C_drewN ?_ _) | (with_reducible refine Kd.C_drew ?_))); (case side2 => exact (Kd.R_reads' HO396.out).2.1); rintro e w72 ⟨rfl, hb⟩; refine ⟨_, rfl, ?_⟩; have n0_ := Aside0.mk (Kd.R_below (by (with_reducible repeat (first | apply Kd.R_alloc | apply Kd.R_drewN | apply Kd.R_drew)); exact HO396.out) hb); have n1_ := Aside0.mk (below_step (by repeat (first | (with_reducible first | exact HB.out | apply below_alloc | apply pw_below_drewN | apply below_drew1) | exact HB.out)) hb); clear HO396; clear HB; have HO396 := n0_; have HB := n1_; clear n0_ n1_; (try clear hb); (try clear hb2); (try clear hk); (try clear hi)))
          go_ret2
          exact ⟨_, by first | rfl | (simp [errW_none, errW_some] <;> rfl) | (simp [*, errW_none, errW_some] <;> rfl), by first | exact Kd.R_nil _ _ _ _ _ | exact Kd.N_nil _ _ _ _ _ | exact Kd.V_nil _ _ _ _ _ | exact Kd.Q_nil _ _ _ _ _ | exact Kd.S_nil _ _ _ _ _, by repeat (first | (with_reducible first | exact HB.out | apply below_alloc | apply pw_below_drewN | apply below_drew1) | exact HB.out)⟩

end Go.Proofs.Ytfmpeojlaibblaa.S

/- Written for this claim by a program of this session (handprint.py, over the kit's print). Lean checks it. -/
namespace Go.Proofs.Ytfmpeojlaibblaa.S
open Go.RowKit Go.Proofs.YtfmpeojlaibblaaW.PrintWords Go.Proofs.YtfmpeojlaibblaaW.PrintLast Go.Proofs.YtfmpeojlaibblaaW.PrintMore
attribute [local go_sem] max2_int min2_int max_two min_two max_three min_three max_four min_four   -- for this text's walks alone
set_option linter.unusedVariables false
set_option linter.unusedSimpArgs false

/-! ### gatelinelaw11_TrackGets: function 12 -/
def gatelinelaw11_TrackGets.f (k : Nat) (l0 : List Int) : Option (Bool) := if (l0.length : Int) > 1000 then (some true) else ((track_Get.f k l0).bind fun bt427 => ((gatelineref11_Get.f k l0).bind fun bt431 => ((gatelinelaw11_tracked.f k).bind fun t435 => (if t435 = true then ((gatelineref01_Same.f k bt427.1 bt431.1).bind fun t436 => (if t436 = true then (some (bt427.2 == bt431.2)) else (none))) else (none)))))
theorem gatelinelaw11_TrackGets.mono : ∀ a0 k, LeO (gatelinelaw11_TrackGets.f k a0) (gatelinelaw11_TrackGets.f (k + 1) a0) := by
  intro a0 k
  unfold gatelinelaw11_TrackGets.f
  repeat' first
      | (with_reducible exact gatelinelaw11_tracked.mono _)
      | (with_reducible exact gatelineref01_Same.mono _ _ _)
      | (with_reducible exact gatelineref11_Get.mono _ _)
      | (with_reducible exact track_Get.mono _ _)
      | (with_reducible exact LeO.refl _)
      | (with_reducible exact LeO.none _)
      | (with_reducible refine LeO.ite ?_ ?_)
      | (with_reducible refine LeO.bind ?_ (fun _ => ?_))
      | exact gatelinelaw11_tracked.mono _
      | exact gatelineref01_Same.mono _ _ _
      | exact gatelineref11_Get.mono _ _
      | exact track_Get.mono _ _
      | exact LeO.none _
      | refine LeO.ite ?_ ?_
      | refine LeO.bind ?_ (fun _ => ?_)
set_option maxHeartbeats 8000000 in
set_option maxRecDepth 100000 in
theorem gatelinelaw11_TrackGets.calls (k : Nat) (A0 : Option Addr) (c0 : Nat) (l0 : List Int) (r : Bool) (w : World) (hr0 : Kd.C (Kd.int .u8) w A0 l0.length l0) (hc0 : l0.length ≤ c0) (h : gatelinelaw11_TrackGets.f k l0 = some r) :
    Calls Try.prog 12 #[.slice A0 l0.length c0] w fun e w' => e = .returned (.bool r) ∧ Below w.heap.size w w' := by
  have HR0 := Aside0.mk hr0
  have HC0 := Aside0.mk hc0
  clear hr0 hc0
  have HB := Aside0.mk (Below.refl w.heap.size w)
  have H : (if (l0.length : Int) > 1000 then (some true) else ((track_Get.f k l0).bind fun bt427 => ((gatelineref11_Get.f k l0).bind fun bt431 => ((gatelinelaw11_tracked.f k).bind fun t435 => (if t435 = true then ((gatelineref01_Same.f k bt427.1 bt431.1).bind fun t436 => (if t436 = true then (some (bt427.2 == bt431.2)) else (none))) else (none)))))) = some r := h
  clear h
  by_cases c2 : (l0.length : Int) > 1000
  · rw [if_pos c2] at H
    have c2b0 : decide (1000 < (l0.length : Int)) = true := decide_eq_true c2
    have c2b1 : decide (1000 < l0.length) = true := decide_eq_true (by omega)
    clear c2
    obtain rfl := Option.some.inj H
    go_enter Try.func12, Try.ntmps12
    go_wp2
    go_ret
    exact ⟨by first | rfl | (simp [errW_none, errW_some] <;> rfl) | (simp [*, errW_none, errW_some] <;> rfl), by repeat (first | (with_reducible first | exact HB.out | apply below_alloc | apply pw_below_drewN | apply below_drew1) | exact HB.out)⟩
  · rw [if_neg c2] at H
    have c2b0 : decide (1000 < (l0.length : Int)) = false := decide_eq_false c2
    have c2b1 : decide (1000 < l0.length) = false := decide_eq_false (by omega)
    clear c2
    replace H := Option.bind_eq_some_iff.mp H
    obtain ⟨⟨t427, t428⟩, A30, H⟩ := H
    replace H : ((gatelineref11_Get.f k l0).bind fun bt431 => ((gatelinelaw11_tracked.f k).bind fun t435 => (if t435 = true then ((gatelineref01_Same.f k t427 bt431.1).bind fun t436 => (if t436 = true then (some (t428 == bt431.2)) else (none))) else (none)))) = some r := H
    have A3 := Aside0.mk A30
    clear A30
    replace H := Option.bind_eq_some_iff.mp H
    obtain ⟨⟨t431, t432⟩, A40, H⟩ := H
    replace H : ((gatelinelaw11_tracked.f k).bind fun t435 => (if t435 = true then ((gatelineref01_Same.f k t427 t431).bind fun t436 => (if t436 = true then (some (t428 == t432)) else (none))) else (none))) = some r := H
    have A4 := Aside0.mk A40
    clear A40
    replace H := Option.bind_eq_some_iff.mp H
    obtain ⟨t435, A50, H⟩ := H
    replace H : (if t435 = true then ((gatelineref01_Same.f k t427 t431).bind fun t436 => (if t436 = true then (some (t428 == t432)) else (none))) else (none)) = some r := H
    have A5 := Aside0.mk A50
    clear A50
    by_cases c6 : t435 = true
    · subst c6
      have H1 : ((gatelineref01_Same.f k t427 t431).bind fun t436 => (if t436 = true then (some (t428 == t432)) else (none))) = some r := by rw [if_pos rfl] at H; exact H
      clear H
      have H := H1
      clear H1
      replace H := Option.bind_eq_some_iff.mp H
      obtain ⟨t436, A70, H⟩ := H
      replace H : (if t436 = true then (some (t428 == t432)) else (none)) = some r := H
      have A7 := Aside0.mk A70
      clear A70
      by_cases c8 : t436 = true
      · subst c8
        have H1 : (some (t428 == t432)) = some r := by rw [if_pos rfl] at H; exact H
        clear H
        have H := H1
        clear H1
        obtain rfl := Option.some.inj H
        go_enter Try.func12, Try.ntmps12
        go_wp2_with (first | ((with_reducible refine gate_callee (f := 22) rfl ?_); refine goesL_ (some 12) rfl rfl Try.func22 (by kernel_rfl) rfl #[.slice A0 l0.length c0] rfl (by (try simp only [List.map_toArray, List.map_cons, List.map_nil]); first | done | rfl | (simp only [List.length_drop, List.length_take]; rfl)) ?_; (with_reducible refine (track_Get.calls k _ _ l0 t427 t428 _ ?side1 ?side2 A3.out).mono ?_); (case side1 => repeat (first | exact HR0.out | (with_reducible refine Kd.C_alloc ?_ _) | (with_reducible refine Kd.C_drewN ?_ _) | (with_reducible refine Kd.C_drew ?_))); (case side2 => exact HC0.out); rintro e w9 ⟨v429, rfl, ho0, hb⟩; refine ⟨_, rfl, ?_⟩; have n0_ := Aside0.mk (Kd.R_lower ho0 (below_size (by repeat (first | (with_reducible first | exact HB.out | apply below_alloc | apply pw_below_drewN | apply below_drew1) | exact HB.out)))); have n1_ := Aside0.mk (below_step (by repeat (first | (with_reducible first | exact HB.out | apply below_alloc | apply pw_below_drewN | apply below_drew1) | exact HB.out)) hb); clear HB; have HO430 := n0_; have HB := n1_; clear n0_ n1_; (try clear hb); (try clear hb2); (try clear hk); (try clear hi); (try clear ho0)) | ((with_reducible refine gate_callee (f := 41) rfl ?_); refine goesL_ (some 17) rfl rfl Try.func41 (by kernel_rfl) rfl #[.slice A0 l0.length c0] rfl (by (try simp only [List.map_toArray, List.map_cons, List.map_nil]); first | done | rfl | (simp only [List.length_drop, List.length_take]; rfl)) ?_; (with_reducible refine (gatelineref11_Get.calls k _ _ l0 t431 t432 _ ?side1 ?side2 A4.out).mono ?_); (case side1 => repeat (first | exact (Kd.C_below HR0.out HB.out) | (with_reducible refine Kd.C_alloc ?_ _) | (with_reducible refine Kd.C_drewN ?_ _) | (with_reducible refine Kd.C_drew ?_))); (case side2 => exact HC0.out); rintro e w10 ⟨v433, rfl, ho0, hb⟩; refine ⟨_, rfl, ?_⟩; have n0_ := Aside0.mk (Kd.R_elder' (by (with_reducible repeat (first | apply Kd.R_alloc | apply Kd.R_drewN | apply Kd.R_drew)); exact HO430.out) (Kd.R_base ho0) hb); have n1_ := Aside0.mk (Kd.R_lower (Kd.R_new' ho0 (Kd.R_lt (by (with_reducible repeat (first | apply Kd.R_alloc | apply Kd.R_drewN | apply Kd.R_drew)); exact HO430.out))) (below_size (by repeat (first | (with_reducible first | exact HB.out | apply below_alloc | apply pw_below_drewN | apply below_drew1) | exact HB.out)))); have n2_ := Aside0.mk (below_step (by repeat (first | (with_reducible first | exact HB.out | apply below_alloc | apply pw_below_drewN | apply below_drew1) | exact HB.out)) hb); clear HO430; clear HB; have HO430 := n0_; have HO434 := n1_; have HB := n2_; clear n0_ n1_ n2_; (try clear hb); (try clear hb2); (try clear hk); (try clear hi); (try clear ho0)) | ((with_reducible refine gate_callee (f := 34) rfl ?_); refine goesL_ (some 20) rfl rfl Try.func34 (by kernel_rfl) rfl #[] rfl (by (try simp only [List.map_toArray, List.map_cons, List.map_nil]); first | done | rfl | (simp only [List.length_drop, List.length_take]; rfl)) ?_; (with_reducible refine (gatelinelaw11_tracked.calls k  true _ A5.out).mono ?_); rintro e w11 ⟨rfl, hb⟩; refine ⟨_, rfl, ?_⟩; have n0_ := Aside0.mk (Kd.R_below (by (with_reducible repeat (first | apply Kd.R_alloc | apply Kd.R_drewN | apply Kd.R_drew)); exact HO430.out) hb); have n1_ := Aside0.mk (Kd.R_below (by (with_reducible repeat (first | apply Kd.R_alloc | apply Kd.R_drewN | apply Kd.R_drew)); exact HO434.out) hb); have n2_ := Aside0.mk (below_step (by repeat (first | (with_reducible first | exact HB.out | apply below_alloc | apply pw_below_drewN | apply below_drew1) | exact HB.out)) hb); clear HO430; clear HO434; clear HB; have HO430 := n0_; have HO434 := n1_; have HB := n2_; clear n0_ n1_ n2_; (try clear hb); (try clear hb2); (try clear hk); (try clear hi); obtain ⟨Ao12, co12, eo12⟩ := Kd.R_slice HO430.out; subst eo12; obtain ⟨Ao13, co13, eo13⟩ := Kd.R_slice HO434.out; subst eo13) | (go_at_call 20; (with_reducible refine (gatelineref01_Same.calls k _ _ t427 _ _ t431 true _ ?side1 ?side2 ?side3 ?side4 A7.out).mono ?_); (case side1 => repeat (first | exact (Kd.R_reads' HO430.out).2.2 | (with_reducible refine Kd.C_alloc ?_ _) | (with_reducible refine Kd.C_drewN ?_ _) | (with_reducible refine Kd.C_drew ?_))); (case side2 => exact (Kd.R_reads' HO430.out).2.1); (case side3 => repeat (first | exact (Kd.R_reads' HO434.out).2.2 | (with_reducible refine Kd.C_alloc ?_ _) | (with_reducible refine Kd.C_drewN ?_ _) | (with_reducible refine Kd.C_drew ?_))); (case side4 => exact (Kd.R_reads' HO434.out).2.1); rintro e w' ⟨rfl, ⟨nd, rfl⟩⟩))
        go_ret
        exact ⟨by first | rfl | (simp [errW_none, errW_some] <;> rfl) | (simp [*, errW_none, errW_some] <;> rfl), by repeat (first | (with_reducible first | exact HB.out | apply below_alloc | apply pw_below_drewN | apply below_drew1) | exact HB.out)⟩
      · replace c8 := Bool.eq_false_iff.mpr c8
        subst c8
        have H1 : (none) = some r := by rw [if_neg (show ¬ (false = true) by decide)] at H; exact H
        clear H
        have H := H1
        clear H1
        exact absurd H (by simp)
    · replace c6 := Bool.eq_false_iff.mpr c6
      subst c6
      have H1 : (none) = some r := by rw [if_neg (show ¬ (false = true) by decide)] at H; exact H
      clear H
      have H := H1
      clear H1
      exact absurd H (by simp)

/-- THE ONE PURE STATEMENT of gatelinelaw11_TrackGets: yours. -/
def gatelinelaw11_TrackGets.Pure : Prop := ∀ (l0 : List Int), l0.length ≤ maxLen → l0.length * 1 ≤ 140737488351232 → (∀ x ∈ l0, (Lit.int .u8 x).wf = true) → ∃ k, gatelinelaw11_TrackGets.f k l0 = some true
theorem gatelinelaw11_TrackGets.walk (P : gatelinelaw11_TrackGets.Pure) (a0 : Option Addr) (len0 cap0 : Nat) (z0 : List Int) (w : World) (w0 : (a0 = none ∧ len0 = 0 ∧ cap0 = 0 ∧ z0 = []) ∨ ∃ x, a0 = some x ∧ len0 ≤ cap0 ∧ cap0 ≤ maxLen ∧ z0.length = cap0 ∧ (∀ i, i < z0.length → w.cell? (x.add i) = some (.int .u8 (z0.getD i 0))) ∧ ∀ n ∈ z0, (Lit.int .u8 n).wf = true) (y0 : len0 * 1 ≤ 140737488351232) :
    Calls Try.prog 12 #[.slice a0 len0 cap0] w fun e w' => e = .returned (.bool true) ∧ Below w.heap.size w w' := by
  obtain ⟨l0, rfl, hr0, hm0, hw0, hc0⟩ := ReadsInt.ofRowC w0
  obtain ⟨k, h⟩ := P l0 hm0 y0 hw0
  refine (gatelinelaw11_TrackGets.calls k _ _ l0 true w (Kd.C_of_reads (d := (0 : Int)) (h1 := fun _ => rfl) hr0) hc0 h).mono ?_
  rintro e w' ⟨rfl, hd⟩
  exact ⟨rfl, hd⟩

end Go.Proofs.Ytfmpeojlaibblaa.S

/- Written for this claim by a program of this session (handprint.py, over the kit's print). Lean checks it. -/
namespace Go.Proofs.Ytfmpeojlaibblaa.S
open Go.RowKit Go.Proofs.YtfmpeojlaibblaaW.PrintWords Go.Proofs.YtfmpeojlaibblaaW.PrintLast Go.Proofs.YtfmpeojlaibblaaW.PrintMore
attribute [local go_sem] max2_int min2_int max_two min_two max_three min_three max_four min_four   -- for this text's walks alone
set_option linter.unusedVariables false
set_option linter.unusedSimpArgs false

/-! ### gatelineref11_Put: function 40 -/
def gatelineref11_Put.l0 : Nat → List Int → List Int → Int → Option (List Int × Int)
  | 0, _, _, _ => none
  | k + 1, x0, x4, x5 => if x5 < (x0.length : Int) then (if 0 ≤ x5 then (if (rd x0 x5) > 9 then (some (([] : List Int), 7)) else (if x4.length < 17592186044416 then (gatelineref11_Put.l0 k x0 (x4 ++ [wrap64 (rd x0 x5)]) (wrap64 (x5 + 1))) else (none))) else (none)) else (if x4.length < 17592186044416 then ((some (x4 ++ [15] : List Int)).bind fun y370 => ((gatelineref10_Sum.f k y370).bind fun bt373 => (if y370.length < 17592186044416 then ((gatelineref11_chars.f (y370 ++ [bt373.1])).bind fun t378 => ((gatelineref11_Pack.f k t378).bind fun t381 => (some (t381, 0)))) else (none)))) else (none))
def gatelineref11_Put.f (k : Nat) (l0 : List Int) : Option (List Int × Int) := if (l0.length : Int) > 77 then (some (([] : List Int), 21)) else (gatelineref11_Put.l0 k l0 (([11] : List Int)) 0)
theorem gatelineref11_Put.mono_l : ∀ k, (∀ y0 y1 y2, LeO (gatelineref11_Put.l0 k y0 y1 y2) (gatelineref11_Put.l0 (k + 1) y0 y1 y2))
  | 0 => fun _ _ _ r h => by simp [gatelineref11_Put.l0] at h
  | k + 1 => by
    have ih0 := gatelineref11_Put.mono_l k
    · intro y0 y1 y2
      unfold gatelineref11_Put.l0
      repeat' first
      | (with_reducible exact ih0 _ _ _)
      | (with_reducible exact gatelineref10_Sum.mono _ _)
      | (with_reducible exact gatelineref11_Pack.mono _ _)
      | (with_reducible exact LeO.refl _)
      | (with_reducible exact LeO.none _)
      | (with_reducible refine LeO.ite ?_ ?_)
      | (with_reducible refine LeO.bind ?_ (fun _ => ?_))
      | exact ih0 _ _ _
      | exact gatelineref10_Sum.mono _ _
      | exact gatelineref11_Pack.mono _ _
      | exact LeO.none _
      | refine LeO.ite ?_ ?_
      | refine LeO.bind ?_ (fun _ => ?_)
theorem gatelineref11_Put.mono : ∀ a0 k, LeO (gatelineref11_Put.f k a0) (gatelineref11_Put.f (k + 1) a0) := by
  intro a0 k
  have ih0 := gatelineref11_Put.mono_l k
  unfold gatelineref11_Put.f
  repeat' first
      | (with_reducible exact ih0 _ _ _)
      | (with_reducible exact gatelineref10_Sum.mono _ _)
      | (with_reducible exact gatelineref11_Pack.mono _ _)
      | (with_reducible exact LeO.refl _)
      | (with_reducible exact LeO.none _)
      | (with_reducible refine LeO.ite ?_ ?_)
      | (with_reducible refine LeO.bind ?_ (fun _ => ?_))
      | exact ih0 _ _ _
      | exact gatelineref10_Sum.mono _ _
      | exact gatelineref11_Pack.mono _ _
      | exact LeO.none _
      | refine LeO.ite ?_ ?_
      | refine LeO.bind ?_ (fun _ => ?_)
set_option maxHeartbeats 8000000 in
set_option maxRecDepth 100000 in
theorem gatelineref11_Put.calls (k : Nat) (A0 : Option Addr) (c0 : Nat) (l0 : List Int) (r1 : List Int) (r2 : Int) (w : World) (hr0 : Kd.C (Kd.int .u8) w A0 l0.length l0) (hc0 : l0.length ≤ c0) (h : gatelineref11_Put.f k l0 = some (r1, r2)) :
    Calls Try.prog 40 #[.slice A0 l0.length c0] w fun e w' => ∃ v0_ : Value, e = .returned (.tuple #[v0_, .int .i64 r2]) ∧ Kd.R (Kd.int .u8) 5 w' w.heap.size (fun _ => True) v0_ r1 ∧ Below w.heap.size w w' := by
  have HR0 := Aside0.mk hr0
  have HC0 := Aside0.mk hc0
  clear hr0 hc0
  have HB := Aside0.mk (Below.refl w.heap.size w)
  have H : (if (l0.length : Int) > 77 then (some (([] : List Int), 21)) else (gatelineref11_Put.l0 k l0 (([11] : List Int)) 0)) = some (r1, r2) := h
  clear h
  by_cases c2 : (l0.length : Int) > 77
  · rw [if_pos c2] at H
    have c2b0 : decide (77 < (l0.length : Int)) = true := decide_eq_true c2
    have c2b1 : decide (77 < l0.length) = true := decide_eq_true (by omega)
    clear c2
    simp only [Option.some.injEq, Prod.mk.injEq] at H
    obtain ⟨rfl, rfl⟩ := H
    go_enter Try.func40, Try.ntmps40
    go_wp2
    go_ret2
    exact ⟨_, by first | rfl | (simp [errW_none, errW_some] <;> rfl) | (simp [*, errW_none, errW_some] <;> rfl), by first | exact Kd.R_nil _ _ _ _ _ | exact Kd.N_nil _ _ _ _ _ | exact Kd.V_nil _ _ _ _ _ | exact Kd.Q_nil _ _ _ _ _ | exact Kd.S_nil _ _ _ _ _, by repeat (first | (with_reducible first | exact HB.out | apply below_alloc | apply pw_below_drewN | apply below_drew1) | exact HB.out)⟩
  · rw [if_neg c2] at H
    have c2b0 : decide (77 < (l0.length : Int)) = false := decide_eq_false c2
    have c2b1 : decide (77 < l0.length) = false := decide_eq_false (by omega)
    clear c2
    obtain ⟨y362, hy362⟩ : ∃ y_ : List Int, y_ = (([11] : List Int)) := ⟨_, rfl⟩
    replace H : (gatelineref11_Put.l0 k l0 y362 0) = some (r1, r2) := by first | (rw [hy362]; with_reducible exact H) | (have H2_ := (Option.bind_some _ _).symm.trans H; rw [hy362]; with_reducible exact H2_) | (have H2_ := (Option.bind_some _ _).symm.trans H; with_reducible exact H2_) | with_reducible exact H | (rw [hy362]; exact H) | exact H
    have Ny362 := Aside0.mk hy362
    clear hy362
    have H' := Aside0.mk H
    clear H
    go_enter Try.func40, Try.ntmps40
    go_wp2_with (first | ((with_reducible refine gate_dst (N := 11) rfl ?_); refine Kd.R_lit (Kd.int .i64) _ 3 ?hg (N := 11) ?hd (xs := ([11] : List Int)) (inner := [.int .i64 11]) (ok := fun _ => True) (okp := fun _ => True) ?hr ?hp (fun _ hk => hk) trivial (Below.refl _ _) (Nat.le_refl _) (by simp) ?_; (case hd => rfl); (case hg => rfl); (case hr => first | (go_simp; done) | (go_simp; rfl)); (case hp => exact (Reps.one (show Kd.M (Kd.int .i64) _ _ _ 11 [.int .i64 11] from rfl) (Reps.none _ _))); intro v363 w3 ho4 hb hg_ hnew_; clear hg_ hnew_; (first | rw [← Ny362.out] at ho4 | (simp only [Int.reduceToNat] at ho4; rw [← Ny362.out] at ho4)); have n0_ := Aside0.mk (Kd.R_lower ho4 (below_size (by repeat (first | (with_reducible first | exact HB.out | apply below_alloc | apply pw_below_drewN | apply below_drew1) | exact HB.out)))); have n1_ := Aside0.mk (below_step (by repeat (first | (with_reducible first | exact HB.out | apply below_alloc | apply pw_below_drewN | apply below_drew1) | exact HB.out)) hb); clear HB; have HO364 := n0_; have HB := n1_; clear n0_ n1_; clear hb ho4))
    go_loopg [4, 5] k (fun kq v4 v5 w' => ∃ (x4_1 : List Int) (x5_1 : Int), v5 = .int .i64 x5_1 ∧ Aside0 (gatelineref11_Put.l0 kq l0 x4_1 x5_1 = some (r1, r2)) ∧ Aside0 (kq ≤ k) ∧ Aside0 (Kd.R (Kd.int .i64) 3 w' w.heap.size (fun _ => True) v4 x4_1) ∧ Aside0 (Below w.heap.size w w'))
    case atStart => exact ⟨(y362), (0), (by first | rfl | (simp; done) | (simp [*]; done)), H', ⟨Nat.le_refl _⟩, ⟨by (with_reducible repeat (first | apply Kd.R_alloc | apply Kd.R_drewN | apply Kd.R_drew)); exact HO364.out⟩, ⟨by repeat (first | (with_reducible first | exact HB.out | apply below_alloc | apply pw_below_drewN | apply below_drew1) | exact HB.out)⟩⟩
    case round =>
      clear H'
      try clear c2
      try clear c2b0
      try clear c2b1
      try clear p2
      try clear c4
      obtain ⟨x4_1, x5_1, rfl, HA, HK1, HO_4, HB⟩ := hrel
      cases gk with
      | zero => exact absurd HA.out (by simp [gatelineref11_Put.l0])
      | succ k1 =>
        have H := HA.out
        clear HA
        simp only [gatelineref11_Put.l0] at H
        by_cases c5 : x5_1 < (l0.length : Int)
        · rw [if_pos c5] at H
          have c5b0 : decide (x5_1 < (l0.length : Int)) = true := decide_eq_true c5
          clear c5
          by_cases c6 : 0 ≤ x5_1
          · rw [if_pos c6] at H
            have c6b0 : decide (0 ≤ x5_1) = true := decide_eq_true c6
            clear c6
            by_cases c7 : (rd l0 x5_1) > 9
            · rw [if_pos c7] at H
              have c7b0 : decide (9 < (rd l0 x5_1)) = true := decide_eq_true c7
              clear c7
              simp only [Option.some.injEq, Prod.mk.injEq] at H
              obtain ⟨rfl, rfl⟩ := H
              have p365 : 0 ≤ (x5_1 : Int) := of_decide_eq_true (by first | (with_reducible assumption) | assumption)
              have q365 : x5_1 < (l0.length : Int) := of_decide_eq_true (by first | (with_reducible assumption) | assumption)
              obtain ⟨ad365, e365, hx365_0⟩ := Kd.at_int HR0.out x5_1 p365 q365
              cases e365
              replace hx365_0 := (HB.out.cell (World.block_lt_of_cell? w _ hx365_0)).trans hx365_0
              replace p365 := eq_true p365
              replace q365 := eq_true q365
              go_wp2
              go_ret2
              exact ⟨_, by first | rfl | (simp [errW_none, errW_some] <;> rfl) | (simp [*, errW_none, errW_some] <;> rfl), by first | exact Kd.R_nil _ _ _ _ _ | exact Kd.N_nil _ _ _ _ _ | exact Kd.V_nil _ _ _ _ _ | exact Kd.Q_nil _ _ _ _ _ | exact Kd.S_nil _ _ _ _ _, by repeat (first | (with_reducible first | exact HB.out | apply below_alloc | apply pw_below_drewN | apply below_drew1) | exact HB.out)⟩
            · rw [if_neg c7] at H
              have c7b0 : decide (9 < (rd l0 x5_1)) = false := decide_eq_false c7
              clear c7
              by_cases c8 : x4_1.length < 17592186044416
              · rw [if_pos c8] at H
                have LMc8 := Aside0.mk c8
                clear c8
                obtain ⟨y367, hy367⟩ : ∃ y_ : List Int, y_ = (x4_1 ++ [wrap64 (rd l0 x5_1)]) := ⟨_, rfl⟩
                replace H : (gatelineref11_Put.l0 k1 l0 y367 (wrap64 (x5_1 + 1))) = some (r1, r2) := by first | (rw [hy367]; with_reducible exact H) | (have H2_ := (Option.bind_some _ _).symm.trans H; rw [hy367]; with_reducible exact H2_) | (have H2_ := (Option.bind_some _ _).symm.trans H; with_reducible exact H2_) | with_reducible exact H | (rw [hy367]; exact H) | exact H
                have Ny367 := Aside0.mk hy367
                clear hy367
                have H' := Aside0.mk H
                clear H
                have p365 : 0 ≤ (x5_1 : Int) := of_decide_eq_true (by first | (with_reducible assumption) | assumption)
                have q365 : x5_1 < (l0.length : Int) := of_decide_eq_true (by first | (with_reducible assumption) | assumption)
                obtain ⟨ad365, e365, hx365_0⟩ := Kd.at_int HR0.out x5_1 p365 q365
                cases e365
                replace hx365_0 := (HB.out.cell (World.block_lt_of_cell? w _ hx365_0)).trans hx365_0
                replace p365 := eq_true p365
                replace q365 := eq_true q365
                have p366 : 0 ≤ (x5_1 : Int) := of_decide_eq_true (by first | (with_reducible assumption) | assumption)
                have q366 : x5_1 < (l0.length : Int) := of_decide_eq_true (by first | (with_reducible assumption) | assumption)
                obtain ⟨ad366, e366, hx366_0⟩ := Kd.at_int HR0.out x5_1 p366 q366
                obtain rfl : ad365 = ad366 := (by injection e366)
                replace hx366_0 := (HB.out.cell (World.block_lt_of_cell? w _ hx366_0)).trans hx366_0
                replace p366 := eq_true p366
                replace q366 := eq_true q366
                go_wp2_with (first | ((with_reducible refine gate_builtin (b := .append) (xs := #[.tmp 23, .tmp 29]) rfl ?_); at_builtin; refine Kd.R_append (Kd.int .i64) (w0 := w) w.heap.size rfl (.tmp 23) (.tmp 29) 35 3 (.int .i64 0) 8 rfl Try.underlying35 info3 rfl (by decide) (by omega) u4 x4_1 (wrap64 (rd l0 x5_1)) [.int .i64 (wrap64 (rd l0 x5_1))] (fun _ => True) (fun _ => False) rfl rfl ?aP (fun _ hk => hk.elim) ?aF ?aO ?aB ?aS ?aL ?_; (case aP => exact rfl); (case aB => exact (by repeat (first | (with_reducible first | exact HB.out | apply below_alloc | apply pw_below_drewN | apply below_drew1) | exact HB.out))); (case aF => exact (fun _ _ => trivial)); (case aO => exact (by (with_reducible repeat (first | apply Kd.R_alloc | apply Kd.R_drewN | apply Kd.R_drew)); exact HO_4.out)); (case aS => exact (below_size (by repeat (first | (with_reducible first | exact HB.out | apply below_alloc | apply pw_below_drewN | apply below_drew1) | exact HB.out)))); (case aL => have := LMc8.out; omega); intro v368 w9 ho hb hg hat; rw [← Ny367.out] at ho; have n0_ := Aside0.mk (hb); have n1_ := Aside0.mk (ho); clear HB; clear HO_4; have HB := n0_; have HO369 := n1_; clear n0_ n1_; clear ho hb hg hat))
                go_roundg k1
                case measure => have := HK1.out; omega
                case rel => exact ⟨(y367), (wrap64 (x5_1 + 1)), (by first | rfl | (simp; done) | (simp [*]; done)), H', ⟨by have := HK1.out; omega⟩, ⟨by (with_reducible repeat (first | apply Kd.R_alloc | apply Kd.R_drewN | apply Kd.R_drew)); exact HO369.out⟩, ⟨by repeat (first | (with_reducible first | exact HB.out | apply below_alloc | apply pw_below_drewN | apply below_drew1) | exact HB.out)⟩⟩
              · rw [if_neg c8] at H
                exact absurd H (by simp)
          · rw [if_neg c6] at H
            exact absurd H (by simp)
        · rw [if_neg c5] at H
          have c5b0 : decide (x5_1 < (l0.length : Int)) = false := decide_eq_false c5
          clear c5
          by_cases c10 : x4_1.length < 17592186044416
          · rw [if_pos c10] at H
            have LMc10 := Aside0.mk c10
            clear c10
            obtain ⟨y370, hy370⟩ : ∃ y_ : List Int, y_ = (x4_1 ++ [15]) := ⟨_, rfl⟩
            replace H : ((gatelineref10_Sum.f k1 y370).bind fun bt373 => (if y370.length < 17592186044416 then ((gatelineref11_chars.f (y370 ++ [bt373.1])).bind fun t378 => ((gatelineref11_Pack.f k1 t378).bind fun t381 => (some (t381, 0)))) else (none))) = some (r1, r2) := by first | (rw [hy370]; with_reducible exact H) | (have H2_ := (Option.bind_some _ _).symm.trans H; rw [hy370]; with_reducible exact H2_) | (have H2_ := (Option.bind_some _ _).symm.trans H; with_reducible exact H2_) | with_reducible exact H | (rw [hy370]; exact H) | exact H
            have Ny370 := Aside0.mk hy370
            clear hy370
            replace H := Option.bind_eq_some_iff.mp H
            obtain ⟨⟨t373, t374⟩, A110, H⟩ := H
            replace H : (if y370.length < 17592186044416 then ((gatelineref11_chars.f (y370 ++ [t373])).bind fun t378 => ((gatelineref11_Pack.f k1 t378).bind fun t381 => (some (t381, 0)))) else (none)) = some (r1, r2) := H
            have A11 := Aside0.mk A110
            clear A110
            by_cases c12 : y370.length < 17592186044416
            · rw [if_pos c12] at H
              have LMc12 := Aside0.mk c12
              clear c12
              obtain ⟨y375, hy375⟩ : ∃ y_ : List Int, y_ = (y370 ++ [t373]) := ⟨_, rfl⟩
              replace H : ((gatelineref11_chars.f y375).bind fun t378 => ((gatelineref11_Pack.f k1 t378).bind fun t381 => (some (t381, 0)))) = some (r1, r2) := by first | (rw [hy375]; with_reducible exact H) | (have H2_ := (Option.bind_some _ _).symm.trans H; rw [hy375]; with_reducible exact H2_) | (have H2_ := (Option.bind_some _ _).symm.trans H; with_reducible exact H2_) | with_reducible exact H | (rw [hy375]; exact H) | exact H
              have Ny375 := Aside0.mk hy375
              clear hy375
              replace H := Option.bind_eq_some_iff.mp H
              obtain ⟨t378, A130, H⟩ := H
              replace H : ((gatelineref11_Pack.f k1 t378).bind fun t381 => (some (t381, 0))) = some (r1, r2) := H
              have A13 := Aside0.mk A130
              clear A130
              replace H := Option.bind_eq_some_iff.mp H
              obtain ⟨t381, A140, H⟩ := H
              replace H : (some (t381, 0)) = some (r1, r2) := H
              have A14 := Aside0.mk A140
              clear A140
              simp only [Option.some.injEq, Prod.mk.injEq] at H
              obtain ⟨rfl, rfl⟩ := H
              go_wp2_with (first | ((with_reducible refine gate_builtin (b := .append) (xs := #[.tmp 31, .tmp 32]) rfl ?_); at_builtin; refine Kd.R_append (Kd.int .i64) (w0 := w) w.heap.size rfl (.tmp 31) (.tmp 32) 35 3 (.int .i64 0) 8 rfl Try.underlying35 info3 rfl (by decide) (by omega) u4 x4_1 15 [.int .i64 15] (fun _ => True) (fun _ => False) rfl rfl ?aP (fun _ hk => hk.elim) ?aF ?aO ?aB ?aS ?aL ?_; (case aP => exact rfl); (case aB => exact (by repeat (first | (with_reducible first | exact HB.out | apply below_alloc | apply pw_below_drewN | apply below_drew1) | exact HB.out))); (case aF => exact (fun _ _ => trivial)); (case aO => exact (by (with_reducible repeat (first | apply Kd.R_alloc | apply Kd.R_drewN | apply Kd.R_drew)); exact HO_4.out)); (case aS => exact (below_size (by repeat (first | (with_reducible first | exact HB.out | apply below_alloc | apply pw_below_drewN | apply below_drew1) | exact HB.out)))); (case aL => have := LMc10.out; omega); intro v371 w15 ho hb hg hat; rw [← Ny370.out] at ho; have n0_ := Aside0.mk (hb); have n1_ := Aside0.mk (ho); clear HB; clear HO_4; have HB := n0_; have HO372 := n1_; clear n0_ n1_; clear ho hb hg hat; obtain ⟨Ao16, co16, eo16⟩ := Kd.R_slice HO372.out; subst eo16) | ((with_reducible refine gate_callee (f := 29) rfl ?_); refine goesL_ (some 36) rfl rfl Try.func29 (by kernel_rfl) rfl #[.slice Ao16 y370.length co16] rfl (by (try simp only [List.map_toArray, List.map_cons, List.map_nil]); first | done | rfl | (simp only [List.length_drop, List.length_take]; rfl)) ?_; (with_reducible refine (gatelineref10_Sum.calls k1 _ _ y370 t373 t374 _ ?side1 ?side2 A11.out).mono ?_); (case side1 => repeat (first | exact (Kd.R_reads' HO372.out).2.2 | (with_reducible refine Kd.C_alloc ?_ _) | (with_reducible refine Kd.C_drewN ?_ _) | (with_reducible refine Kd.C_drew ?_))); (case side2 => exact (Kd.R_reads' HO372.out).2.1); rintro e w' ⟨rfl, ⟨nd, rfl⟩⟩; refine ⟨_, rfl, ?_⟩) | ((with_reducible refine gate_builtin (b := .append) (xs := #[.tmp 39, .tmp 41]) rfl ?_); at_builtin; refine Kd.R_append (Kd.int .i64) (w0 := w) w.heap.size rfl (.tmp 39) (.tmp 41) 35 3 (.int .i64 0) 8 rfl Try.underlying35 info3 rfl (by decide) (by omega) (.slice Ao16 y370.length co16) y370 t373 [.int .i64 t373] (fun _ => True) (fun _ => False) rfl rfl ?aP (fun _ hk => hk.elim) ?aF ?aO ?aB ?aS ?aL ?_; (case aP => exact rfl); (case aB => exact (by repeat (first | (with_reducible first | exact HB.out | apply below_alloc | apply pw_below_drewN | apply below_drew1) | exact HB.out))); (case aF => exact (fun _ _ => trivial)); (case aO => exact (by (with_reducible repeat (first | apply Kd.R_alloc | apply Kd.R_drewN | apply Kd.R_drew)); exact HO372.out)); (case aS => exact (below_size (by repeat (first | (with_reducible first | exact HB.out | apply below_alloc | apply pw_below_drewN | apply below_drew1) | exact HB.out)))); (case aL => have := LMc12.out; omega); intro v376 w17 ho hb hg hat; rw [← Ny375.out] at ho; have n0_ := Aside0.mk (hb); have n1_ := Aside0.mk (ho); clear HB; clear HO372; have HB := n0_; have HO377 := n1_; clear n0_ n1_; clear ho hb hg hat; obtain ⟨Ao18, co18, eo18⟩ := Kd.R_slice HO377.out; subst eo18) | ((with_reducible refine gate_callee (f := 54) rfl ?_); refine goesL_ (some 43) rfl rfl Try.func54 (by kernel_rfl) rfl #[.slice Ao18 y375.length co18] rfl (by (try simp only [List.map_toArray, List.map_cons, List.map_nil]); first | done | rfl | (simp only [List.length_drop, List.length_take]; rfl)) ?_; (with_reducible refine (gatelineref11_chars.calls _ _ y375 t378 _ ?side1 ?side2 A13.out).mono ?_); (case side1 => repeat (first | exact (Kd.R_reads' HO377.out).2.2 | (with_reducible refine Kd.C_alloc ?_ _) | (with_reducible refine Kd.C_drewN ?_ _) | (with_reducible refine Kd.C_drew ?_))); (case side2 => exact (Kd.R_reads' HO377.out).2.1); rintro e w19 ⟨v379, rfl, ho0, hb⟩; refine ⟨_, rfl, ?_⟩; have n0_ := Aside0.mk (Kd.R_below (by (with_reducible repeat (first | apply Kd.R_alloc | apply Kd.R_drewN | apply Kd.R_drew)); exact HO377.out) hb); have n1_ := Aside0.mk (Kd.R_lower ho0 (below_size (by repeat (first | (with_reducible first | exact HB.out | apply below_alloc | apply pw_below_drewN | apply below_drew1) | exact HB.out)))); have n2_ := Aside0.mk (below_step (by repeat (first | (with_reducible first | exact HB.out | apply below_alloc | apply pw_below_drewN | apply below_drew1) | exact HB.out)) hb); clear HO377; clear HB; have HO377 := n0_; have HO380 := n1_; have HB := n2_; clear n0_ n1_ n2_; (try clear hb); (try clear hb2); (try clear hk); (try clear hi); (try clear ho0); obtain ⟨Ao20, co20, eo20⟩ := Kd.R_slice HO380.out; subst eo20) | ((with_reducible refine gate_callee (f := 36) rfl ?_); refine goesL_ (some 44) rfl rfl Try.func36 (by kernel_rfl) rfl #[.slice Ao20 t378.length co20] rfl (by (try simp only [List.map_toArray, List.map_cons, List.map_nil]); first | done | rfl | (simp only [List.length_drop, List.length_take]; rfl)) ?_; (with_reducible refine (gatelineref11_Pack.calls k1 _ _ t378 t381 _ ?side1 ?side2 A14.out).mono ?_); (case side1 => repeat (first | exact (Kd.R_reads' HO380.out).2.2 | (with_reducible refine Kd.C_alloc ?_ _) | (with_reducible refine Kd.C_drewN ?_ _) | (with_reducible refine Kd.C_drew ?_))); (case side2 => exact (Kd.R_reads' HO380.out).2.1); rintro e w21 ⟨v382, rfl, ho0, hb⟩; refine ⟨_, rfl, ?_⟩; have n0_ := Aside0.mk (Kd.R_below (by (with_reducible repeat (first | apply Kd.R_alloc | apply Kd.R_drewN | apply Kd.R_drew)); exact HO377.out) hb); have n1_ := Aside0.mk (Kd.R_below (by (with_reducible repeat (first | apply Kd.R_alloc | apply Kd.R_drewN | apply Kd.R_drew)); exact HO380.out) hb); have n2_ := Aside0.mk (Kd.R_lower ho0 (below_size (by repeat (first | (with_reducible first | exact HB.out | apply below_alloc | apply pw_below_drewN | apply below_drew1) | exact HB.out)))); have n3_ := Aside0.mk (below_step (by repeat (first | (with_reducible first | exact HB.out | apply below_alloc | apply pw_below_drewN | apply below_drew1) | exact HB.out)) hb); clear HO377; clear HO380; clear HB; have HO377 := n0_; have HO380 := n1_; have HO383 := n2_; have HB := n3_; clear n0_ n1_ n2_ n3_; (try clear hb); (try clear hb2); (try clear hk); (try clear hi); (try clear ho0)))
              go_ret2
              exact ⟨_, by first | rfl | (simp [errW_none, errW_some] <;> rfl) | (simp [*, errW_none, errW_some] <;> rfl), by (with_reducible repeat (first | apply Kd.R_alloc | apply Kd.R_drewN | apply Kd.R_drew)); exact HO383.out, by repeat (first | (with_reducible first | exact HB.out | apply below_alloc | apply pw_below_drewN | apply below_drew1) | exact HB.out)⟩
            · rw [if_neg c12] at H
              exact absurd H (by simp)
          · rw [if_neg c10] at H
            exact absurd H (by simp)

end Go.Proofs.Ytfmpeojlaibblaa.S

/-
  Plain lemmas on the printed functions of this seat: no Go, no memory.
-/
namespace Go.Proofs.Ytfmpeojlaibblaa.Pure
open Go.RowKit Go.Proofs.Ytfmpeojlaibblaa.S Go.Proofs.YtfmpeojlaibblaaW.PrintWords Go.Proofs.YtfmpeojlaibblaaW.PrintLast

theorem wrap_in {n : Int} (h0 : -9223372036854775808 ≤ n) (h1 : n ≤ 9223372036854775807) : wrap64 n = n := by unfold wrap64; omega
theorem rd_get {l : List Int} {i : Nat} (h : i < l.length) : rd l (i : Int) = l[i] := by simp [rd, h]
theorem get_rd {l : List Int} {i : Nat} (h : i < l.length) : l[i] = rd l (i : Int) := (rd_get h).symm
theorem drop_rd {l : List Int} {i : Nat} (h : i < l.length) : l.drop i = rd l (i : Int) :: l.drop (i + 1) := by rw [rd_get h, List.drop_eq_getElem_cons h]

/-- ref01.Same tells whether two rows are one. -/
theorem same_l (a b : List Int) (hl : a.length = b.length) (hm : a.length ≤ 140737488355328) : ∀ (d i k : Nat), a.length - i = d → i ≤ a.length → d < k →
    gatelineref01_Same.l0 k a b (i : Int) = some (decide (a.drop i = b.drop i)) := by
  intro d
  induction d with
  | zero =>
    intro i k hd hi hk
    obtain ⟨k, rfl⟩ : ∃ m, k = m + 1 := ⟨k - 1, by omega⟩
    simp only [gatelineref01_Same.l0]
    rw [if_neg (by omega), List.drop_eq_nil_of_le (by omega), List.drop_eq_nil_of_le (by omega)]
    simp
  | succ d ih =>
    intro i k hd hi hk
    obtain ⟨k, rfl⟩ : ∃ m, k = m + 1 := ⟨k - 1, by omega⟩
    simp only [gatelineref01_Same.l0]
    rw [if_pos (by omega), if_pos (by omega), if_pos (by omega), drop_rd (l := a) (by omega), drop_rd (l := b) (by omega)]
    by_cases h : rd a i = rd b i
    · rw [if_pos h, wrap_in (by omega) (by omega), show ((i : Int) + 1) = ((i + 1 : Nat) : Int) by omega, ih (i + 1) k (by omega) (by omega) (by omega), h]
      simp
    · rw [if_neg h]
      simp [h]
theorem same_ev (a b : List Int) (hm : a.length ≤ 140737488355328) : Ev (fun k => gatelineref01_Same.f k a b) (decide (a = b)) := by
  refine ⟨a.length + 1, fun k hk => ?_⟩
  show gatelineref01_Same.f k a b = _
  unfold gatelineref01_Same.f
  by_cases h : a.length = b.length
  · rw [if_pos (by omega)]
    have := same_l a b h hm a.length 0 k (by omega) (by omega) (by omega)
    simpa using this
  · rw [if_neg (by omega)]
    have : a ≠ b := fun e => h (by rw [e])
    simp [this]
/-! ### bytes -/
def IsB (x : Int) : Prop := 0 ≤ x ∧ x < 256
def AllB (l : List Int) : Prop := ∀ x ∈ l, IsB x
theorem isB_of_wf {x : Int} (h : (Lit.int .u8 x).wf = true) : IsB x := by
  simp [Lit.wf, IntKind.min, IntKind.max, IntKind.signed, IntKind.bits] at h
  exact ⟨by omega, by omega⟩
theorem allB_of_wf {l : List Int} (h : ∀ x ∈ l, (Lit.int .u8 x).wf = true) : AllB l := fun x hx => isB_of_wf (h x hx)
theorem isB_rd {l : List Int} (h : AllB l) (i : Int) : IsB (rd l i) := by
  unfold rd
  by_cases hi : i.toNat < l.length
  · rw [List.getD_eq_getElem?_getD, List.getElem?_eq_getElem hi]
    exact h _ (List.getElem_mem hi)
  · rw [List.getD_eq_getElem?_getD, List.getElem?_eq_none (by omega)]
    exact ⟨by decide, by decide⟩
theorem eq_of_rd {a b : List Int} (hl : a.length = b.length) (h : ∀ j : Nat, j < a.length → rd a (j : Int) = rd b (j : Int)) : a = b := by
  refine List.ext_getElem hl fun i h1 h2 => ?_
  rw [get_rd h1, get_rd h2]
  exact h i h1
end Go.Proofs.Ytfmpeojlaibblaa.Pure

/- Written for this claim by a program of this session (handprint.py, over the kit's print). Lean checks it. -/
namespace Go.Proofs.Ytfmpeojlaibblaa.S
open Go.RowKit Go.Proofs.YtfmpeojlaibblaaW.PrintWords Go.Proofs.YtfmpeojlaibblaaW.PrintLast Go.Proofs.YtfmpeojlaibblaaW.PrintMore
attribute [local go_sem] max2_int min2_int max_two min_two max_three min_three max_four min_four   -- for this text's walks alone
set_option linter.unusedVariables false
set_option linter.unusedSimpArgs false

theorem eqA36_at (b0 b1 b2 b3 b4 : Bool) (w : World) : (part 4 #[.bool b0, .bool b1, .bool b2, .bool b3, .bool b4] 0).run Try.prog w = .ok (.bool b0) w ∧ (part 4 #[.bool b0, .bool b1, .bool b2, .bool b3, .bool b4] 1).run Try.prog w = .ok (.bool b1) w ∧
    (part 4 #[.bool b0, .bool b1, .bool b2, .bool b3, .bool b4] 2).run Try.prog w = .ok (.bool b2) w ∧ (part 4 #[.bool b0, .bool b1, .bool b2, .bool b3, .bool b4] 3).run Try.prog w = .ok (.bool b3) w ∧ (part 4 #[.bool b0, .bool b1, .bool b2, .bool b3, .bool b4] 4).run Try.prog w = .ok (.bool b4) w :=
  ⟨by kernel_rfl, by kernel_rfl, by kernel_rfl, by kernel_rfl, by kernel_rfl⟩
theorem eqA36_one (d : Nat) (w : World) (a b : Bool) : (Op.equalIn (d + 1) 4 (.bool a) (.bool b)).run Try.prog w = .ok (a == b) w := by
  simp [Op.equalIn, run_underlying Try.underlying4]
theorem eqA36 (d : Nat) (w : World) (x0 x1 x2 x3 x4 y0 y1 y2 y3 y4 : Bool) : (Op.equalIn (d + 2) 36 (.agg #[.bool x0, .bool x1, .bool x2, .bool x3, .bool x4]) (.agg #[.bool y0, .bool y1, .bool y2, .bool y3, .bool y4])).run Try.prog w = .ok (x0 == y0 && (x1 == y1 && (x2 == y2 && (x3 == y3 && (x4 == y4))))) w := by
  rw [Op.equalIn]
  simp only [Sem.run_bind, run_underlying Try.underlying36, Result.andThen_ok]
  simp [Std.Legacy.Range.forIn_eq_forIn_range', List.range', eqA36_at, eqA36_one]
  by_cases h0 : x0 = y0 <;> by_cases h1 : x1 = y1 <;> by_cases h2 : x2 = y2 <;> by_cases h3 : x3 = y3 <;> by_cases h4 : x4 = y4 <;> simp [h0, h1, h2, h3, h4]

end Go.Proofs.Ytfmpeojlaibblaa.S

/- Written for this claim by a program of this session (handprint.py, over the kit's print). Lean checks it. -/
namespace Go.Proofs.Ytfmpeojlaibblaa.S
open Go.RowKit Go.Proofs.YtfmpeojlaibblaaW.PrintWords Go.Proofs.YtfmpeojlaibblaaW.PrintLast Go.Proofs.YtfmpeojlaibblaaW.PrintMore
attribute [local go_sem] max2_int min2_int max_two min_two max_three min_three max_four min_four   -- for this text's walks alone
set_option linter.unusedVariables false
set_option linter.unusedSimpArgs false

attribute [local go_sem high] eqA36
/-! ### gatelinelaw10_odd: function 27 -/
def gatelinelaw10_odd.f  : Option (Bool) := (parity_Char.f 11).bind fun bt108 => ((parity_Char.f 15).bind fun bt110 => ((parity_Value.f 31).bind fun bt112 => ((parity_Value.f 15).bind fun bt114 => ((parity_Value.f 32).bind fun bt116 => ((parity_Sum.f (([11, 3, 15] : List Int))).bind fun bt121 => ((parity_Sum.f (([1, 16] : List Int))).bind fun bt126 => ((parity_Bits.f 11).bind fun bt128 => (if bt108.2 = 0 then (if bt108.1 = 11 then (if bt110.2 = bt108.2 then (if bt110.1 = 31 then (if bt112.2 = bt108.2 then (if bt112.1 = 15 then (if bt114.2 = 3 then (if bt116.2 = 1 then (if bt121.2 = bt108.2 then (if bt121.1 = 7 then (if bt126.2 = bt116.2 then (if bt128.2.2.2.2.2 = bt108.2 then (if (bt128.1 && (bt128.2.1 && (!bt128.2.2.1 && (bt128.2.2.2.1 && (!bt128.2.2.2.2.1))))) = true then ((parity_Of.f bt128.1 bt128.2.1 bt128.2.2.1 bt128.2.2.2.1 bt128.2.2.2.2.1).bind fun t135 => (some (t135 == 11))) else (none)) else (none)) else (none)) else (none)) else (none)) else (none)) else (none)) else (none)) else (none)) else (none)) else (none)) else (none)) else (none)))))))))
set_option maxHeartbeats 8000000 in
set_option maxRecDepth 100000 in
theorem gatelinelaw10_odd.calls  (r : Bool) (w : World) (h : gatelinelaw10_odd.f  = some r) :
    Calls Try.prog 27 #[] w fun e w' => e = .returned (.bool r) ∧ Below w.heap.size w w' := by
  have hu36 := Try.underlying36
  have HB := Aside0.mk (Below.refl w.heap.size w)
  have H : ((parity_Char.f 11).bind fun bt108 => ((parity_Char.f 15).bind fun bt110 => ((parity_Value.f 31).bind fun bt112 => ((parity_Value.f 15).bind fun bt114 => ((parity_Value.f 32).bind fun bt116 => ((parity_Sum.f (([11, 3, 15] : List Int))).bind fun bt121 => ((parity_Sum.f (([1, 16] : List Int))).bind fun bt126 => ((parity_Bits.f 11).bind fun bt128 => (if bt108.2 = 0 then (if bt108.1 = 11 then (if bt110.2 = bt108.2 then (if bt110.1 = 31 then (if bt112.2 = bt108.2 then (if bt112.1 = 15 then (if bt114.2 = 3 then (if bt116.2 = 1 then (if bt121.2 = bt108.2 then (if bt121.1 = 7 then (if bt126.2 = bt116.2 then (if bt128.2.2.2.2.2 = bt108.2 then (if (bt128.1 && (bt128.2.1 && (!bt128.2.2.1 && (bt128.2.2.2.1 && (!bt128.2.2.2.2.1))))) = true then ((parity_Of.f bt128.1 bt128.2.1 bt128.2.2.1 bt128.2.2.2.1 bt128.2.2.2.2.1).bind fun t135 => (some (t135 == 11))) else (none)) else (none)) else (none)) else (none)) else (none)) else (none)) else (none)) else (none)) else (none)) else (none)) else (none)) else (none)) else (none)))))))))) = some r := h
  clear h
  replace H := Option.bind_eq_some_iff.mp H
  obtain ⟨⟨t108, t109⟩, A10, H⟩ := H
  replace H : ((parity_Char.f 15).bind fun bt110 => ((parity_Value.f 31).bind fun bt112 => ((parity_Value.f 15).bind fun bt114 => ((parity_Value.f 32).bind fun bt116 => ((parity_Sum.f (([11, 3, 15] : List Int))).bind fun bt121 => ((parity_Sum.f (([1, 16] : List Int))).bind fun bt126 => ((parity_Bits.f 11).bind fun bt128 => (if t109 = 0 then (if t108 = 11 then (if bt110.2 = t109 then (if bt110.1 = 31 then (if bt112.2 = t109 then (if bt112.1 = 15 then (if bt114.2 = 3 then (if bt116.2 = 1 then (if bt121.2 = t109 then (if bt121.1 = 7 then (if bt126.2 = bt116.2 then (if bt128.2.2.2.2.2 = t109 then (if (bt128.1 && (bt128.2.1 && (!bt128.2.2.1 && (bt128.2.2.2.1 && (!bt128.2.2.2.2.1))))) = true then ((parity_Of.f bt128.1 bt128.2.1 bt128.2.2.1 bt128.2.2.2.1 bt128.2.2.2.2.1).bind fun t135 => (some (t135 == 11))) else (none)) else (none)) else (none)) else (none)) else (none)) else (none)) else (none)) else (none)) else (none)) else (none)) else (none)) else (none)) else (none))))))))) = some r := H
  have A1 := Aside0.mk A10
  clear A10
  replace H := Option.bind_eq_some_iff.mp H
  obtain ⟨⟨t110, t111⟩, A20, H⟩ := H
  replace H : ((parity_Value.f 31).bind fun bt112 => ((parity_Value.f 15).bind fun bt114 => ((parity_Value.f 32).bind fun bt116 => ((parity_Sum.f (([11, 3, 15] : List Int))).bind fun bt121 => ((parity_Sum.f (([1, 16] : List Int))).bind fun bt126 => ((parity_Bits.f 11).bind fun bt128 => (if t109 = 0 then (if t108 = 11 then (if t111 = t109 then (if t110 = 31 then (if bt112.2 = t109 then (if bt112.1 = 15 then (if bt114.2 = 3 then (if bt116.2 = 1 then (if bt121.2 = t109 then (if bt121.1 = 7 then (if bt126.2 = bt116.2 then (if bt128.2.2.2.2.2 = t109 then (if (bt128.1 && (bt128.2.1 && (!bt128.2.2.1 && (bt128.2.2.2.1 && (!bt128.2.2.2.2.1))))) = true then ((parity_Of.f bt128.1 bt128.2.1 bt128.2.2.1 bt128.2.2.2.1 bt128.2.2.2.2.1).bind fun t135 => (some (t135 == 11))) else (none)) else (none)) else (none)) else (none)) else (none)) else (none)) else (none)) else (none)) else (none)) else (none)) else (none)) else (none)) else (none)))))))) = some r := H
  have A2 := Aside0.mk A20
  clear A20
  replace H := Option.bind_eq_some_iff.mp H
  obtain ⟨⟨t112, t113⟩, A30, H⟩ := H
  replace H : ((parity_Value.f 15).bind fun bt114 => ((parity_Value.f 32).bind fun bt116 => ((parity_Sum.f (([11, 3, 15] : List Int))).bind fun bt121 => ((parity_Sum.f (([1, 16] : List Int))).bind fun bt126 => ((parity_Bits.f 11).bind fun bt128 => (if t109 = 0 then (if t108 = 11 then (if t111 = t109 then (if t110 = 31 then (if t113 = t109 then (if t112 = 15 then (if bt114.2 = 3 then (if bt116.2 = 1 then (if bt121.2 = t109 then (if bt121.1 = 7 then (if bt126.2 = bt116.2 then (if bt128.2.2.2.2.2 = t109 then (if (bt128.1 && (bt128.2.1 && (!bt128.2.2.1 && (bt128.2.2.2.1 && (!bt128.2.2.2.2.1))))) = true then ((parity_Of.f bt128.1 bt128.2.1 bt128.2.2.1 bt128.2.2.2.1 bt128.2.2.2.2.1).bind fun t135 => (some (t135 == 11))) else (none)) else (none)) else (none)) else (none)) else (none)) else (none)) else (none)) else (none)) else (none)) else (none)) else (none)) else (none)) else (none))))))) = some r := H
  have A3 := Aside0.mk A30
  clear A30
  replace H := Option.bind_eq_some_iff.mp H
  obtain ⟨⟨t114, t115⟩, A40, H⟩ := H
  replace H : ((parity_Value.f 32).bind fun bt116 => ((parity_Sum.f (([11, 3, 15] : List Int))).bind fun bt121 => ((parity_Sum.f (([1, 16] : List Int))).bind fun bt126 => ((parity_Bits.f 11).bind fun bt128 => (if t109 = 0 then (if t108 = 11 then (if t111 = t109 then (if t110 = 31 then (if t113 = t109 then (if t112 = 15 then (if t115 = 3 then (if bt116.2 = 1 then (if bt121.2 = t109 then (if bt121.1 = 7 then (if bt126.2 = bt116.2 then (if bt128.2.2.2.2.2 = t109 then (if (bt128.1 && (bt128.2.1 && (!bt128.2.2.1 && (bt128.2.2.2.1 && (!bt128.2.2.2.2.1))))) = true then ((parity_Of.f bt128.1 bt128.2.1 bt128.2.2.1 bt128.2.2.2.1 bt128.2.2.2.2.1).bind fun t135 => (some (t135 == 11))) else (none)) else (none)) else (none)) else (none)) else (none)) else (none)) else (none)) else (none)) else (none)) else (none)) else (none)) else (none)) else (none)))))) = some r := H
  have A4 := Aside0.mk A40
  clear A40
  replace H := Option.bind_eq_some_iff.mp H
  obtain ⟨⟨t116, t117⟩, A50, H⟩ := H
  replace H : ((parity_Sum.f (([11, 3, 15] : List Int))).bind fun bt121 => ((parity_Sum.f (([1, 16] : List Int))).bind fun bt126 => ((parity_Bits.f 11).bind fun bt128 => (if t109 = 0 then (if t108 = 11 then (if t111 = t109 then (if t110 = 31 then (if t113 = t109 then (if t112 = 15 then (if t115 = 3 then (if t117 = 1 then (if bt121.2 = t109 then (if bt121.1 = 7 then (if bt126.2 = t117 then (if bt128.2.2.2.2.2 = t109 then (if (bt128.1 && (bt128.2.1 && (!bt128.2.2.1 && (bt128.2.2.2.1 && (!bt128.2.2.2.2.1))))) = true then ((parity_Of.f bt128.1 bt128.2.1 bt128.2.2.1 bt128.2.2.2.1 bt128.2.2.2.2.1).bind fun t135 => (some (t135 == 11))) else (none)) else (none)) else (none)) else (none)) else (none)) else (none)) else (none)) else (none)) else (none)) else (none)) else (none)) else (none)) else (none))))) = some r := H
  have A5 := Aside0.mk A50
  clear A50
  obtain ⟨y118, hy118⟩ : ∃ y_ : List Int, y_ = (([11, 3, 15] : List Int)) := ⟨_, rfl⟩
  replace H : ((parity_Sum.f y118).bind fun bt121 => ((parity_Sum.f (([1, 16] : List Int))).bind fun bt126 => ((parity_Bits.f 11).bind fun bt128 => (if t109 = 0 then (if t108 = 11 then (if t111 = t109 then (if t110 = 31 then (if t113 = t109 then (if t112 = 15 then (if t115 = 3 then (if t117 = 1 then (if bt121.2 = t109 then (if bt121.1 = 7 then (if bt126.2 = t117 then (if bt128.2.2.2.2.2 = t109 then (if (bt128.1 && (bt128.2.1 && (!bt128.2.2.1 && (bt128.2.2.2.1 && (!bt128.2.2.2.2.1))))) = true then ((parity_Of.f bt128.1 bt128.2.1 bt128.2.2.1 bt128.2.2.2.1 bt128.2.2.2.2.1).bind fun t135 => (some (t135 == 11))) else (none)) else (none)) else (none)) else (none)) else (none)) else (none)) else (none)) else (none)) else (none)) else (none)) else (none)) else (none)) else (none))))) = some r := by first | (rw [hy118]; with_reducible exact H) | (have H2_ := (Option.bind_some _ _).symm.trans H; rw [hy118]; with_reducible exact H2_) | (have H2_ := (Option.bind_some _ _).symm.trans H; with_reducible exact H2_) | with_reducible exact H | (rw [hy118]; exact H) | exact H
  have Ny118 := Aside0.mk hy118
  clear hy118
  replace H := Option.bind_eq_some_iff.mp H
  obtain ⟨⟨t121, t122⟩, A60, H⟩ := H
  replace H : ((parity_Sum.f (([1, 16] : List Int))).bind fun bt126 => ((parity_Bits.f 11).bind fun bt128 => (if t109 = 0 then (if t108 = 11 then (if t111 = t109 then (if t110 = 31 then (if t113 = t109 then (if t112 = 15 then (if t115 = 3 then (if t117 = 1 then (if t122 = t109 then (if t121 = 7 then (if bt126.2 = t117 then (if bt128.2.2.2.2.2 = t109 then (if (bt128.1 && (bt128.2.1 && (!bt128.2.2.1 && (bt128.2.2.2.1 && (!bt128.2.2.2.2.1))))) = true then ((parity_Of.f bt128.1 bt128.2.1 bt128.2.2.1 bt128.2.2.2.1 bt128.2.2.2.2.1).bind fun t135 => (some (t135 == 11))) else (none)) else (none)) else (none)) else (none)) else (none)) else (none)) else (none)) else (none)) else (none)) else (none)) else (none)) else (none)) else (none)))) = some r := H
  have A6 := Aside0.mk A60
  clear A60
  obtain ⟨y123, hy123⟩ : ∃ y_ : List Int, y_ = (([1, 16] : List Int)) := ⟨_, rfl⟩
  replace H : ((parity_Sum.f y123).bind fun bt126 => ((parity_Bits.f 11).bind fun bt128 => (if t109 = 0 then (if t108 = 11 then (if t111 = t109 then (if t110 = 31 then (if t113 = t109 then (if t112 = 15 then (if t115 = 3 then (if t117 = 1 then (if t122 = t109 then (if t121 = 7 then (if bt126.2 = t117 then (if bt128.2.2.2.2.2 = t109 then (if (bt128.1 && (bt128.2.1 && (!bt128.2.2.1 && (bt128.2.2.2.1 && (!bt128.2.2.2.2.1))))) = true then ((parity_Of.f bt128.1 bt128.2.1 bt128.2.2.1 bt128.2.2.2.1 bt128.2.2.2.2.1).bind fun t135 => (some (t135 == 11))) else (none)) else (none)) else (none)) else (none)) else (none)) else (none)) else (none)) else (none)) else (none)) else (none)) else (none)) else (none)) else (none)))) = some r := by first | (rw [hy123]; with_reducible exact H) | (have H2_ := (Option.bind_some _ _).symm.trans H; rw [hy123]; with_reducible exact H2_) | (have H2_ := (Option.bind_some _ _).symm.trans H; with_reducible exact H2_) | with_reducible exact H | (rw [hy123]; exact H) | exact H
  have Ny123 := Aside0.mk hy123
  clear hy123
  replace H := Option.bind_eq_some_iff.mp H
  obtain ⟨⟨t126, t127⟩, A70, H⟩ := H
  replace H : ((parity_Bits.f 11).bind fun bt128 => (if t109 = 0 then (if t108 = 11 then (if t111 = t109 then (if t110 = 31 then (if t113 = t109 then (if t112 = 15 then (if t115 = 3 then (if t117 = 1 then (if t122 = t109 then (if t121 = 7 then (if t127 = t117 then (if bt128.2.2.2.2.2 = t109 then (if (bt128.1 && (bt128.2.1 && (!bt128.2.2.1 && (bt128.2.2.2.1 && (!bt128.2.2.2.2.1))))) = true then ((parity_Of.f bt128.1 bt128.2.1 bt128.2.2.1 bt128.2.2.2.1 bt128.2.2.2.2.1).bind fun t135 => (some (t135 == 11))) else (none)) else (none)) else (none)) else (none)) else (none)) else (none)) else (none)) else (none)) else (none)) else (none)) else (none)) else (none)) else (none))) = some r := H
  have A7 := Aside0.mk A70
  clear A70
  replace H := Option.bind_eq_some_iff.mp H
  obtain ⟨⟨t128, t129, t130, t131, t132, t133⟩, A80, H⟩ := H
  replace H : (if t109 = 0 then (if t108 = 11 then (if t111 = t109 then (if t110 = 31 then (if t113 = t109 then (if t112 = 15 then (if t115 = 3 then (if t117 = 1 then (if t122 = t109 then (if t121 = 7 then (if t127 = t117 then (if t133 = t109 then (if (t128 && (t129 && (!t130 && (t131 && (!t132))))) = true then ((parity_Of.f t128 t129 t130 t131 t132).bind fun t135 => (some (t135 == 11))) else (none)) else (none)) else (none)) else (none)) else (none)) else (none)) else (none)) else (none)) else (none)) else (none)) else (none)) else (none)) else (none)) = some r := H
  have A8 := Aside0.mk A80
  clear A80
  by_cases c9 : t109 = 0
  · rw [if_pos c9] at H
    have c9b0 : (t109 == 0) = true := beq_iff_eq.mpr c9
    have c9b1 : (t109 != 0) = false := bne_eq_false_iff_eq.mpr c9
    clear c9
    by_cases c10 : t108 = 11
    · rw [if_pos c10] at H
      have c10b0 : (t108 == 11) = true := beq_iff_eq.mpr c10
      have c10b1 : (t108 != 11) = false := bne_eq_false_iff_eq.mpr c10
      clear c10
      by_cases c11 : t111 = t109
      · rw [if_pos c11] at H
        have c11b0 : (t111 == t109) = true := beq_iff_eq.mpr c11
        have c11b1 : (t111 != t109) = false := bne_eq_false_iff_eq.mpr c11
        clear c11
        by_cases c12 : t110 = 31
        · rw [if_pos c12] at H
          have c12b0 : (t110 == 31) = true := beq_iff_eq.mpr c12
          have c12b1 : (t110 != 31) = false := bne_eq_false_iff_eq.mpr c12
          clear c12
          by_cases c13 : t113 = t109
          · rw [if_pos c13] at H
            have c13b0 : (t113 == t109) = true := beq_iff_eq.mpr c13
            have c13b1 : (t113 != t109) = false := bne_eq_false_iff_eq.mpr c13
            clear c13
            by_cases c14 : t112 = 15
            · rw [if_pos c14] at H
              have c14b0 : (t112 == 15) = true := beq_iff_eq.mpr c14
              have c14b1 : (t112 != 15) = false := bne_eq_false_iff_eq.mpr c14
              clear c14
              by_cases c15 : t115 = 3
              · rw [if_pos c15] at H
                have c15b0 : (t115 == 3) = true := beq_iff_eq.mpr c15
                have c15b1 : (t115 != 3) = false := bne_eq_false_iff_eq.mpr c15
                clear c15
                by_cases c16 : t117 = 1
                · rw [if_pos c16] at H
                  have c16b0 : (t117 == 1) = true := beq_iff_eq.mpr c16
                  have c16b1 : (t117 != 1) = false := bne_eq_false_iff_eq.mpr c16
                  clear c16
                  by_cases c17 : t122 = t109
                  · rw [if_pos c17] at H
                    have c17b0 : (t122 == t109) = true := beq_iff_eq.mpr c17
                    have c17b1 : (t122 != t109) = false := bne_eq_false_iff_eq.mpr c17
                    clear c17
                    by_cases c18 : t121 = 7
                    · rw [if_pos c18] at H
                      have c18b0 : (t121 == 7) = true := beq_iff_eq.mpr c18
                      have c18b1 : (t121 != 7) = false := bne_eq_false_iff_eq.mpr c18
                      clear c18
                      by_cases c19 : t127 = t117
                      · rw [if_pos c19] at H
                        have c19b0 : (t127 == t117) = true := beq_iff_eq.mpr c19
                        have c19b1 : (t127 != t117) = false := bne_eq_false_iff_eq.mpr c19
                        clear c19
                        by_cases c20 : t133 = t109
                        · rw [if_pos c20] at H
                          have c20b0 : (t133 == t109) = true := beq_iff_eq.mpr c20
                          have c20b1 : (t133 != t109) = false := bne_eq_false_iff_eq.mpr c20
                          clear c20
                          by_cases c21 : (t128 && (t129 && (!t130 && (t131 && (!t132))))) = true
                          · rw [if_pos c21] at H
                            have c21b0 : (t128 && (t129 && (!t130 && (t131 && (!t132))))) = true := c21
                            clear c21
                            replace H := Option.bind_eq_some_iff.mp H
                            obtain ⟨t135, A220, H⟩ := H
                            replace H : (some (t135 == 11)) = some r := H
                            have A22 := Aside0.mk A220
                            clear A220
                            obtain rfl := Option.some.inj H
                            go_enter Try.func27, Try.ntmps27
                            go_wp2_with (first | ((with_reducible refine gate_callee (f := 23) rfl ?_); refine goesL_ (some 18) rfl rfl Try.func23 (by kernel_rfl) rfl #[.int .i64 11] rfl (by (try simp only [List.map_toArray, List.map_cons, List.map_nil]); first | done | rfl | (simp only [List.length_drop, List.length_take]; rfl)) ?_; (with_reducible refine (parity_Char.calls 11 t108 t109 _ A1.out).mono ?_); rintro e w' ⟨rfl, ⟨nd, rfl⟩⟩; refine ⟨_, rfl, ?_⟩) | ((with_reducible refine gate_callee (f := 23) rfl ?_); refine goesL_ (some 22) rfl rfl Try.func23 (by kernel_rfl) rfl #[.int .i64 15] rfl (by (try simp only [List.map_toArray, List.map_cons, List.map_nil]); first | done | rfl | (simp only [List.length_drop, List.length_take]; rfl)) ?_; (with_reducible refine (parity_Char.calls 15 t110 t111 _ A2.out).mono ?_); rintro e w' ⟨rfl, ⟨nd, rfl⟩⟩; refine ⟨_, rfl, ?_⟩) | ((with_reducible refine gate_callee (f := 25) rfl ?_); refine goesL_ (some 26) rfl rfl Try.func25 (by kernel_rfl) rfl #[.int .i64 31] rfl (by (try simp only [List.map_toArray, List.map_cons, List.map_nil]); first | done | rfl | (simp only [List.length_drop, List.length_take]; rfl)) ?_; (with_reducible refine (parity_Value.calls 31 t112 t113 _ A3.out).mono ?_); rintro e w' ⟨rfl, ⟨nd, rfl⟩⟩; refine ⟨_, rfl, ?_⟩) | ((with_reducible refine gate_callee (f := 25) rfl ?_); refine goesL_ (some 30) rfl rfl Try.func25 (by kernel_rfl) rfl #[.int .i64 15] rfl (by (try simp only [List.map_toArray, List.map_cons, List.map_nil]); first | done | rfl | (simp only [List.length_drop, List.length_take]; rfl)) ?_; (with_reducible refine (parity_Value.calls 15 t114 t115 _ A4.out).mono ?_); rintro e w' ⟨rfl, ⟨nd, rfl⟩⟩; refine ⟨_, rfl, ?_⟩) | ((with_reducible refine gate_callee (f := 25) rfl ?_); refine goesL_ (some 34) rfl rfl Try.func25 (by kernel_rfl) rfl #[.int .i64 32] rfl (by (try simp only [List.map_toArray, List.map_cons, List.map_nil]); first | done | rfl | (simp only [List.length_drop, List.length_take]; rfl)) ?_; (with_reducible refine (parity_Value.calls 32 t116 t117 _ A5.out).mono ?_); rintro e w' ⟨rfl, ⟨nd, rfl⟩⟩; refine ⟨_, rfl, ?_⟩) | ((with_reducible refine gate_dst (N := 38) rfl ?_); refine Kd.R_lit (Kd.int .i64) _ 3 ?hg (N := 38) ?hd (xs := ([11, 3, 15] : List Int)) (inner := [.int .i64 11, .int .i64 3, .int .i64 15]) (ok := fun _ => True) (okp := fun _ => True) ?hr ?hp (fun _ hk => hk) trivial (Below.refl _ _) (Nat.le_refl _) (by simp) ?_; (case hd => rfl); (case hg => rfl); (case hr => first | (go_simp; done) | (go_simp; rfl)); (case hp => exact (Reps.one (show Kd.M (Kd.int .i64) _ _ _ 11 [.int .i64 11] from rfl) (Reps.one (show Kd.M (Kd.int .i64) _ _ _ 3 [.int .i64 3] from rfl) (Reps.one (show Kd.M (Kd.int .i64) _ _ _ 15 [.int .i64 15] from rfl) (Reps.none _ _))))); intro v119 w23 ho24 hb hg_ hnew_; clear hg_ hnew_; (first | rw [← Ny118.out] at ho24 | (simp only [Int.reduceToNat] at ho24; rw [← Ny118.out] at ho24)); have n0_ := Aside0.mk (Kd.R_lower ho24 (below_size (by repeat (first | (with_reducible first | exact HB.out | apply below_alloc | apply pw_below_drewN | apply below_drew1) | exact HB.out)))); have n1_ := Aside0.mk (below_step (by repeat (first | (with_reducible first | exact HB.out | apply below_alloc | apply pw_below_drewN | apply below_drew1) | exact HB.out)) hb); clear HB; have HO120 := n0_; have HB := n1_; clear n0_ n1_; clear hb ho24; obtain ⟨Ao25, co25, eo25⟩ := Kd.R_slice HO120.out; subst eo25) | ((with_reducible refine gate_callee (f := 28) rfl ?_); refine goesL_ (some 39) rfl rfl Try.func28 (by kernel_rfl) rfl #[.slice Ao25 y118.length co25] rfl (by (try simp only [List.map_toArray, List.map_cons, List.map_nil]); first | done | rfl | (simp only [List.length_drop, List.length_take]; rfl)) ?_; (with_reducible refine (parity_Sum.calls _ _ y118 t121 t122 _ ?side1 ?side2 A6.out).mono ?_); (case side1 => repeat (first | exact (Kd.R_reads' HO120.out).2.2 | (with_reducible refine Kd.C_alloc ?_ _) | (with_reducible refine Kd.C_drewN ?_ _) | (with_reducible refine Kd.C_drew ?_))); (case side2 => exact (Kd.R_reads' HO120.out).2.1); rintro e w26 ⟨rfl, hb⟩; refine ⟨_, rfl, ?_⟩; have n0_ := Aside0.mk (Kd.R_below (by (with_reducible repeat (first | apply Kd.R_alloc | apply Kd.R_drewN | apply Kd.R_drew)); exact HO120.out) hb); have n1_ := Aside0.mk (below_step (by repeat (first | (with_reducible first | exact HB.out | apply below_alloc | apply pw_below_drewN | apply below_drew1) | exact HB.out)) hb); clear HO120; clear HB; have HO120 := n0_; have HB := n1_; clear n0_ n1_; (try clear hb); (try clear hb2); (try clear hk); (try clear hi)) | ((with_reducible refine gate_dst (N := 43) rfl ?_); refine Kd.R_lit (Kd.int .i64) _ 3 ?hg (N := 43) ?hd (xs := ([1, 16] : List Int)) (inner := [.int .i64 1, .int .i64 16]) (ok := fun _ => True) (okp := fun _ => True) ?hr ?hp (fun _ hk => hk) trivial (Below.refl _ _) (Nat.le_refl _) (by simp) ?_; (case hd => rfl); (case hg => rfl); (case hr => first | (go_simp; done) | (go_simp; rfl)); (case hp => exact (Reps.one (show Kd.M (Kd.int .i64) _ _ _ 1 [.int .i64 1] from rfl) (Reps.one (show Kd.M (Kd.int .i64) _ _ _ 16 [.int .i64 16] from rfl) (Reps.none _ _)))); intro v124 w27 ho28 hb hg_ hnew_; clear hg_ hnew_; (first | rw [← Ny123.out] at ho28 | (simp only [Int.reduceToNat] at ho28; rw [← Ny123.out] at ho28)); have n0_ := Aside0.mk (Kd.R_elder' (by (with_reducible repeat (first | apply Kd.R_alloc | apply Kd.R_drewN | apply Kd.R_drew)); exact HO120.out) (Kd.R_base ho28) hb); have n1_ := Aside0.mk (Kd.R_lower (Kd.R_new' ho28 (Kd.R_lt (by (with_reducible repeat (first | apply Kd.R_alloc | apply Kd.R_drewN | apply Kd.R_drew)); exact HO120.out))) (below_size (by repeat (first | (with_reducible first | exact HB.out | apply below_alloc | apply pw_below_drewN | apply below_drew1) | exact HB.out)))); have n2_ := Aside0.mk (below_step (by repeat (first | (with_reducible first | exact HB.out | apply below_alloc | apply pw_below_drewN | apply below_drew1) | exact HB.out)) hb); clear HO120; clear HB; have HO120 := n0_; have HO125 := n1_; have HB := n2_; clear n0_ n1_ n2_; clear hb ho28; obtain ⟨Ao29, co29, eo29⟩ := Kd.R_slice HO125.out; subst eo29) | ((with_reducible refine gate_callee (f := 28) rfl ?_); refine goesL_ (some 44) rfl rfl Try.func28 (by kernel_rfl) rfl #[.slice Ao29 y123.length co29] rfl (by (try simp only [List.map_toArray, List.map_cons, List.map_nil]); first | done | rfl | (simp only [List.length_drop, List.length_take]; rfl)) ?_; (with_reducible refine (parity_Sum.calls _ _ y123 t126 t127 _ ?side1 ?side2 A7.out).mono ?_); (case side1 => repeat (first | exact (Kd.R_reads' HO125.out).2.2 | (with_reducible refine Kd.C_alloc ?_ _) | (with_reducible refine Kd.C_drewN ?_ _) | (with_reducible refine Kd.C_drew ?_))); (case side2 => exact (Kd.R_reads' HO125.out).2.1); rintro e w30 ⟨rfl, hb⟩; refine ⟨_, rfl, ?_⟩; have n0_ := Aside0.mk (Kd.R_below (by (with_reducible repeat (first | apply Kd.R_alloc | apply Kd.R_drewN | apply Kd.R_drew)); exact HO120.out) hb); have n1_ := Aside0.mk (Kd.R_below (by (with_reducible repeat (first | apply Kd.R_alloc | apply Kd.R_drewN | apply Kd.R_drew)); exact HO125.out) hb); have n2_ := Aside0.mk (below_step (by repeat (first | (with_reducible first | exact HB.out | apply below_alloc | apply pw_below_drewN | apply below_drew1) | exact HB.out)) hb); clear HO120; clear HO125; clear HB; have HO120 := n0_; have HO125 := n1_; have HB := n2_; clear n0_ n1_ n2_; (try clear hb); (try clear hb2); (try clear hk); (try clear hi)) | ((with_reducible refine gate_callee (f := 30) rfl ?_); refine goesL_ (some 48) rfl rfl Try.func30 (by kernel_rfl) rfl #[.int .i64 11] rfl (by (try simp only [List.map_toArray, List.map_cons, List.map_nil]); first | done | rfl | (simp only [List.length_drop, List.length_take]; rfl)) ?_; (with_reducible refine (parity_Bits.calls 11 t128 t129 t130 t131 t132 t133 _ A8.out).mono ?_); rintro e w31 ⟨rfl, hb⟩; refine ⟨_, rfl, ?_⟩; have n0_ := Aside0.mk (Kd.R_below (by (with_reducible repeat (first | apply Kd.R_alloc | apply Kd.R_drewN | apply Kd.R_drew)); exact HO120.out) hb); have n1_ := Aside0.mk (Kd.R_below (by (with_reducible repeat (first | apply Kd.R_alloc | apply Kd.R_drewN | apply Kd.R_drew)); exact HO125.out) hb); have n2_ := Aside0.mk (below_step (by repeat (first | (with_reducible first | exact HB.out | apply below_alloc | apply pw_below_drewN | apply below_drew1) | exact HB.out)) hb); clear HO120; clear HO125; clear HB; have HO120 := n0_; have HO125 := n1_; have HB := n2_; clear n0_ n1_ n2_; (try clear hb); (try clear hb2); (try clear hk); (try clear hi)) | ((with_reducible refine gate_dst (N := 15) rfl ?_); refine box_event ?hg (N := 15) ?hd (cs := #[.bool false, .bool false, .bool false, .bool false, .bool false]) (t := 36) ?hr ?_; (case hd => rfl); (case hg => rfl); (case hr => first | (go_simp; done) | (go_simp; rfl)); intro gb134 hg w32 hbox hb; have n0_ := Aside0.mk (Kd.R_below (by (with_reducible repeat (first | apply Kd.R_alloc | apply Kd.R_drewN | apply Kd.R_drew)); exact HO120.out) hb); have n1_ := Aside0.mk (Kd.R_below (by (with_reducible repeat (first | apply Kd.R_alloc | apply Kd.R_drewN | apply Kd.R_drew)); exact HO125.out) hb); have n2_ := Aside0.mk (below_step (by repeat (first | (with_reducible first | exact HB.out | apply below_alloc | apply pw_below_drewN | apply below_drew1) | exact HB.out)) hb); have n3_ := Aside0.mk (hbox); have n4_ := Aside0.mk ((by rw [hg]; exact (below_size (by repeat (first | (with_reducible first | exact HB.out | apply below_alloc | apply pw_below_drewN | apply below_drew1) | exact HB.out))) : w.heap.size ≤ gb134)); have n5_ := Aside0.mk ((by rw [hg]; exact (below_size (by repeat (first | (with_reducible first | exact HB.out | apply below_alloc | apply pw_below_drewN | apply below_drew1) | exact HB.out))) : w.heap.size ≤ gb134)); clear HO120; clear HO125; clear HB; have HO120 := n0_; have HO125 := n1_; have HB := n2_; have BK134 := n3_; have GW134 := n4_; have GE134 := n5_; clear n0_ n1_ n2_ n3_ n4_ n5_; clear hb hbox hg; have hcz33_0 : w32.cell? ⟨gb134, 0, none⟩ = some (.bool false) := (blk_cell BK134.out 0).trans rfl; have hcz33_1 : w32.cell? ⟨gb134, 1, none⟩ = some (.bool false) := (blk_cell BK134.out 1).trans rfl; have hcz33_2 : w32.cell? ⟨gb134, 2, none⟩ = some (.bool false) := (blk_cell BK134.out 2).trans rfl; have hcz33_3 : w32.cell? ⟨gb134, 3, none⟩ = some (.bool false) := (blk_cell BK134.out 3).trans rfl; have hcz33_4 : w32.cell? ⟨gb134, 4, none⟩ = some (.bool false) := (blk_cell BK134.out 4).trans rfl; have hfz33_0 := blk_frozen BK134.out 0; have hfz33_1 := blk_frozen BK134.out 1; have hfz33_2 := blk_frozen BK134.out 2; have hfz33_3 := blk_frozen BK134.out 3; have hfz33_4 := blk_frozen BK134.out 4) | (go_at_call 32; (with_reducible refine (parity_Of.calls t128 t129 t130 t131 t132 t135 _ A22.out).mono ?_); rintro e w34 ⟨rfl, hb⟩; have n0_ := Aside0.mk (Kd.R_below (by (with_reducible repeat (first | apply Kd.R_alloc | apply Kd.R_drewN | apply Kd.R_drew)); exact (Kd.R_mono (Kd.R_far (p := ⟨gb134, 4, none⟩) (Kd.R_far (p := ⟨gb134, 3, none⟩) (Kd.R_far (p := ⟨gb134, 2, none⟩) (Kd.R_far (p := ⟨gb134, 1, none⟩) (Kd.R_far (p := ⟨gb134, 0, none⟩) (Kd.R_types HO120.out BK134.out (by decide)) (fun _ hk => hk.2) (.bool t128)) (fun _ hk => hk.2) (.bool t129)) (fun _ hk => hk.2) (.bool t130)) (fun _ hk => hk.2) (.bool t131)) (fun _ hk => hk.2) (.bool t132)) (fun _ h_ => h_.1))) hb); have n1_ := Aside0.mk (Kd.R_below (by (with_reducible repeat (first | apply Kd.R_alloc | apply Kd.R_drewN | apply Kd.R_drew)); exact (Kd.R_mono (Kd.R_far (p := ⟨gb134, 4, none⟩) (Kd.R_far (p := ⟨gb134, 3, none⟩) (Kd.R_far (p := ⟨gb134, 2, none⟩) (Kd.R_far (p := ⟨gb134, 1, none⟩) (Kd.R_far (p := ⟨gb134, 0, none⟩) (Kd.R_types HO125.out BK134.out (by decide)) (fun _ hk => hk.2) (.bool t128)) (fun _ hk => hk.2) (.bool t129)) (fun _ hk => hk.2) (.bool t130)) (fun _ hk => hk.2) (.bool t131)) (fun _ hk => hk.2) (.bool t132)) (fun _ h_ => h_.1))) hb); have n2_ := Aside0.mk (blk_below (g := gb134) (o := .cells #[.bool t128, .bool t129, .bool t130, .bool t131, .bool t132] 36 (0, 0)) (by (with_reducible repeat (first | refine blk_drewN ?_ _ | refine blk_drew ?_ | refine blk_alloc ?_ _)); refine blk_put (cs := #[.bool t128, .bool t129, .bool t130, .bool t131, .bool false]) ?_ 4 _ rfl; (with_reducible repeat (first | refine blk_drewN ?_ _ | refine blk_drew ?_ | refine blk_alloc ?_ _)); refine blk_put (cs := #[.bool t128, .bool t129, .bool t130, .bool false, .bool false]) ?_ 3 _ rfl; (with_reducible repeat (first | refine blk_drewN ?_ _ | refine blk_drew ?_ | refine blk_alloc ?_ _)); refine blk_put (cs := #[.bool t128, .bool t129, .bool false, .bool false, .bool false]) ?_ 2 _ rfl; (with_reducible repeat (first | refine blk_drewN ?_ _ | refine blk_drew ?_ | refine blk_alloc ?_ _)); refine blk_put (cs := #[.bool t128, .bool false, .bool false, .bool false, .bool false]) ?_ 1 _ rfl; (with_reducible repeat (first | refine blk_drewN ?_ _ | refine blk_drew ?_ | refine blk_alloc ?_ _)); refine blk_put (cs := #[.bool false, .bool false, .bool false, .bool false, .bool false]) ?_ 0 _ rfl; (with_reducible repeat (first | refine blk_drewN ?_ _ | refine blk_drew ?_ | refine blk_alloc ?_ _)); exact BK134.out) hb); have n3_ := Aside0.mk (below_step (by repeat (first | (with_reducible first | exact HB.out | apply below_alloc | apply pw_below_drewN | apply below_drew1 | refine below_set ?_ GE134.out) | exact HB.out)) hb); clear HO120; clear HO125; clear BK134; clear HB; have HO120 := n0_; have HO125 := n1_; have BK134 := n2_; have HB := n3_; clear n0_ n1_ n2_ n3_; (try clear hb); (try clear hb2); (try clear hk); (try clear hi)))
                            go_ret
                            exact ⟨by first | rfl | (simp [errW_none, errW_some] <;> rfl) | (simp [*, errW_none, errW_some] <;> rfl), by repeat (first | (with_reducible first | exact HB.out | apply below_alloc | apply pw_below_drewN | apply below_drew1 | refine below_set ?_ GE134.out) | exact HB.out)⟩
                          · rw [if_neg c21] at H
                            exact absurd H (by simp)
                        · rw [if_neg c20] at H
                          exact absurd H (by simp)
                      · rw [if_neg c19] at H
                        exact absurd H (by simp)
                    · rw [if_neg c18] at H
                      exact absurd H (by simp)
                  · rw [if_neg c17] at H
                    exact absurd H (by simp)
                · rw [if_neg c16] at H
                  exact absurd H (by simp)
              · rw [if_neg c15] at H
                exact absurd H (by simp)
            · rw [if_neg c14] at H
              exact absurd H (by simp)
          · rw [if_neg c13] at H
            exact absurd H (by simp)
        · rw [if_neg c12] at H
          exact absurd H (by simp)
      · rw [if_neg c11] at H
        exact absurd H (by simp)
    · rw [if_neg c10] at H
      exact absurd H (by simp)
  · rw [if_neg c9] at H
    exact absurd H (by simp)

end Go.Proofs.Ytfmpeojlaibblaa.S

/-
  ParityFlips: the walk of the law's Go code: one bit of a value's character that is changed is told.
-/
namespace Go.Proofs.Ytfmpeojlaibblaa.S
open Go.RowKit Go.Proofs.YtfmpeojlaibblaaW.PrintWords Go.Proofs.YtfmpeojlaibblaaW.PrintLast Go.Proofs.YtfmpeojlaibblaaW.PrintMore

theorem odd_ok : gatelinelaw10_odd.f = some true := by decide +kernel
theorem odd_at (w : World) : Calls Try.prog 27 #[] w fun e w' => e = .returned (.bool true) ∧ Below w.heap.size w w' := gatelinelaw10_odd.calls true w odd_ok
theorem pchar_no (v : Int) (h : ¬ (0 ≤ v ∧ v ≤ 15)) (w : World) : Calls Try.prog 23 #[.int .i64 v] w fun e w' => e = .returned (.tuple #[.int .i64 0, .int .i64 1]) ∧ Drawn0 w w' := by
  refine parity_Char.calls v 0 1 w ?_
  have hw : parity_within.f v 15 = some false := by
    unfold parity_within.f
    by_cases h0 : v ≥ 0
    · rw [if_pos h0]; simp; omega
    · rw [if_neg h0]
  unfold parity_Char.f
  rw [hw]
  rfl
def bq (n : Nat) (i : Nat) : Bool := (andBit (chr (n : Int))).getD i false
theorem flip_0 : ∀ n : Fin 16, parity_Value.f (ofTo (!bq n 0) (bq n 1) (bq n 2) (bq n 3) (bq n 4) 5) = some (0, 3) := by decide +kernel
theorem flip_1 : ∀ n : Fin 16, parity_Value.f (ofTo (bq n 0) (!bq n 1) (bq n 2) (bq n 3) (bq n 4) 5) = some (0, 3) := by decide +kernel
theorem flip_2 : ∀ n : Fin 16, parity_Value.f (ofTo (bq n 0) (bq n 1) (!bq n 2) (bq n 3) (bq n 4) 5) = some (0, 3) := by decide +kernel
theorem flip_3 : ∀ n : Fin 16, parity_Value.f (ofTo (bq n 0) (bq n 1) (bq n 2) (!bq n 3) (bq n 4) 5) = some (0, 3) := by decide +kernel
theorem flip_4 : ∀ n : Fin 16, parity_Value.f (ofTo (bq n 0) (bq n 1) (bq n 2) (bq n 3) (!bq n 4) 5) = some (0, 3) := by decide +kernel
theorem pbits_at (n : Nat) (hn : n < 16) (W : World) : Calls Try.prog 30 #[.int .i64 (chr (n : Int))] W fun e w' => e = .returned (.tuple #[.agg #[.bool (bq n 0), .bool (bq n 1), .bool (bq n 2), .bool (bq n 3), .bool (bq n 4)], .int .i64 0]) ∧ Below W.heap.size W w' :=
  bits_yes _ W (chr_bd _).1 (chr_bd _).2
theorem pbits_zero (W : World) : Calls Try.prog 30 #[.int .i64 0] W fun e w' => e = .returned (.tuple #[.agg #[.bool false, .bool false, .bool false, .bool false, .bool false], .int .i64 0]) ∧ Below W.heap.size W w' :=
  parity_Bits.calls 0 false false false false false 0 W (by decide +kernel)

set_option maxHeartbeats 2000000 in
theorem flips_bad (v bit : Int) (w : World) (h : ¬ (0 ≤ v ∧ v ≤ 15)) :
    Calls Try.prog 8 #[.int .i64 v, .int .i64 bit] w fun e w' => e = .returned (.bool true) ∧ Below w.heap.size w w' := by
  go_enter Try.func8, Try.ntmps8
  go_wp2_with (first | (go_at_call 23; refine (pchar_no v h _).mono ?_; rintro e w1 ⟨rfl, ⟨nd, rfl⟩⟩) | (go_at_call 30; refine (pbits_zero _).mono ?_; rintro e w2 ⟨rfl, hb2⟩) | (go_at_call 27; refine (odd_at _).mono ?_; rintro e w3 ⟨rfl, hb3⟩))
  go_ret
  exact ⟨rfl, below_step (below_alloc (below_step (pw_below_drewN (Below.refl _ w) nd) hb2) _) hb3⟩
set_option maxHeartbeats 2000000 in
theorem flips_out (n : Nat) (hn : n < 16) (bit : Int) (w : World) (h : bit < 0 ∨ 4 < bit) :
    Calls Try.prog 8 #[.int .i64 n, .int .i64 bit] w fun e w' => e = .returned (.bool true) ∧ Below w.heap.size w w' := by
  rcases h with h | h
  · have d0 : decide (bit < 0) = true := decide_eq_true h
    go_enter Try.func8, Try.ntmps8
    go_wp2_with (first | (go_at_call 23; refine (pchar_at _ (by omega) (by omega) _).mono ?_; rintro e w1 ⟨rfl, ⟨nd, rfl⟩⟩) | (go_at_call 30; refine (pbits_at n hn _).mono ?_; rintro e w2 ⟨rfl, hb2⟩) | (go_at_call 27; refine (odd_at _).mono ?_; rintro e w3 ⟨rfl, hb3⟩))
    go_ret
    exact ⟨rfl, below_step (below_alloc (below_step (pw_below_drewN (Below.refl _ w) nd) hb2) _) hb3⟩
  · have d0 : decide (bit < 0) = false := decide_eq_false (by omega)
    have d1 : decide (4 < bit) = true := decide_eq_true h
    go_enter Try.func8, Try.ntmps8
    go_wp2_with (first | (go_at_call 23; refine (pchar_at _ (by omega) (by omega) _).mono ?_; rintro e w1 ⟨rfl, ⟨nd, rfl⟩⟩) | (go_at_call 30; refine (pbits_at n hn _).mono ?_; rintro e w2 ⟨rfl, hb2⟩) | (go_at_call 27; refine (odd_at _).mono ?_; rintro e w3 ⟨rfl, hb3⟩))
    go_ret
    exact ⟨rfl, below_step (below_alloc (below_step (pw_below_drewN (Below.refl _ w) nd) hb2) _) hb3⟩
set_option maxHeartbeats 2000000 in
theorem flips_at_0 (n : Nat) (hn : n < 16) (w : World) :
    Calls Try.prog 8 #[.int .i64 n, .int .i64 0] w fun e w' => e = .returned (.bool true) ∧ Below w.heap.size w w' := by
  have hB := pbits_at n hn
  have hF := flip_0 ⟨n, hn⟩
  simp only at hF
  generalize bq n 0 = b0 at hB hF
  generalize bq n 1 = b1 at hB hF
  generalize bq n 2 = b2 at hB hF
  generalize bq n 3 = b3 at hB hF
  generalize bq n 4 = b4 at hB hF
  have HF := Lib.hid hF
  clear hF
  go_enter Try.func8, Try.ntmps8
  go_wp2_with (first | (go_at_call 23; refine (pchar_at _ (by omega) (by omega) _).mono ?_; rintro e w1 ⟨rfl, ⟨nd, rfl⟩⟩) | (go_at_call 30; refine (hB _).mono ?_; rintro e w2 ⟨rfl, hb2⟩) | (go_at_call 32; refine (of_walk _ _ _ _ _ _).mono ?_; rintro e w4 ⟨rfl, hb4⟩) | (go_at_call 25; refine (parity_Value.calls _ _ _ _ HF.out).mono ?_; rintro e w5 ⟨rfl, ⟨nd5, rfl⟩⟩) | (go_at_call 27; refine (odd_at _).mono ?_; rintro e w3 ⟨rfl, hb3⟩))
  go_ret
  refine ⟨rfl, below_step (pw_below_drewN (below_step ?_ hb4) nd5) hb3⟩
  first | exact below_alloc (below_step (pw_below_drewN (Below.refl _ w) nd) hb2) _ | exact (below_alloc (below_step (pw_below_drewN (Below.refl _ w) nd) hb2) _).setCell (below_step (pw_below_drewN (Below.refl _ w) nd) hb2).size _
set_option maxHeartbeats 2000000 in
theorem flips_at_1 (n : Nat) (hn : n < 16) (w : World) :
    Calls Try.prog 8 #[.int .i64 n, .int .i64 1] w fun e w' => e = .returned (.bool true) ∧ Below w.heap.size w w' := by
  have hB := pbits_at n hn
  have hF := flip_1 ⟨n, hn⟩
  simp only at hF
  generalize bq n 0 = b0 at hB hF
  generalize bq n 1 = b1 at hB hF
  generalize bq n 2 = b2 at hB hF
  generalize bq n 3 = b3 at hB hF
  generalize bq n 4 = b4 at hB hF
  have HF := Lib.hid hF
  clear hF
  go_enter Try.func8, Try.ntmps8
  go_wp2_with (first | (go_at_call 23; refine (pchar_at _ (by omega) (by omega) _).mono ?_; rintro e w1 ⟨rfl, ⟨nd, rfl⟩⟩) | (go_at_call 30; refine (hB _).mono ?_; rintro e w2 ⟨rfl, hb2⟩) | (go_at_call 32; refine (of_walk _ _ _ _ _ _).mono ?_; rintro e w4 ⟨rfl, hb4⟩) | (go_at_call 25; refine (parity_Value.calls _ _ _ _ HF.out).mono ?_; rintro e w5 ⟨rfl, ⟨nd5, rfl⟩⟩) | (go_at_call 27; refine (odd_at _).mono ?_; rintro e w3 ⟨rfl, hb3⟩))
  go_ret
  refine ⟨rfl, below_step (pw_below_drewN (below_step ?_ hb4) nd5) hb3⟩
  first | exact below_alloc (below_step (pw_below_drewN (Below.refl _ w) nd) hb2) _ | exact (below_alloc (below_step (pw_below_drewN (Below.refl _ w) nd) hb2) _).setCell (below_step (pw_below_drewN (Below.refl _ w) nd) hb2).size _
set_option maxHeartbeats 2000000 in
theorem flips_at_2 (n : Nat) (hn : n < 16) (w : World) :
    Calls Try.prog 8 #[.int .i64 n, .int .i64 2] w fun e w' => e = .returned (.bool true) ∧ Below w.heap.size w w' := by
  have hB := pbits_at n hn
  have hF := flip_2 ⟨n, hn⟩
  simp only at hF
  generalize bq n 0 = b0 at hB hF
  generalize bq n 1 = b1 at hB hF
  generalize bq n 2 = b2 at hB hF
  generalize bq n 3 = b3 at hB hF
  generalize bq n 4 = b4 at hB hF
  have HF := Lib.hid hF
  clear hF
  go_enter Try.func8, Try.ntmps8
  go_wp2_with (first | (go_at_call 23; refine (pchar_at _ (by omega) (by omega) _).mono ?_; rintro e w1 ⟨rfl, ⟨nd, rfl⟩⟩) | (go_at_call 30; refine (hB _).mono ?_; rintro e w2 ⟨rfl, hb2⟩) | (go_at_call 32; refine (of_walk _ _ _ _ _ _).mono ?_; rintro e w4 ⟨rfl, hb4⟩) | (go_at_call 25; refine (parity_Value.calls _ _ _ _ HF.out).mono ?_; rintro e w5 ⟨rfl, ⟨nd5, rfl⟩⟩) | (go_at_call 27; refine (odd_at _).mono ?_; rintro e w3 ⟨rfl, hb3⟩))
  go_ret
  refine ⟨rfl, below_step (pw_below_drewN (below_step ?_ hb4) nd5) hb3⟩
  first | exact below_alloc (below_step (pw_below_drewN (Below.refl _ w) nd) hb2) _ | exact (below_alloc (below_step (pw_below_drewN (Below.refl _ w) nd) hb2) _).setCell (below_step (pw_below_drewN (Below.refl _ w) nd) hb2).size _
set_option maxHeartbeats 2000000 in
theorem flips_at_3 (n : Nat) (hn : n < 16) (w : World) :
    Calls Try.prog 8 #[.int .i64 n, .int .i64 3] w fun e w' => e = .returned (.bool true) ∧ Below w.heap.size w w' := by
  have hB := pbits_at n hn
  have hF := flip_3 ⟨n, hn⟩
  simp only at hF
  generalize bq n 0 = b0 at hB hF
  generalize bq n 1 = b1 at hB hF
  generalize bq n 2 = b2 at hB hF
  generalize bq n 3 = b3 at hB hF
  generalize bq n 4 = b4 at hB hF
  have HF := Lib.hid hF
  clear hF
  go_enter Try.func8, Try.ntmps8
  go_wp2_with (first | (go_at_call 23; refine (pchar_at _ (by omega) (by omega) _).mono ?_; rintro e w1 ⟨rfl, ⟨nd, rfl⟩⟩) | (go_at_call 30; refine (hB _).mono ?_; rintro e w2 ⟨rfl, hb2⟩) | (go_at_call 32; refine (of_walk _ _ _ _ _ _).mono ?_; rintro e w4 ⟨rfl, hb4⟩) | (go_at_call 25; refine (parity_Value.calls _ _ _ _ HF.out).mono ?_; rintro e w5 ⟨rfl, ⟨nd5, rfl⟩⟩) | (go_at_call 27; refine (odd_at _).mono ?_; rintro e w3 ⟨rfl, hb3⟩))
  go_ret
  refine ⟨rfl, below_step (pw_below_drewN (below_step ?_ hb4) nd5) hb3⟩
  first | exact below_alloc (below_step (pw_below_drewN (Below.refl _ w) nd) hb2) _ | exact (below_alloc (below_step (pw_below_drewN (Below.refl _ w) nd) hb2) _).setCell (below_step (pw_below_drewN (Below.refl _ w) nd) hb2).size _
set_option maxHeartbeats 2000000 in
theorem flips_at_4 (n : Nat) (hn : n < 16) (w : World) :
    Calls Try.prog 8 #[.int .i64 n, .int .i64 4] w fun e w' => e = .returned (.bool true) ∧ Below w.heap.size w w' := by
  have hB := pbits_at n hn
  have hF := flip_4 ⟨n, hn⟩
  simp only at hF
  generalize bq n 0 = b0 at hB hF
  generalize bq n 1 = b1 at hB hF
  generalize bq n 2 = b2 at hB hF
  generalize bq n 3 = b3 at hB hF
  generalize bq n 4 = b4 at hB hF
  have HF := Lib.hid hF
  clear hF
  go_enter Try.func8, Try.ntmps8
  go_wp2_with (first | (go_at_call 23; refine (pchar_at _ (by omega) (by omega) _).mono ?_; rintro e w1 ⟨rfl, ⟨nd, rfl⟩⟩) | (go_at_call 30; refine (hB _).mono ?_; rintro e w2 ⟨rfl, hb2⟩) | (go_at_call 32; refine (of_walk _ _ _ _ _ _).mono ?_; rintro e w4 ⟨rfl, hb4⟩) | (go_at_call 25; refine (parity_Value.calls _ _ _ _ HF.out).mono ?_; rintro e w5 ⟨rfl, ⟨nd5, rfl⟩⟩) | (go_at_call 27; refine (odd_at _).mono ?_; rintro e w3 ⟨rfl, hb3⟩))
  go_ret
  refine ⟨rfl, below_step (pw_below_drewN (below_step ?_ hb4) nd5) hb3⟩
  first | exact below_alloc (below_step (pw_below_drewN (Below.refl _ w) nd) hb2) _ | exact (below_alloc (below_step (pw_below_drewN (Below.refl _ w) nd) hb2) _).setCell (below_step (pw_below_drewN (Below.refl _ w) nd) hb2).size _
theorem flips_walk (v bit : Int) (w : World) : Calls Try.prog 8 #[.int .i64 v, .int .i64 bit] w fun e w' => e = .returned (.bool true) ∧ Below w.heap.size w w' := by
  by_cases hv : 0 ≤ v ∧ v ≤ 15
  · obtain ⟨n, rfl⟩ := Int.eq_ofNat_of_zero_le hv.1
    by_cases hb : bit < 0 ∨ 4 < bit
    · exact flips_out n (by omega) bit w hb
    · obtain h | h | h | h | h : bit = 0 ∨ bit = 1 ∨ bit = 2 ∨ bit = 3 ∨ bit = 4 := by omega
      · subst h; exact flips_at_0 n (by omega) w
      · subst h; exact flips_at_1 n (by omega) w
      · subst h; exact flips_at_2 n (by omega) w
      · subst h; exact flips_at_3 n (by omega) w
      · subst h; exact flips_at_4 n (by omega) w
  · exact flips_bad v bit w hv
end Go.Proofs.Ytfmpeojlaibblaa.S

/-
  Plain lemmas on the parity functions: characters, values, sums, bits.
-/
namespace Go.Proofs.Ytfmpeojlaibblaa.Pure
open Go.RowKit Go.Proofs.Ytfmpeojlaibblaa.S Go.Proofs.YtfmpeojlaibblaaW.PrintWords Go.Proofs.YtfmpeojlaibblaaW.PrintLast

theorem pchar_yes (v : Int) (h0 : 0 ≤ v) (h1 : v ≤ 15) : parity_Char.f v = some (chr v, 0) := by
  obtain ⟨n, rfl⟩ := Int.eq_ofNat_of_zero_le h0
  exact pchar_all ⟨n, by omega⟩
theorem within_false (v m : Int) (h : ¬ (0 ≤ v ∧ v ≤ m)) : parity_within.f v m = some false := by
  unfold parity_within.f
  by_cases h0 : v ≥ 0
  · rw [if_pos h0]; simp; omega
  · rw [if_neg h0]
theorem pchar_bad (v : Int) (h : ¬ (0 ≤ v ∧ v ≤ 15)) : parity_Char.f v = some (0, 1) := by
  unfold parity_Char.f
  rw [within_false v 15 h]
  rfl
theorem rchar_yes (v : Int) (h0 : 0 ≤ v) (h1 : v ≤ 15) : Ev (fun k => gatelineref10_Char.f k v) (chr v, 0) := by
  obtain ⟨n, rfl⟩ := Int.eq_ofNat_of_zero_le h0
  exact Ev.of (fun k => gatelineref10_Char.mono _ k) (char_all ⟨n, by omega⟩)
theorem rchar_bad (v : Int) (h : ¬ (0 ≤ v ∧ v ≤ 15)) : Ev (fun k => gatelineref10_Char.f k v) (0, 1) := by
  refine ⟨1, fun k hk => ?_⟩
  obtain ⟨k, rfl⟩ : ∃ m, k = m + 1 := ⟨k - 1, by omega⟩
  show gatelineref10_Char.f (k + 1) v = _
  unfold gatelineref10_Char.f
  split
  · rw [gatelineref10_Char.j0, if_pos rfl]
  · rw [decide_eq_true (by omega), gatelineref10_Char.j0, if_pos rfl]
/-- What both say of a number as a value: one pair. -/
theorem char_both (v : Int) : ∃ p, parity_Char.f v = some p ∧ Ev (fun k => gatelineref10_Char.f k v) p := by
  by_cases h : 0 ≤ v ∧ v ≤ 15
  · exact ⟨_, pchar_yes v h.1 h.2, rchar_yes v h.1 h.2⟩
  · exact ⟨_, pchar_bad v h, rchar_bad v h⟩
theorem value_all : ∀ c : Fin 32, ∃ p, parity_Value.f (c.val : Int) = some p ∧ gatelineref10_Value.f 20 (c.val : Int) = some p := by
  have h : ∀ c : Fin 32, (parity_Value.f (c.val : Int)).isSome = true ∧ parity_Value.f (c.val : Int) = gatelineref10_Value.f 20 (c.val : Int) := by decide +kernel
  intro c
  obtain ⟨p, hp⟩ := Option.isSome_iff_exists.1 (h c).1
  exact ⟨p, hp, (h c).2 ▸ hp⟩
theorem pvalue_bad (c : Int) (h : ¬ (0 ≤ c ∧ c ≤ 31)) : parity_Value.f c = some (0, 1) := by
  unfold parity_Value.f
  rw [within_false c 31 h]
  rfl
theorem rvalue_bad (c : Int) (h : ¬ (0 ≤ c ∧ c ≤ 31)) : Ev (fun k => gatelineref10_Value.f k c) (0, 1) := by
  refine ⟨1, fun k hk => ?_⟩
  obtain ⟨k, rfl⟩ : ∃ m, k = m + 1 := ⟨k - 1, by omega⟩
  show gatelineref10_Value.f (k + 1) c = _
  unfold gatelineref10_Value.f
  split
  · rw [gatelineref10_Value.j0, if_pos rfl]
  · rw [decide_eq_true (by omega), gatelineref10_Value.j0, if_pos rfl]
theorem value_both (c : Int) : ∃ p, parity_Value.f c = some p ∧ Ev (fun k => gatelineref10_Value.f k c) p := by
  by_cases h : 0 ≤ c ∧ c ≤ 31
  · obtain ⟨n, rfl⟩ := Int.eq_ofNat_of_zero_le h.1
    obtain ⟨p, h1, h2⟩ := value_all ⟨n, by omega⟩
    exact ⟨p, h1, Ev.of (fun k => gatelineref10_Value.mono _ k) h2⟩
  · exact ⟨_, pvalue_bad c h, rvalue_bad c h⟩

/-! ### sums -/
theorem sumOk_iff (l : List Int) : ∀ k : Nat, sumOk l k = true ↔ ∀ j : Nat, j < k → 0 ≤ rd l (j : Int) ∧ rd l (j : Int) ≤ 15
  | 0 => by simp [sumOk]
  | k + 1 => by
    simp only [sumOk, Bool.and_eq_true, sumOk_iff l k, okVal, decide_eq_true_eq]
    constructor
    · rintro ⟨h1, h2⟩ j hj
      rcases Nat.lt_or_ge j k with h | h
      · exact h1 j h
      · obtain rfl : j = k := by omega
        exact h2
    · intro h
      exact ⟨fun j hj => h j (by omega), h k (by omega)⟩
/-- The sum and whether the values are right. -/
def sumP (l : List Int) : Int × Int := if sumOk l l.length = true then (sumAll l l.length, 0) else (0, 1)
theorem psum (l : List Int) (h : l.length ≤ 140737488355328) : parity_Sum.f l = some (sumP l) := by
  unfold parity_Sum.f sumP
  rw [if_pos h]
  split <;> rfl
theorem rsum_l (l : List Int) (hm : l.length ≤ 140737488355328) : ∀ (d i k : Nat), l.length - i = d → i ≤ l.length → d < k → sumOk l i = true →
    gatelineref10_Sum.l0 k l (sumAll l i) (i : Int) = some (sumP l) := by
  intro d
  induction d with
  | zero =>
    intro i k hd hi hk ho
    obtain ⟨k, rfl⟩ : ∃ m, k = m + 1 := ⟨k - 1, by omega⟩
    obtain rfl : i = l.length := by omega
    simp only [gatelineref10_Sum.l0]
    rw [if_neg (by omega)]
    simp only [sumP, ho, if_true]
  | succ d ih =>
    intro i k hd hi hk ho
    obtain ⟨k, rfl⟩ : ∃ m, k = m + 1 := ⟨k - 1, by omega⟩
    simp only [gatelineref10_Sum.l0]
    rw [if_pos (by omega), if_pos (by omega)]
    have bad : ¬ (0 ≤ rd l (i : Int) ∧ rd l (i : Int) ≤ 15) → sumP l = (0, 1) := by
      intro hb
      unfold sumP
      rw [if_neg]
      intro h
      exact hb ((sumOk_iff l _).1 h i (by omega))
    by_cases h0 : rd l (i : Int) < 0
    · rw [if_pos h0, bad (by omega)]
    · rw [if_neg h0]
      by_cases h1 : rd l (i : Int) > 15
      · rw [if_pos h1, bad (by omega)]
      · rw [if_neg h1, wrap_in (by omega) (by omega), show ((i : Int) + 1) = ((i + 1 : Nat) : Int) by omega]
        exact ih (i + 1) k (by omega) (by omega) (by omega) (by simp only [sumOk, ho, okVal, Bool.true_and, decide_eq_true_eq]; omega)
theorem rsum (l : List Int) (hm : l.length ≤ 140737488355328) : Ev (fun k => gatelineref10_Sum.f k l) (sumP l) :=
  ⟨l.length + 1, fun k hk => rsum_l l hm l.length 0 k (by omega) (by omega) (by omega) rfl⟩

/-! ### sums of values, as natural numbers -/
def nsum (f : Nat → Nat) : Nat → Nat
  | 0 => 0
  | k + 1 => nsum f k ^^^ f k
theorem nsum_lt (f : Nat → Nat) : ∀ k : Nat, (∀ j, j < k → f j < 16) → nsum f k < 16
  | 0, _ => by show (0 : Nat) < 16; decide
  | k + 1, h => Nat.xor_lt_two_pow (n := 4) (nsum_lt f k (fun j hj => h j (by omega))) (h k (by omega))
theorem ofInt_i64 (a : Nat) (ha : a < 9223372036854775808) : (BitVec.ofInt 64 (a : Int)).toNat = a := by
  rw [BitVec.ofInt_natCast, BitVec.toNat_ofNat]; exact Nat.mod_eq_of_lt (by omega)
theorem i64_xor_nat (a b : Nat) (ha : a < 9223372036854775808) (hb : b < 9223372036854775808) : Go.bits .xor .i64 (a : Int) (b : Int) = ((a ^^^ b : Nat) : Int) := by
  have hx : a ^^^ b < 2 ^ 63 := Nat.xor_lt_two_pow (by omega) (by omega)
  show IntKind.i64.wrap ((BitVec.ofInt 64 (a : Int) ^^^ BitVec.ofInt 64 (b : Int)).toNat : Int) = _
  rw [BitVec.toNat_xor, ofInt_i64 a ha, ofInt_i64 b hb, IntKind.wrap_i64]
  omega
theorem sumAll_nat (l : List Int) : ∀ k : Nat, sumOk l k = true → sumAll l k = ((nsum (fun j => (rd l (j : Int)).toNat) k : Nat) : Int)
  | 0, _ => rfl
  | k + 1, h => by
    have hk := (sumOk_iff l (k + 1)).1 h
    have h1 : sumOk l k = true := (sumOk_iff l k).2 fun j hj => hk j (by omega)
    have h2 := hk k (by omega)
    have h3 := nsum_lt (fun j => (rd l (j : Int)).toNat) k (fun j hj => by have := hk j (by omega); show (rd l (j : Int)).toNat < 16; omega)
    simp only [sumAll, nsum]
    rw [sumAll_nat l k h1]
    have e : rd l (k : Int) = (((rd l (k : Int)).toNat : Nat) : Int) := by omega
    rw [show Go.bits .xor .i64 ((nsum (fun j => (rd l (j : Int)).toNat) k : Nat) : Int) (rd l (k : Int)) = Go.bits .xor .i64 ((nsum (fun j => (rd l (j : Int)).toNat) k : Nat) : Int) (((rd l (k : Int)).toNat : Nat) : Int) by rw [← e]]
    exact i64_xor_nat _ _ (by omega) (by omega)
theorem nsum_turn (f g : Nat → Nat) (i v : Nat) (hg : g i = v) (hf : ∀ j, j ≠ i → g j = f j) : ∀ k, nsum g k = if i < k then nsum f k ^^^ (f i ^^^ v) else nsum f k
  | 0 => by simp [nsum]
  | k + 1 => by
    simp only [nsum]
    rw [nsum_turn f g i v hg hf k]
    rcases Nat.lt_trichotomy i k with h | h | h
    · rw [if_pos h, if_pos (by omega), hf k (by omega), Nat.xor_assoc (nsum f k) (f i ^^^ v) (f k), Nat.xor_comm (f i ^^^ v) (f k), ← Nat.xor_assoc]
    · subst h
      rw [if_neg (by omega), if_pos (by omega), hg, Nat.xor_assoc, ← Nat.xor_assoc (f i) (f i) v, Nat.xor_self, Nat.zero_xor]
    · rw [if_neg (by omega), if_neg (by omega), hf k (by omega)]
theorem nat_xor_zero (a b : Nat) : a ^^^ b = 0 ↔ a = b := by
  constructor
  · intro h
    have h2 : a ^^^ (a ^^^ b) = a ^^^ 0 := by rw [h]
    rw [← Nat.xor_assoc, Nat.xor_self, Nat.zero_xor, Nat.xor_zero] at h2
    exact h2.symm
  · rintro rfl
    exact Nat.xor_self a
theorem xor_stays (a b : Nat) : a = a ^^^ b ↔ b = 0 := by
  constructor
  · intro h
    have h2 : a ^^^ a = a ^^^ (a ^^^ b) := by rw [← h]
    rw [← Nat.xor_assoc, Nat.xor_self, Nat.zero_xor] at h2
    exact h2.symm
  · rintro rfl
    rw [Nat.xor_zero]

/-! ### bits -/
theorem bits_all : ∀ c : Fin 32, (Go.bits .and .i64 (c.val : Int) 1 == 1) = ((c.val : Int) % 2 == 1) ∧ (Go.bits .and .i64 ((c.val : Int) / 2) 1 == 1) = ((c.val : Int) / 2 % 2 == 1) ∧ (Go.bits .and .i64 ((c.val : Int) / 4) 1 == 1) = ((c.val : Int) / 2 / 2 % 2 == 1) ∧
    (Go.bits .and .i64 ((c.val : Int) / 8) 1 == 1) = ((c.val : Int) / 2 / 2 / 2 % 2 == 1) ∧ (Go.bits .and .i64 ((c.val : Int) / 16) 1 == 1) = ((c.val : Int) / 2 / 2 / 2 / 2 % 2 == 1) := by decide +kernel
theorem bits_same (c : Int) : parity_Bits.f c = gatelineref10_Bits.f c := by
  by_cases h : 0 ≤ c ∧ c ≤ 31
  · obtain ⟨n, rfl⟩ := Int.eq_ofNat_of_zero_le h.1
    obtain ⟨h0, h1, h2, h3, h4⟩ := bits_all ⟨n, by omega⟩
    simp only at h0 h1 h2 h3 h4
    unfold parity_Bits.f gatelineref10_Bits.f
    rw [if_pos h, if_pos h, h0, h1, h2, h3, h4]
  · unfold parity_Bits.f gatelineref10_Bits.f
    rw [if_neg h, if_neg h]
theorem of_same : ∀ b0 b1 b2 b3 b4 : Bool, ofTo b0 b1 b2 b3 b4 5 = refTo b0 b1 b2 b3 b4 5 := by decide +kernel
theorem bits_of_all : ∀ b0 b1 b2 b3 b4 : Bool, (0 ≤ ofTo b0 b1 b2 b3 b4 5 ∧ ofTo b0 b1 b2 b3 b4 5 ≤ 31) ∧ (Go.bits .and .i64 (ofTo b0 b1 b2 b3 b4 5) 1 == 1) = b0 ∧ (Go.bits .and .i64 (ofTo b0 b1 b2 b3 b4 5 / 2) 1 == 1) = b1 ∧
    (Go.bits .and .i64 (ofTo b0 b1 b2 b3 b4 5 / 4) 1 == 1) = b2 ∧ (Go.bits .and .i64 (ofTo b0 b1 b2 b3 b4 5 / 8) 1 == 1) = b3 ∧ (Go.bits .and .i64 (ofTo b0 b1 b2 b3 b4 5 / 16) 1 == 1) = b4 := by decide +kernel
theorem bits_of (b0 b1 b2 b3 b4 : Bool) : parity_Bits.f (ofTo b0 b1 b2 b3 b4 5) = some (b0, b1, b2, b3, b4, 0) := by
  obtain ⟨h, h0, h1, h2, h3, h4⟩ := bits_of_all b0 b1 b2 b3 b4
  unfold parity_Bits.f
  rw [if_pos h, h0, h1, h2, h3, h4]
theorem value_chr : ∀ v : Fin 16, parity_Value.f (chr (v.val : Int)) = some ((v.val : Int), 0) := by decide +kernel
end Go.Proofs.Ytfmpeojlaibblaa.Pure

/-
  track: bits into bytes and back, the plain part.
-/
namespace Go.Proofs.Ytfmpeojlaibblaa.Pure
open Go.RowKit Go.Proofs.Ytfmpeojlaibblaa.S Go.Proofs.YtfmpeojlaibblaaW.PrintWords Go.Proofs.YtfmpeojlaibblaaW.PrintLast Go.Proofs.YtfmpeojlaibblaaW.PrintMore

/-! ### bits into bytes -/
def bn (b : Bool) : Nat := if b then 1 else 0
def byt (l : List Bool) (i : Nat) : Nat → Nat
  | 0 => 0
  | k + 1 => 2 * byt l i k + bn (l.getD (i + k) false)
def v8 (b0 b1 b2 b3 b4 b5 b6 b7 : Bool) : Nat := 2 * (2 * (2 * (2 * (2 * (2 * (2 * (2 * 0 + bn b0) + bn b1) + bn b2) + bn b3) + bn b4) + bn b5) + bn b6) + bn b7
theorem byt8 (l : List Bool) (i : Nat) : byt l i 8 = v8 (l.getD i false) (l.getD (i + 1) false) (l.getD (i + 2) false) (l.getD (i + 3) false) (l.getD (i + 4) false) (l.getD (i + 5) false) (l.getD (i + 6) false) (l.getD (i + 7) false) := rfl
def packL (l : List Bool) : List Int := (List.range ((l.length + 7) / 8)).map fun q => ((byt l (8 * q) 8 : Nat) : Int)
theorem bn_le (b : Bool) : bn b ≤ 1 := by cases b <;> simp [bn]
theorem byt_lt (l : List Bool) (i : Nat) : ∀ k, byt l i k < 2 ^ k
  | 0 => by simp [byt]
  | k + 1 => by
    have := byt_lt l i k
    have := bn_le (l.getD (i + k) false)
    simp only [byt]
    omega
theorem rdOf_nat (l : List Bool) (i : Nat) : rdOf false l (i : Int) = l.getD i false := by simp [rdOf]

theorem rpack_l1 (l : List Bool) (x3 : List Int) (i : Nat) (hl : l.length ≤ 1000000) (hi : i ≤ 1000000) (r : List Int) (hx : x3.length < 140737488355328) (hr : Ev (fun k => gatelineref11_Pack.l0 k l (x3 ++ [((byt l i 8 : Nat) : Int)]) ((i + 8 : Nat) : Int)) r) : ∀ d j, j + d = 8 →
    Ev (fun k => gatelineref11_Pack.l1 k l x3 (i : Int) ((byt l i j : Nat) : Int) ((i + j : Nat) : Int)) r := by
  intro d
  induction d with
  | zero =>
    intro j hj
    obtain rfl : j = 8 := by omega
    refine Ev.step (fun k => ?_) hr
    show gatelineref11_Pack.l1 (k + 1) _ _ _ _ _ = _
    have := byt_lt l i 8
    rw [gatelineref11_Pack.l1, wrap_in (n := (i : Int) + 8) (by omega) (by omega), if_neg (by omega), if_pos hx, Int.emod_eq_of_lt (by omega) (by omega)]
    rfl
  | succ d ih =>
    intro j hj
    have hlt := byt_lt l i j
    have h2 : 2 ^ j ≤ 128 := by
      have : j ≤ 7 := by omega
      calc 2 ^ j ≤ 2 ^ 7 := Nat.pow_le_pow_right (by decide) this
        _ = 128 := rfl
    refine Ev.step (fun k => ?_) (ih (j + 1) (by omega))
    show gatelineref11_Pack.l1 (k + 1) _ _ _ _ _ = _
    rw [gatelineref11_Pack.l1, wrap_in (n := (i : Int) + 8) (by omega) (by omega), if_pos (by omega), wrap_in (n := 2 * ((byt l i j : Nat) : Int)) (by omega) (by omega), wrap_in (n := ((i + j : Nat) : Int) + 1) (by omega) (by omega), wrap_in (n := 2 * ((byt l i j : Nat) : Int) + 1) (by omega) (by omega), rdOf_nat]
    by_cases hb : i + j < l.length
    · rw [if_pos (by omega), if_pos (by omega)]
      cases hv : l.getD (i + j) false
      · rw [if_neg (by simp)]
        congr 1
        simp only [byt, hv, bn]
        simp
      · rw [if_pos rfl]
        congr 1
        simp only [byt, hv, bn]
        simp
    · rw [if_neg (by omega)]
      have hv : l.getD (i + j) false = false := by rw [List.getD_eq_getElem?_getD, List.getElem?_eq_none (by omega)]; rfl
      congr 1
      simp only [byt, hv, bn]
      simp
theorem rpack_l0 (l : List Bool) (hl : l.length ≤ 1000000) : ∀ d q, q + d = (l.length + 7) / 8 → Ev (fun k => gatelineref11_Pack.l0 k l ((List.range q).map fun q => ((byt l (8 * q) 8 : Nat) : Int)) ((8 * q : Nat) : Int)) (packL l) := by
  intro d
  induction d with
  | zero =>
    intro q hq
    refine Ev.step (f := fun _ => some (packL l)) (fun k => ?_) (Ev.now _)
    show gatelineref11_Pack.l0 (k + 1) _ _ _ = _
    obtain rfl : q = (l.length + 7) / 8 := by omega
    rw [gatelineref11_Pack.l0, if_neg (by omega)]
    rfl
  | succ d ih =>
    intro q hq
    refine Ev.step (fun k => ?_) (rpack_l1 l ((List.range q).map fun q => ((byt l (8 * q) 8 : Nat) : Int)) (8 * q) hl (by omega) (packL l) (by simp; omega) ?_ 8 0 rfl)
    · show gatelineref11_Pack.l0 (k + 1) _ _ _ = _
      rw [gatelineref11_Pack.l0, if_pos (by omega)]
      rfl
    · have h := ih (q + 1) (by omega)
      rw [List.range_succ, List.map_append] at h
      exact h
theorem rpack (l : List Bool) (hl : l.length ≤ 1000000) : Ev (fun k => gatelineref11_Pack.f k l) (packL l) := rpack_l0 l hl ((l.length + 7) / 8) 0 (by omega)

theorem or_bit : ∀ b0 b1 b2 b3 b4 b5 b6 b7 : Bool, ∀ j : Fin 8,
    Go.bits .or .u8 ((v8 (decide (0 < j.val) && b0) (decide (1 < j.val) && b1) (decide (2 < j.val) && b2) (decide (3 < j.val) && b3) (decide (4 < j.val) && b4) (decide (5 < j.val) && b5) (decide (6 < j.val) && b6) (decide (7 < j.val) && b7) : Nat) : Int) (shr .u8 128 (j.val : Int)) =
      ((v8 ((decide (0 < j.val) && b0) || (j.val == 0)) ((decide (1 < j.val) && b1) || (j.val == 1)) ((decide (2 < j.val) && b2) || (j.val == 2)) ((decide (3 < j.val) && b3) || (j.val == 3)) ((decide (4 < j.val) && b4) || (j.val == 4)) ((decide (5 < j.val) && b5) || (j.val == 5)) ((decide (6 < j.val) && b6) || (j.val == 6)) ((decide (7 < j.val) && b7) || (j.val == 7)) : Nat) : Int) := by decide +kernel
theorem take_getD (l : List Bool) (i t : Nat) : (l.take i).getD t false = (decide (t < i) && l.getD t false) := by
  rw [List.getD_eq_getElem?_getD, List.getD_eq_getElem?_getD, List.getElem?_take]
  by_cases h : t < i
  · simp [h]
  · simp [h]
theorem byt_congr {l l' : List Bool} {i : Nat} : ∀ k, (∀ t, t < k → l.getD (i + t) false = l'.getD (i + t) false) → byt l i k = byt l' i k
  | 0, _ => rfl
  | k + 1, h => by simp only [byt]; rw [byt_congr k (fun t ht => h t (by omega)), h k (by omega)]
def packTo (l : List Bool) (i : Nat) : List Int := (List.range ((l.length + 7) / 8)).map fun q => ((byt (l.take i) (8 * q) 8 : Nat) : Int)
theorem packTo_len (l : List Bool) (i : Nat) : (packTo l i).length = (l.length + 7) / 8 := by simp [packTo]
theorem packTo_rd (l : List Bool) (i q : Nat) (hq : q < (l.length + 7) / 8) : rd (packTo l i) (q : Int) = ((byt (l.take i) (8 * q) 8 : Nat) : Int) := by
  rw [rd_get (by rw [packTo_len]; exact hq)]
  simp [packTo]
theorem packTo_zero (l : List Bool) : packTo l 0 = List.replicate ((l.length + 7) / 8) 0 := by
  have h : ∀ i : Nat, byt [] i 8 = 0 := fun i => by simp [byt, bn]
  simp [packTo, h, List.map_const']
theorem packTo_all (l : List Bool) : packTo l l.length = packL l := by simp [packTo, packL]
theorem packTo_false (l : List Bool) (i : Nat) (h : l.getD i false = false) : packTo l (i + 1) = packTo l i := by
  unfold packTo
  congr 1
  funext q
  rw [byt_congr 8 (fun t _ => ?_)]
  rw [take_getD, take_getD]
  by_cases he : 8 * q + t = i
  · rw [he, h]; simp
  · by_cases hl : 8 * q + t < i
    · simp [hl, show 8 * q + t < i + 1 by omega]
    · simp [hl, show ¬ 8 * q + t < i + 1 by omega]
theorem bit_before (l : List Bool) (i q j t : Nat) (hi : i = 8 * q + j) : (l.take i).getD (8 * q + t) false = (decide (t < j) && l.getD (8 * q + t) false) := by
  rw [take_getD]
  congr 1
  exact decide_eq_decide.mpr (by omega)
theorem bit_after (l : List Bool) (i q j t : Nat) (hi : i = 8 * q + j) (h : l.getD i false = true) : (l.take (i + 1)).getD (8 * q + t) false = ((decide (t < j) && l.getD (8 * q + t) false) || (j == t)) := by
  rw [take_getD]
  by_cases he : j = t
  · subst he
    rw [← hi, h]
    simp
  · have e1 : (j == t) = false := beq_false_of_ne he
    rw [e1, Bool.or_false]
    congr 1
    exact decide_eq_decide.mpr (by omega)
theorem packTo_true (l : List Bool) (i : Nat) (hi : i < l.length) (h : l.getD i false = true) :
    (packTo l i).set (i / 8) (Go.bits .or .u8 (rd (packTo l i) ((i / 8 : Nat) : Int)) (shr .u8 128 ((i % 8 : Nat) : Int))) = packTo l (i + 1) := by
  have hq : i / 8 < (l.length + 7) / 8 := by omega
  have he : i = 8 * (i / 8) + i % 8 := by omega
  have hj : i % 8 < 8 := by omega
  have key : Go.bits .or .u8 (rd (packTo l i) ((i / 8 : Nat) : Int)) (shr .u8 128 ((i % 8 : Nat) : Int)) = ((byt (l.take (i + 1)) (8 * (i / 8)) 8 : Nat) : Int) := by
    rw [packTo_rd l i _ hq, byt8, byt8]
    have hb := or_bit (l.getD (8 * (i / 8)) false) (l.getD (8 * (i / 8) + 1) false) (l.getD (8 * (i / 8) + 2) false) (l.getD (8 * (i / 8) + 3) false) (l.getD (8 * (i / 8) + 4) false) (l.getD (8 * (i / 8) + 5) false) (l.getD (8 * (i / 8) + 6) false) (l.getD (8 * (i / 8) + 7) false) ⟨i % 8, hj⟩
    have b := fun t => bit_before l i (i / 8) (i % 8) t he
    have a := fun t => bit_after l i (i / 8) (i % 8) t he h
    have b0 : (l.take i).getD (8 * (i / 8)) false = (decide (0 < i % 8) && l.getD (8 * (i / 8)) false) := b 0
    have a0 : (l.take (i + 1)).getD (8 * (i / 8)) false = ((decide (0 < i % 8) && l.getD (8 * (i / 8)) false) || (i % 8 == 0)) := a 0
    rw [b0, b 1, b 2, b 3, b 4, b 5, b 6, b 7, a0, a 1, a 2, a 3, a 4, a 5, a 6, a 7]
    exact hb
  rw [key]
  refine List.ext_getElem (by simp [packTo]) fun q h1 h2 => ?_
  rw [List.getElem_set]
  by_cases hqq : i / 8 = q
  · subst hqq
    simp [packTo]
  · rw [if_neg hqq]
    simp only [packTo, List.getElem_map, List.getElem_range]
    congr 1
    refine byt_congr 8 fun t ht => ?_
    rw [take_getD, take_getD]
    congr 1
    exact decide_eq_decide.mpr (by omega)
theorem tpack_l (l : List Bool) (hl : l.length ≤ 1000000) : ∀ d i, i + d = l.length → Ev (fun k => track_Pack.l0 k (packTo l i) l (l.length : Int) (i : Int)) (packL l) := by
  intro d
  induction d with
  | zero =>
    intro i hi
    refine Ev.step (f := fun _ => some (packL l)) (fun k => ?_) (Ev.now _)
    show track_Pack.l0 (k + 1) _ _ _ _ = _
    obtain rfl : i = l.length := by omega
    rw [track_Pack.l0, if_neg (by omega), packTo_all]
  | succ d ih =>
    intro i hi
    have hlen := packTo_len l i
    refine Ev.step (fun k => ?_) (ih (i + 1) (by omega))
    show track_Pack.l0 (k + 1) _ _ _ _ = _
    rw [track_Pack.l0, if_pos (by omega), if_pos (by omega), if_pos (by omega), rdOf_nat, wrap_in (n := (i : Int) + 1) (by omega) (by omega), Int.tdiv_eq_ediv_of_nonneg (by omega), Int.tmod_eq_emod_of_nonneg (by omega), wrap_in (n := (i : Int) / 8) (by omega) (by omega)]
    cases hv : l.getD i false
    · rw [if_neg (by simp), packTo_false l i hv]
      rfl
    · rw [if_pos rfl, if_pos (by omega), if_pos (by omega), if_pos (by omega), ← packTo_true l i (by omega) hv]
      rw [show (i : Int) / 8 = ((i / 8 : Nat) : Int) by omega, show (i : Int) % 8 = ((i % 8 : Nat) : Int) by omega, Int.toNat_natCast]
      rfl
theorem tpack (l : List Bool) (hl : l.length ≤ 1000000) : Ev (fun k => track_Pack.f k l) (packL l) := by
  have h := tpack_l l hl l.length 0 (by omega)
  rw [packTo_zero] at h
  refine Ev.congr (fun k => ?_) h
  unfold track_Pack.f
  rw [wrap_in (n := (l.length : Int) + 7) (by omega) (by omega), Int.tdiv_eq_ediv_of_nonneg (by omega), wrap_in (n := ((l.length : Int) + 7) / 8) (by omega) (by omega), if_pos (by omega), if_pos (by omega), show (((l.length : Int) + 7) / 8).toNat = (l.length + 7) / 8 by omega]
  rfl

/-! ### bytes into bits -/
def bitOf (x : Int) (j : Nat) : Bool := x / 2 ^ (7 - j) % 2 == 1
def unpackL (b : List Int) : List Bool := (List.range (8 * b.length)).map fun i => bitOf (rd b ((i / 8 : Nat) : Int)) (i % 8)
theorem shl_bit : ∀ x : Fin 256, ∀ j : Fin 8, (Go.bits .and .u8 (shl .u8 (x.val : Int) (j.val : Int)) 128 != 0) = bitOf (x.val : Int) j.val := by decide +kernel
theorem unpackL_len (b : List Int) : (unpackL b).length = 8 * b.length := by simp [unpackL]
def unTo (b : List Int) (i : Nat) : List Bool := ((List.range i).map fun i => bitOf (rd b ((i / 8 : Nat) : Int)) (i % 8)) ++ List.replicate (8 * b.length - i) false
theorem unTo_step (b : List Int) (i : Nat) (hi : i < 8 * b.length) : (unTo b i).set i (bitOf (rd b ((i / 8 : Nat) : Int)) (i % 8)) = unTo b (i + 1) := by
  unfold unTo
  rw [List.set_append_right _ _ (by simp), List.length_map, List.length_range, Nat.sub_self, List.range_succ, List.map_append, List.append_assoc]
  congr 1
  rw [show 8 * b.length - i = (8 * b.length - (i + 1)) + 1 by omega, List.replicate_succ]
  rfl
theorem unTo_len (b : List Int) (i : Nat) (hi : i ≤ 8 * b.length) : (unTo b i).length = 8 * b.length := by simp [unTo]; omega
theorem tunpack_l (b : List Int) (hb : AllB b) (hl : b.length ≤ 1000000) : ∀ d i, i + d = 8 * b.length → Ev (fun k => track_Unpack.l0 k b (unTo b i) ((8 * b.length : Nat) : Int) (i : Int)) (unpackL b) := by
  intro d
  induction d with
  | zero =>
    intro i hi
    refine Ev.step (f := fun _ => some (unpackL b)) (fun k => ?_) (Ev.now _)
    show track_Unpack.l0 (k + 1) _ _ _ _ = _
    obtain rfl : i = 8 * b.length := by omega
    rw [track_Unpack.l0, if_neg (by omega)]
    simp [unTo, unpackL]
  | succ d ih =>
    intro i hi
    have hlen := unTo_len b i (by omega)
    have hx := isB_rd hb ((i / 8 : Nat) : Int)
    refine Ev.step (fun k => ?_) (ih (i + 1) (by omega))
    show track_Unpack.l0 (k + 1) _ _ _ _ = _
    have key := shl_bit ⟨(rd b ((i / 8 : Nat) : Int)).toNat, by have := hx.1; have := hx.2; omega⟩ ⟨i % 8, by omega⟩
    simp only [Int.toNat_of_nonneg hx.1] at key
    rw [track_Unpack.l0, if_pos (by omega), Int.tdiv_eq_ediv_of_nonneg (by omega), Int.tmod_eq_emod_of_nonneg (by omega), wrap_in (n := (i : Int) / 8) (by omega) (by omega), wrap_in (n := (i : Int) + 1) (by omega) (by omega), if_pos (by omega), if_pos (by omega), if_pos (by omega), if_pos (by omega), if_pos (by omega),
      show (i : Int) / 8 = ((i / 8 : Nat) : Int) by omega, show (i : Int) % 8 = ((i % 8 : Nat) : Int) by omega, Int.toNat_natCast, key, unTo_step b i (by omega)]
    rfl
theorem tunpack (b : List Int) (hb : AllB b) (hl : b.length ≤ 1000000) : Ev (fun k => track_Unpack.f k b) (unpackL b) := by
  have h := tunpack_l b hb hl (8 * b.length) 0 (by omega)
  refine Ev.congr (fun k => ?_) h
  unfold track_Unpack.f
  rw [wrap_in (n := 8 * (b.length : Int)) (by omega) (by omega), if_pos (by omega), if_pos (by omega), Option.bind_some, show (8 * (b.length : Int)).toNat = 8 * b.length by omega, List.length_replicate]
  simp [unTo]
theorem ref_bit : ∀ x : Fin 256, ∀ j : Fin 8, (Int.tmod (wrap64 (Int.tdiv (wrap64 (x.val : Int)) ((2 ^ (7 - j.val) : Nat) : Int))) 2 == 1) = bitOf (x.val : Int) j.val := by decide +kernel
theorem half_by : ∀ j : Fin 8, wrap64 (Int.tdiv ((2 ^ (7 - j.val) : Nat) : Int) 2) = (if j.val = 7 then 0 else ((2 ^ (7 - (j.val + 1)) : Nat) : Int)) := by decide +kernel
def unSo (b : List Int) (i : Nat) : List Bool := (List.range i).map fun i => bitOf (rd b ((i / 8 : Nat) : Int)) (i % 8)
theorem unSo_succ (b : List Int) (i : Nat) : unSo b (i + 1) = unSo b i ++ [bitOf (rd b ((i / 8 : Nat) : Int)) (i % 8)] := by simp [unSo, List.range_succ]
theorem runpack_l1 (b : List Int) (hb : AllB b) (hl : b.length ≤ 1000000) (q : Nat) (hq : q < b.length) (r : List Bool) (hr : Ev (fun k => gatelineref11_Unpack.l0 k b (unSo b (8 * (q + 1))) ((q + 1 : Nat) : Int)) r) : ∀ d j, j + d = 8 →
    Ev (fun k => gatelineref11_Unpack.l1 k b (unSo b (8 * q + j)) (q : Int) (if j = 8 then 0 else ((2 ^ (7 - j) : Nat) : Int)) (j : Int)) r := by
  intro d
  induction d with
  | zero =>
    intro j hj
    obtain rfl : j = 8 := by omega
    refine Ev.step (fun k => ?_) hr
    show gatelineref11_Unpack.l1 (k + 1) _ _ _ _ _ = _
    rw [gatelineref11_Unpack.l1, if_neg (by omega), wrap_in (n := (q : Int) + 1) (by omega) (by omega)]
    rfl
  | succ d ih =>
    intro j hj
    have hx := isB_rd hb (q : Int)
    have key := ref_bit ⟨(rd b (q : Int)).toNat, by have := hx.1; have := hx.2; omega⟩ ⟨j, by omega⟩
    have hh := half_by ⟨j, by omega⟩
    simp only [Int.toNat_of_nonneg hx.1] at key
    simp only at hh
    have hp : 0 < 2 ^ (7 - j) := Nat.two_pow_pos _
    have hn : (unSo b (8 * q + j)).length = 8 * q + j := by simp [unSo]
    refine Ev.step (fun k => ?_) (ih (j + 1) (by omega))
    show gatelineref11_Unpack.l1 (k + 1) _ _ _ _ _ = _
    rw [gatelineref11_Unpack.l1, if_pos (by omega), if_pos (by omega), if_pos (by omega), if_neg (show ¬ j = 8 by omega), if_neg (by omega), if_pos (by omega), key, hh, wrap_in (n := (j : Int) + 1) (by omega) (by omega)]
    have h1 : (8 * q + j) / 8 = q := by omega
    have h2 : (8 * q + j) % 8 = j := by omega
    have e := unSo_succ b (8 * q + j)
    rw [h1, h2] at e
    rw [← e]
    have h3 : (if j = 7 then (0 : Int) else ((2 ^ (7 - (j + 1)) : Nat) : Int)) = (if j + 1 = 8 then 0 else ((2 ^ (7 - (j + 1)) : Nat) : Int)) := by
      by_cases h7 : j = 7
      · rw [if_pos h7, if_pos (by omega)]
      · rw [if_neg h7, if_neg (by omega)]
    rw [h3]
    rfl
theorem runpack_l0 (b : List Int) (hb : AllB b) (hl : b.length ≤ 1000000) : ∀ d q, q + d = b.length → Ev (fun k => gatelineref11_Unpack.l0 k b (unSo b (8 * q)) (q : Int)) (unpackL b) := by
  intro d
  induction d with
  | zero =>
    intro q hq
    obtain rfl : q = b.length := by omega
    refine Ev.step (f := fun _ => some (unpackL b)) (fun k => ?_) (Ev.now _)
    show gatelineref11_Unpack.l0 (k + 1) _ _ _ = _
    rw [gatelineref11_Unpack.l0, if_neg (by omega)]
    rfl
  | succ d ih =>
    intro q hq
    refine Ev.step (fun k => ?_) (runpack_l1 b hb hl q (by omega) _ (ih (q + 1) (by omega)) 8 0 rfl)
    show gatelineref11_Unpack.l0 (k + 1) _ _ _ = _
    rw [gatelineref11_Unpack.l0, if_pos (by omega)]
    rfl
theorem runpack (b : List Int) (hb : AllB b) (hl : b.length ≤ 1000000) : Ev (fun k => gatelineref11_Unpack.f k b) (unpackL b) := runpack_l0 b hb hl b.length 0 (by omega)

/-! ### they are one another's -/
theorem byte_bits : ∀ x : Fin 256, ((v8 (bitOf (x.val : Int) 0) (bitOf (x.val : Int) 1) (bitOf (x.val : Int) 2) (bitOf (x.val : Int) 3) (bitOf (x.val : Int) 4) (bitOf (x.val : Int) 5) (bitOf (x.val : Int) 6) (bitOf (x.val : Int) 7) : Nat) : Int) = (x.val : Int) := by decide +kernel
theorem unpackL_getD (b : List Int) (i : Nat) (hi : i < 8 * b.length) : (unpackL b).getD i false = bitOf (rd b ((i / 8 : Nat) : Int)) (i % 8) := by
  rw [List.getD_eq_getElem?_getD, List.getElem?_eq_getElem (by rw [unpackL_len]; exact hi)]
  simp [unpackL]
theorem pack_unpack (b : List Int) (hb : AllB b) : packL (unpackL b) = b := by
  have hlen : (packL (unpackL b)).length = b.length := by simp [packL, unpackL_len]; omega
  refine List.ext_getElem hlen fun q h1 h2 => ?_
  have hx := isB_rd hb (q : Int)
  have key := byte_bits ⟨(rd b (q : Int)).toNat, by have := hx.1; have := hx.2; omega⟩
  simp only [Int.toNat_of_nonneg hx.1] at key
  have g := fun t (ht : t < 8) => unpackL_getD b (8 * q + t) (by omega)
  have e := fun t (ht : t < 8) => show bitOf (rd b (((8 * q + t) / 8 : Nat) : Int)) ((8 * q + t) % 8) = bitOf (rd b (q : Int)) t by rw [show (8 * q + t) / 8 = q by omega, show (8 * q + t) % 8 = t by omega]
  have g0 : (unpackL b).getD (8 * q) false = bitOf (rd b (q : Int)) 0 := (g 0 (by omega)).trans (e 0 (by omega))
  simp only [packL, List.getElem_map, List.getElem_range]
  rw [byt8, g0, g 1 (by omega), g 2 (by omega), g 3 (by omega), g 4 (by omega), g 5 (by omega), g 6 (by omega), g 7 (by omega), e 1 (by omega), e 2 (by omega), e 3 (by omega), e 4 (by omega), e 5 (by omega), e 6 (by omega), e 7 (by omega), key, get_rd h2]
end Go.Proofs.Ytfmpeojlaibblaa.Pure

/-
  track.Put, the plain part: the program's tracks are the document's.
-/
namespace Go.Proofs.Ytfmpeojlaibblaa.Pure
open Go.RowKit Go.Proofs.Ytfmpeojlaibblaa.S Go.Proofs.YtfmpeojlaibblaaW.PrintWords Go.Proofs.YtfmpeojlaibblaaW.PrintLast Go.Proofs.YtfmpeojlaibblaaW.PrintMore

set_option maxRecDepth 100000 in
theorem tracked_ev : Ev (fun k => gatelinelaw11_tracked.f k) true := Ev.of (fun k => gatelinelaw11_tracked.mono k) (k := 200) (by decide +kernel)

def vals0 (l : List Int) : List Int := (11 :: l) ++ [15]
def vals1 (l : List Int) : List Int := vals0 l ++ [(sumP (vals0 l)).1]
def bitsOf (l : List Int) : List Bool := charsTo (vals1 l) (vals1 l).length
def fin (l : List Int) : List Int × Int := (packL (bitsOf l), 0)
def putL (l : List Int) (i : Nat) : List Int × Int := if (l.drop i).any (fun x => decide (9 < x)) = true then ([], 7) else fin l
theorem vals1_len (l : List Int) : (vals1 l).length = l.length + 3 := by simp [vals1, vals0]
theorem and_bit5 (v : Int) : andBit (chr v) = bit5 (chr v) := by
  have h := chr_bd v
  obtain ⟨n, hn⟩ := Int.eq_ofNat_of_zero_le h.1
  rw [hn] at h ⊢
  obtain ⟨h0, h1, h2, h3, h4⟩ := bits_all ⟨n, by omega⟩
  simp only at h0 h1 h2 h3 h4
  unfold andBit bit5
  rw [h0, h1, h2, h3, h4]
theorem rd_cons (x : Int) (l : List Int) (j : Nat) : rd (x :: l) ((j + 1 : Nat) : Int) = rd l (j : Int) := by
  unfold rd
  simp
theorem mem_rd {l : List Int} {v : Int} (h : v ∈ l) : ∃ j : Nat, j < l.length ∧ rd l (j : Int) = v := by
  obtain ⟨j, hj, he⟩ := List.getElem_of_mem h
  exact ⟨j, hj, by rw [rd_get hj, he]⟩
def Dig (l : List Int) : Prop := ∀ v ∈ l, 0 ≤ v ∧ v ≤ 9
theorem vals0_in {l : List Int} (h : Dig l) : ∀ v ∈ vals0 l, 0 ≤ v ∧ v ≤ 15 := by
  intro v hv
  simp only [vals0, List.cons_append, List.mem_cons, List.mem_append, List.not_mem_nil, or_false] at hv
  rcases hv with rfl | hv | rfl
  · omega
  · have := h v hv; omega
  · omega
theorem sumOk_in {l : List Int} (h : ∀ v ∈ l, 0 ≤ v ∧ v ≤ 15) : sumOk l l.length = true := by
  rw [sumOk_iff]
  intro j hj
  rw [rd_get hj]
  exact h _ (List.getElem_mem hj)
theorem sumP_in {l : List Int} (h : ∀ v ∈ l, 0 ≤ v ∧ v ≤ 15) : 0 ≤ (sumP l).1 ∧ (sumP l).1 ≤ 15 ∧ (sumP l).2 = 0 := by
  have ho := sumOk_in h
  unfold sumP
  rw [if_pos ho]
  simp only
  rw [sumAll_nat l _ ho]
  have := nsum_lt (fun j => (rd l (j : Int)).toNat) l.length (fun j hj => by have := (sumOk_iff l _).1 ho j hj; omega)
  exact ⟨by omega, by omega, trivial⟩
theorem vals1_in {l : List Int} (h : Dig l) : ∀ v ∈ vals1 l, 0 ≤ v ∧ v ≤ 15 := by
  intro v hv
  simp only [vals1, List.mem_append, List.mem_cons, List.not_mem_nil, or_false] at hv
  rcases hv with hv | rfl
  · exact vals0_in h v hv
  · have := sumP_in (vals0_in h); exact ⟨this.1, this.2.1⟩
theorem put_l1 (ys : List Int) (hy : ∀ v ∈ ys, 0 ≤ v ∧ v ≤ 15) (hl : ys.length ≤ 1000) : ∀ d i, i + d = ys.length →
    Ev (fun k => track_Put.l1 k (charsTo ys i) ys (ys.length : Int) (i : Int)) (packL (charsTo ys ys.length), 0) := by
  intro d
  induction d with
  | zero =>
    intro i hi
    obtain rfl : i = ys.length := by omega
    have hc := charsTo_len ys ys.length (Nat.le_refl _)
    refine Ev.step (f := fun k => (track_Pack.f k (charsTo ys ys.length)).bind fun t => some (t, 0)) (fun k => ?_) (Ev.bind (tpack _ (by omega)) (Ev.now _))
    show track_Put.l1 (k + 1) _ _ _ _ = _
    rw [track_Put.l1, if_neg (by omega)]
  | succ d ih =>
    intro i hi
    have hc := charsTo_len ys i (by omega)
    have hv := hy (rd ys (i : Int)) (by rw [rd_get (show i < ys.length by omega)]; exact List.getElem_mem _)
    refine Ev.step (fun k => ?_) (ih (i + 1) (by omega))
    show track_Put.l1 (k + 1) _ _ _ _ = _
    rw [track_Put.l1, if_pos (by omega), if_pos (by omega), if_pos (by omega)]
    unfold track_bits.f
    rw [if_pos hv, Option.bind_some, and_bit5, if_pos (by simp [bit5]; omega), wrap_in (n := (i : Int) + 1) (by omega) (by omega), charsTo_succ ys i (by omega)]
    rfl
theorem take_rd (l : List Int) (i : Nat) (h : i < l.length) : l.take (i + 1) = l.take i ++ [rd l (i : Int)] := by
  rw [List.take_succ_eq_append_getElem h, rd_get h]
theorem putL_step {l : List Int} {i : Nat} (h : i < l.length) : putL l i = if 9 < rd l (i : Int) then ([], 7) else putL l (i + 1) := by
  unfold putL
  rw [drop_rd h, List.any_cons]
  by_cases hb : 9 < rd l (i : Int)
  · simp [hb]
  · simp [hb]
theorem dig_all {l : List Int} (hb : AllB l) (h : ∀ j : Nat, j < l.length → ¬ 9 < rd l (j : Int)) : Dig l := by
  intro v hv
  obtain ⟨j, hj, rfl⟩ := mem_rd hv
  have := h j hj
  have := (isB_rd hb (j : Int)).1
  omega
theorem put_l0 (l : List Int) (hb : AllB l) (hl : l.length ≤ 77) : ∀ d i, i + d = l.length → (∀ j : Nat, j < i → ¬ 9 < rd l (j : Int)) → Ev (fun k => track_Put.l0 k (11 :: l.take i) l (l.length : Int) (i : Int)) (putL l i) := by
  intro d
  induction d with
  | zero =>
    intro i hi hg
    obtain rfl : i = l.length := by omega
    have hd := dig_all hb hg
    have h := put_l1 (vals1 l) (vals1_in hd) (by rw [vals1_len]; omega) (vals1 l).length 0 (by omega)
    have hp : putL l l.length = fin l := by simp [putL]
    rw [hp]
    refine Ev.step (fun k => ?_) h
    show track_Put.l0 (k + 1) _ _ _ _ = _
    rw [track_Put.l0, if_neg (by omega), List.take_length, if_pos (by simp; omega), Option.bind_some]
    have hv : 11 :: l ++ [15] = vals0 l := rfl
    rw [hv, psum _ (by simp [vals0]; omega), Option.bind_some, if_pos (by simp [vals0]; omega), Option.bind_some]
    rfl
  | succ d ih =>
    intro i hi hg
    have hx := isB_rd hb (i : Int)
    rw [putL_step (by omega)]
    by_cases h9 : 9 < rd l (i : Int)
    · rw [if_pos h9]
      refine Ev.step (f := fun _ => some ([], 7)) (fun k => ?_) (Ev.now _)
      show track_Put.l0 (k + 1) _ _ _ _ = _
      rw [track_Put.l0, if_pos (by omega), if_pos (by omega), if_pos (by omega), if_pos (by omega)]
    · rw [if_neg h9]
      refine Ev.step (fun k => ?_) (ih (i + 1) (by omega) (fun j hj => by
        rcases Nat.lt_or_ge j i with h | h
        · exact hg j h
        · obtain rfl : j = i := by omega
          exact h9))
      show track_Put.l0 (k + 1) _ _ _ _ = _
      have hx0 := hx.1
      have hx1 := hx.2
      rw [track_Put.l0, if_pos (by omega), if_pos (by omega), if_pos (by omega), if_neg (by omega), if_pos (by simp; omega), wrap_in (n := rd l (i : Int)) (by omega) (by omega), wrap_in (n := (i : Int) + 1) (by omega) (by omega), take_rd l i (by omega)]
      rfl
theorem rput_l0 (l : List Int) (hb : AllB l) (hl : l.length ≤ 77) : ∀ d i, i + d = l.length → (∀ j : Nat, j < i → ¬ 9 < rd l (j : Int)) → Ev (fun k => gatelineref11_Put.l0 k l (11 :: l.take i) (i : Int)) (putL l i) := by
  intro d
  induction d with
  | zero =>
    intro i hi hg
    obtain rfl : i = l.length := by omega
    have hd := dig_all hb hg
    have hp : putL l l.length = fin l := by simp [putL]
    rw [hp]
    have hcl := charsTo_len (vals1 l) (vals1 l).length (Nat.le_refl _)
    rw [vals1_len] at hcl
    have hch : gatelineref11_chars.f (vals1 l) = some (bitsOf l) := by
      unfold gatelineref11_chars.f
      rw [if_pos ⟨by rw [vals1_len]; omega, vals1_in hd⟩]
      rfl
    have h : Ev (fun k => (gatelineref10_Sum.f k (vals0 l)).bind fun s => (gatelineref11_chars.f (vals0 l ++ [s.1])).bind fun t => (gatelineref11_Pack.f k t).bind fun u => some (u, (0 : Int))) (fin l) := by
      refine Ev.bind (rsum (vals0 l) (by simp [vals0]; omega)) ?_
      refine Ev.congr (f := fun k => (gatelineref11_Pack.f k (bitsOf l)).bind fun u => some (u, (0 : Int))) (fun k => ?_) (Ev.bind (rpack (bitsOf l) (by unfold bitsOf; rw [vals1_len]; omega)) (Ev.now _))
      show (gatelineref11_chars.f (vals1 l)).bind _ = _
      rw [hch, Option.bind_some]
    refine Ev.step (fun k => ?_) h
    show gatelineref11_Put.l0 (k + 1) _ _ _ = _
    rw [gatelineref11_Put.l0, if_neg (by omega), List.take_length, if_pos (by simp; omega), Option.bind_some]
    have hv : 11 :: l ++ [15] = vals0 l := rfl
    have h0 : (vals0 l).length < 17592186044416 := by simp [vals0]; omega
    rw [hv]
    simp only [if_pos h0]
  | succ d ih =>
    intro i hi hg
    have hx := isB_rd hb (i : Int)
    rw [putL_step (by omega)]
    by_cases h9 : 9 < rd l (i : Int)
    · rw [if_pos h9]
      refine Ev.step (f := fun _ => some ([], 7)) (fun k => ?_) (Ev.now _)
      show gatelineref11_Put.l0 (k + 1) _ _ _ = _
      rw [gatelineref11_Put.l0, if_pos (by omega), if_pos (by omega), if_pos (by omega)]
    · rw [if_neg h9]
      refine Ev.step (fun k => ?_) (ih (i + 1) (by omega) (fun j hj => by
        rcases Nat.lt_or_ge j i with h | h
        · exact hg j h
        · obtain rfl : j = i := by omega
          exact h9))
      show gatelineref11_Put.l0 (k + 1) _ _ _ = _
      have hx0 := hx.1
      have hx1 := hx.2
      rw [gatelineref11_Put.l0, if_pos (by omega), if_pos (by omega), if_neg (by omega), if_pos (by simp; omega), wrap_in (n := rd l (i : Int)) (by omega) (by omega), wrap_in (n := (i : Int) + 1) (by omega) (by omega), take_rd l i (by omega)]
      rfl
/-- What a track is, or why there is none. -/
def put (l : List Int) : List Int × Int := if (l.length : Int) > 77 then ([], 21) else putL l 0
theorem tput (l : List Int) (hb : AllB l) : Ev (fun k => track_Put.f k l) (put l) := by
  unfold put track_Put.f
  by_cases h : (l.length : Int) > 77
  · simp only [if_pos h]; exact Ev.now _
  · simp only [if_neg h]
    exact put_l0 l hb (by omega) l.length 0 (by omega) (by omega)
theorem rput (l : List Int) (hb : AllB l) : Ev (fun k => gatelineref11_Put.f k l) (put l) := by
  unfold put gatelineref11_Put.f
  by_cases h : (l.length : Int) > 77
  · simp only [if_pos h]; exact Ev.now _
  · simp only [if_neg h]
    exact rput_l0 l hb (by omega) l.length 0 (by omega) (by omega)
theorem packL_len (l : List Bool) : (packL l).length = (l.length + 7) / 8 := by simp [packL]
theorem put_len (l : List Int) : (put l).1.length ≤ 1000 := by
  unfold put
  split
  · simp
  · unfold putL
    split
    · simp
    · simp only [fin, packL_len, bitsOf]
      rw [charsTo_len _ _ (Nat.le_refl _), vals1_len]
      omega
end Go.Proofs.Ytfmpeojlaibblaa.Pure

/-
  track.Get, the plain part: the program reads a track as the document does.
-/
namespace Go.Proofs.Ytfmpeojlaibblaa.Pure
open Go.RowKit Go.Proofs.Ytfmpeojlaibblaa.S Go.Proofs.YtfmpeojlaibblaaW.PrintWords Go.Proofs.YtfmpeojlaibblaaW.PrintLast Go.Proofs.YtfmpeojlaibblaaW.PrintMore

theorem equal_l (a b : List Int) (hl : a.length = b.length) (hm : a.length ≤ 1000000) : ∀ d i, i + d = a.length → (∀ j : Nat, j < i → rd a (j : Int) = rd b (j : Int)) → Ev (fun k => slices_Equal_byte_byte.l0 k a b (a.length : Int) (i : Int)) (decide (a = b)) := by
  intro d
  induction d with
  | zero =>
    intro i hi hg
    obtain rfl : i = a.length := by omega
    have he : a = b := eq_of_rd hl hg
    refine Ev.step (f := fun _ => some (decide (a = b))) (fun k => ?_) (Ev.now _)
    show slices_Equal_byte_byte.l0 (k + 1) _ _ _ _ = _
    rw [slices_Equal_byte_byte.l0, if_neg (by omega), decide_eq_true he]
  | succ d ih =>
    intro i hi hg
    by_cases he : rd a (i : Int) = rd b (i : Int)
    · refine Ev.step (fun k => ?_) (ih (i + 1) (by omega) (fun j hj => by
        rcases Nat.lt_or_ge j i with h | h
        · exact hg j h
        · obtain rfl : j = i := by omega
          exact he))
      show slices_Equal_byte_byte.l0 (k + 1) _ _ _ _ = _
      rw [slices_Equal_byte_byte.l0, if_pos (by omega), wrap_in (n := (i : Int) + 1) (by omega) (by omega)]
      simp only [he, if_true]
      repeat' split
      all_goals first | rfl | omega
    · have hne : a ≠ b := fun h => he (by rw [h])
      refine Ev.step (f := fun _ => some (decide (a = b))) (fun k => ?_) (Ev.now _)
      show slices_Equal_byte_byte.l0 (k + 1) _ _ _ _ = _
      rw [slices_Equal_byte_byte.l0, if_pos (by omega), decide_eq_false hne]
      simp only [he, if_false]
      repeat' split
      all_goals first | rfl | omega
theorem equal_ev (a b : List Int) (hm : a.length ≤ 1000000) : Ev (fun k => slices_Equal_byte_byte.f k a b) (decide (a = b)) := by
  unfold slices_Equal_byte_byte.f
  by_cases h : (a.length : Int) = (b.length : Int)
  · simp only [if_pos h]
    exact equal_l a b (by omega) hm a.length 0 (by omega) (by omega)
  · simp only [if_neg h]
    have hne : a ≠ b := fun e => h (by rw [e])
    rw [decide_eq_false hne]
    exact Ev.now _

theorem at_chunk (l : List Bool) (i : Nat) (hi : i + 5 ≤ l.length) (hl : l.length ≤ 1000000) : gatelineref11_at.f l (i : Int) = some (chunk l i) := by
  unfold gatelineref11_at.f chunk
  rw [if_pos ⟨by omega, by omega, by omega⟩, of_same]
  rfl
theorem last_rd (vals : List Int) (v : Int) : rd (vals ++ [v]) (((vals ++ [v]).length : Int) - 1) = v := by
  have : (((vals ++ [v]).length : Int) - 1) = ((vals.length : Nat) : Int) := by simp
  rw [this, rd_get (by simp)]
  simp
/-- What the document's loop does at its head. -/
theorem ref_head (b : List Int) (l : List Bool) (vals out : List Int) (v : Int) (i k : Nat) (hv : vals.length ≤ 1000000) :
    gatelineref11_Get.l0 (k + 1) b l (vals ++ [v]) out (i : Int) =
      if v = 15 then (if wrap64 ((i : Int) + 5) > (l.length : Int) then some ([], 5) else (gatelineref11_at.f l (i : Int)).bind fun c => (gatelineref10_Value.f k c).bind fun p => if p.2 = 0 then (gatelineref10_Sum.f k (vals ++ [v])).bind fun s => if p.1 = s.1 then (if (out.length : Int) > 77 then some ([], 21) else if 0 ≤ wrap64 ((i : Int) + 5) then (if wrap64 ((i : Int) + 5) ≤ (l.length : Int) then (gatelineref11_Pack.f k (l.take (wrap64 ((i : Int) + 5)).toNat)).bind fun t => (gatelineref01_Same.f k t b).bind fun e => if e = true then some (out, 0) else some ([], 14) else none) else none) else some ([], 6) else some ([], p.2))
      else (if wrap64 ((i : Int) + 5) > (l.length : Int) then some ([], 5) else (gatelineref11_at.f l (i : Int)).bind fun c => (gatelineref10_Value.f k c).bind fun p => if p.2 = 0 then (if p.1 > 9 then gatelineref11_Get.j2 k b l (vals ++ [v]) out (i : Int) p.1 (p.1 != 15) else gatelineref11_Get.j2 k b l (vals ++ [v]) out (i : Int) p.1 false) else some ([], p.2)) := by
  have hlen : (vals ++ [v]).length = vals.length + 1 := by simp
  have hw : wrap64 (((vals ++ [v]).length : Int) - 1) = ((vals ++ [v]).length : Int) - 1 := wrap_in (by omega) (by omega)
  rw [gatelineref11_Get.l0, hw, if_pos (by omega), if_pos (by omega), last_rd]

/-- The program's result and the document's, from a place on. -/
def Both (b : List Int) (l : List Bool) (g : Nat → Option (Int ⊕ (List Int × Nat))) (h : Nat → Option (List Int × Int)) : Prop := ∃ res r, Ev g res ∧ Ev (fun k => getOut k b l res) r ∧ r.1.length ≤ 1000 ∧ Ev h r
theorem both_err {b : List Int} {l : List Bool} {g : Nat → Option (Int ⊕ (List Int × Nat))} {h : Nat → Option (List Int × Int)} (er : Int) (hg : Ev g (.inl er)) (hh : Ev h ([], er)) : Both b l g h := ⟨.inl er, ([], er), hg, Ev.now _, by simp, hh⟩
theorem both_end (b : List Int) (l : List Bool) (hb : b.length ≤ 50) (hl : l.length ≤ 1000) (vals out : List Int) (i : Nat) (hi : i ≤ l.length) (hv : vals.length ≤ 1000) :
    Both b l (fun _ => digEnd l i (vals ++ [15]) out) (fun k => gatelineref11_Get.l0 k b l (vals ++ [15]) out (i : Int)) := by
  have hps := psum (vals ++ [15]) (by simp; omega)
  have hrs := rsum (vals ++ [15]) (by simp; omega)
  have hw : wrap64 ((i : Int) + 5) = (i : Int) + 5 := wrap_in (by omega) (by omega)
  unfold digEnd
  rw [hps]
  simp only [Option.bind_some]
  have head := fun k => ref_head b l vals out 15 i k (by omega)
  simp only [if_true, hw] at head
  by_cases hend : l.length < i + 5
  · simp only [if_pos hend]
    refine both_err 5 (Ev.now _) (Ev.step (f := fun _ => some ([], 5)) (fun k => ?_) (Ev.now _))
    show gatelineref11_Get.l0 (k + 1) _ _ _ _ _ = _
    rw [head, if_pos (by omega)]
  · simp only [if_neg hend]
    have head2 : ∀ k, gatelineref11_Get.l0 (k + 1) b l (vals ++ [15]) out (i : Int) = (gatelineref10_Value.f k (chunk l i)).bind fun p => if p.2 = 0 then (gatelineref10_Sum.f k (vals ++ [15])).bind fun s => if p.1 = s.1 then (if (out.length : Int) > 77 then some ([], 21) else if 0 ≤ (i : Int) + 5 then (if (i : Int) + 5 ≤ (l.length : Int) then (gatelineref11_Pack.f k (l.take ((i : Int) + 5).toNat)).bind fun t => (gatelineref01_Same.f k t b).bind fun e => if e = true then some (out, 0) else some ([], 14) else none) else none) else some ([], 6) else some ([], p.2) := by
      intro k
      rw [head, if_neg (by omega), at_chunk l i (by omega) (by omega), Option.bind_some]
    obtain ⟨p, hp, hq⟩ := value_both (chunk l i)
    rw [hp]
    simp only [Option.bind_some]
    by_cases h2 : p.2 = 0
    · simp only [if_pos h2]
      by_cases hs : p.1 = (sumP (vals ++ [15])).1
      · simp only [if_pos hs]
        by_cases h7 : 77 < (out.length : Int)
        · simp only [if_pos h7]
          refine both_err 21 (Ev.now _) (Ev.step (fun k => head2 k) (Ev.bind hq ?_))
          refine Ev.congr (fun k => by rw [if_pos h2]) (Ev.bind hrs ?_)
          exact ⟨0, fun k _ => by simp only [if_pos hs]; rw [if_pos h7]⟩
        · simp only [if_neg h7]
          have ht : ((i : Int) + 5).toNat = i + 5 := by omega
          have htl : (l.take (i + 5)).length ≤ 1000 := by rw [List.length_take]; omega
          have hpl : (packL (l.take (i + 5))).length ≤ 1000 := by rw [packL_len]; omega
          refine ⟨.inr (out, i + 5), if packL (l.take (i + 5)) = b then (out, 0) else ([], 14), Ev.now _, ?_, by split <;> simp <;> omega, Ev.step (fun k => head2 k) (Ev.bind hq ?_)⟩
          · show Ev (fun k => (track_Pack.f k (l.take (i + 5))).bind fun t => (slices_Equal_byte_byte.f k t b).bind fun e => if e = true then some (out, 0) else some ([], 14)) _
            refine Ev.bind (tpack _ (by omega)) (Ev.bind (equal_ev _ _ (by omega)) ⟨0, fun k _ => ?_⟩)
            by_cases he : packL (l.take (i + 5)) = b
            · rw [if_pos he, decide_eq_true he, if_pos rfl]
            · rw [if_neg he, decide_eq_false he, if_neg (by simp)]
          · refine Ev.congr (fun k => by rw [if_pos h2]) (Ev.bind hrs ?_)
            refine Ev.congr (fun k => by rw [if_pos hs, if_neg (by omega), if_pos (by omega), if_pos (by omega), ht]) (Ev.bind (rpack (l.take (i + 5)) (by omega)) (Ev.bind (same_ev (packL (l.take (i + 5))) b (by omega)) ⟨0, fun k _ => ?_⟩))
            by_cases he : packL (l.take (i + 5)) = b
            · rw [if_pos he, decide_eq_true he, if_pos rfl]
            · rw [if_neg he, decide_eq_false he, if_neg (by simp)]
      · simp only [if_neg hs]
        refine both_err 6 (Ev.now _) (Ev.step (fun k => head2 k) (Ev.bind hq ?_))
        refine Ev.congr (fun k => by rw [if_pos h2]) (Ev.bind hrs ?_)
        exact ⟨0, fun k _ => by simp only [if_neg hs]⟩
    · simp only [if_neg h2]
      refine both_err p.2 (Ev.now _) (Ev.step (fun k => head2 k) (Ev.bind hq ?_))
      exact ⟨0, fun k _ => by simp only [if_neg h2]⟩

theorem both_loop (b : List Int) (l : List Bool) (hb : b.length ≤ 50) (hl : l.length ≤ 400) : ∀ (d i : Nat) (vals out : List Int) (v0 : Int), l.length - i ≤ d → i ≤ l.length → v0 ≠ 15 → vals.length ≤ i → out.length ≤ i →
    Both b l (fun k => digL l k i (vals ++ [v0]) out) (fun k => gatelineref11_Get.l0 k b l (vals ++ [v0]) out (i : Int)) := by
  intro d
  induction d with
  | zero =>
    intro i vals out v0 hd hi h15 hv ho
    have head := fun k => ref_head b l vals out v0 i k (by omega)
    simp only [if_neg h15, wrap_in (n := (i : Int) + 5) (by omega) (by omega)] at head
    refine both_err 5 (Ev.step (f := fun _ => some (.inl 5)) (fun k => ?_) (Ev.now _)) (Ev.step (f := fun _ => some ([], 5)) (fun k => ?_) (Ev.now _))
    · show digL l (k + 1) _ _ _ = _
      rw [digL, if_pos (by omega)]
    · show gatelineref11_Get.l0 (k + 1) _ _ _ _ _ = _
      rw [head, if_pos (by omega)]
  | succ d ih =>
    intro i vals out v0 hd hi h15 hv ho
    have hw : wrap64 ((i : Int) + 5) = (i : Int) + 5 := wrap_in (by omega) (by omega)
    have head := fun k => ref_head b l vals out v0 i k (by omega)
    simp only [if_neg h15, hw] at head
    by_cases hend : l.length < i + 5
    · refine both_err 5 (Ev.step (f := fun _ => some (.inl 5)) (fun k => ?_) (Ev.now _)) (Ev.step (f := fun _ => some ([], 5)) (fun k => ?_) (Ev.now _))
      · show digL l (k + 1) _ _ _ = _
        rw [digL, if_pos hend]
      · show gatelineref11_Get.l0 (k + 1) _ _ _ _ _ = _
        rw [head, if_pos (by omega)]
    · have head2 : ∀ k, gatelineref11_Get.l0 (k + 1) b l (vals ++ [v0]) out (i : Int) = (gatelineref10_Value.f k (chunk l i)).bind fun p => if p.2 = 0 then (if p.1 > 9 then gatelineref11_Get.j2 k b l (vals ++ [v0]) out (i : Int) p.1 (p.1 != 15) else gatelineref11_Get.j2 k b l (vals ++ [v0]) out (i : Int) p.1 false) else some ([], p.2) := by
        intro k
        rw [head, if_neg (by omega), at_chunk l i (by omega) (by omega), Option.bind_some]
      obtain ⟨p, hp, hq⟩ := value_both (chunk l i)
      have dig : ∀ k, digL l (k + 1) i (vals ++ [v0]) out = if p.2 = 0 then (if p.1 = 15 then digEnd l (i + 5) ((vals ++ [v0]) ++ [p.1]) out else if 9 < p.1 then some (.inl 7) else digL l k (i + 5) ((vals ++ [v0]) ++ [p.1]) (out ++ [p.1 % 256])) else some (.inl p.2) := by
        intro k
        have hvl : (vals ++ [v0]).length < 17592186044416 := by simp; omega
        have hol : out.length < 140737488355328 := by omega
        rw [digL, if_neg hend, hp, Option.bind_some]
        simp only [if_pos hvl, if_pos hol]
      by_cases h2 : p.2 = 0
      · simp only [if_pos h2] at dig
        by_cases hp15 : p.1 = 15
        · simp only [if_pos hp15] at dig
          obtain ⟨res, r, hg, ho', hz, hh⟩ := both_end b l hb (by omega) (vals ++ [v0]) out (i + 5) (by omega) (by simp; omega)
          refine ⟨res, r, Ev.step (fun k => by show digL l (k + 1) _ _ _ = _; rw [dig, hp15]) hg, ho', hz, Ev.step (fun k => head2 k) (Ev.bind hq ?_)⟩
          refine Ev.congr (f := fun k => gatelineref11_Get.j2 k b l (vals ++ [v0]) out (i : Int) 15 false) (fun k => ?_) (Ev.step (fun k => ?_) hh)
          · simp only [if_pos h2]
            rw [hp15, if_pos (by omega)]
            rfl
          · show gatelineref11_Get.j2 (k + 1) _ _ _ _ _ _ _ = _
            rw [gatelineref11_Get.j2, if_neg (by simp), if_pos (by simp; omega), Option.bind_some, if_pos rfl, hw]
            rfl
        · simp only [if_neg hp15] at dig
          by_cases h9 : 9 < p.1
          · simp only [if_pos h9] at dig
            refine both_err 7 (Ev.step (f := fun _ => some (.inl 7)) (fun k => dig k) (Ev.now _)) (Ev.step (fun k => head2 k) (Ev.bind hq ?_))
            refine Ev.congr (f := fun k => gatelineref11_Get.j2 k b l (vals ++ [v0]) out (i : Int) p.1 true) (fun k => ?_) (Ev.step (f := fun _ => some ([], 7)) (fun k => ?_) (Ev.now _))
            · simp only [if_pos h2]
              rw [if_pos (show p.1 > 9 from h9), show (p.1 != 15) = true from bne_iff_ne.mpr hp15]
            · show gatelineref11_Get.j2 (k + 1) _ _ _ _ _ _ _ = _
              rw [gatelineref11_Get.j2, if_pos rfl]
          · simp only [if_neg h9] at dig
            obtain ⟨res, r, hg, ho', hz, hh⟩ := ih (i + 5) (vals ++ [v0]) (out ++ [p.1 % 256]) p.1 (by omega) (by omega) hp15 (by simp; omega) (by simp; omega)
            refine ⟨res, r, Ev.step (fun k => dig k) hg, ho', hz, Ev.step (fun k => head2 k) (Ev.bind hq ?_)⟩
            refine Ev.congr (f := fun k => gatelineref11_Get.j2 k b l (vals ++ [v0]) out (i : Int) p.1 false) (fun k => ?_) (Ev.step (fun k => ?_) hh)
            · simp only [if_pos h2]
              rw [if_neg (show ¬ p.1 > 9 from h9)]
            · show gatelineref11_Get.j2 (k + 1) _ _ _ _ _ _ _ = _
              rw [gatelineref11_Get.j2, if_neg (by simp), if_pos (by simp; omega), Option.bind_some, if_neg hp15, if_pos (by omega), hw]
              rfl
      · simp only [if_neg h2] at dig
        refine both_err p.2 (Ev.step (f := fun _ => some (.inl p.2)) (fun k => dig k) (Ev.now _)) (Ev.step (fun k => head2 k) (Ev.bind hq ?_))
        exact ⟨0, fun k _ => by simp only [if_neg h2]⟩

/-- What is read of a track is the same in both. -/
theorem get_both (b : List Int) (hb : AllB b) : ∃ r, Ev (fun k => track_Get.f k b) r ∧ Ev (fun k => gatelineref11_Get.f k b) r ∧ r.1.length ≤ 1000 := by
  have j0 : ∀ x, x = true → Ev (fun k => gatelineref11_Get.j0 k b x) ([], 14) := fun x hx => by
    subst hx
    refine Ev.step (f := fun _ => some ([], 14)) (fun k => ?_) (Ev.now _)
    show gatelineref11_Get.j0 (k + 1) _ _ = _
    rw [gatelineref11_Get.j0, if_pos rfl]
  by_cases h : b.length < 2 ∨ 50 < b.length
  · refine ⟨([], 14), ?_, ?_, by simp⟩
    · unfold track_Get.f
      simp only [if_pos h]
      exact Ev.now _
    · unfold gatelineref11_Get.f
      by_cases h2 : (b.length : Int) < 2
      · simp only [if_pos h2]; exact j0 _ rfl
      · simp only [if_neg h2]; exact j0 _ (decide_eq_true (by omega))
  · have hl : (unpackL b).length = 8 * b.length := unpackL_len b
    have ht := tunpack b hb (by omega)
    have hr := runpack b hb (by omega)
    obtain ⟨r, hg, hh, hz⟩ : ∃ r, Ev (fun k => (digF (unpackL b) k).bind fun res => getOut k b (unpackL b) res) r ∧ Ev (fun k => (gatelineref11_at.f (unpackL b) 0).bind fun t => if t = 11 then gatelineref11_Get.l0 k b (unpackL b) [11] [] 5 else some ([], 4)) r ∧ r.1.length ≤ 1000 := by
      have ha := at_chunk (unpackL b) 0 (by omega) (by omega)
      have ha' : gatelineref11_at.f (unpackL b) 0 = some (chunk (unpackL b) 0) := ha
      unfold digF
      rw [ha']
      by_cases h11 : chunk (unpackL b) 0 = 11
      · obtain ⟨res, r, h1, h2, hz, h3⟩ := both_loop b (unpackL b) (by omega) (by omega) (unpackL b).length 5 [] [] 11 (by omega) (by omega) (by omega) (by simp) (by simp)
        simp only [if_pos h11, Option.bind_some]
        exact ⟨r, Ev.bind h1 h2, h3, hz⟩
      · simp only [if_neg h11, Option.bind_some]
        exact ⟨([], 4), Ev.now _, Ev.now _, by simp⟩
    refine ⟨r, ?_, ?_, hz⟩
    · unfold track_Get.f
      simp only [if_neg h]
      refine Ev.bind ht (Ev.congr (fun k => ?_) hg)
      rw [if_pos ⟨by omega, by omega⟩]
    · unfold gatelineref11_Get.f
      simp only [if_neg (show ¬ (b.length : Int) < 2 by omega), decide_eq_false (show ¬ (b.length : Int) > 50 by omega)]
      refine Ev.step (fun k => ?_) (Ev.bind (f := fun k l => (gatelineref11_at.f l 0).bind fun t => if t = 11 then gatelineref11_Get.l0 k b l [11] [] 5 else some ([], 4)) hr hh)
      show gatelineref11_Get.j0 (k + 1) _ _ = _
      rw [gatelineref11_Get.j0, if_neg (by simp)]
end Go.Proofs.Ytfmpeojlaibblaa.Pure

/-
  TrackGets, the plain part.
-/
namespace Go.Proofs.Ytfmpeojlaibblaa.Pure
open Go.RowKit Go.Proofs.Ytfmpeojlaibblaa.S Go.Proofs.YtfmpeojlaibblaaW.PrintWords Go.Proofs.YtfmpeojlaibblaaW.PrintLast

theorem TrackGets : gatelinelaw11_TrackGets.Pure := by
  intro l _ hm hw
  have hb := allB_of_wf hw
  refine Ev.rounds (r := true) ?_
  unfold gatelinelaw11_TrackGets.f
  by_cases h : (l.length : Int) > 1000
  · simp only [if_pos h]; exact Ev.now _
  · simp only [if_neg h]
    obtain ⟨r, h1, h2, hr⟩ := get_both l hb
    refine Ev.bind h1 (Ev.bind h2 (Ev.bind tracked_ev ?_))
    refine Ev.congr (fun k => by rw [if_pos rfl]) (Ev.bind (same_ev _ _ (by omega)) ?_)
    exact ⟨0, fun k _ => by simp⟩
end Go.Proofs.Ytfmpeojlaibblaa.Pure
