/- Written for this claim by a program of this session (handprint.py, over the kit's print). Lean checks it. -/
import Derived.Test.YtajlohhphjlgbaaS0
import Derived.Test.YtajlohhphjlgbaaSF14
import Derived.Test.YtajlohhphjlgbaaSF13
import Derived.Test.YtajlohhphjlgbaaHDiff
namespace Go.Proofs.Ytajlohhphjlgbaa.S
open Go.RowKit Go.Proofs.YtajlohhphjlgbaaW.PrintWords Go.Proofs.YtajlohhphjlgbaaW.PrintLast Go.Proofs.YtajlohhphjlgbaaW.PrintMore
attribute [local go_sem] max2_int min2_int max_two min_two max_three min_three max_four min_four   -- for this text's walks alone
set_option linter.unusedVariables false
set_option linter.unusedSimpArgs false

/-! ### gatelinelaw04_SealOne: function 5 -/
def gatelinelaw04_SealOne.j0 : Nat → List Int → Int → Int → Bool → Option (Bool)
  | 0, _, _, _, _ => none
  | k + 1, x0, x1, x2, x22 => if x22 = true then ((gatelinelaw04_sealed.f k).bind fun t166 => (some t166)) else ((some (([] : List Int) : List Int)).bind fun y167 => (if y167.length + x0.length < 140737488355328 then ((some (y167 ++ x0 : List Int)).bind fun y170 => (if 0 ≤ x1 then (if x1 < (x0.length : Int) then (if x1 < (y170.length : Int) then ((some (y170.set (x1 : Int).toNat (Go.bits .xor .u8 (rd x0 x1) x2) : List Int)).bind fun y174 => ((seal_Diff.f x0 y174).bind fun bt175 => ((gatelinelaw04_sealed.f k).bind fun t177 => (if t177 = true then (if bt175.2 = true then (if bt175.1 = x2 then ((seal_Same.f x0 y174).bind fun t178 => (if (t178 == (x2 == 0)) = true then (if x1 ≤ (x0.length : Int) then ((seal_Same.f x0 (x0.take (x1 : Int).toNat)).bind fun t180 => (some (!t180))) else (none)) else (none))) else (none)) else (none)) else (none))))) else (none)) else (none)) else (none))) else (none)))
def gatelinelaw04_SealOne.f (k : Nat) (l0 : List Int) (a1 : Int) (a2 : Int) : Option (Bool) := if (l0.length : Int) > 2000 then (gatelinelaw04_SealOne.j0 k l0 a1 a2 true) else (if a1 < 0 then (gatelinelaw04_SealOne.j0 k l0 a1 a2 true) else (gatelinelaw04_SealOne.j0 k l0 a1 a2 (decide (a1 ≥ (l0.length : Int)))))
theorem gatelinelaw04_SealOne.mono_l : ∀ k, (∀ y0 y1 y2 y3, LeO (gatelinelaw04_SealOne.j0 k y0 y1 y2 y3) (gatelinelaw04_SealOne.j0 (k + 1) y0 y1 y2 y3))
  | 0 => fun _ _ _ _ r h => by simp [gatelinelaw04_SealOne.j0] at h
  | k + 1 => by
    have ih0 := gatelinelaw04_SealOne.mono_l k
    · intro y0 y1 y2 y3
      unfold gatelinelaw04_SealOne.j0
      repeat' first
      | (with_reducible exact ih0 _ _ _ _)
      | (with_reducible exact gatelinelaw04_sealed.mono _)
      | (with_reducible exact LeO.refl _)
      | (with_reducible exact LeO.none _)
      | (with_reducible refine LeO.ite ?_ ?_)
      | (with_reducible refine LeO.bind ?_ (fun _ => ?_))
      | exact ih0 _ _ _ _
      | exact gatelinelaw04_sealed.mono _
      | exact LeO.none _
      | refine LeO.ite ?_ ?_
      | refine LeO.bind ?_ (fun _ => ?_)
theorem gatelinelaw04_SealOne.mono : ∀ a0 a1 a2 k, LeO (gatelinelaw04_SealOne.f k a0 a1 a2) (gatelinelaw04_SealOne.f (k + 1) a0 a1 a2) := by
  intro a0 a1 a2 k
  have ih0 := gatelinelaw04_SealOne.mono_l k
  unfold gatelinelaw04_SealOne.f
  repeat' first
      | (with_reducible exact ih0 _ _ _ _)
      | (with_reducible exact gatelinelaw04_sealed.mono _)
      | (with_reducible exact LeO.refl _)
      | (with_reducible exact LeO.none _)
      | (with_reducible refine LeO.ite ?_ ?_)
      | (with_reducible refine LeO.bind ?_ (fun _ => ?_))
      | exact ih0 _ _ _ _
      | exact gatelinelaw04_sealed.mono _
      | exact LeO.none _
      | refine LeO.ite ?_ ?_
      | refine LeO.bind ?_ (fun _ => ?_)
set_option maxHeartbeats 8000000 in
set_option maxRecDepth 100000 in
theorem gatelinelaw04_SealOne.calls (k : Nat) (A0 : Option Addr) (c0 : Nat) (l0 : List Int) (a1 : Int) (a2 : Int) (r : Bool) (w : World) (hr0 : Kd.C (Kd.int .u8) w A0 l0.length l0) (hc0 : l0.length ≤ c0) (h : gatelinelaw04_SealOne.f k l0 a1 a2 = some r) :
    Calls Try.prog 5 #[.slice A0 l0.length c0, .int .i64 a1, .int .u8 a2] w fun e w' => e = .returned (.bool r) ∧ Below w.heap.size w w' := by
  have HR0 := Aside0.mk hr0
  have HC0 := Aside0.mk hc0
  clear hr0 hc0
  have HB := Aside0.mk (Below.refl w.heap.size w)
  have H : (if (l0.length : Int) > 2000 then (gatelinelaw04_SealOne.j0 k l0 a1 a2 true) else (if a1 < 0 then (gatelinelaw04_SealOne.j0 k l0 a1 a2 true) else (gatelinelaw04_SealOne.j0 k l0 a1 a2 (decide (a1 ≥ (l0.length : Int)))))) = some r := h
  clear h
  have HC4 := Aside0.mk H
  clear H
  go_enter Try.func5, Try.ntmps5
  go_upto_region 1 with (fail)
  go_cut [22] (fun v22 wc => ∃ (kq : Nat) (x22_3 : Bool), v22 = .bool x22_3 ∧ Aside0 (gatelinelaw04_SealOne.j0 kq l0 a1 a2 x22_3 = some r) ∧ Aside0 (kq ≤ k) ∧ Aside0 (Below w.heap.size w wc))
  case first =>
    have H := HC4.out
    clear HC4
    by_cases c5 : (l0.length : Int) > 2000
    · rw [if_pos c5] at H
      have c5b0 : decide (2000 < (l0.length : Int)) = true := decide_eq_true c5
      have c5b1 : decide (2000 < l0.length) = true := decide_eq_true (by omega)
      clear c5
      (first | rw [c5b0] | (simp only [i64_w, i32_w]; rw [c5b0]) | skip)
      have H' := Aside0.mk H
      clear H
      go_wp2
      go_meet
      case rel => exact ⟨_, (true), (by first | rfl | (simp; done) | (simp [*]; done)), H', ⟨by first | omega | exact Nat.le_refl _⟩, ⟨by repeat (first | (with_reducible first | exact HB.out | apply below_alloc | apply pw_below_drewN | apply below_drew1) | exact HB.out)⟩⟩
    · rw [if_neg c5] at H
      have c5b0 : decide (2000 < (l0.length : Int)) = false := decide_eq_false c5
      have c5b1 : decide (2000 < l0.length) = false := decide_eq_false (by omega)
      clear c5
      (first | rw [c5b0] | (simp only [i64_w, i32_w]; rw [c5b0]) | skip)
      by_cases c6 : a1 < 0
      · rw [if_pos c6] at H
        have c6b0 : decide (a1 < 0) = true := decide_eq_true c6
        clear c6
        have H' := Aside0.mk H
        clear H
        go_wp2
        go_meet
        case rel => exact ⟨_, (true), (by first | rfl | (simp; done) | (simp [*]; done)), H', ⟨by first | omega | exact Nat.le_refl _⟩, ⟨by repeat (first | (with_reducible first | exact HB.out | apply below_alloc | apply pw_below_drewN | apply below_drew1) | exact HB.out)⟩⟩
      · rw [if_neg c6] at H
        have c6b0 : decide (a1 < 0) = false := decide_eq_false c6
        clear c6
        have H' := Aside0.mk H
        clear H
        go_wp2
        go_meet
        case rel => exact ⟨_, (decide (a1 ≥ (l0.length : Int))), (by first | rfl | (simp; done) | (simp [*]; done)), H', ⟨by first | omega | exact Nat.le_refl _⟩, ⟨by repeat (first | (with_reducible first | exact HB.out | apply below_alloc | apply pw_below_drewN | apply below_drew1) | exact HB.out)⟩⟩
  case rest =>
    clear HC4
    try clear p2
    try clear c5
    try clear c5b0
    try clear c5b1
    try clear c6
    try clear c6b0
    obtain ⟨kq, x22_3, rfl, HA, HJ3, HB⟩ := hcut
    cases kq with
    | zero => exact absurd HA.out (by simp [gatelinelaw04_SealOne.j0])
    | succ kj3 =>
      have H := HA.out
      clear HA
      simp only [gatelinelaw04_SealOne.j0] at H
      by_cases c7 : x22_3 = true
      · subst c7
        have H1 : ((gatelinelaw04_sealed.f kj3).bind fun t166 => (some t166)) = some r := by rw [if_pos rfl] at H; exact H
        clear H
        have H := H1
        clear H1
        replace H := Option.bind_eq_some_iff.mp H
        obtain ⟨t166, A80, H⟩ := H
        replace H : (some t166) = some r := H
        have A8 := Aside0.mk A80
        clear A80
        obtain rfl := Option.some.inj H
        go_wp2_with (first | ((with_reducible refine gate_callee (f := 13) rfl ?_); refine goesL_ (some 23) rfl rfl Try.func13 (by kernel_rfl) rfl #[] rfl (by (try simp only [List.map_toArray, List.map_cons, List.map_nil]); first | done | rfl | (simp only [List.length_drop, List.length_take]; rfl)) ?_; (with_reducible refine (gatelinelaw04_sealed.calls kj3  t166 _ A8.out).mono ?_); rintro e w9 ⟨rfl, hb⟩; refine ⟨_, rfl, ?_⟩; have n0_ := Aside0.mk (below_step (by repeat (first | (with_reducible first | exact HB.out | apply below_alloc | apply pw_below_drewN | apply below_drew1) | exact HB.out)) hb); clear HB; have HB := n0_; clear n0_; (try clear hb); (try clear hb2); (try clear hk); (try clear hi)))
        go_ret
        exact ⟨by first | rfl | (simp [errW_none, errW_some] <;> rfl) | (simp [*, errW_none, errW_some] <;> rfl), by repeat (first | (with_reducible first | exact HB.out | apply below_alloc | apply pw_below_drewN | apply below_drew1) | exact HB.out)⟩
      · replace c7 := Bool.eq_false_iff.mpr c7
        subst c7
        have H1 : ((some (([] : List Int) : List Int)).bind fun y167 => (if y167.length + l0.length < 140737488355328 then ((some (y167 ++ l0 : List Int)).bind fun y170 => (if 0 ≤ a1 then (if a1 < (l0.length : Int) then (if a1 < (y170.length : Int) then ((some (y170.set (a1 : Int).toNat (Go.bits .xor .u8 (rd l0 a1) a2) : List Int)).bind fun y174 => ((seal_Diff.f l0 y174).bind fun bt175 => ((gatelinelaw04_sealed.f kj3).bind fun t177 => (if t177 = true then (if bt175.2 = true then (if bt175.1 = a2 then ((seal_Same.f l0 y174).bind fun t178 => (if (t178 == (a2 == 0)) = true then (if a1 ≤ (l0.length : Int) then ((seal_Same.f l0 (l0.take (a1 : Int).toNat)).bind fun t180 => (some (!t180))) else (none)) else (none))) else (none)) else (none)) else (none))))) else (none)) else (none)) else (none))) else (none))) = some r := by rw [if_neg (show ¬ (false = true) by decide)] at H; exact H
        clear H
        have H := H1
        clear H1
        obtain ⟨y167, hy167⟩ : ∃ y_ : List Int, y_ = (([] : List Int)) := ⟨_, rfl⟩
        replace H : (if y167.length + l0.length < 140737488355328 then ((some (y167 ++ l0 : List Int)).bind fun y170 => (if 0 ≤ a1 then (if a1 < (l0.length : Int) then (if a1 < (y170.length : Int) then ((some (y170.set (a1 : Int).toNat (Go.bits .xor .u8 (rd l0 a1) a2) : List Int)).bind fun y174 => ((seal_Diff.f l0 y174).bind fun bt175 => ((gatelinelaw04_sealed.f kj3).bind fun t177 => (if t177 = true then (if bt175.2 = true then (if bt175.1 = a2 then ((seal_Same.f l0 y174).bind fun t178 => (if (t178 == (a2 == 0)) = true then (if a1 ≤ (l0.length : Int) then ((seal_Same.f l0 (l0.take (a1 : Int).toNat)).bind fun t180 => (some (!t180))) else (none)) else (none))) else (none)) else (none)) else (none))))) else (none)) else (none)) else (none))) else (none)) = some r := by first | (rw [hy167]; with_reducible exact H) | (have H2_ := (Option.bind_some _ _).symm.trans H; rw [hy167]; with_reducible exact H2_) | (have H2_ := (Option.bind_some _ _).symm.trans H; with_reducible exact H2_) | with_reducible exact H | (rw [hy167]; exact H) | exact H
        have Ny167 := Aside0.mk hy167
        clear hy167
        by_cases c10 : y167.length + l0.length < 140737488355328
        · rw [if_pos c10] at H
          have LMc10 := Aside0.mk c10
          clear c10
          obtain ⟨y170, hy170⟩ : ∃ y_ : List Int, y_ = (y167 ++ l0) := ⟨_, rfl⟩
          replace H : (if 0 ≤ a1 then (if a1 < (l0.length : Int) then (if a1 < (y170.length : Int) then ((some (y170.set (a1 : Int).toNat (Go.bits .xor .u8 (rd l0 a1) a2) : List Int)).bind fun y174 => ((seal_Diff.f l0 y174).bind fun bt175 => ((gatelinelaw04_sealed.f kj3).bind fun t177 => (if t177 = true then (if bt175.2 = true then (if bt175.1 = a2 then ((seal_Same.f l0 y174).bind fun t178 => (if (t178 == (a2 == 0)) = true then (if a1 ≤ (l0.length : Int) then ((seal_Same.f l0 (l0.take (a1 : Int).toNat)).bind fun t180 => (some (!t180))) else (none)) else (none))) else (none)) else (none)) else (none))))) else (none)) else (none)) else (none)) = some r := by first | (rw [hy170]; with_reducible exact H) | (have H2_ := (Option.bind_some _ _).symm.trans H; rw [hy170]; with_reducible exact H2_) | (have H2_ := (Option.bind_some _ _).symm.trans H; with_reducible exact H2_) | with_reducible exact H | (rw [hy170]; exact H) | exact H
          have Ny170 := Aside0.mk hy170
          clear hy170
          by_cases c11 : 0 ≤ a1
          · rw [if_pos c11] at H
            have c11b0 : decide (0 ≤ a1) = true := decide_eq_true c11
            clear c11
            by_cases c12 : a1 < (l0.length : Int)
            · rw [if_pos c12] at H
              have c12b0 : decide (a1 < (l0.length : Int)) = true := decide_eq_true c12
              clear c12
              by_cases c13 : a1 < (y170.length : Int)
              · rw [if_pos c13] at H
                have c13b0 : decide (a1 < (y170.length : Int)) = true := decide_eq_true c13
                clear c13
                obtain ⟨y174, hy174⟩ : ∃ y_ : List Int, y_ = (y170.set (a1 : Int).toNat (Go.bits .xor .u8 (rd l0 a1) a2)) := ⟨_, rfl⟩
                replace H : ((seal_Diff.f l0 y174).bind fun bt175 => ((gatelinelaw04_sealed.f kj3).bind fun t177 => (if t177 = true then (if bt175.2 = true then (if bt175.1 = a2 then ((seal_Same.f l0 y174).bind fun t178 => (if (t178 == (a2 == 0)) = true then (if a1 ≤ (l0.length : Int) then ((seal_Same.f l0 (l0.take (a1 : Int).toNat)).bind fun t180 => (some (!t180))) else (none)) else (none))) else (none)) else (none)) else (none)))) = some r := by first | (rw [hy174]; with_reducible exact H) | (have H2_ := (Option.bind_some _ _).symm.trans H; rw [hy174]; with_reducible exact H2_) | (have H2_ := (Option.bind_some _ _).symm.trans H; with_reducible exact H2_) | with_reducible exact H | (rw [hy174]; exact H) | exact H
                have Ny174 := Aside0.mk hy174
                clear hy174
                replace H := Option.bind_eq_some_iff.mp H
                obtain ⟨⟨t175, t176⟩, A150, H⟩ := H
                replace H : ((gatelinelaw04_sealed.f kj3).bind fun t177 => (if t177 = true then (if t176 = true then (if t175 = a2 then ((seal_Same.f l0 y174).bind fun t178 => (if (t178 == (a2 == 0)) = true then (if a1 ≤ (l0.length : Int) then ((seal_Same.f l0 (l0.take (a1 : Int).toNat)).bind fun t180 => (some (!t180))) else (none)) else (none))) else (none)) else (none)) else (none))) = some r := H
                have A15 := Aside0.mk A150
                clear A150
                replace H := Option.bind_eq_some_iff.mp H
                obtain ⟨t177, A160, H⟩ := H
                replace H : (if t177 = true then (if t176 = true then (if t175 = a2 then ((seal_Same.f l0 y174).bind fun t178 => (if (t178 == (a2 == 0)) = true then (if a1 ≤ (l0.length : Int) then ((seal_Same.f l0 (l0.take (a1 : Int).toNat)).bind fun t180 => (some (!t180))) else (none)) else (none))) else (none)) else (none)) else (none)) = some r := H
                have A16 := Aside0.mk A160
                clear A160
                by_cases c17 : t177 = true
                · subst c17
                  have H1 : (if t176 = true then (if t175 = a2 then ((seal_Same.f l0 y174).bind fun t178 => (if (t178 == (a2 == 0)) = true then (if a1 ≤ (l0.length : Int) then ((seal_Same.f l0 (l0.take (a1 : Int).toNat)).bind fun t180 => (some (!t180))) else (none)) else (none))) else (none)) else (none)) = some r := by rw [if_pos rfl] at H; exact H
                  clear H
                  have H := H1
                  clear H1
                  by_cases c18 : t176 = true
                  · subst c18
                    have H1 : (if t175 = a2 then ((seal_Same.f l0 y174).bind fun t178 => (if (t178 == (a2 == 0)) = true then (if a1 ≤ (l0.length : Int) then ((seal_Same.f l0 (l0.take (a1 : Int).toNat)).bind fun t180 => (some (!t180))) else (none)) else (none))) else (none)) = some r := by rw [if_pos rfl] at H; exact H
                    clear H
                    have H := H1
                    clear H1
                    by_cases c19 : t175 = a2
                    · rw [if_pos c19] at H
                      have c19b0 : (t175 == a2) = true := beq_iff_eq.mpr c19
                      have c19b1 : (t175 != a2) = false := bne_eq_false_iff_eq.mpr c19
                      clear c19
                      replace H := Option.bind_eq_some_iff.mp H
                      obtain ⟨t178, A200, H⟩ := H
                      replace H : (if (t178 == (a2 == 0)) = true then (if a1 ≤ (l0.length : Int) then ((seal_Same.f l0 (l0.take (a1 : Int).toNat)).bind fun t180 => (some (!t180))) else (none)) else (none)) = some r := H
                      have A20 := Aside0.mk A200
                      clear A200
                      by_cases c21 : (t178 == (a2 == 0)) = true
                      · rw [if_pos c21] at H
                        have c21b0 : (t178 == (a2 == 0)) = true := c21
                        (try (have c21b1 : decide (t178 = (a2 == 0)) = true := by simpa using c21))
                        (try (have c21b2 : (t178 == (a2 == 0)) = true := by simpa using c21))
                        clear c21
                        have c22b0 := eq_true (of_decide_eq_true (by first | (with_reducible assumption) | assumption) : 0 ≤ a1)
                        by_cases c23 : a1 ≤ (l0.length : Int)
                        · rw [if_pos c23] at H
                          have c23b0 := eq_true c23
                          have c23b1 : decide (a1 ≤ (l0.length : Int)) = true := decide_eq_true c23
                          clear c23
                          replace H := Option.bind_eq_some_iff.mp H
                          obtain ⟨t180, A240, H⟩ := H
                          replace H : (some (!t180)) = some r := H
                          have A24 := Aside0.mk A240
                          clear A240
                          obtain rfl := Option.some.inj H
                          go_wp2_with (first | ((with_reducible refine gate_dst (N := 24) rfl ?_); (try (refine gate_guard (by rfl) ?_; dsimp only)); refine Kd.R_lit (Kd.int .u8) _ 5 ?hg (N := 24) ?hd (xs := ([] : List Int)) (inner := []) (ok := fun _ => True) (okp := fun _ => True) ?hr ?hp (fun _ hk => hk) trivial (Below.refl _ _) (Nat.le_refl _) (by simp) ?_; (case hd => rfl); (case hg => rfl); (case hr => first | (go_simp; done) | (go_simp; rfl)); (case hp => exact (Reps.none _ _)); intro v168 w25 ho26 hb hg_ hnew_; clear hg_ hnew_; (first | rw [← Ny167.out] at ho26 | (simp only [Int.reduceToNat] at ho26; rw [← Ny167.out] at ho26)); have n0_ := Aside0.mk (Kd.R_lower ho26 (below_size (by repeat (first | (with_reducible first | exact HB.out | apply below_alloc | apply pw_below_drewN | apply below_drew1) | exact HB.out)))); have n1_ := Aside0.mk (below_step (by repeat (first | (with_reducible first | exact HB.out | apply below_alloc | apply pw_below_drewN | apply below_drew1) | exact HB.out)) hb); clear HB; have HO169 := n0_; have HB := n1_; clear n0_ n1_; clear hb ho26) | ((with_reducible refine gate_builtin (b := .append) (xs := #[.tmp 25, .tmp 26]) rfl ?_); (try (refine gate_guard (by rfl) ?_; dsimp only)); at_builtin; refine Kd.R_append_rows (Kd.int .u8) (w0 := w) w.heap.size rfl (.tmp 25) (.tmp 26) 22 5 (.int .u8 0) 1 rfl Try.underlying22 info5 rfl (by decide) (by omega) v168 y167 l0 _ _ _ (fun _ => True) (fun _ => False) rfl rfl ?aO ?aR (fun _ _ h => h) (fun _ h => h.elim) ?aF ?aB ?aS ?aL ?_; (case aR => repeat (first | exact (Kd.C_below HR0.out HB.out) | (with_reducible refine Kd.C_alloc ?_ _) | (with_reducible refine Kd.C_drewN ?_ _) | (with_reducible refine Kd.C_drew ?_))); (case aB => exact (by repeat (first | (with_reducible first | exact HB.out | apply below_alloc | apply pw_below_drewN | apply below_drew1) | exact HB.out))); (case aF => exact (fun _ _ => trivial)); (case aO => exact (by (with_reducible repeat (first | apply Kd.R_alloc | apply Kd.R_drewN | apply Kd.R_drew)); exact HO169.out)); (case aS => exact (below_size (by repeat (first | (with_reducible first | exact HB.out | apply below_alloc | apply pw_below_drewN | apply below_drew1) | exact HB.out)))); (case aL => have := LMc10.out; omega); intro v171 w27 ho hb hg hat; rw [← Ny170.out] at ho; have n0_ := Aside0.mk (hb); have n1_ := Aside0.mk (ho); clear HB; clear HO169; have HB := n0_; have HO172 := n1_; clear n0_ n1_; clear ho hb hg hat; have p173 : 0 ≤ (a1 : Int) := of_decide_eq_true (by first | (with_reducible assumption) | assumption); have q173 : a1 < (l0.length : Int) := of_decide_eq_true (by first | (with_reducible assumption) | assumption); obtain ⟨ad173, e173, hx173_0⟩ := Kd.at_int HR0.out a1 p173 q173; cases e173; replace hx173_0 := (HB.out.cell (World.block_lt_of_cell? w _ hx173_0)).trans hx173_0; replace p173 := eq_true p173; replace q173 := eq_true q173; have p14 : 0 ≤ (a1 : Int) := of_decide_eq_true (by first | (with_reducible assumption) | assumption); have q14 : (a1 : Int) < ((y170.length : Int) : Int) := of_decide_eq_true (by first | (with_reducible assumption) | assumption); obtain ⟨go14, co14, eo14, gb14, gl14, cl14, HG14⟩ := Kd.R_form HO172.out (by omega); (first | cases eo14 | (injection eo14 with ea_ en_ ec_; (first | subst ea_ | (injection ea_ with ea_; subst ea_)); subst ec_; clear en_)); have GB14 := Aside0.mk gb14; have GG14 := Aside0.mk HG14; clear gb14 gl14 HG14; obtain ⟨hx14_0, hf14_0⟩ := Kd.R_celln 0 HO172.out (a1 : Int) p14 q14; replace p14 := eq_true p14; replace q14 := eq_true q14; obtain ⟨hy28_, hz28_⟩ := Kd.R_celln 0 HO172.out (a1 : Int) (of_decide_eq_true (by first | (with_reducible assumption) | assumption)) (of_decide_eq_true (by first | (with_reducible assumption) | assumption)); have HP28 := Kd.R_putg HO172.out (a1 : Int) (Go.bits .xor .u8 (rd l0 a1) a2)) | ((with_reducible refine gate_store (t := 5) (p := 36) rfl ?_); refine store_event (t := 5) (p := 36) (v := ?vo_w29) (w1 := (w27.setCell ⟨go14, (a1 : Int).toNat, none⟩ (.int .u8 (Go.bits .xor .u8 (rd l0 a1) a2)))) ?hg ?ho ?hn ?hr ?_; (case ho => rfl); (case hg => rfl); (case hn => rfl); (case hr => first | (go_simp; done) | (go_simp; rfl)); intro w29 hw; have hg : w27.grownBy w29 (some go14) := (by rw [hw]; exact HP28.2); have hp_ : Kd.R (Kd.int .u8) 5 w29 w.heap.size (fun _ => True) (.slice (some ⟨go14, 0, none⟩) y170.length co14) y174 := (by rw [hw, Ny174.out]; exact HP28.1); clear HP28; have n0_ := Aside0.mk (hp_); have n1_ := Aside0.mk ((by rw [hw]; exact below_set (HB.out) GB14.out : Below w.heap.size w w29)); clear HO172; clear HB; have HO172 := n0_; have HB := n1_; clear n0_ n1_; clear hg hw hp_) | ((with_reducible refine gate_callee (f := 11) rfl ?_); refine goesL_ (some 40) rfl rfl Try.func11 (by kernel_rfl) rfl #[.slice (some ad173) l0.length c0, .slice (some ⟨go14, 0, none⟩) y174.length co14] rfl (by (try simp only [List.map_toArray, List.map_cons, List.map_nil]); first | done | (rw [show y174.length = y170.length from (Kd.R_reads' HO172.out).1.symm] <;> rfl) | rfl | (simp only [List.length_drop, List.length_take]; rfl)) ?_; (with_reducible refine (seal_Diff.calls _ _ l0 _ _ y174 t175 true _ ?side1 ?side2 ?side3 ?side4 A15.out).mono ?_); (case side1 => repeat (first | exact (Kd.C_below HR0.out HB.out) | (with_reducible refine Kd.C_alloc ?_ _) | (with_reducible refine Kd.C_drewN ?_ _) | (with_reducible refine Kd.C_drew ?_))); (case side2 => exact HC0.out); (case side3 => repeat (first | exact (Kd.R_reads' HO172.out).2.2 | (with_reducible refine Kd.C_alloc ?_ _) | (with_reducible refine Kd.C_drewN ?_ _) | (with_reducible refine Kd.C_drew ?_))); (case side4 => rw [show y174.length = y170.length from (Kd.R_reads' HO172.out).1.symm]; exact (Kd.R_reads' HO172.out).2.1); rintro e w30 ⟨rfl, hb⟩; refine ⟨_, rfl, ?_⟩; have n0_ := Aside0.mk (Kd.R_below (by (with_reducible repeat (first | apply Kd.R_alloc | apply Kd.R_drewN | apply Kd.R_drew)); exact HO172.out) hb); have n1_ := Aside0.mk (below_step (by repeat (first | (with_reducible first | exact HB.out | apply below_alloc | apply pw_below_drewN | apply below_drew1) | exact HB.out)) hb); clear HO172; clear HB; have HO172 := n0_; have HB := n1_; clear n0_ n1_; (try clear hb); (try clear hb2); (try clear hk); (try clear hi)) | ((with_reducible refine gate_callee (f := 13) rfl ?_); refine goesL_ (some 43) rfl rfl Try.func13 (by kernel_rfl) rfl #[] rfl (by (try simp only [List.map_toArray, List.map_cons, List.map_nil]); first | done | rfl | (simp only [List.length_drop, List.length_take]; rfl)) ?_; (with_reducible refine (gatelinelaw04_sealed.calls kj3  true _ A16.out).mono ?_); rintro e w31 ⟨rfl, hb⟩; refine ⟨_, rfl, ?_⟩; have n0_ := Aside0.mk (Kd.R_below (by (with_reducible repeat (first | apply Kd.R_alloc | apply Kd.R_drewN | apply Kd.R_drew)); exact HO172.out) hb); have n1_ := Aside0.mk (below_step (by repeat (first | (with_reducible first | exact HB.out | apply below_alloc | apply pw_below_drewN | apply below_drew1) | exact HB.out)) hb); clear HO172; clear HB; have HO172 := n0_; have HB := n1_; clear n0_ n1_; (try clear hb); (try clear hb2); (try clear hk); (try clear hi)) | (go_at_call 14; refine calls_of_args (args' := #[.slice (some ad173) l0.length c0, .slice (some ⟨go14, 0, none⟩) y174.length co14]) (by first | (rw [show y174.length = y170.length from (Kd.R_reads' HO172.out).1.symm] <;> rfl) | rfl) ?_; (with_reducible refine (seal_Same.calls _ _ l0 _ _ y174 t178 _ ?side1 ?side2 ?side3 ?side4 A20.out).mono ?_); (case side1 => repeat (first | exact (Kd.C_below HR0.out HB.out) | (with_reducible refine Kd.C_alloc ?_ _) | (with_reducible refine Kd.C_drewN ?_ _) | (with_reducible refine Kd.C_drew ?_))); (case side2 => exact HC0.out); (case side3 => repeat (first | exact (Kd.R_reads' HO172.out).2.2 | (with_reducible refine Kd.C_alloc ?_ _) | (with_reducible refine Kd.C_drewN ?_ _) | (with_reducible refine Kd.C_drew ?_))); (case side4 => rw [show y174.length = y170.length from (Kd.R_reads' HO172.out).1.symm]; exact (Kd.R_reads' HO172.out).2.1); rintro e w32 ⟨rfl, hb⟩; have n0_ := Aside0.mk (Kd.R_below (by (with_reducible repeat (first | apply Kd.R_alloc | apply Kd.R_drewN | apply Kd.R_drew)); exact HO172.out) hb); have n1_ := Aside0.mk (below_step (by repeat (first | (with_reducible first | exact HB.out | apply below_alloc | apply pw_below_drewN | apply below_drew1) | exact HB.out)) hb); clear HO172; clear HB; have HO172 := n0_; have HB := n1_; clear n0_ n1_; (try clear hb); (try clear hb2); (try clear hk); (try clear hi); obtain ⟨i033, hi033, _, hsz33, _⟩ := info_parts info5; obtain ⟨hcut33, hA33, hC33⟩ := print_take_of (P := Try.prog) (Value.int .u8) 0 22 5 .i64 Try.underlying22 hi033 hsz33 (some ad173) c0 l0 a1 (of_decide_eq_true (by first | (with_reducible assumption) | assumption)) (of_decide_eq_true (by first | (with_reducible assumption) | assumption)) HC0.out; have HR179 := Aside0.mk (Kd.C_of_reads (h1 := fun _ => rfl) (hA33 _ (Kd.reads_of_C HR0.out))); have HC179 := Aside0.mk hC33; clear hA33 hC33 hi033 hsz33) | (go_at_call 14; refine calls_of_args (args' := #[.slice (some ad173) l0.length c0, .slice (some ad173) (l0.take (a1 : Int).toNat).length c0]) (by rw [show (l0.take (a1 : Int).toNat).length = (a1 : Int).toNat by (rw [List.length_take]; have hlt_ : a1 < (l0.length : Int) := (by first | exact of_decide_eq_true c12b0 | exact of_eq_true q173); omega)]) ?_; (with_reducible refine (seal_Same.calls _ _ l0 _ _ (l0.take (a1 : Int).toNat) t180 _ ?side1 ?side2 ?side3 ?side4 A24.out).mono ?_); (case side1 => repeat (first | exact (Kd.C_below HR0.out HB.out) | (with_reducible refine Kd.C_alloc ?_ _) | (with_reducible refine Kd.C_drewN ?_ _) | (with_reducible refine Kd.C_drew ?_))); (case side2 => exact HC0.out); (case side3 => repeat (first | exact (Kd.C_below HR179.out HB.out) | (with_reducible refine Kd.C_alloc ?_ _) | (with_reducible refine Kd.C_drewN ?_ _) | (with_reducible refine Kd.C_drew ?_))); (case side4 => exact HC179.out); rintro e w34 ⟨rfl, hb⟩; have n0_ := Aside0.mk (Kd.R_below (by (with_reducible repeat (first | apply Kd.R_alloc | apply Kd.R_drewN | apply Kd.R_drew)); exact HO172.out) hb); have n1_ := Aside0.mk (below_step (by repeat (first | (with_reducible first | exact HB.out | apply below_alloc | apply pw_below_drewN | apply below_drew1) | exact HB.out)) hb); clear HO172; clear HB; have HO172 := n0_; have HB := n1_; clear n0_ n1_; (try clear hb); (try clear hb2); (try clear hk); (try clear hi)))
                          go_ret
                          exact ⟨by first | rfl | (simp [errW_none, errW_some] <;> rfl) | (simp [*, errW_none, errW_some] <;> rfl), by repeat (first | (with_reducible first | exact HB.out | apply below_alloc | apply pw_below_drewN | apply below_drew1) | exact HB.out)⟩
                        · rw [if_neg c23] at H
                          exact absurd H (by simp)
                      · rw [if_neg c21] at H
                        exact absurd H (by simp)
                    · rw [if_neg c19] at H
                      exact absurd H (by simp)
                  · replace c18 := Bool.eq_false_iff.mpr c18
                    subst c18
                    have H1 : (none) = some r := by rw [if_neg (show ¬ (false = true) by decide)] at H; exact H
                    clear H
                    have H := H1
                    clear H1
                    exact absurd H (by simp)
                · replace c17 := Bool.eq_false_iff.mpr c17
                  subst c17
                  have H1 : (none) = some r := by rw [if_neg (show ¬ (false = true) by decide)] at H; exact H
                  clear H
                  have H := H1
                  clear H1
                  exact absurd H (by simp)
              · rw [if_neg c13] at H
                exact absurd H (by simp)
            · rw [if_neg c12] at H
              exact absurd H (by simp)
          · rw [if_neg c11] at H
            exact absurd H (by simp)
        · rw [if_neg c10] at H
          exact absurd H (by simp)

/-- THE ONE PURE STATEMENT of gatelinelaw04_SealOne: yours. -/
def gatelinelaw04_SealOne.Pure : Prop := ∀ (l0 : List Int) (a1 : Int) (a2 : Int), l0.length ≤ maxLen → l0.length * 1 ≤ 140737488351232 → (∀ x ∈ l0, (Lit.int .u8 x).wf = true) → (Lit.int .i64 a1).wf = true → (Lit.int .u8 a2).wf = true → ∃ k, gatelinelaw04_SealOne.f k l0 a1 a2 = some true
theorem gatelinelaw04_SealOne.walk (P : gatelinelaw04_SealOne.Pure) (a0 : Option Addr) (len0 cap0 : Nat) (z0 : List Int) (a1 : Int) (a2 : Int) (w : World) (w0 : (a0 = none ∧ len0 = 0 ∧ cap0 = 0 ∧ z0 = []) ∨ ∃ x, a0 = some x ∧ len0 ≤ cap0 ∧ cap0 ≤ maxLen ∧ z0.length = cap0 ∧ (∀ i, i < z0.length → w.cell? (x.add i) = some (.int .u8 (z0.getD i 0))) ∧ ∀ n ∈ z0, (Lit.int .u8 n).wf = true) (y0 : len0 * 1 ≤ 140737488351232) (w1 : (Lit.int .i64 a1).wf = true) (w2 : (Lit.int .u8 a2).wf = true) :
    Calls Try.prog 5 #[.slice a0 len0 cap0, .int .i64 a1, .int .u8 a2] w fun e w' => e = .returned (.bool true) ∧ Below w.heap.size w w' := by
  obtain ⟨l0, rfl, hr0, hm0, hw0, hc0⟩ := ReadsInt.ofRowC w0
  obtain ⟨k, h⟩ := P l0 a1 a2 hm0 y0 hw0 w1 w2
  refine (gatelinelaw04_SealOne.calls k _ _ l0 a1 a2 true w (Kd.C_of_reads (d := (0 : Int)) (h1 := fun _ => rfl) hr0) hc0 h).mono ?_
  rintro e w' ⟨rfl, hd⟩
  exact ⟨rfl, hd⟩

end Go.Proofs.Ytajlohhphjlgbaa.S
