/- Written for this claim by a program of this session (handprint.py, over the kit's print). Lean checks it. -/
import Derived.Test.YtijpiaiklojafaaS0
import Derived.Test.YtijpiaiklojafaaHIs
namespace Go.Proofs.Ytijpiaiklojafaa.S
open Go.RowKit Go.Proofs.YtijpiaiklojafaaW.PrintWords Go.Proofs.YtijpiaiklojafaaW.PrintLast Go.Proofs.YtijpiaiklojafaaW.PrintMore
attribute [local go_sem] max2_int min2_int max_two min_two max_three min_three max_four min_four   -- for this text's walks alone
set_option linter.unusedVariables false
set_option linter.unusedSimpArgs false

/-! ### ring_On: function 22 -/
def ring_On.l0 : Nat → List (S33) → Int → Int → Option (Int × List Int × Int × Int × Int)
  | 0, _, _, _ => none
  | k + 1, x0, x1, x6 => if x6 ≥ 0 then (if 0 ≤ x6 then (if x6 < (x0.length : Int) then (if ((rd_T33 x0 x6).f2) ≤ x1 then (if x1 ≤ ((rd_T33 x0 x6).f3) then (some ((rd_T33 x0 x6).f0, (rd_T33 x0 x6).f1, (rd_T33 x0 x6).f2, (rd_T33 x0 x6).f3, 0)) else (ring_On.l0 k x0 x1 (wrap64 (x6 - 1)))) else (ring_On.l0 k x0 x1 (wrap64 (x6 - 1)))) else (none)) else (none)) else (some (0, ([] : List Int), 0, 0, 20))
def ring_On.f (k : Nat) (l0 : List (S33)) (a1 : Int) : Option (Int × List Int × Int × Int × Int) := (ring_Is.f l0).bind fun t231 => (if t231 = true then (ring_On.l0 k l0 a1 (wrap64 ((l0.length : Int) - 1))) else (some (0, ([] : List Int), 0, 0, 1)))
theorem ring_On.mono_l : ∀ k, (∀ y0 y1 y2, LeO (ring_On.l0 k y0 y1 y2) (ring_On.l0 (k + 1) y0 y1 y2))
  | 0 => fun _ _ _ r h => by simp [ring_On.l0] at h
  | k + 1 => by
    have ih0 := ring_On.mono_l k
    · intro y0 y1 y2
      unfold ring_On.l0
      repeat' first
      | (with_reducible exact ih0 _ _ _)
      | (with_reducible exact LeO.refl _)
      | (with_reducible exact LeO.none _)
      | (with_reducible refine LeO.ite ?_ ?_)
      | (with_reducible refine LeO.bind ?_ (fun _ => ?_))
      | exact ih0 _ _ _
      | exact LeO.none _
      | refine LeO.ite ?_ ?_
      | refine LeO.bind ?_ (fun _ => ?_)
theorem ring_On.mono : ∀ a0 a1 k, LeO (ring_On.f k a0 a1) (ring_On.f (k + 1) a0 a1) := by
  intro a0 a1 k
  have ih0 := ring_On.mono_l k
  unfold ring_On.f
  repeat' first
      | (with_reducible exact ih0 _ _ _)
      | (with_reducible exact LeO.refl _)
      | (with_reducible exact LeO.none _)
      | (with_reducible refine LeO.ite ?_ ?_)
      | (with_reducible refine LeO.bind ?_ (fun _ => ?_))
      | exact ih0 _ _ _
      | exact LeO.none _
      | refine LeO.ite ?_ ?_
      | refine LeO.bind ?_ (fun _ => ?_)
set_option maxHeartbeats 8000000 in
set_option maxRecDepth 100000 in
theorem ring_On.calls (k : Nat) (P0_ : Nat → Prop) (A0 : Option Addr) (c0 : Nat) (l0 : List (S33)) (a1 : Int) (r1 : Int) (r2 : List Int) (r3 : Int) (r4 : Int) (r5 : Int) (w : World) (hs0 : Kd.V k33 33 w w.heap.size (fun k_ => P0_ k_) (.slice A0 l0.length c0) l0) (h : ring_On.f k l0 a1 = some (r1, r2, r3, r4, r5)) :
    Calls Try.prog 22 #[.slice A0 l0.length c0, .int .i64 a1] w fun e w' => ∃ v1_ : Value, e = .returned (.tuple #[.agg #[.int .i64 r1, v1_, .int .i64 r3, .int .i64 r4], .int .i64 r5]) ∧ Kd.V (Kd.int .u8) 5 w' w.heap.size (fun k_ => (P0_ k_ ∨ w.heap.size ≤ k_)) v1_ r2 ∧ Below w.heap.size w w' := by
  have hu33 := Try.underlying33
  have HO0 := Aside0.mk (show Kd.V k33 33 w w.heap.size (fun k_ => (P0_ k_ ∨ w.heap.size ≤ k_)) (.slice A0 l0.length c0) l0 from Kd.V_mono hs0 (fun k_ hk => .inl hk))
  have HB := Aside0.mk (Below.refl w.heap.size w)
  have H : ((ring_Is.f l0).bind fun t231 => (if t231 = true then (ring_On.l0 k l0 a1 (wrap64 ((l0.length : Int) - 1))) else (some (0, ([] : List Int), 0, 0, 1)))) = some (r1, r2, r3, r4, r5) := h
  clear h
  replace H := Option.bind_eq_some_iff.mp H
  obtain ⟨t231, A30, H⟩ := H
  replace H : (if t231 = true then (ring_On.l0 k l0 a1 (wrap64 ((l0.length : Int) - 1))) else (some (0, ([] : List Int), 0, 0, 1))) = some (r1, r2, r3, r4, r5) := H
  have A3 := Aside0.mk A30
  clear A30
  by_cases c4 : t231 = true
  · subst c4
    have H1 : (ring_On.l0 k l0 a1 (wrap64 ((l0.length : Int) - 1))) = some (r1, r2, r3, r4, r5) := by rw [if_pos rfl] at H; exact H
    clear H
    have H := H1
    clear H1
    have H' := Aside0.mk H
    clear H
    go_enter Try.func22, Try.ntmps22
    go_wp2_with (first | ((with_reducible refine gate_dst (N := 4) rfl ?_); refine box_event ?hg (N := 4) ?hd (cs := #[.int .i64 0, .slice none 0 0, .int .i64 0, .int .i64 0]) (t := 33) ?hr ?_; (case hd => rfl); (case hg => rfl); (case hr => first | (go_simp; done) | (go_simp; rfl)); intro gb230 hg w5 hbox hb; have n0_ := Aside0.mk (Kd.V_below (Kd.V_elderB (by (with_reducible repeat (first | apply Kd.V_alloc | apply Kd.V_drewN | apply Kd.V_drew)); exact HO0.out) gb230 (Nat.le_of_eq hg.symm)) hb); have n1_ := Aside0.mk (below_step (by repeat (first | (with_reducible first | exact HB.out | apply below_alloc | apply pw_below_drewN | apply below_drew1) | exact HB.out)) hb); have n2_ := Aside0.mk (hbox); have n3_ := Aside0.mk ((by rw [hg]; exact (below_size (by repeat (first | (with_reducible first | exact HB.out | apply below_alloc | apply pw_below_drewN | apply below_drew1) | exact HB.out))) : w.heap.size ≤ gb230)); have n4_ := Aside0.mk ((by rw [hg]; exact (below_size (by repeat (first | (with_reducible first | exact HB.out | apply below_alloc | apply pw_below_drewN | apply below_drew1) | exact HB.out))) : w.heap.size ≤ gb230)); clear HO0; clear HB; have HO0 := n0_; have HB := n1_; have BK230 := n2_; have GW230 := n3_; have GE230 := n4_; clear n0_ n1_ n2_ n3_ n4_; clear hb hbox hg) | ((with_reducible refine gate_callee (f := 26) rfl ?_); refine goesL_ (some 8) rfl rfl Try.func26 (by kernel_rfl) rfl #[.slice A0 l0.length c0] rfl (by (try simp only [List.map_toArray, List.map_cons, List.map_nil]); first | done | rfl | (simp only [List.length_drop, List.length_take]; rfl)) ?_; (with_reducible refine (ring_Is.calls _ _ l0 true _ ?side1 ?side2 A3.out).mono ?_); (case side1 => repeat (first | exact (Kd.V_reads' HO0.out).2.2 | (with_reducible refine Kd.C_alloc ?_ _) | (with_reducible refine Kd.C_drewN ?_ _) | (with_reducible refine Kd.C_drew ?_))); (case side2 => exact (Kd.V_reads' HO0.out).2.1); rintro e w6 ⟨rfl, hb⟩; refine ⟨_, rfl, ?_⟩; have n0_ := Aside0.mk (Kd.V_below (by (with_reducible repeat (first | apply Kd.V_alloc | apply Kd.V_drewN | apply Kd.V_drew)); exact HO0.out) hb); have n1_ := Aside0.mk (blk_below (g := gb230) (o := .cells #[.int .i64 0, .slice none 0 0, .int .i64 0, .int .i64 0] 33 (0, 0)) (by (with_reducible repeat (first | refine blk_drewN ?_ _ | refine blk_drew ?_ | refine blk_alloc ?_ _)); exact BK230.out) hb); have n2_ := Aside0.mk (below_step (by repeat (first | (with_reducible first | exact HB.out | apply below_alloc | apply pw_below_drewN | apply below_drew1 | refine below_set ?_ GE230.out) | exact HB.out)) hb); clear HO0; clear BK230; clear HB; have HO0 := n0_; have BK230 := n1_; have HB := n2_; clear n0_ n1_ n2_; (try clear hb); (try clear hb2); (try clear hk); (try clear hi)))
    go_loopg [6] k (fun kq v6 w' => ∃ (x6_1 : Int) (x231000_1 : Int) (x231002_1 : Int) (x231003_1 : Int), v6 = .int .i64 x6_1 ∧ Aside0 (ring_On.l0 kq l0 a1 x6_1 = some (r1, r2, r3, r4, r5)) ∧ Aside0 (kq ≤ k) ∧ Aside0 (Kd.V k33 33 w' w.heap.size (fun k_ => (P0_ k_ ∨ w.heap.size ≤ k_) ∧ k_ ≠ gb230) (.slice A0 l0.length c0) l0) ∧ Aside0 (w'.heap[gb230]? = some (.cells #[.int .i64 x231000_1, (.slice none 0 0), .int .i64 x231002_1, .int .i64 x231003_1] 33 (0, 0))) ∧ Aside0 (Below w.heap.size w w'))
    case atStart => exact ⟨(wrap64 ((l0.length : Int) - 1)), (0), (0), (0), (by first | rfl | (simp; done) | (simp [*]; done)), H', ⟨Nat.le_refl _⟩, ⟨by (with_reducible repeat (first | apply Kd.V_alloc | apply Kd.V_drewN | apply Kd.V_drew)); exact HO0.out⟩, ⟨by (with_reducible repeat (first | refine blk_drewN ?_ _ | refine blk_drew ?_ | refine blk_alloc ?_ _)); exact BK230.out⟩, ⟨by repeat (first | (with_reducible first | exact HB.out | apply below_alloc | apply pw_below_drewN | apply below_drew1 | refine below_set ?_ GE230.out) | exact HB.out)⟩⟩
    case round =>
      clear H'
      try clear c2
      try clear p2
      try clear c4
      try clear p6
      obtain ⟨x6_1, x231000_1, x231002_1, x231003_1, rfl, HA, HK1, HO_0, BK230, HB⟩ := hrel
      cases gk with
      | zero => exact absurd HA.out (by simp [ring_On.l0])
      | succ k1 =>
        have H := HA.out
        clear HA
        simp only [ring_On.l0] at H
        by_cases c7 : x6_1 ≥ 0
        · rw [if_pos c7] at H
          have c7b0 : decide (0 ≤ x6_1) = true := decide_eq_true c7
          clear c7
          by_cases c8 : 0 ≤ x6_1
          · rw [if_pos c8] at H
            have c8b0 : decide (0 ≤ x6_1) = true := decide_eq_true c8
            clear c8
            by_cases c9 : x6_1 < (l0.length : Int)
            · rw [if_pos c9] at H
              have c9b0 : decide (x6_1 < (l0.length : Int)) = true := decide_eq_true c9
              clear c9
              by_cases c10 : ((rd_T33 l0 x6_1).f2) ≤ a1
              · rw [if_pos c10] at H
                have c10b0 : decide (((rd_T33 l0 x6_1).f2) ≤ a1) = true := decide_eq_true c10
                clear c10
                by_cases c11 : a1 ≤ ((rd_T33 l0 x6_1).f3)
                · rw [if_pos c11] at H
                  have c11b0 : decide (a1 ≤ ((rd_T33 l0 x6_1).f3)) = true := decide_eq_true c11
                  clear c11
                  simp only [Option.some.injEq, Prod.mk.injEq] at H
                  obtain ⟨rfl, rfl, rfl, rfl, rfl⟩ := H
                  have p232 : 0 ≤ (x6_1 : Int) := of_decide_eq_true (by first | (with_reducible assumption) | assumption)
                  have q232 : x6_1 < (l0.length : Int) := of_decide_eq_true (by first | (with_reducible assumption) | assumption)
                  obtain ⟨ad232, A232_1, c232_1, e232, hx232_0, hx232_1, hx232_2, hx232_3, hl232_1, hi232_1⟩ := at_T33 (Kd.V_reads' HO_0.out).2.2 x6_1 p232 q232
                  cases e232
                  obtain ⟨ce232, hce232, hMe232, hcc232⟩ := Kd.V_get HO_0.out z33 x6_1 p232 (by first | exact q232 | exact of_decide_eq_true (by first | (with_reducible assumption) | assumption) | (have e_ := (Kd.V_reads' HO_0.out).1; omega))
                  obtain ⟨ua232_1, uc232_1, rfl, ul232_1, ge232_1⟩ := k33_openF hMe232
                  have hv232_1 := hcc232 1 _ rfl
                  rw [add_field _ _ 1 (by omega)] at hv232_1
                  replace hv232_1 := Option.some.inj (hv232_1.symm.trans hx232_1)
                  injection hv232_1 with hva_ hvn_ hvc_
                  rw [hva_] at ge232_1
                  rw [hvc_] at ul232_1
                  have HL232_1 := Aside0.mk (show Kd.V (Kd.int .u8) 5 _ w.heap.size _ _ ((rd_T33 l0 x6_1).f1) from Kd.V_mk ul232_1 ge232_1)
                  clear hva_ hvn_ hvc_ ge232_1 ul232_1
                  clear hcc232 hce232
                  have HR232_1 := Aside0.mk hi232_1
                  have HC232_1 := Aside0.mk hl232_1
                  clear hi232_1 hl232_1
                  replace p232 := eq_true p232
                  replace q232 := eq_true q232
                  have p233 : 0 ≤ (x6_1 : Int) := of_decide_eq_true (by first | (with_reducible assumption) | assumption)
                  have q233 : x6_1 < (l0.length : Int) := of_decide_eq_true (by first | (with_reducible assumption) | assumption)
                  obtain ⟨ad233, A233_1, c233_1, e233, hx233_0, hx233_1, hx233_2, hx233_3, hl233_1, hi233_1⟩ := at_T33 (Kd.V_reads' HO_0.out).2.2 x6_1 p233 q233
                  obtain rfl : ad232 = ad233 := (by injection e233)
                  obtain ⟨ce233, hce233, hMe233, hcc233⟩ := Kd.V_get HO_0.out z33 x6_1 p233 (by first | exact q233 | exact of_decide_eq_true (by first | (with_reducible assumption) | assumption) | (have e_ := (Kd.V_reads' HO_0.out).1; omega))
                  obtain ⟨ua233_1, uc233_1, rfl, ul233_1, ge233_1⟩ := k33_openF hMe233
                  have hv233_1 := hcc233 1 _ rfl
                  rw [add_field _ _ 1 (by omega)] at hv233_1
                  replace hv233_1 := Option.some.inj (hv233_1.symm.trans hx233_1)
                  injection hv233_1 with hva_ hvn_ hvc_
                  rw [hva_] at ge233_1
                  rw [hvc_] at ul233_1
                  have HL233_1 := Aside0.mk (show Kd.V (Kd.int .u8) 5 _ w.heap.size _ _ ((rd_T33 l0 x6_1).f1) from Kd.V_mk ul233_1 ge233_1)
                  clear hva_ hvn_ hvc_ ge233_1 ul233_1
                  clear hcc233 hce233
                  have HR233_1 := Aside0.mk hi233_1
                  have HC233_1 := Aside0.mk hl233_1
                  clear hi233_1 hl233_1
                  replace p233 := eq_true p233
                  replace q233 := eq_true q233
                  have ea_ := Option.some.inj (hx232_1.symm.trans hx233_1)
                  injection ea_ with ea_ en_ ec_
                  subst ea_
                  subst ec_
                  clear en_
                  have p234 : 0 ≤ (x6_1 : Int) := of_decide_eq_true (by first | (with_reducible assumption) | assumption)
                  have q234 : x6_1 < (l0.length : Int) := of_decide_eq_true (by first | (with_reducible assumption) | assumption)
                  obtain ⟨ad234, A234_1, c234_1, e234, hx234_0, hx234_1, hx234_2, hx234_3, hl234_1, hi234_1⟩ := at_T33 (Kd.V_reads' HO_0.out).2.2 x6_1 p234 q234
                  obtain rfl : ad232 = ad234 := (by injection e234)
                  obtain ⟨ce234, hce234, hMe234, hcc234⟩ := Kd.V_get HO_0.out z33 x6_1 p234 (by first | exact q234 | exact of_decide_eq_true (by first | (with_reducible assumption) | assumption) | (have e_ := (Kd.V_reads' HO_0.out).1; omega))
                  obtain ⟨ua234_1, uc234_1, rfl, ul234_1, ge234_1⟩ := k33_openF hMe234
                  have hv234_1 := hcc234 1 _ rfl
                  rw [add_field _ _ 1 (by omega)] at hv234_1
                  replace hv234_1 := Option.some.inj (hv234_1.symm.trans hx234_1)
                  injection hv234_1 with hva_ hvn_ hvc_
                  rw [hva_] at ge234_1
                  rw [hvc_] at ul234_1
                  have HL234_1 := Aside0.mk (show Kd.V (Kd.int .u8) 5 _ w.heap.size _ _ ((rd_T33 l0 x6_1).f1) from Kd.V_mk ul234_1 ge234_1)
                  clear hva_ hvn_ hvc_ ge234_1 ul234_1
                  clear hcc234 hce234
                  have HR234_1 := Aside0.mk hi234_1
                  have HC234_1 := Aside0.mk hl234_1
                  clear hi234_1 hl234_1
                  replace p234 := eq_true p234
                  replace q234 := eq_true q234
                  have ea_ := Option.some.inj (hx232_1.symm.trans hx234_1)
                  injection ea_ with ea_ en_ ec_
                  subst ea_
                  subst ec_
                  clear en_
                  have hcz12_0 : wr.cell? ⟨gb230, 0, none⟩ = some (.int .i64 x231000_1) := (blk_cell BK230.out 0).trans rfl
                  have hcz12_1 : wr.cell? ⟨gb230, 1, none⟩ = some (.slice none 0 0) := (blk_cell BK230.out 1).trans rfl
                  have hcz12_2 : wr.cell? ⟨gb230, 2, none⟩ = some (.int .i64 x231002_1) := (blk_cell BK230.out 2).trans rfl
                  have hcz12_3 : wr.cell? ⟨gb230, 3, none⟩ = some (.int .i64 x231003_1) := (blk_cell BK230.out 3).trans rfl
                  have hfz12_0 := blk_frozen BK230.out 0
                  have hfz12_1 := blk_frozen BK230.out 1
                  have hfz12_2 := blk_frozen BK230.out 2
                  have hfz12_3 := blk_frozen BK230.out 3
                  go_wp2
                  refine bodyPost_ret (results_ct rfl _ _ gb230 33 #[.int .i64 ((rd_T33 l0 x6_1).f0), .slice A232_1 ((rd_T33 l0 x6_1).f1).length c232_1, .int .i64 ((rd_T33 l0 x6_1).f2), .int .i64 ((rd_T33 l0 x6_1).f3)] (0, 0) _ rfl (by (with_reducible repeat (first | refine blk_drewN ?_ _ | refine blk_drew ?_ | refine blk_alloc ?_ _)); refine blk_put (cs := #[.int .i64 ((rd_T33 l0 x6_1).f0), .slice A232_1 ((rd_T33 l0 x6_1).f1).length c232_1, .int .i64 ((rd_T33 l0 x6_1).f2), .int .i64 x231003_1]) ?_ 3 _ rfl; (with_reducible repeat (first | refine blk_drewN ?_ _ | refine blk_drew ?_ | refine blk_alloc ?_ _)); refine blk_put (cs := #[.int .i64 ((rd_T33 l0 x6_1).f0), .slice A232_1 ((rd_T33 l0 x6_1).f1).length c232_1, .int .i64 x231002_1, .int .i64 x231003_1]) ?_ 2 _ rfl; (with_reducible repeat (first | refine blk_drewN ?_ _ | refine blk_drew ?_ | refine blk_alloc ?_ _)); refine blk_put (cs := #[.int .i64 ((rd_T33 l0 x6_1).f0), .slice none 0 0, .int .i64 x231002_1, .int .i64 x231003_1]) ?_ 1 _ rfl; (with_reducible repeat (first | refine blk_drewN ?_ _ | refine blk_drew ?_ | refine blk_alloc ?_ _)); refine blk_put (cs := #[.int .i64 x231000_1, .slice none 0 0, .int .i64 x231002_1, .int .i64 x231003_1]) ?_ 0 _ rfl; (with_reducible repeat (first | refine blk_drewN ?_ _ | refine blk_drew ?_ | refine blk_alloc ?_ _)); exact BK230.out) Try.underlying33 rfl (by kernel_rfl)) rfl ?_
                  exact ⟨_, by first | rfl | (simp [errW_none, errW_some] <;> rfl) | (simp [*, errW_none, errW_some] <;> rfl), by (with_reducible repeat (first | apply Kd.V_alloc | apply Kd.V_drewN | apply Kd.V_drew)); exact Kd.V_mono (Kd.V_far (p := ⟨gb230, 3, none⟩) (Kd.V_far (p := ⟨gb230, 2, none⟩) (Kd.V_far (p := ⟨gb230, 1, none⟩) (Kd.V_far (p := ⟨gb230, 0, none⟩) (Kd.V_mono HL234_1.out (fun k_ hk => (⟨hk, hk.2⟩ : _ ∧ k_ ≠ gb230))) (fun _ hk => hk.2) (.int .i64 ((rd_T33 l0 x6_1).f0))) (fun _ hk => hk.2) (.slice A232_1 ((rd_T33 l0 x6_1).f1).length c232_1)) (fun _ hk => hk.2) (.int .i64 ((rd_T33 l0 x6_1).f2))) (fun _ hk => hk.2) (.int .i64 ((rd_T33 l0 x6_1).f3))) (fun _ hk => hk.1.1), by repeat (first | (with_reducible first | exact HB.out | apply below_alloc | apply pw_below_drewN | apply below_drew1 | refine below_set ?_ GE230.out) | exact HB.out)⟩
                · rw [if_neg c11] at H
                  have c11b0 : decide (a1 ≤ ((rd_T33 l0 x6_1).f3)) = false := decide_eq_false c11
                  clear c11
                  have H' := Aside0.mk H
                  clear H
                  have p232 : 0 ≤ (x6_1 : Int) := of_decide_eq_true (by first | (with_reducible assumption) | assumption)
                  have q232 : x6_1 < (l0.length : Int) := of_decide_eq_true (by first | (with_reducible assumption) | assumption)
                  obtain ⟨ad232, A232_1, c232_1, e232, hx232_0, hx232_1, hx232_2, hx232_3, hl232_1, hi232_1⟩ := at_T33 (Kd.V_reads' HO_0.out).2.2 x6_1 p232 q232
                  cases e232
                  obtain ⟨ce232, hce232, hMe232, hcc232⟩ := Kd.V_get HO_0.out z33 x6_1 p232 (by first | exact q232 | exact of_decide_eq_true (by first | (with_reducible assumption) | assumption) | (have e_ := (Kd.V_reads' HO_0.out).1; omega))
                  obtain ⟨ua232_1, uc232_1, rfl, ul232_1, ge232_1⟩ := k33_openF hMe232
                  have hv232_1 := hcc232 1 _ rfl
                  rw [add_field _ _ 1 (by omega)] at hv232_1
                  replace hv232_1 := Option.some.inj (hv232_1.symm.trans hx232_1)
                  injection hv232_1 with hva_ hvn_ hvc_
                  rw [hva_] at ge232_1
                  rw [hvc_] at ul232_1
                  have HL232_1 := Aside0.mk (show Kd.V (Kd.int .u8) 5 _ w.heap.size _ _ ((rd_T33 l0 x6_1).f1) from Kd.V_mk ul232_1 ge232_1)
                  clear hva_ hvn_ hvc_ ge232_1 ul232_1
                  clear hcc232 hce232
                  have HR232_1 := Aside0.mk hi232_1
                  have HC232_1 := Aside0.mk hl232_1
                  clear hi232_1 hl232_1
                  replace p232 := eq_true p232
                  replace q232 := eq_true q232
                  have p233 : 0 ≤ (x6_1 : Int) := of_decide_eq_true (by first | (with_reducible assumption) | assumption)
                  have q233 : x6_1 < (l0.length : Int) := of_decide_eq_true (by first | (with_reducible assumption) | assumption)
                  obtain ⟨ad233, A233_1, c233_1, e233, hx233_0, hx233_1, hx233_2, hx233_3, hl233_1, hi233_1⟩ := at_T33 (Kd.V_reads' HO_0.out).2.2 x6_1 p233 q233
                  obtain rfl : ad232 = ad233 := (by injection e233)
                  obtain ⟨ce233, hce233, hMe233, hcc233⟩ := Kd.V_get HO_0.out z33 x6_1 p233 (by first | exact q233 | exact of_decide_eq_true (by first | (with_reducible assumption) | assumption) | (have e_ := (Kd.V_reads' HO_0.out).1; omega))
                  obtain ⟨ua233_1, uc233_1, rfl, ul233_1, ge233_1⟩ := k33_openF hMe233
                  have hv233_1 := hcc233 1 _ rfl
                  rw [add_field _ _ 1 (by omega)] at hv233_1
                  replace hv233_1 := Option.some.inj (hv233_1.symm.trans hx233_1)
                  injection hv233_1 with hva_ hvn_ hvc_
                  rw [hva_] at ge233_1
                  rw [hvc_] at ul233_1
                  have HL233_1 := Aside0.mk (show Kd.V (Kd.int .u8) 5 _ w.heap.size _ _ ((rd_T33 l0 x6_1).f1) from Kd.V_mk ul233_1 ge233_1)
                  clear hva_ hvn_ hvc_ ge233_1 ul233_1
                  clear hcc233 hce233
                  have HR233_1 := Aside0.mk hi233_1
                  have HC233_1 := Aside0.mk hl233_1
                  clear hi233_1 hl233_1
                  replace p233 := eq_true p233
                  replace q233 := eq_true q233
                  have ea_ := Option.some.inj (hx232_1.symm.trans hx233_1)
                  injection ea_ with ea_ en_ ec_
                  subst ea_
                  subst ec_
                  clear en_
                  go_wp2
                  go_roundg k1
                  case measure => have := HK1.out; omega
                  case rel => exact ⟨(wrap64 (x6_1 - 1)), (x231000_1), (x231002_1), (x231003_1), (by first | rfl | (simp; done) | (simp [*]; done)), H', ⟨by have := HK1.out; omega⟩, ⟨by (with_reducible repeat (first | apply Kd.V_alloc | apply Kd.V_drewN | apply Kd.V_drew)); exact HO_0.out⟩, ⟨by (with_reducible repeat (first | refine blk_drewN ?_ _ | refine blk_drew ?_ | refine blk_alloc ?_ _)); exact BK230.out⟩, ⟨by repeat (first | (with_reducible first | exact HB.out | apply below_alloc | apply pw_below_drewN | apply below_drew1 | refine below_set ?_ GE230.out) | exact HB.out)⟩⟩
              · rw [if_neg c10] at H
                have c10b0 : decide (((rd_T33 l0 x6_1).f2) ≤ a1) = false := decide_eq_false c10
                clear c10
                have H' := Aside0.mk H
                clear H
                have p232 : 0 ≤ (x6_1 : Int) := of_decide_eq_true (by first | (with_reducible assumption) | assumption)
                have q232 : x6_1 < (l0.length : Int) := of_decide_eq_true (by first | (with_reducible assumption) | assumption)
                obtain ⟨ad232, A232_1, c232_1, e232, hx232_0, hx232_1, hx232_2, hx232_3, hl232_1, hi232_1⟩ := at_T33 (Kd.V_reads' HO_0.out).2.2 x6_1 p232 q232
                cases e232
                obtain ⟨ce232, hce232, hMe232, hcc232⟩ := Kd.V_get HO_0.out z33 x6_1 p232 (by first | exact q232 | exact of_decide_eq_true (by first | (with_reducible assumption) | assumption) | (have e_ := (Kd.V_reads' HO_0.out).1; omega))
                obtain ⟨ua232_1, uc232_1, rfl, ul232_1, ge232_1⟩ := k33_openF hMe232
                have hv232_1 := hcc232 1 _ rfl
                rw [add_field _ _ 1 (by omega)] at hv232_1
                replace hv232_1 := Option.some.inj (hv232_1.symm.trans hx232_1)
                injection hv232_1 with hva_ hvn_ hvc_
                rw [hva_] at ge232_1
                rw [hvc_] at ul232_1
                have HL232_1 := Aside0.mk (show Kd.V (Kd.int .u8) 5 _ w.heap.size _ _ ((rd_T33 l0 x6_1).f1) from Kd.V_mk ul232_1 ge232_1)
                clear hva_ hvn_ hvc_ ge232_1 ul232_1
                clear hcc232 hce232
                have HR232_1 := Aside0.mk hi232_1
                have HC232_1 := Aside0.mk hl232_1
                clear hi232_1 hl232_1
                replace p232 := eq_true p232
                replace q232 := eq_true q232
                go_wp2
                go_roundg k1
                case measure => have := HK1.out; omega
                case rel => exact ⟨(wrap64 (x6_1 - 1)), (x231000_1), (x231002_1), (x231003_1), (by first | rfl | (simp; done) | (simp [*]; done)), H', ⟨by have := HK1.out; omega⟩, ⟨by (with_reducible repeat (first | apply Kd.V_alloc | apply Kd.V_drewN | apply Kd.V_drew)); exact HO_0.out⟩, ⟨by (with_reducible repeat (first | refine blk_drewN ?_ _ | refine blk_drew ?_ | refine blk_alloc ?_ _)); exact BK230.out⟩, ⟨by repeat (first | (with_reducible first | exact HB.out | apply below_alloc | apply pw_below_drewN | apply below_drew1 | refine below_set ?_ GE230.out) | exact HB.out)⟩⟩
            · rw [if_neg c9] at H
              exact absurd H (by simp)
          · rw [if_neg c8] at H
            exact absurd H (by simp)
        · rw [if_neg c7] at H
          have c7b0 : decide (0 ≤ x6_1) = false := decide_eq_false c7
          clear c7
          simp only [Option.some.injEq, Prod.mk.injEq] at H
          obtain ⟨rfl, rfl, rfl, rfl, rfl⟩ := H
          have hcz13_0 : wr.cell? ⟨gb230, 0, none⟩ = some (.int .i64 x231000_1) := (blk_cell BK230.out 0).trans rfl
          have hcz13_1 : wr.cell? ⟨gb230, 1, none⟩ = some (.slice none 0 0) := (blk_cell BK230.out 1).trans rfl
          have hcz13_2 : wr.cell? ⟨gb230, 2, none⟩ = some (.int .i64 x231002_1) := (blk_cell BK230.out 2).trans rfl
          have hcz13_3 : wr.cell? ⟨gb230, 3, none⟩ = some (.int .i64 x231003_1) := (blk_cell BK230.out 3).trans rfl
          have hfz13_0 := blk_frozen BK230.out 0
          have hfz13_1 := blk_frozen BK230.out 1
          have hfz13_2 := blk_frozen BK230.out 2
          have hfz13_3 := blk_frozen BK230.out 3
          go_wp2
          refine bodyPost_ret (results_ct rfl _ _ gb230 33 #[.int .i64 0, .slice none 0 0, .int .i64 0, .int .i64 0] (0, 0) _ rfl (by (with_reducible repeat (first | refine blk_drewN ?_ _ | refine blk_drew ?_ | refine blk_alloc ?_ _)); refine blk_put (cs := #[.int .i64 0, .slice none 0 0, .int .i64 0, .int .i64 x231003_1]) ?_ 3 _ rfl; (with_reducible repeat (first | refine blk_drewN ?_ _ | refine blk_drew ?_ | refine blk_alloc ?_ _)); refine blk_put (cs := #[.int .i64 0, .slice none 0 0, .int .i64 x231002_1, .int .i64 x231003_1]) ?_ 2 _ rfl; (with_reducible repeat (first | refine blk_drewN ?_ _ | refine blk_drew ?_ | refine blk_alloc ?_ _)); refine blk_put (cs := #[.int .i64 0, .slice none 0 0, .int .i64 x231002_1, .int .i64 x231003_1]) ?_ 1 _ rfl; (with_reducible repeat (first | refine blk_drewN ?_ _ | refine blk_drew ?_ | refine blk_alloc ?_ _)); refine blk_put (cs := #[.int .i64 x231000_1, .slice none 0 0, .int .i64 x231002_1, .int .i64 x231003_1]) ?_ 0 _ rfl; (with_reducible repeat (first | refine blk_drewN ?_ _ | refine blk_drew ?_ | refine blk_alloc ?_ _)); exact BK230.out) Try.underlying33 rfl (by kernel_rfl)) rfl ?_
          exact ⟨_, by first | rfl | (simp [errW_none, errW_some] <;> rfl) | (simp [*, errW_none, errW_some] <;> rfl), (by exact Kd.V_nil _ _ _ _ _), by repeat (first | (with_reducible first | exact HB.out | apply below_alloc | apply pw_below_drewN | apply below_drew1 | refine below_set ?_ GE230.out) | exact HB.out)⟩
  · replace c4 := Bool.eq_false_iff.mpr c4
    subst c4
    have H1 : (some (0, ([] : List Int), 0, 0, 1)) = some (r1, r2, r3, r4, r5) := by rw [if_neg (show ¬ (false = true) by decide)] at H; exact H
    clear H
    have H := H1
    clear H1
    simp only [Option.some.injEq, Prod.mk.injEq] at H
    obtain ⟨rfl, rfl, rfl, rfl, rfl⟩ := H
    go_enter Try.func22, Try.ntmps22
    go_wp2_with (first | ((with_reducible refine gate_dst (N := 4) rfl ?_); refine box_event ?hg (N := 4) ?hd (cs := #[.int .i64 0, .slice none 0 0, .int .i64 0, .int .i64 0]) (t := 33) ?hr ?_; (case hd => rfl); (case hg => rfl); (case hr => first | (go_simp; done) | (go_simp; rfl)); intro gb230 hg w14 hbox hb; have n0_ := Aside0.mk (Kd.V_below (Kd.V_elderB (by (with_reducible repeat (first | apply Kd.V_alloc | apply Kd.V_drewN | apply Kd.V_drew)); exact HO0.out) gb230 (Nat.le_of_eq hg.symm)) hb); have n1_ := Aside0.mk (below_step (by repeat (first | (with_reducible first | exact HB.out | apply below_alloc | apply pw_below_drewN | apply below_drew1) | exact HB.out)) hb); have n2_ := Aside0.mk (hbox); have n3_ := Aside0.mk ((by rw [hg]; exact (below_size (by repeat (first | (with_reducible first | exact HB.out | apply below_alloc | apply pw_below_drewN | apply below_drew1) | exact HB.out))) : w.heap.size ≤ gb230)); have n4_ := Aside0.mk ((by rw [hg]; exact (below_size (by repeat (first | (with_reducible first | exact HB.out | apply below_alloc | apply pw_below_drewN | apply below_drew1) | exact HB.out))) : w.heap.size ≤ gb230)); clear HO0; clear HB; have HO0 := n0_; have HB := n1_; have BK230 := n2_; have GW230 := n3_; have GE230 := n4_; clear n0_ n1_ n2_ n3_ n4_; clear hb hbox hg) | ((with_reducible refine gate_callee (f := 26) rfl ?_); refine goesL_ (some 8) rfl rfl Try.func26 (by kernel_rfl) rfl #[.slice A0 l0.length c0] rfl (by (try simp only [List.map_toArray, List.map_cons, List.map_nil]); first | done | rfl | (simp only [List.length_drop, List.length_take]; rfl)) ?_; (with_reducible refine (ring_Is.calls _ _ l0 false _ ?side1 ?side2 A3.out).mono ?_); (case side1 => repeat (first | exact (Kd.V_reads' HO0.out).2.2 | (with_reducible refine Kd.C_alloc ?_ _) | (with_reducible refine Kd.C_drewN ?_ _) | (with_reducible refine Kd.C_drew ?_))); (case side2 => exact (Kd.V_reads' HO0.out).2.1); rintro e w15 ⟨rfl, hb⟩; refine ⟨_, rfl, ?_⟩; have n0_ := Aside0.mk (Kd.V_below (by (with_reducible repeat (first | apply Kd.V_alloc | apply Kd.V_drewN | apply Kd.V_drew)); exact HO0.out) hb); have n1_ := Aside0.mk (blk_below (g := gb230) (o := .cells #[.int .i64 0, .slice none 0 0, .int .i64 0, .int .i64 0] 33 (0, 0)) (by (with_reducible repeat (first | refine blk_drewN ?_ _ | refine blk_drew ?_ | refine blk_alloc ?_ _)); exact BK230.out) hb); have n2_ := Aside0.mk (below_step (by repeat (first | (with_reducible first | exact HB.out | apply below_alloc | apply pw_below_drewN | apply below_drew1 | refine below_set ?_ GE230.out) | exact HB.out)) hb); clear HO0; clear BK230; clear HB; have HO0 := n0_; have BK230 := n1_; have HB := n2_; clear n0_ n1_ n2_; (try clear hb); (try clear hb2); (try clear hk); (try clear hi); have hcz16_0 : w15.cell? ⟨gb230, 0, none⟩ = some (.int .i64 0) := (blk_cell BK230.out 0).trans rfl; have hcz16_1 : w15.cell? ⟨gb230, 1, none⟩ = some (.slice none 0 0) := (blk_cell BK230.out 1).trans rfl; have hcz16_2 : w15.cell? ⟨gb230, 2, none⟩ = some (.int .i64 0) := (blk_cell BK230.out 2).trans rfl; have hcz16_3 : w15.cell? ⟨gb230, 3, none⟩ = some (.int .i64 0) := (blk_cell BK230.out 3).trans rfl; have hfz16_0 := blk_frozen BK230.out 0; have hfz16_1 := blk_frozen BK230.out 1; have hfz16_2 := blk_frozen BK230.out 2; have hfz16_3 := blk_frozen BK230.out 3))
    refine bodyPost_ret (results_ct rfl _ _ gb230 33 #[.int .i64 0, .slice none 0 0, .int .i64 0, .int .i64 0] (0, 0) _ rfl (by (with_reducible repeat (first | refine blk_drewN ?_ _ | refine blk_drew ?_ | refine blk_alloc ?_ _)); refine blk_put (cs := #[.int .i64 0, .slice none 0 0, .int .i64 0, .int .i64 0]) ?_ 3 _ rfl; (with_reducible repeat (first | refine blk_drewN ?_ _ | refine blk_drew ?_ | refine blk_alloc ?_ _)); refine blk_put (cs := #[.int .i64 0, .slice none 0 0, .int .i64 0, .int .i64 0]) ?_ 2 _ rfl; (with_reducible repeat (first | refine blk_drewN ?_ _ | refine blk_drew ?_ | refine blk_alloc ?_ _)); refine blk_put (cs := #[.int .i64 0, .slice none 0 0, .int .i64 0, .int .i64 0]) ?_ 1 _ rfl; (with_reducible repeat (first | refine blk_drewN ?_ _ | refine blk_drew ?_ | refine blk_alloc ?_ _)); refine blk_put (cs := #[.int .i64 0, .slice none 0 0, .int .i64 0, .int .i64 0]) ?_ 0 _ rfl; (with_reducible repeat (first | refine blk_drewN ?_ _ | refine blk_drew ?_ | refine blk_alloc ?_ _)); exact BK230.out) Try.underlying33 rfl (by kernel_rfl)) rfl ?_
    exact ⟨_, by first | rfl | (simp [errW_none, errW_some] <;> rfl) | (simp [*, errW_none, errW_some] <;> rfl), (by exact Kd.V_nil _ _ _ _ _), by repeat (first | (with_reducible first | exact HB.out | apply below_alloc | apply pw_below_drewN | apply below_drew1 | refine below_set ?_ GE230.out) | exact HB.out)⟩

end Go.Proofs.Ytijpiaiklojafaa.S
