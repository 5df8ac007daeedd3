/- Written for this claim by a program of this session (handprint.py, over the kit's print). Lean checks it. -/
import Derived.Test.YtijpiaiklojafaaS0
import Derived.Test.YtijpiaiklojafaaSF27
namespace Go.Proofs.Ytijpiaiklojafaa.S
open Go.RowKit Go.Proofs.YtijpiaiklojafaaW.PrintWords Go.Proofs.YtijpiaiklojafaaW.PrintLast Go.Proofs.YtijpiaiklojafaaW.PrintMore
attribute [local go_sem] max2_int min2_int max_two min_two max_three min_three max_four min_four   -- for this text's walks alone
set_option linter.unusedVariables false
set_option linter.unusedSimpArgs false

/-! ### gatelineref05_On: function 23 -/
def gatelineref05_On.l0 : Nat → List (S33) → Int → Int → Option (Int × List Int × Int × Int × Int)
  | 0, _, _, _ => none
  | k + 1, x0, x1, x6 => if x6 ≥ 0 then (if 0 ≤ x6 then (if x6 < (x0.length : Int) then (if ((rd_T33 x0 x6).f2) ≤ x1 then (if x1 ≤ ((rd_T33 x0 x6).f3) then (some ((rd_T33 x0 x6).f0, (rd_T33 x0 x6).f1, (rd_T33 x0 x6).f2, (rd_T33 x0 x6).f3, 0)) else (gatelineref05_On.l0 k x0 x1 (wrap64 (x6 - 1)))) else (gatelineref05_On.l0 k x0 x1 (wrap64 (x6 - 1)))) else (none)) else (none)) else (some (0, ([] : List Int), 0, 0, 20))
def gatelineref05_On.f (k : Nat) (l0 : List (S33)) (a1 : Int) : Option (Int × List Int × Int × Int × Int) := (gatelineref05_Is.f k l0).bind fun t236 => (if t236 = true then (gatelineref05_On.l0 k l0 a1 (wrap64 ((l0.length : Int) - 1))) else (some (0, ([] : List Int), 0, 0, 1)))
theorem gatelineref05_On.mono_l : ∀ k, (∀ y0 y1 y2, LeO (gatelineref05_On.l0 k y0 y1 y2) (gatelineref05_On.l0 (k + 1) y0 y1 y2))
  | 0 => fun _ _ _ r h => by simp [gatelineref05_On.l0] at h
  | k + 1 => by
    have ih0 := gatelineref05_On.mono_l k
    · intro y0 y1 y2
      unfold gatelineref05_On.l0
      repeat' first
      | (with_reducible exact ih0 _ _ _)
      | (with_reducible exact gatelineref05_Is.mono _ _)
      | (with_reducible exact LeO.refl _)
      | (with_reducible exact LeO.none _)
      | (with_reducible refine LeO.ite ?_ ?_)
      | (with_reducible refine LeO.bind ?_ (fun _ => ?_))
      | exact ih0 _ _ _
      | exact gatelineref05_Is.mono _ _
      | exact LeO.none _
      | refine LeO.ite ?_ ?_
      | refine LeO.bind ?_ (fun _ => ?_)
theorem gatelineref05_On.mono : ∀ a0 a1 k, LeO (gatelineref05_On.f k a0 a1) (gatelineref05_On.f (k + 1) a0 a1) := by
  intro a0 a1 k
  have ih0 := gatelineref05_On.mono_l k
  unfold gatelineref05_On.f
  repeat' first
      | (with_reducible exact ih0 _ _ _)
      | (with_reducible exact gatelineref05_Is.mono _ _)
      | (with_reducible exact LeO.refl _)
      | (with_reducible exact LeO.none _)
      | (with_reducible refine LeO.ite ?_ ?_)
      | (with_reducible refine LeO.bind ?_ (fun _ => ?_))
      | exact ih0 _ _ _
      | exact gatelineref05_Is.mono _ _
      | exact LeO.none _
      | refine LeO.ite ?_ ?_
      | refine LeO.bind ?_ (fun _ => ?_)
set_option maxHeartbeats 8000000 in
set_option maxRecDepth 100000 in
theorem gatelineref05_On.calls (k : Nat) (P0_ : Nat → Prop) (A0 : Option Addr) (c0 : Nat) (l0 : List (S33)) (a1 : Int) (r1 : Int) (r2 : List Int) (r3 : Int) (r4 : Int) (r5 : Int) (w : World) (hs0 : Kd.V k33 33 w w.heap.size (fun k_ => P0_ k_) (.slice A0 l0.length c0) l0) (h : gatelineref05_On.f k l0 a1 = some (r1, r2, r3, r4, r5)) :
    Calls Try.prog 23 #[.slice A0 l0.length c0, .int .i64 a1] w fun e w' => ∃ v1_ : Value, e = .returned (.tuple #[.agg #[.int .i64 r1, v1_, .int .i64 r3, .int .i64 r4], .int .i64 r5]) ∧ Kd.V (Kd.int .u8) 5 w' w.heap.size (fun k_ => (P0_ k_ ∨ w.heap.size ≤ k_)) v1_ r2 ∧ Below w.heap.size w w' := by
  have hu33 := Try.underlying33
  have HO0 := Aside0.mk (show Kd.V k33 33 w w.heap.size (fun k_ => (P0_ k_ ∨ w.heap.size ≤ k_)) (.slice A0 l0.length c0) l0 from Kd.V_mono hs0 (fun k_ hk => .inl hk))
  have HB := Aside0.mk (Below.refl w.heap.size w)
  have H : ((gatelineref05_Is.f k l0).bind fun t236 => (if t236 = true then (gatelineref05_On.l0 k l0 a1 (wrap64 ((l0.length : Int) - 1))) else (some (0, ([] : List Int), 0, 0, 1)))) = some (r1, r2, r3, r4, r5) := h
  clear h
  replace H := Option.bind_eq_some_iff.mp H
  obtain ⟨t236, A30, H⟩ := H
  replace H : (if t236 = true then (gatelineref05_On.l0 k l0 a1 (wrap64 ((l0.length : Int) - 1))) else (some (0, ([] : List Int), 0, 0, 1))) = some (r1, r2, r3, r4, r5) := H
  have A3 := Aside0.mk A30
  clear A30
  by_cases c4 : t236 = true
  · subst c4
    have H1 : (gatelineref05_On.l0 k l0 a1 (wrap64 ((l0.length : Int) - 1))) = some (r1, r2, r3, r4, r5) := by rw [if_pos rfl] at H; exact H
    clear H
    have H := H1
    clear H1
    have H' := Aside0.mk H
    clear H
    go_enter Try.func23, Try.ntmps23
    go_wp2_with (first | ((with_reducible refine gate_dst (N := 4) rfl ?_); refine box_event ?hg (N := 4) ?hd (cs := #[.int .i64 0, .slice none 0 0, .int .i64 0, .int .i64 0]) (t := 33) ?hr ?_; (case hd => rfl); (case hg => rfl); (case hr => first | (go_simp; done) | (go_simp; rfl)); intro gb235 hg w5 hbox hb; have n0_ := Aside0.mk (Kd.V_below (Kd.V_elderB (by (with_reducible repeat (first | apply Kd.V_alloc | apply Kd.V_drewN | apply Kd.V_drew)); exact HO0.out) gb235 (Nat.le_of_eq hg.symm)) hb); have n1_ := Aside0.mk (below_step (by repeat (first | (with_reducible first | exact HB.out | apply below_alloc | apply pw_below_drewN | apply below_drew1) | exact HB.out)) hb); have n2_ := Aside0.mk (hbox); have n3_ := Aside0.mk ((by rw [hg]; exact (below_size (by repeat (first | (with_reducible first | exact HB.out | apply below_alloc | apply pw_below_drewN | apply below_drew1) | exact HB.out))) : w.heap.size ≤ gb235)); have n4_ := Aside0.mk ((by rw [hg]; exact (below_size (by repeat (first | (with_reducible first | exact HB.out | apply below_alloc | apply pw_below_drewN | apply below_drew1) | exact HB.out))) : w.heap.size ≤ gb235)); clear HO0; clear HB; have HO0 := n0_; have HB := n1_; have BK235 := n2_; have GW235 := n3_; have GE235 := n4_; clear n0_ n1_ n2_ n3_ n4_; clear hb hbox hg) | ((with_reducible refine gate_callee (f := 27) rfl ?_); refine goesL_ (some 8) rfl rfl Try.func27 (by kernel_rfl) rfl #[.slice A0 l0.length c0] rfl (by (try simp only [List.map_toArray, List.map_cons, List.map_nil]); first | done | rfl | (simp only [List.length_drop, List.length_take]; rfl)) ?_; (with_reducible refine (gatelineref05_Is.calls k _ _ l0 true _ ?side1 ?side2 A3.out).mono ?_); (case side1 => repeat (first | exact (Kd.V_reads' HO0.out).2.2 | (with_reducible refine Kd.C_alloc ?_ _) | (with_reducible refine Kd.C_drewN ?_ _) | (with_reducible refine Kd.C_drew ?_))); (case side2 => exact (Kd.V_reads' HO0.out).2.1); rintro e w6 ⟨rfl, hb⟩; refine ⟨_, rfl, ?_⟩; have n0_ := Aside0.mk (Kd.V_below (by (with_reducible repeat (first | apply Kd.V_alloc | apply Kd.V_drewN | apply Kd.V_drew)); exact HO0.out) hb); have n1_ := Aside0.mk (blk_below (g := gb235) (o := .cells #[.int .i64 0, .slice none 0 0, .int .i64 0, .int .i64 0] 33 (0, 0)) (by (with_reducible repeat (first | refine blk_drewN ?_ _ | refine blk_drew ?_ | refine blk_alloc ?_ _)); exact BK235.out) hb); have n2_ := Aside0.mk (below_step (by repeat (first | (with_reducible first | exact HB.out | apply below_alloc | apply pw_below_drewN | apply below_drew1 | refine below_set ?_ GE235.out) | exact HB.out)) hb); clear HO0; clear BK235; clear HB; have HO0 := n0_; have BK235 := n1_; have HB := n2_; clear n0_ n1_ n2_; (try clear hb); (try clear hb2); (try clear hk); (try clear hi)))
    go_loopg [6] k (fun kq v6 w' => ∃ (x6_1 : Int) (x236000_1 : Int) (x236002_1 : Int) (x236003_1 : Int), v6 = .int .i64 x6_1 ∧ Aside0 (gatelineref05_On.l0 kq l0 a1 x6_1 = some (r1, r2, r3, r4, r5)) ∧ Aside0 (kq ≤ k) ∧ Aside0 (Kd.V k33 33 w' w.heap.size (fun k_ => (P0_ k_ ∨ w.heap.size ≤ k_) ∧ k_ ≠ gb235) (.slice A0 l0.length c0) l0) ∧ Aside0 (w'.heap[gb235]? = some (.cells #[.int .i64 x236000_1, (.slice none 0 0), .int .i64 x236002_1, .int .i64 x236003_1] 33 (0, 0))) ∧ Aside0 (Below w.heap.size w w'))
    case atStart => exact ⟨(wrap64 ((l0.length : Int) - 1)), (0), (0), (0), (by first | rfl | (simp; done) | (simp [*]; done)), H', ⟨Nat.le_refl _⟩, ⟨by (with_reducible repeat (first | apply Kd.V_alloc | apply Kd.V_drewN | apply Kd.V_drew)); exact HO0.out⟩, ⟨by (with_reducible repeat (first | refine blk_drewN ?_ _ | refine blk_drew ?_ | refine blk_alloc ?_ _)); exact BK235.out⟩, ⟨by repeat (first | (with_reducible first | exact HB.out | apply below_alloc | apply pw_below_drewN | apply below_drew1 | refine below_set ?_ GE235.out) | exact HB.out)⟩⟩
    case round =>
      clear H'
      try clear c2
      try clear p2
      try clear c4
      try clear p6
      obtain ⟨x6_1, x236000_1, x236002_1, x236003_1, rfl, HA, HK1, HO_0, BK235, HB⟩ := hrel
      cases gk with
      | zero => exact absurd HA.out (by simp [gatelineref05_On.l0])
      | succ k1 =>
        have H := HA.out
        clear HA
        simp only [gatelineref05_On.l0] at H
        by_cases c7 : x6_1 ≥ 0
        · rw [if_pos c7] at H
          have c7b0 : decide (0 ≤ x6_1) = true := decide_eq_true c7
          clear c7
          by_cases c8 : 0 ≤ x6_1
          · rw [if_pos c8] at H
            have c8b0 : decide (0 ≤ x6_1) = true := decide_eq_true c8
            clear c8
            by_cases c9 : x6_1 < (l0.length : Int)
            · rw [if_pos c9] at H
              have c9b0 : decide (x6_1 < (l0.length : Int)) = true := decide_eq_true c9
              clear c9
              by_cases c10 : ((rd_T33 l0 x6_1).f2) ≤ a1
              · rw [if_pos c10] at H
                have c10b0 : decide (((rd_T33 l0 x6_1).f2) ≤ a1) = true := decide_eq_true c10
                clear c10
                by_cases c11 : a1 ≤ ((rd_T33 l0 x6_1).f3)
                · rw [if_pos c11] at H
                  have c11b0 : decide (a1 ≤ ((rd_T33 l0 x6_1).f3)) = true := decide_eq_true c11
                  clear c11
                  simp only [Option.some.injEq, Prod.mk.injEq] at H
                  obtain ⟨rfl, rfl, rfl, rfl, rfl⟩ := H
                  have p237 : 0 ≤ (x6_1 : Int) := of_decide_eq_true (by first | (with_reducible assumption) | assumption)
                  have q237 : x6_1 < (l0.length : Int) := of_decide_eq_true (by first | (with_reducible assumption) | assumption)
                  obtain ⟨ad237, A237_1, c237_1, e237, hx237_0, hx237_1, hx237_2, hx237_3, hl237_1, hi237_1⟩ := at_T33 (Kd.V_reads' HO_0.out).2.2 x6_1 p237 q237
                  cases e237
                  obtain ⟨ce237, hce237, hMe237, hcc237⟩ := Kd.V_get HO_0.out z33 x6_1 p237 (by first | exact q237 | exact of_decide_eq_true (by first | (with_reducible assumption) | assumption) | (have e_ := (Kd.V_reads' HO_0.out).1; omega))
                  obtain ⟨ua237_1, uc237_1, rfl, ul237_1, ge237_1⟩ := k33_openF hMe237
                  have hv237_1 := hcc237 1 _ rfl
                  rw [add_field _ _ 1 (by omega)] at hv237_1
                  replace hv237_1 := Option.some.inj (hv237_1.symm.trans hx237_1)
                  injection hv237_1 with hva_ hvn_ hvc_
                  rw [hva_] at ge237_1
                  rw [hvc_] at ul237_1
                  have HL237_1 := Aside0.mk (show Kd.V (Kd.int .u8) 5 _ w.heap.size _ _ ((rd_T33 l0 x6_1).f1) from Kd.V_mk ul237_1 ge237_1)
                  clear hva_ hvn_ hvc_ ge237_1 ul237_1
                  clear hcc237 hce237
                  have HR237_1 := Aside0.mk hi237_1
                  have HC237_1 := Aside0.mk hl237_1
                  clear hi237_1 hl237_1
                  replace p237 := eq_true p237
                  replace q237 := eq_true q237
                  have p238 : 0 ≤ (x6_1 : Int) := of_decide_eq_true (by first | (with_reducible assumption) | assumption)
                  have q238 : x6_1 < (l0.length : Int) := of_decide_eq_true (by first | (with_reducible assumption) | assumption)
                  obtain ⟨ad238, A238_1, c238_1, e238, hx238_0, hx238_1, hx238_2, hx238_3, hl238_1, hi238_1⟩ := at_T33 (Kd.V_reads' HO_0.out).2.2 x6_1 p238 q238
                  obtain rfl : ad237 = ad238 := (by injection e238)
                  obtain ⟨ce238, hce238, hMe238, hcc238⟩ := Kd.V_get HO_0.out z33 x6_1 p238 (by first | exact q238 | exact of_decide_eq_true (by first | (with_reducible assumption) | assumption) | (have e_ := (Kd.V_reads' HO_0.out).1; omega))
                  obtain ⟨ua238_1, uc238_1, rfl, ul238_1, ge238_1⟩ := k33_openF hMe238
                  have hv238_1 := hcc238 1 _ rfl
                  rw [add_field _ _ 1 (by omega)] at hv238_1
                  replace hv238_1 := Option.some.inj (hv238_1.symm.trans hx238_1)
                  injection hv238_1 with hva_ hvn_ hvc_
                  rw [hva_] at ge238_1
                  rw [hvc_] at ul238_1
                  have HL238_1 := Aside0.mk (show Kd.V (Kd.int .u8) 5 _ w.heap.size _ _ ((rd_T33 l0 x6_1).f1) from Kd.V_mk ul238_1 ge238_1)
                  clear hva_ hvn_ hvc_ ge238_1 ul238_1
                  clear hcc238 hce238
                  have HR238_1 := Aside0.mk hi238_1
                  have HC238_1 := Aside0.mk hl238_1
                  clear hi238_1 hl238_1
                  replace p238 := eq_true p238
                  replace q238 := eq_true q238
                  have ea_ := Option.some.inj (hx237_1.symm.trans hx238_1)
                  injection ea_ with ea_ en_ ec_
                  subst ea_
                  subst ec_
                  clear en_
                  have p239 : 0 ≤ (x6_1 : Int) := of_decide_eq_true (by first | (with_reducible assumption) | assumption)
                  have q239 : x6_1 < (l0.length : Int) := of_decide_eq_true (by first | (with_reducible assumption) | assumption)
                  obtain ⟨ad239, A239_1, c239_1, e239, hx239_0, hx239_1, hx239_2, hx239_3, hl239_1, hi239_1⟩ := at_T33 (Kd.V_reads' HO_0.out).2.2 x6_1 p239 q239
                  obtain rfl : ad237 = ad239 := (by injection e239)
                  obtain ⟨ce239, hce239, hMe239, hcc239⟩ := Kd.V_get HO_0.out z33 x6_1 p239 (by first | exact q239 | exact of_decide_eq_true (by first | (with_reducible assumption) | assumption) | (have e_ := (Kd.V_reads' HO_0.out).1; omega))
                  obtain ⟨ua239_1, uc239_1, rfl, ul239_1, ge239_1⟩ := k33_openF hMe239
                  have hv239_1 := hcc239 1 _ rfl
                  rw [add_field _ _ 1 (by omega)] at hv239_1
                  replace hv239_1 := Option.some.inj (hv239_1.symm.trans hx239_1)
                  injection hv239_1 with hva_ hvn_ hvc_
                  rw [hva_] at ge239_1
                  rw [hvc_] at ul239_1
                  have HL239_1 := Aside0.mk (show Kd.V (Kd.int .u8) 5 _ w.heap.size _ _ ((rd_T33 l0 x6_1).f1) from Kd.V_mk ul239_1 ge239_1)
                  clear hva_ hvn_ hvc_ ge239_1 ul239_1
                  clear hcc239 hce239
                  have HR239_1 := Aside0.mk hi239_1
                  have HC239_1 := Aside0.mk hl239_1
                  clear hi239_1 hl239_1
                  replace p239 := eq_true p239
                  replace q239 := eq_true q239
                  have ea_ := Option.some.inj (hx237_1.symm.trans hx239_1)
                  injection ea_ with ea_ en_ ec_
                  subst ea_
                  subst ec_
                  clear en_
                  have hcz12_0 : wr.cell? ⟨gb235, 0, none⟩ = some (.int .i64 x236000_1) := (blk_cell BK235.out 0).trans rfl
                  have hcz12_1 : wr.cell? ⟨gb235, 1, none⟩ = some (.slice none 0 0) := (blk_cell BK235.out 1).trans rfl
                  have hcz12_2 : wr.cell? ⟨gb235, 2, none⟩ = some (.int .i64 x236002_1) := (blk_cell BK235.out 2).trans rfl
                  have hcz12_3 : wr.cell? ⟨gb235, 3, none⟩ = some (.int .i64 x236003_1) := (blk_cell BK235.out 3).trans rfl
                  have hfz12_0 := blk_frozen BK235.out 0
                  have hfz12_1 := blk_frozen BK235.out 1
                  have hfz12_2 := blk_frozen BK235.out 2
                  have hfz12_3 := blk_frozen BK235.out 3
                  go_wp2
                  refine bodyPost_ret (results_ct rfl _ _ gb235 33 #[.int .i64 ((rd_T33 l0 x6_1).f0), .slice A237_1 ((rd_T33 l0 x6_1).f1).length c237_1, .int .i64 ((rd_T33 l0 x6_1).f2), .int .i64 ((rd_T33 l0 x6_1).f3)] (0, 0) _ rfl (by (with_reducible repeat (first | refine blk_drewN ?_ _ | refine blk_drew ?_ | refine blk_alloc ?_ _)); refine blk_put (cs := #[.int .i64 ((rd_T33 l0 x6_1).f0), .slice A237_1 ((rd_T33 l0 x6_1).f1).length c237_1, .int .i64 ((rd_T33 l0 x6_1).f2), .int .i64 x236003_1]) ?_ 3 _ rfl; (with_reducible repeat (first | refine blk_drewN ?_ _ | refine blk_drew ?_ | refine blk_alloc ?_ _)); refine blk_put (cs := #[.int .i64 ((rd_T33 l0 x6_1).f0), .slice A237_1 ((rd_T33 l0 x6_1).f1).length c237_1, .int .i64 x236002_1, .int .i64 x236003_1]) ?_ 2 _ rfl; (with_reducible repeat (first | refine blk_drewN ?_ _ | refine blk_drew ?_ | refine blk_alloc ?_ _)); refine blk_put (cs := #[.int .i64 ((rd_T33 l0 x6_1).f0), .slice none 0 0, .int .i64 x236002_1, .int .i64 x236003_1]) ?_ 1 _ rfl; (with_reducible repeat (first | refine blk_drewN ?_ _ | refine blk_drew ?_ | refine blk_alloc ?_ _)); refine blk_put (cs := #[.int .i64 x236000_1, .slice none 0 0, .int .i64 x236002_1, .int .i64 x236003_1]) ?_ 0 _ rfl; (with_reducible repeat (first | refine blk_drewN ?_ _ | refine blk_drew ?_ | refine blk_alloc ?_ _)); exact BK235.out) Try.underlying33 rfl (by kernel_rfl)) rfl ?_
                  exact ⟨_, by first | rfl | (simp [errW_none, errW_some] <;> rfl) | (simp [*, errW_none, errW_some] <;> rfl), by (with_reducible repeat (first | apply Kd.V_alloc | apply Kd.V_drewN | apply Kd.V_drew)); exact Kd.V_mono (Kd.V_far (p := ⟨gb235, 3, none⟩) (Kd.V_far (p := ⟨gb235, 2, none⟩) (Kd.V_far (p := ⟨gb235, 1, none⟩) (Kd.V_far (p := ⟨gb235, 0, none⟩) (Kd.V_mono HL239_1.out (fun k_ hk => (⟨hk, hk.2⟩ : _ ∧ k_ ≠ gb235))) (fun _ hk => hk.2) (.int .i64 ((rd_T33 l0 x6_1).f0))) (fun _ hk => hk.2) (.slice A237_1 ((rd_T33 l0 x6_1).f1).length c237_1)) (fun _ hk => hk.2) (.int .i64 ((rd_T33 l0 x6_1).f2))) (fun _ hk => hk.2) (.int .i64 ((rd_T33 l0 x6_1).f3))) (fun _ hk => hk.1.1), by repeat (first | (with_reducible first | exact HB.out | apply below_alloc | apply pw_below_drewN | apply below_drew1 | refine below_set ?_ GE235.out) | exact HB.out)⟩
                · rw [if_neg c11] at H
                  have c11b0 : decide (a1 ≤ ((rd_T33 l0 x6_1).f3)) = false := decide_eq_false c11
                  clear c11
                  have H' := Aside0.mk H
                  clear H
                  have p237 : 0 ≤ (x6_1 : Int) := of_decide_eq_true (by first | (with_reducible assumption) | assumption)
                  have q237 : x6_1 < (l0.length : Int) := of_decide_eq_true (by first | (with_reducible assumption) | assumption)
                  obtain ⟨ad237, A237_1, c237_1, e237, hx237_0, hx237_1, hx237_2, hx237_3, hl237_1, hi237_1⟩ := at_T33 (Kd.V_reads' HO_0.out).2.2 x6_1 p237 q237
                  cases e237
                  obtain ⟨ce237, hce237, hMe237, hcc237⟩ := Kd.V_get HO_0.out z33 x6_1 p237 (by first | exact q237 | exact of_decide_eq_true (by first | (with_reducible assumption) | assumption) | (have e_ := (Kd.V_reads' HO_0.out).1; omega))
                  obtain ⟨ua237_1, uc237_1, rfl, ul237_1, ge237_1⟩ := k33_openF hMe237
                  have hv237_1 := hcc237 1 _ rfl
                  rw [add_field _ _ 1 (by omega)] at hv237_1
                  replace hv237_1 := Option.some.inj (hv237_1.symm.trans hx237_1)
                  injection hv237_1 with hva_ hvn_ hvc_
                  rw [hva_] at ge237_1
                  rw [hvc_] at ul237_1
                  have HL237_1 := Aside0.mk (show Kd.V (Kd.int .u8) 5 _ w.heap.size _ _ ((rd_T33 l0 x6_1).f1) from Kd.V_mk ul237_1 ge237_1)
                  clear hva_ hvn_ hvc_ ge237_1 ul237_1
                  clear hcc237 hce237
                  have HR237_1 := Aside0.mk hi237_1
                  have HC237_1 := Aside0.mk hl237_1
                  clear hi237_1 hl237_1
                  replace p237 := eq_true p237
                  replace q237 := eq_true q237
                  have p238 : 0 ≤ (x6_1 : Int) := of_decide_eq_true (by first | (with_reducible assumption) | assumption)
                  have q238 : x6_1 < (l0.length : Int) := of_decide_eq_true (by first | (with_reducible assumption) | assumption)
                  obtain ⟨ad238, A238_1, c238_1, e238, hx238_0, hx238_1, hx238_2, hx238_3, hl238_1, hi238_1⟩ := at_T33 (Kd.V_reads' HO_0.out).2.2 x6_1 p238 q238
                  obtain rfl : ad237 = ad238 := (by injection e238)
                  obtain ⟨ce238, hce238, hMe238, hcc238⟩ := Kd.V_get HO_0.out z33 x6_1 p238 (by first | exact q238 | exact of_decide_eq_true (by first | (with_reducible assumption) | assumption) | (have e_ := (Kd.V_reads' HO_0.out).1; omega))
                  obtain ⟨ua238_1, uc238_1, rfl, ul238_1, ge238_1⟩ := k33_openF hMe238
                  have hv238_1 := hcc238 1 _ rfl
                  rw [add_field _ _ 1 (by omega)] at hv238_1
                  replace hv238_1 := Option.some.inj (hv238_1.symm.trans hx238_1)
                  injection hv238_1 with hva_ hvn_ hvc_
                  rw [hva_] at ge238_1
                  rw [hvc_] at ul238_1
                  have HL238_1 := Aside0.mk (show Kd.V (Kd.int .u8) 5 _ w.heap.size _ _ ((rd_T33 l0 x6_1).f1) from Kd.V_mk ul238_1 ge238_1)
                  clear hva_ hvn_ hvc_ ge238_1 ul238_1
                  clear hcc238 hce238
                  have HR238_1 := Aside0.mk hi238_1
                  have HC238_1 := Aside0.mk hl238_1
                  clear hi238_1 hl238_1
                  replace p238 := eq_true p238
                  replace q238 := eq_true q238
                  have ea_ := Option.some.inj (hx237_1.symm.trans hx238_1)
                  injection ea_ with ea_ en_ ec_
                  subst ea_
                  subst ec_
                  clear en_
                  go_wp2
                  go_roundg k1
                  case measure => have := HK1.out; omega
                  case rel => exact ⟨(wrap64 (x6_1 - 1)), (x236000_1), (x236002_1), (x236003_1), (by first | rfl | (simp; done) | (simp [*]; done)), H', ⟨by have := HK1.out; omega⟩, ⟨by (with_reducible repeat (first | apply Kd.V_alloc | apply Kd.V_drewN | apply Kd.V_drew)); exact HO_0.out⟩, ⟨by (with_reducible repeat (first | refine blk_drewN ?_ _ | refine blk_drew ?_ | refine blk_alloc ?_ _)); exact BK235.out⟩, ⟨by repeat (first | (with_reducible first | exact HB.out | apply below_alloc | apply pw_below_drewN | apply below_drew1 | refine below_set ?_ GE235.out) | exact HB.out)⟩⟩
              · rw [if_neg c10] at H
                have c10b0 : decide (((rd_T33 l0 x6_1).f2) ≤ a1) = false := decide_eq_false c10
                clear c10
                have H' := Aside0.mk H
                clear H
                have p237 : 0 ≤ (x6_1 : Int) := of_decide_eq_true (by first | (with_reducible assumption) | assumption)
                have q237 : x6_1 < (l0.length : Int) := of_decide_eq_true (by first | (with_reducible assumption) | assumption)
                obtain ⟨ad237, A237_1, c237_1, e237, hx237_0, hx237_1, hx237_2, hx237_3, hl237_1, hi237_1⟩ := at_T33 (Kd.V_reads' HO_0.out).2.2 x6_1 p237 q237
                cases e237
                obtain ⟨ce237, hce237, hMe237, hcc237⟩ := Kd.V_get HO_0.out z33 x6_1 p237 (by first | exact q237 | exact of_decide_eq_true (by first | (with_reducible assumption) | assumption) | (have e_ := (Kd.V_reads' HO_0.out).1; omega))
                obtain ⟨ua237_1, uc237_1, rfl, ul237_1, ge237_1⟩ := k33_openF hMe237
                have hv237_1 := hcc237 1 _ rfl
                rw [add_field _ _ 1 (by omega)] at hv237_1
                replace hv237_1 := Option.some.inj (hv237_1.symm.trans hx237_1)
                injection hv237_1 with hva_ hvn_ hvc_
                rw [hva_] at ge237_1
                rw [hvc_] at ul237_1
                have HL237_1 := Aside0.mk (show Kd.V (Kd.int .u8) 5 _ w.heap.size _ _ ((rd_T33 l0 x6_1).f1) from Kd.V_mk ul237_1 ge237_1)
                clear hva_ hvn_ hvc_ ge237_1 ul237_1
                clear hcc237 hce237
                have HR237_1 := Aside0.mk hi237_1
                have HC237_1 := Aside0.mk hl237_1
                clear hi237_1 hl237_1
                replace p237 := eq_true p237
                replace q237 := eq_true q237
                go_wp2
                go_roundg k1
                case measure => have := HK1.out; omega
                case rel => exact ⟨(wrap64 (x6_1 - 1)), (x236000_1), (x236002_1), (x236003_1), (by first | rfl | (simp; done) | (simp [*]; done)), H', ⟨by have := HK1.out; omega⟩, ⟨by (with_reducible repeat (first | apply Kd.V_alloc | apply Kd.V_drewN | apply Kd.V_drew)); exact HO_0.out⟩, ⟨by (with_reducible repeat (first | refine blk_drewN ?_ _ | refine blk_drew ?_ | refine blk_alloc ?_ _)); exact BK235.out⟩, ⟨by repeat (first | (with_reducible first | exact HB.out | apply below_alloc | apply pw_below_drewN | apply below_drew1 | refine below_set ?_ GE235.out) | exact HB.out)⟩⟩
            · rw [if_neg c9] at H
              exact absurd H (by simp)
          · rw [if_neg c8] at H
            exact absurd H (by simp)
        · rw [if_neg c7] at H
          have c7b0 : decide (0 ≤ x6_1) = false := decide_eq_false c7
          clear c7
          simp only [Option.some.injEq, Prod.mk.injEq] at H
          obtain ⟨rfl, rfl, rfl, rfl, rfl⟩ := H
          have hcz13_0 : wr.cell? ⟨gb235, 0, none⟩ = some (.int .i64 x236000_1) := (blk_cell BK235.out 0).trans rfl
          have hcz13_1 : wr.cell? ⟨gb235, 1, none⟩ = some (.slice none 0 0) := (blk_cell BK235.out 1).trans rfl
          have hcz13_2 : wr.cell? ⟨gb235, 2, none⟩ = some (.int .i64 x236002_1) := (blk_cell BK235.out 2).trans rfl
          have hcz13_3 : wr.cell? ⟨gb235, 3, none⟩ = some (.int .i64 x236003_1) := (blk_cell BK235.out 3).trans rfl
          have hfz13_0 := blk_frozen BK235.out 0
          have hfz13_1 := blk_frozen BK235.out 1
          have hfz13_2 := blk_frozen BK235.out 2
          have hfz13_3 := blk_frozen BK235.out 3
          go_wp2
          refine bodyPost_ret (results_ct rfl _ _ gb235 33 #[.int .i64 0, .slice none 0 0, .int .i64 0, .int .i64 0] (0, 0) _ rfl (by (with_reducible repeat (first | refine blk_drewN ?_ _ | refine blk_drew ?_ | refine blk_alloc ?_ _)); refine blk_put (cs := #[.int .i64 0, .slice none 0 0, .int .i64 0, .int .i64 x236003_1]) ?_ 3 _ rfl; (with_reducible repeat (first | refine blk_drewN ?_ _ | refine blk_drew ?_ | refine blk_alloc ?_ _)); refine blk_put (cs := #[.int .i64 0, .slice none 0 0, .int .i64 x236002_1, .int .i64 x236003_1]) ?_ 2 _ rfl; (with_reducible repeat (first | refine blk_drewN ?_ _ | refine blk_drew ?_ | refine blk_alloc ?_ _)); refine blk_put (cs := #[.int .i64 0, .slice none 0 0, .int .i64 x236002_1, .int .i64 x236003_1]) ?_ 1 _ rfl; (with_reducible repeat (first | refine blk_drewN ?_ _ | refine blk_drew ?_ | refine blk_alloc ?_ _)); refine blk_put (cs := #[.int .i64 x236000_1, .slice none 0 0, .int .i64 x236002_1, .int .i64 x236003_1]) ?_ 0 _ rfl; (with_reducible repeat (first | refine blk_drewN ?_ _ | refine blk_drew ?_ | refine blk_alloc ?_ _)); exact BK235.out) Try.underlying33 rfl (by kernel_rfl)) rfl ?_
          exact ⟨_, by first | rfl | (simp [errW_none, errW_some] <;> rfl) | (simp [*, errW_none, errW_some] <;> rfl), (by exact Kd.V_nil _ _ _ _ _), by repeat (first | (with_reducible first | exact HB.out | apply below_alloc | apply pw_below_drewN | apply below_drew1 | refine below_set ?_ GE235.out) | exact HB.out)⟩
  · replace c4 := Bool.eq_false_iff.mpr c4
    subst c4
    have H1 : (some (0, ([] : List Int), 0, 0, 1)) = some (r1, r2, r3, r4, r5) := by rw [if_neg (show ¬ (false = true) by decide)] at H; exact H
    clear H
    have H := H1
    clear H1
    simp only [Option.some.injEq, Prod.mk.injEq] at H
    obtain ⟨rfl, rfl, rfl, rfl, rfl⟩ := H
    go_enter Try.func23, Try.ntmps23
    go_wp2_with (first | ((with_reducible refine gate_dst (N := 4) rfl ?_); refine box_event ?hg (N := 4) ?hd (cs := #[.int .i64 0, .slice none 0 0, .int .i64 0, .int .i64 0]) (t := 33) ?hr ?_; (case hd => rfl); (case hg => rfl); (case hr => first | (go_simp; done) | (go_simp; rfl)); intro gb235 hg w14 hbox hb; have n0_ := Aside0.mk (Kd.V_below (Kd.V_elderB (by (with_reducible repeat (first | apply Kd.V_alloc | apply Kd.V_drewN | apply Kd.V_drew)); exact HO0.out) gb235 (Nat.le_of_eq hg.symm)) hb); have n1_ := Aside0.mk (below_step (by repeat (first | (with_reducible first | exact HB.out | apply below_alloc | apply pw_below_drewN | apply below_drew1) | exact HB.out)) hb); have n2_ := Aside0.mk (hbox); have n3_ := Aside0.mk ((by rw [hg]; exact (below_size (by repeat (first | (with_reducible first | exact HB.out | apply below_alloc | apply pw_below_drewN | apply below_drew1) | exact HB.out))) : w.heap.size ≤ gb235)); have n4_ := Aside0.mk ((by rw [hg]; exact (below_size (by repeat (first | (with_reducible first | exact HB.out | apply below_alloc | apply pw_below_drewN | apply below_drew1) | exact HB.out))) : w.heap.size ≤ gb235)); clear HO0; clear HB; have HO0 := n0_; have HB := n1_; have BK235 := n2_; have GW235 := n3_; have GE235 := n4_; clear n0_ n1_ n2_ n3_ n4_; clear hb hbox hg) | ((with_reducible refine gate_callee (f := 27) rfl ?_); refine goesL_ (some 8) rfl rfl Try.func27 (by kernel_rfl) rfl #[.slice A0 l0.length c0] rfl (by (try simp only [List.map_toArray, List.map_cons, List.map_nil]); first | done | rfl | (simp only [List.length_drop, List.length_take]; rfl)) ?_; (with_reducible refine (gatelineref05_Is.calls k _ _ l0 false _ ?side1 ?side2 A3.out).mono ?_); (case side1 => repeat (first | exact (Kd.V_reads' HO0.out).2.2 | (with_reducible refine Kd.C_alloc ?_ _) | (with_reducible refine Kd.C_drewN ?_ _) | (with_reducible refine Kd.C_drew ?_))); (case side2 => exact (Kd.V_reads' HO0.out).2.1); rintro e w15 ⟨rfl, hb⟩; refine ⟨_, rfl, ?_⟩; have n0_ := Aside0.mk (Kd.V_below (by (with_reducible repeat (first | apply Kd.V_alloc | apply Kd.V_drewN | apply Kd.V_drew)); exact HO0.out) hb); have n1_ := Aside0.mk (blk_below (g := gb235) (o := .cells #[.int .i64 0, .slice none 0 0, .int .i64 0, .int .i64 0] 33 (0, 0)) (by (with_reducible repeat (first | refine blk_drewN ?_ _ | refine blk_drew ?_ | refine blk_alloc ?_ _)); exact BK235.out) hb); have n2_ := Aside0.mk (below_step (by repeat (first | (with_reducible first | exact HB.out | apply below_alloc | apply pw_below_drewN | apply below_drew1 | refine below_set ?_ GE235.out) | exact HB.out)) hb); clear HO0; clear BK235; clear HB; have HO0 := n0_; have BK235 := n1_; have HB := n2_; clear n0_ n1_ n2_; (try clear hb); (try clear hb2); (try clear hk); (try clear hi); have hcz16_0 : w15.cell? ⟨gb235, 0, none⟩ = some (.int .i64 0) := (blk_cell BK235.out 0).trans rfl; have hcz16_1 : w15.cell? ⟨gb235, 1, none⟩ = some (.slice none 0 0) := (blk_cell BK235.out 1).trans rfl; have hcz16_2 : w15.cell? ⟨gb235, 2, none⟩ = some (.int .i64 0) := (blk_cell BK235.out 2).trans rfl; have hcz16_3 : w15.cell? ⟨gb235, 3, none⟩ = some (.int .i64 0) := (blk_cell BK235.out 3).trans rfl; have hfz16_0 := blk_frozen BK235.out 0; have hfz16_1 := blk_frozen BK235.out 1; have hfz16_2 := blk_frozen BK235.out 2; have hfz16_3 := blk_frozen BK235.out 3))
    refine bodyPost_ret (results_ct rfl _ _ gb235 33 #[.int .i64 0, .slice none 0 0, .int .i64 0, .int .i64 0] (0, 0) _ rfl (by (with_reducible repeat (first | refine blk_drewN ?_ _ | refine blk_drew ?_ | refine blk_alloc ?_ _)); refine blk_put (cs := #[.int .i64 0, .slice none 0 0, .int .i64 0, .int .i64 0]) ?_ 3 _ rfl; (with_reducible repeat (first | refine blk_drewN ?_ _ | refine blk_drew ?_ | refine blk_alloc ?_ _)); refine blk_put (cs := #[.int .i64 0, .slice none 0 0, .int .i64 0, .int .i64 0]) ?_ 2 _ rfl; (with_reducible repeat (first | refine blk_drewN ?_ _ | refine blk_drew ?_ | refine blk_alloc ?_ _)); refine blk_put (cs := #[.int .i64 0, .slice none 0 0, .int .i64 0, .int .i64 0]) ?_ 1 _ rfl; (with_reducible repeat (first | refine blk_drewN ?_ _ | refine blk_drew ?_ | refine blk_alloc ?_ _)); refine blk_put (cs := #[.int .i64 0, .slice none 0 0, .int .i64 0, .int .i64 0]) ?_ 0 _ rfl; (with_reducible repeat (first | refine blk_drewN ?_ _ | refine blk_drew ?_ | refine blk_alloc ?_ _)); exact BK235.out) Try.underlying33 rfl (by kernel_rfl)) rfl ?_
    exact ⟨_, by first | rfl | (simp [errW_none, errW_some] <;> rfl) | (simp [*, errW_none, errW_some] <;> rfl), (by exact Kd.V_nil _ _ _ _ _), by repeat (first | (with_reducible first | exact HB.out | apply below_alloc | apply pw_below_drewN | apply below_drew1 | refine below_set ?_ GE235.out) | exact HB.out)⟩

end Go.Proofs.Ytijpiaiklojafaa.S
