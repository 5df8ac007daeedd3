/-
  FortyBack, the plain part.
-/
import Derived.Test.YtijpiaiklojafaaSF5
import Derived.Test.YtijpiaiklojafaaPureF0
namespace Go.Proofs.Ytijpiaiklojafaa.Pure
open Go.RowKit Go.Proofs.Ytijpiaiklojafaa.S Go.Proofs.YtijpiaiklojafaaW.PrintWords Go.Proofs.YtijpiaiklojafaaW.PrintLast

theorem fback_no (a b : List Int) : Ev (fun k => gatelinelaw16_FortyBack.j0 k a b true) true :=
  Ev.step (f := fun _ => some true) (fun k => by show gatelinelaw16_FortyBack.j0 (k + 1) _ _ _ = _; rw [gatelinelaw16_FortyBack.j0, if_pos rfl]) (Ev.now _)
theorem fback_j1 (s : List Int) (hs : AllB s) (hl : s.length ≤ 3000) : Ev (fun k => gatelinelaw16_FortyBack.j1 k s false) true := by
  by_cases h3 : s.length % 3 = 1
  · have e : forty_Get.f s = some ([], 14) := by unfold forty_Get.f; rw [if_pos h3]
    refine Ev.step (f := fun _ => some true) (fun k => ?_) (Ev.now _)
    show gatelinelaw16_FortyBack.j1 (k + 1) s false = _
    rw [gatelinelaw16_FortyBack.j1, if_neg (by simp), e]
    rfl
  · have e := getf hs (by omega) h3
    by_cases h0 : (getL s).2 = 0
    · obtain ⟨p1, p2, p3⟩ := put_get s h3 h0
      have e2 : forty_Put.f (getL s).1 = some s := by rw [putf p2 (by omega), p1]
      refine Ev.step (f := fun k => (gatelineref01_Same.f k s s).bind fun t => some t) (fun k => ?_) (Ev.bind (same_ev _ _ (by omega)) ⟨0, fun k _ => by simp⟩)
      show gatelinelaw16_FortyBack.j1 (k + 1) s false = _
      rw [gatelinelaw16_FortyBack.j1, if_neg (by simp), e]
      simp only [Option.bind_some, show gatelinelaw16_signed.f = some true from rfl, if_true, if_pos h0, e2]
    · have h1 := getL_err s h0
      refine Ev.step (f := fun _ => some true) (fun k => ?_) (Ev.now _)
      show gatelinelaw16_FortyBack.j1 (k + 1) s false = _
      have h2 : ((getL s).1.length : Int) = 0 := by rw [h1]; rfl
      rw [gatelinelaw16_FortyBack.j1, if_neg (by simp), e]
      simp only [Option.bind_some, show gatelinelaw16_signed.f = some true from rfl, if_true, if_neg h0, if_pos h2]
theorem FortyBack : gatelinelaw16_FortyBack.Pure := by
  intro b s _ _ hw _ _ hw'
  have hb := allB_of_wf hw
  have hs := allB_of_wf hw'
  refine Ev.rounds (r := true) ?_
  unfold gatelinelaw16_FortyBack.f
  by_cases h : (b.length : Int) > 2000
  · exact Ev.pos h (fback_no b s)
  · refine Ev.neg h ?_
    by_cases h' : (s.length : Int) > 3000
    · rw [decide_eq_true h']; exact fback_no b s
    · rw [decide_eq_false h']
      have l1 := putL_len b
      have e1 : forty_Put.f b = some (putL b) := putf hb (by omega)
      have e2 : forty_Get.f (putL b) = some (b, 0) := by rw [getf (putL_isB b) (by omega) (by omega), get_put b hb]
      have e3 : (((putL b).length : Int) != (wrap64 ((wrap64 ((wrap64 ((b.length : Int) / 2)) * 3)) + (((b.length : Int) % 2) * 2)))) = false := by
        rw [wrap_in (n := (b.length : Int) / 2) (by omega) (by omega), wrap_in (n := (b.length : Int) / 2 * 3) (by omega) (by omega), wrap_in (by omega) (by omega), bne_eq_false_iff_eq]
        omega
      refine Ev.step (f := fun k => (gatelineref01_Same.f k b b).bind fun t218 => if t218 = true then gatelinelaw16_FortyBack.j1 k s false else gatelinelaw16_FortyBack.j1 k s true) (fun k => ?_) (Ev.bind (same_ev _ _ (by omega)) (Ev.pos (by simp) (fback_j1 s hs (by omega))))
      show gatelinelaw16_FortyBack.j0 (k + 1) b s false = _
      rw [gatelinelaw16_FortyBack.j0, if_neg (by simp), e1, Option.bind_some, e2, Option.bind_some, if_pos rfl, e3]
end Go.Proofs.Ytijpiaiklojafaa.Pure
