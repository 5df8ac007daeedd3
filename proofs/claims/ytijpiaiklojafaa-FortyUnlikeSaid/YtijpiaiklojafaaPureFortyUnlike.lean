/-
  FortyUnlike, the plain part.
-/
import Derived.Test.YtijpiaiklojafaaSF7
import Derived.Test.YtijpiaiklojafaaPureF0
namespace Go.Proofs.Ytijpiaiklojafaa.Pure
open Go.RowKit Go.Proofs.Ytijpiaiklojafaa.S Go.Proofs.YtijpiaiklojafaaW.PrintWords Go.Proofs.YtijpiaiklojafaaW.PrintLast

theorem funlike_no (a b : List Int) : Ev (fun k => gatelinelaw16_FortyUnlike.j0 k a b true) true :=
  Ev.step (f := fun _ => some true) (fun k => by show gatelinelaw16_FortyUnlike.j0 (k + 1) _ _ _ = _; rw [gatelinelaw16_FortyUnlike.j0, if_pos rfl]) (Ev.now _)
theorem FortyUnlike : gatelinelaw16_FortyUnlike.Pure := by
  intro a b _ _ hw _ _ hw'
  have ha := allB_of_wf hw
  have hb := allB_of_wf hw'
  refine Ev.rounds (r := true) ?_
  unfold gatelinelaw16_FortyUnlike.f
  by_cases h : (a.length : Int) > 2000
  · exact Ev.pos h (funlike_no a b)
  · refine Ev.neg h ?_
    by_cases h' : (b.length : Int) > 2000
    · rw [decide_eq_true h']; exact funlike_no a b
    · rw [decide_eq_false h']
      have e1 : forty_Put.f a = some (putL a) := putf ha (by omega)
      have e2 : forty_Put.f b = some (putL b) := putf hb (by omega)
      have l1 := putL_len a
      have e3 : decide (putL a = putL b) = decide (a = b) := by
        by_cases e : a = b
        · rw [e]; simp
        · rw [decide_eq_false e, decide_eq_false (fun h => e (putL_inj ha hb h))]
      refine Ev.step (f := fun k => (gatelineref01_Same.f k (putL a) (putL b)).bind fun t269 => (gatelineref01_Same.f k a b).bind fun t270 => some (t269 == t270)) (fun k => ?_) (Ev.bind (same_ev _ _ (by omega)) (Ev.bind (same_ev _ _ (by omega)) ⟨0, fun k _ => by rw [e3]; simp⟩))
      show gatelinelaw16_FortyUnlike.j0 (k + 1) a b false = _
      rw [gatelinelaw16_FortyUnlike.j0, if_neg (by simp), e1, e2]
      rfl
end Go.Proofs.Ytijpiaiklojafaa.Pure
