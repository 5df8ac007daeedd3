/-
  FortyJoins, the plain part.
-/
import Derived.Test.YtijpiaiklojafaaSF6
import Derived.Test.YtijpiaiklojafaaPureF0
namespace Go.Proofs.Ytijpiaiklojafaa.Pure
open Go.RowKit Go.Proofs.Ytijpiaiklojafaa.S Go.Proofs.YtijpiaiklojafaaW.PrintWords Go.Proofs.YtijpiaiklojafaaW.PrintLast

theorem fjoins_no (a b : List Int) : Ev (fun k => gatelinelaw16_FortyJoins.j0 k a b true) true :=
  Ev.step (f := fun _ => some true) (fun k => by show gatelinelaw16_FortyJoins.j0 (k + 1) _ _ _ = _; rw [gatelinelaw16_FortyJoins.j0, if_pos rfl]; rfl) (Ev.now _)
theorem FortyJoins : gatelinelaw16_FortyJoins.Pure := by
  intro a b _ _ hw _ _ hw'
  have ha := allB_of_wf hw
  have hb := allB_of_wf hw'
  refine Ev.rounds (r := true) ?_
  unfold gatelinelaw16_FortyJoins.f
  by_cases h : (a.length : Int) > 1000
  · exact Ev.pos h (fjoins_no a b)
  · refine Ev.neg h ?_
    by_cases h' : (b.length : Int) > 1000
    · exact Ev.pos h' (fjoins_no a b)
    · refine Ev.neg h' ?_
      by_cases h2 : a.length % 2 = 1
      · rw [show (((a.length : Int) % 2) == 1) = true by rw [beq_iff_eq]; omega]
        exact fjoins_no a b
      · rw [show (((a.length : Int) % 2) == 1) = false by rw [beq_eq_false_iff_ne]; omega]
        have e1 : forty_Put.f a = some (putL a) := putf ha (by omega)
        have e2 : forty_Put.f b = some (putL b) := putf hb (by omega)
        have e3 : forty_Put.f (a ++ b) = some (putL a ++ putL b) := by
          rw [← putL_append a b (by omega)]
          exact putf (fun x hx => (List.mem_append.1 hx).elim (ha x) (hb x)) (by simp; omega)
        have l1 := putL_len a
        have l2 := putL_len b
        refine Ev.step (f := fun k => (gatelineref01_Same.f k (putL a ++ putL b) (putL a ++ putL b)).bind fun t => some t) (fun k => ?_) (Ev.bind (same_ev _ _ (by simp; omega)) ⟨0, fun k _ => by simp⟩)
        show gatelinelaw16_FortyJoins.j0 (k + 1) a b false = _
        rw [gatelinelaw16_FortyJoins.j0, if_neg (by simp)]
        simp only [Option.bind_some, List.nil_append, List.length_nil, e1, e2]
        rw [if_pos (by omega)]
        simp only [e3, Option.bind_some]
        rw [if_pos (by omega), if_pos (by omega), if_pos (by omega)]
        rfl
end Go.Proofs.Ytijpiaiklojafaa.Pure
