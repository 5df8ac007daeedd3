/-
  FortyPuts, the plain part.
-/
import Derived.Test.YtijpiaiklojafaaSF3
import Derived.Test.YtijpiaiklojafaaPureF1
namespace Go.Proofs.Ytijpiaiklojafaa.Pure
open Go.RowKit Go.Proofs.Ytijpiaiklojafaa.S Go.Proofs.YtijpiaiklojafaaW.PrintWords Go.Proofs.YtijpiaiklojafaaW.PrintLast

theorem FortyPuts : gatelinelaw16_FortyPuts.Pure := by
  intro l _ _ hw
  have hb := allB_of_wf hw
  refine Ev.rounds (r := true) ?_
  unfold gatelinelaw16_FortyPuts.f
  by_cases h : (l.length : Int) > 2000
  · exact Ev.pos h (Ev.now _)
  · refine Ev.neg h ?_
    have e : forty_Put.f l = some (putL l) := putf hb (by omega)
    have hp := putL_len l
    have hs := same_ev (putL l) (putL l) (by omega)
    refine Ev.congr (f := fun k => (gatelineref16_Put.f k l).bind fun t126 => (gatelineref01_Same.f k (putL l) t126).bind fun t129 => some t129) (fun k => ?_) (Ev.bind (rput l hb (by omega)) (Ev.bind hs ⟨0, fun k _ => by simp⟩))
    rw [e]
    rfl
end Go.Proofs.Ytijpiaiklojafaa.Pure
