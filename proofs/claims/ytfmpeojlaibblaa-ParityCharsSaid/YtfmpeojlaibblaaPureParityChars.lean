/-
  ParityChars, the plain part: a value is just the reference's character, a character just its value, or both are refused alike.
-/
import Derived.Test.YtfmpeojlaibblaaSF5
import Derived.Test.YtfmpeojlaibblaaPure1
namespace Go.Proofs.Ytfmpeojlaibblaa.Pure
open Go.RowKit Go.Proofs.Ytfmpeojlaibblaa.S Go.Proofs.YtfmpeojlaibblaaW.PrintWords Go.Proofs.YtfmpeojlaibblaaW.PrintLast

theorem ParityChars : gatelinelaw10_ParityChars.Pure := by
  intro v c _ _
  refine Ev.rounds (r := true) ?_
  obtain ⟨p, hp, hp'⟩ := char_both v
  obtain ⟨q, hq, hq'⟩ := value_both c
  unfold gatelinelaw10_ParityChars.f
  refine Ev.bind ⟨0, fun k _ => hp⟩ (Ev.bind hp' (Ev.bind ⟨0, fun k _ => hq⟩ (Ev.bind hq' (Ev.bind ⟨0, fun k _ => odd_ok⟩ ⟨0, fun k _ => ?_⟩))))
  simp
end Go.Proofs.Ytfmpeojlaibblaa.Pure
