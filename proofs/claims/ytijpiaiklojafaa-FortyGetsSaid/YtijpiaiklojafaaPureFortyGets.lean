/-
  FortyGets, the plain part.
-/
import Derived.Test.YtijpiaiklojafaaSF4
import Derived.Test.YtijpiaiklojafaaPureF1
namespace Go.Proofs.Ytijpiaiklojafaa.Pure
open Go.RowKit Go.Proofs.Ytijpiaiklojafaa.S Go.Proofs.YtijpiaiklojafaaW.PrintWords Go.Proofs.YtijpiaiklojafaaW.PrintLast

theorem getL_len : ∀ s : List Int, (getL s).1.length ≤ s.length
  | [] => Nat.le_refl _
  | [_] => Nat.zero_le _
  | [x, y] => by
    unfold getL
    split
    · simp
    · split <;> simp
  | x :: y :: z :: r => by
    have ih := getL_len r
    rw [getL]
    split
    · simp
    · split
      · simp
      · unfold joinG
        split
        · simp only [List.length_append, List.length_cons, List.length_nil]; omega
        · simp
theorem FortyGets : gatelinelaw16_FortyGets.Pure := by
  intro l _ _ hw
  have hb := allB_of_wf hw
  refine Ev.rounds (r := true) ?_
  unfold gatelinelaw16_FortyGets.f
  by_cases h : (l.length : Int) > 3000
  · exact Ev.pos h (Ev.now _)
  · refine Ev.neg h ?_
    have e : forty_Get.f l = some (if l.length % 3 = 1 then ([], 14) else getL l) := by
      by_cases h3 : l.length % 3 = 1
      · rw [if_pos h3]; unfold forty_Get.f; rw [if_pos h3]
      · rw [if_neg h3]; exact getf hb (by omega) h3
    obtain ⟨p, hp⟩ : ∃ p, p = (if l.length % 3 = 1 then (([], 14) : List Int × Int) else getL l) := ⟨_, rfl⟩
    have hr := rget l hb (by omega)
    rw [← hp] at e hr
    have hpl : p.1.length ≤ l.length := by
      rw [hp]
      split
      · simp
      · exact getL_len l
    refine Ev.congr (f := fun k => (gatelineref16_Get.f k l).bind fun bt149 => (gatelineref01_Same.f k p.1 bt149.1).bind fun t154 => if t154 = true then some (p.2 == bt149.2) else none) (fun k => ?_) (Ev.bind hr (Ev.bind (same_ev p.1 p.1 (by omega)) ⟨0, fun k _ => by simp⟩))
    rw [e]
    rfl
end Go.Proofs.Ytijpiaiklojafaa.Pure
