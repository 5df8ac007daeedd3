/-
  RingAdds, the plain part.
-/
import Derived.Test.YtijpiaiklojafaaPureR2
import Derived.Test.YtijpiaiklojafaaSF9
namespace Go.Proofs.Ytijpiaiklojafaa.Pure
open Go.RowKit Go.Proofs.Ytijpiaiklojafaa.S Go.Proofs.YtijpiaiklojafaaW.PrintWords Go.Proofs.YtijpiaiklojafaaW.PrintLast
theorem adds_no (l : List S33) (x : S33) (k : Nat) : gatelinelaw05_RingAdds.j0 (k + 1) l true x.f0 x.f1 x.f2 x.f3 = some true := by
  simp only [gatelinelaw05_RingAdds.j0]
  rw [if_pos (by trivial)]
theorem adds_yes {l : List S33} {x : S33} {r : List S33 × Int} {k : Nat} (h1 : ring_Add.f l x.f0 x.f1 x.f2 x.f3 = some r) (h2 : gatelineref05_Add.f k l x.f0 x.f1 x.f2 x.f3 = some r) (h3 : gatelineref05_Sames.f k r.1 r.1 = some true) : gatelinelaw05_RingAdds.j0 (k + 1) l false x.f0 x.f1 x.f2 x.f3 = some true := by
  simp only [gatelinelaw05_RingAdds.j0]
  rw [if_neg (by simp), h1, h2]
  simp only [Option.bind_some, ringed_f, h3, if_true]
  simp
theorem RingAdds (l : List S33) (x : S33) : ∃ k, gatelinelaw05_RingAdds.f k l x.f0 x.f1 x.f2 x.f3 = some true := by
  obtain ⟨b, ⟨K0, h0⟩, hs⟩ := big_ev l
  cases b with
  | true =>
    refine ⟨K0 + 1, ?_⟩
    have := h0 (K0 + 1) (by omega)
    simp only at this
    unfold gatelinelaw05_RingAdds.f
    rw [this, Option.bind_some, if_pos rfl]
    exact adds_no l x K0
  | false =>
    have hS := hs rfl
    by_cases h2 : (x.f1.length : Int) > 200
    · refine ⟨K0 + 1, ?_⟩
      have := h0 (K0 + 1) (by omega)
      simp only at this
      unfold gatelinelaw05_RingAdds.f
      rw [this, Option.bind_some, if_neg (by simp), decide_eq_true h2]
      exact adds_no l x K0
    · obtain ⟨r, hr, hm⟩ : ∃ r, ring_Add.f l x.f0 x.f1 x.f2 x.f3 = some r ∧ (r.1.length ≤ 1000 ∧ ∀ y ∈ r.1, y.f1.length ≤ 140737488355328) := by
        rcases add_cases l x with e | e | ⟨e, _, _, _⟩
        · exact ⟨_, e, by simp, by simp⟩
        · exact ⟨_, e, by simp, by simp⟩
        · refine ⟨_, e, ?_, fun y hy => ?_⟩
          · have := addL_len x l
            have := hS.1
            show (addL l x).length ≤ 1000
            omega
          · rcases addL_mem x l y hy with rfl | hy
            · omega
            · have := hS.2 y hy
              omega
      obtain ⟨K1, h1⟩ := radd_ev (show l.length ≤ 1000 by have := hS.1; omega) x r hr
      obtain ⟨K2, h3⟩ := samesK_ev r.1 (by have := hm.1; omega) hm.2
      refine ⟨K0 + K1 + K2 + 1, ?_⟩
      have := h0 (K0 + K1 + K2 + 1) (by omega)
      simp only at this
      unfold gatelinelaw05_RingAdds.f
      rw [this, Option.bind_some, if_neg (by simp), decide_eq_false h2]
      exact adds_yes hr (h1 _ (by omega)) (h3 _ (by omega))
end Go.Proofs.Ytijpiaiklojafaa.Pure
