/-
  RingDays, the plain part.
-/
import Derived.Test.YtijpiaiklojafaaPureR2
import Derived.Test.YtijpiaiklojafaaSF11
namespace Go.Proofs.Ytijpiaiklojafaa.Pure
open Go.RowKit Go.Proofs.Ytijpiaiklojafaa.S Go.Proofs.YtijpiaiklojafaaW.PrintWords Go.Proofs.YtijpiaiklojafaaW.PrintLast
theorem days_no (l : List S33) (d i : Int) (a : Int) (s : List Int) (f t : Int) (k : Nat) : gatelinelaw05_RingDays.j0 (k + 1) l d i true a s f t = some true := by
  simp only [gatelinelaw05_RingDays.j0]
  rw [if_pos (by trivial), ringed_f]
  rfl
theorem RingDays (l : List S33) (d i : Int) : ∃ k, gatelinelaw05_RingDays.f k l d i = some true := by
  obtain ⟨b, ⟨K0, h0⟩, hs⟩ := big_ev l
  have hno : ∀ (v : Int × List Int × Int × Int × Int) (K : Nat), (∀ k, K ≤ k → ring_On.f k l d = some v) → v.2.2.2.2 ≠ 0 → ∃ k, gatelinelaw05_RingDays.f k l d i = some true := by
    intro v K hv h2
    refine ⟨K0 + K + 1, ?_⟩
    have := h0 (K0 + K + 1) (by omega)
    simp only at this
    unfold gatelinelaw05_RingDays.f
    rw [hv _ (by omega), Option.bind_some, this, Option.bind_some, show (v.2.2.2.2 != 0) = true by simp [h2]]
    split <;> exact days_no l d i _ _ _ _ _
  by_cases h : isL (-1) l = true
  · obtain ⟨K1, h1⟩ := on_ev h d
    cases ho : onL d l with
    | none =>
      rw [ho] at h1
      exact hno _ K1 h1 (by simp [resF])
    | some x =>
      rw [ho] at h1
      obtain ⟨hx, hf, ht⟩ := onL_mem ho
      have hself := byId_self l (-1) h x hx
      have hl := isL_short h
      obtain ⟨K2, h2⟩ := find_ev h x.f0
      rw [hself] at h2
      cases b with
      | true =>
        refine ⟨K0 + K1 + 1, ?_⟩
        have g0 := h0 (K0 + K1 + 1) (by omega)
        have g1 := h1 (K0 + K1 + 1) (by omega)
        simp only at g0 g1
        unfold gatelinelaw05_RingDays.f
        rw [g1, Option.bind_some, g0, Option.bind_some, if_pos rfl]
        exact days_no l d i _ _ _ _ _
      | false =>
        have hS := hs rfl
        obtain ⟨K3, h4⟩ := sameK_at (s := x.f1) (by have := hS.2 x hx; omega)
        refine ⟨K0 + K1 + K2 + K3 + 2, ?_⟩
        have g0 := h0 (K0 + K1 + K2 + K3 + 2) (by omega)
        have g1 := h1 (K0 + K1 + K2 + K3 + 2) (by omega)
        have g2 := h2 (K0 + K1 + K2 + K3 + 1) (by omega)
        have g3 := h4 (K0 + K1 + K2 + K3) (by omega)
        simp only [resF] at g0 g1 g2 g3
        unfold gatelinelaw05_RingDays.f
        rw [g1, Option.bind_some, g0, Option.bind_some, if_neg (by simp)]
        show gatelinelaw05_RingDays.j0 _ l d i false x.f0 x.f1 x.f2 x.f3 = _
        simp only [gatelinelaw05_RingDays.j0]
        rw [if_neg (by simp), g2, Option.bind_some]
        have out : gatelinelaw05_RingDays.j1 (K0 + K1 + K2 + K3 + 1) l d i 0 true x.f0 x.f1 x.f2 x.f3 x.f0 x.f1 x.f2 x.f3 = some true := by
          simp only [gatelinelaw05_RingDays.j1]
          rw [if_pos (by trivial), ringed_f, Option.bind_some, if_pos rfl, if_pos (by trivial), g3]
          rfl
        by_cases hi0 : i < 0
        · rw [if_pos hi0]
          exact out
        · rw [if_neg hi0]
          by_cases hi1 : i ≥ (l.length : Int)
          · rw [decide_eq_true hi1]
            exact out
          · rw [decide_eq_false hi1]
            simp only [gatelinelaw05_RingDays.j1]
            rw [if_neg (by simp), if_pos (by omega), if_pos (by omega)]
            obtain ⟨j, rfl⟩ : ∃ j : Nat, i = (j : Int) := ⟨i.toNat, by omega⟩
            have hmem : rd_T33 l (j : Int) ∈ l := by rw [rdK (by omega)]; exact List.getElem_mem _
            by_cases c1 : (rd_T33 l (j : Int)).f2 ≤ d
            · rw [if_pos c1, ringed_f, Option.bind_some, if_pos rfl, if_pos hf, if_pos ht]
              by_cases c2 : d ≤ (rd_T33 l (j : Int)).f3
              · rw [if_pos c2, decide_eq_true (onL_max l (-1) h x ho _ hmem c1 c2)]
              · rw [if_neg c2]
            · rw [if_neg c1, ringed_f, Option.bind_some, if_pos rfl, if_pos hf, if_pos ht]
  · obtain ⟨K1, h1⟩ := on_no h d
    exact hno _ K1 h1 (by simp)
end Go.Proofs.Ytijpiaiklojafaa.Pure
