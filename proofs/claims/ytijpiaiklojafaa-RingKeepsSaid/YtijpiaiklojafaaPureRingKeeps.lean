/-
  RingKeeps, the plain part.
-/
import Derived.Test.YtijpiaiklojafaaPureR2
import Derived.Test.YtijpiaiklojafaaSF10
namespace Go.Proofs.Ytijpiaiklojafaa.Pure
open Go.RowKit Go.Proofs.Ytijpiaiklojafaa.S Go.Proofs.YtijpiaiklojafaaW.PrintWords Go.Proofs.YtijpiaiklojafaaW.PrintLast
theorem keeps_no (l m : List S33) (id : Int) (x : S33) (k : Nat) : gatelinelaw05_RingKeeps.j0 (k + 1) l id m true x.f0 x.f1 x.f2 x.f3 = some true := by
  simp only [gatelinelaw05_RingKeeps.j0]
  rw [if_pos (by trivial), ringed_f]
  rfl
theorem RingKeeps (l : List S33) (x : S33) (id : Int) : ∃ k, gatelinelaw05_RingKeeps.f k l x.f0 x.f1 x.f2 x.f3 id = some true := by
  obtain ⟨b, ⟨K0, h0⟩, hs⟩ := big_ev l
  have hno : ∀ r : List S33 × Int, ring_Add.f l x.f0 x.f1 x.f2 x.f3 = some r → r.2 ≠ 0 → ∃ k, gatelinelaw05_RingKeeps.f k l x.f0 x.f1 x.f2 x.f3 id = some true := by
    intro r hr h2
    refine ⟨K0 + 1, ?_⟩
    have := h0 (K0 + 1) (by omega)
    simp only at this
    unfold gatelinelaw05_RingKeeps.f
    rw [hr, Option.bind_some, this, Option.bind_some, show (r.2 != 0) = true by simp [h2]]
    split
    · exact keeps_no l _ id x K0
    · split <;> exact keeps_no l _ id x K0
  rcases add_cases l x with e | e | ⟨e, hi, hx, hn⟩
  · exact hno _ e (by simp)
  · exact hno _ e (by simp)
  · cases b with
    | true =>
      refine ⟨K0 + 1, ?_⟩
      have := h0 (K0 + 1) (by omega)
      simp only at this
      unfold gatelinelaw05_RingKeeps.f
      rw [e, Option.bind_some, this, Option.bind_some, if_pos rfl]
      exact keeps_no l _ id x K0
    | false =>
      have hS := hs rfl
      by_cases h2 : (x.f1.length : Int) > 200
      · refine ⟨K0 + 1, ?_⟩
        have := h0 (K0 + 1) (by omega)
        simp only at this
        unfold gatelinelaw05_RingKeeps.f
        rw [e, Option.bind_some, this, Option.bind_some, if_neg (by simp), if_pos h2]
        exact keeps_no l _ id x K0
      · have hm : isL (-1) (addL l x) = true := addL_isL x hx l (-1) hi (by have := (right_in hx).1; omega) hn
        have hbf := byId_addL x id l hn
        have hlen := addL_len x l
        have hl := isL_short hi
        obtain ⟨K1, h1⟩ := find_ev hm id
        obtain ⟨K2, h3⟩ := find_ev hi id
        by_cases hid : id = x.f0
        · rw [if_pos hid] at hbf
          rw [hbf] at h1
          have hn' : byId id l = none := by rw [hid]; exact hn
          rw [hn'] at h3
          obtain ⟨K3, h4⟩ := sameK_at (s := x.f1) (by omega)
          refine ⟨K0 + K1 + K2 + K3 + 1, ?_⟩
          have g0 := h0 (K0 + K1 + K2 + K3 + 1) (by omega)
          have g1 := h1 (K0 + K1 + K2 + K3) (by omega)
          have g2 := h3 (K0 + K1 + K2 + K3) (by omega)
          have g3 := h4 (K0 + K1 + K2 + K3) (by omega)
          simp only at g0 g1 g2 g3
          unfold gatelinelaw05_RingKeeps.f
          rw [e, Option.bind_some, g0, Option.bind_some, if_neg (by simp), if_neg h2]
          simp only [gatelinelaw05_RingKeeps.j0]
          rw [if_neg (by simp), g1, g2]
          simp only [Option.bind_some, if_pos hid, ringed_f, ring_Is.f, hm, if_true, resF, g3]
          rfl
        · rw [if_neg hid] at hbf
          rw [hbf] at h1
          obtain ⟨K3, h4⟩ := sameK_at (resF_len hS (o := byId id l) (e := 10) (fun x hx => (byId_mem hx).1))
          refine ⟨K0 + K1 + K2 + K3 + 1, ?_⟩
          have g0 := h0 (K0 + K1 + K2 + K3 + 1) (by omega)
          have g1 := h1 (K0 + K1 + K2 + K3) (by omega)
          have g2 := h3 (K0 + K1 + K2 + K3) (by omega)
          have g3 := h4 (K0 + K1 + K2 + K3) (by omega)
          simp only at g0 g1 g2 g3
          unfold gatelinelaw05_RingKeeps.f
          rw [e, Option.bind_some, g0, Option.bind_some, if_neg (by simp), if_neg h2]
          simp only [gatelinelaw05_RingKeeps.j0]
          rw [if_neg (by simp), g1, g2]
          simp only [Option.bind_some, if_neg hid, ringed_f, ring_Is.f, hm, if_true, g3]
          rw [hlen, wrap_in (by omega) (by omega)]
          simp
end Go.Proofs.Ytijpiaiklojafaa.Pure
