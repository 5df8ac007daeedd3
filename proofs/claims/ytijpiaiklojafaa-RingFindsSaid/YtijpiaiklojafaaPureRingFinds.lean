/-
  RingFinds, the plain part.
-/
import Derived.Test.YtijpiaiklojafaaPureR2
import Derived.Test.YtijpiaiklojafaaSF8
namespace Go.Proofs.Ytijpiaiklojafaa.Pure
open Go.RowKit Go.Proofs.Ytijpiaiklojafaa.S Go.Proofs.YtijpiaiklojafaaW.PrintWords Go.Proofs.YtijpiaiklojafaaW.PrintLast
theorem finds_core {k : Nat} {l : List S33} {a d : Int} {v u : Int × List Int × Int × Int × Int} (hB : gatelineref05_Big.f k l = some false) (h1 : ring_Find.f k l a = some v) (h2 : gatelineref05_Find.f k l a = some v) (h3 : ring_On.f k l d = some u) (h4 : gatelineref05_On.f k l d = some u)
    (s1 : ∀ a f t, gatelineref05_Same.f k a v.2.1 f t a v.2.1 f t = some true) (s2 : ∀ a f t, gatelineref05_Same.f k a u.2.1 f t a u.2.1 f t = some true) (hi : gatelineref05_Is.f k l = some (isL (-1) l)) : gatelinelaw05_RingFinds.f k l a d = some true := by
  unfold gatelinelaw05_RingFinds.f
  rw [hB, h1, h2, h3, h4]
  simp only [Option.bind_some, ringed_f, s1, s2, hi, ring_Is.f, if_true]
  simp
theorem RingFinds (l : List S33) (a d : Int) : ∃ k, gatelinelaw05_RingFinds.f k l a d = some true := by
  obtain ⟨b, ⟨K0, h0⟩, hs⟩ := big_ev l
  cases b with
  | true =>
    refine ⟨K0, ?_⟩
    have := h0 K0 (Nat.le_refl _)
    simp only at this
    unfold gatelinelaw05_RingFinds.f
    rw [this]
    rfl
  | false =>
    have hS := hs rfl
    have hl : l.length ≤ 140737488355328 := by have := hS.1; omega
    obtain ⟨K5, h5⟩ := is_ev l hl
    by_cases h : isL (-1) l = true
    · obtain ⟨K1, h1⟩ := find_ev h a
      obtain ⟨K2, h2⟩ := rfind_ev hl h a
      obtain ⟨K3, h3⟩ := on_ev h d
      obtain ⟨K4, h4⟩ := ron_ev h d
      obtain ⟨K6, h6⟩ := sameK_at (resF_len hS (o := byId a l) (e := 10) (fun x hx => (byId_mem hx).1))
      obtain ⟨K7, h7⟩ := sameK_at (resF_len hS (o := onL d l) (e := 20) (fun x hx => (onL_mem hx).1))
      let k := K0 + K1 + K2 + K3 + K4 + K5 + K6 + K7
      exact ⟨k, finds_core (h0 k (by omega)) (h1 k (by omega)) (h2 k (by omega)) (h3 k (by omega)) (h4 k (by omega)) (h6 k (by omega)) (h7 k (by omega)) (h5 k (by omega))⟩
    · obtain ⟨K1, h1⟩ := find_no h a
      obtain ⟨K2, h2⟩ := rfind_no hl h a
      obtain ⟨K3, h3⟩ := on_no h d
      obtain ⟨K4, h4⟩ := ron_no hl h d
      obtain ⟨K6, h6⟩ := sameK_at (s := []) (by simp)
      let k := K0 + K1 + K2 + K3 + K4 + K5 + K6
      exact ⟨k, finds_core (h0 k (by omega)) (h1 k (by omega)) (h2 k (by omega)) (h3 k (by omega)) (h4 k (by omega)) (h6 k (by omega)) (h6 k (by omega)) (h5 k (by omega))⟩
end Go.Proofs.Ytijpiaiklojafaa.Pure
