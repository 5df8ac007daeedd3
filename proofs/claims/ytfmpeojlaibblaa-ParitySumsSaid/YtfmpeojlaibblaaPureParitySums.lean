/-
  ParitySums, the plain part and its walk: values have just the reference's sum, a character just its bits, and bits their number.
-/
import Derived.Test.YtfmpeojlaibblaaSF6
import Derived.Test.YtfmpeojlaibblaaPure1
namespace Go.Proofs.Ytfmpeojlaibblaa.Pure
open Go.RowKit Go.Proofs.Ytfmpeojlaibblaa.S Go.Proofs.YtfmpeojlaibblaaW.PrintWords Go.Proofs.YtfmpeojlaibblaaW.PrintLast

theorem bits_some (c : Int) : ∃ p, parity_Bits.f c = some p := by
  unfold parity_Bits.f
  split <;> exact ⟨_, rfl⟩
theorem ParitySums (l : List Int) (c : Int) (b0 b1 b2 b3 b4 : Bool) (hm : l.length * 8 ≤ 140737488351232) : ∃ k, gatelinelaw10_ParitySums.f k l c b0 b1 b2 b3 b4 = some true := by
  refine Ev.rounds (r := true) ?_
  unfold gatelinelaw10_ParitySums.f
  by_cases h : (l.length : Int) > 1000
  · simp only [h, if_true]
    exact Ev.now _
  · simp only [h, if_false]
    obtain ⟨p, hp⟩ := bits_some c
    refine Ev.bind ⟨0, fun k _ => psum l (by omega)⟩ (Ev.bind (rsum l (by omega)) (Ev.bind ⟨0, fun k _ => hp⟩ (Ev.bind ⟨0, fun k _ => (bits_same c).symm.trans hp⟩ (Ev.bind ⟨0, fun k _ => odd_ok⟩ ⟨0, fun k _ => ?_⟩))))
    simp [parity_Of.f, gatelineref10_Of.f, of_same]
theorem ParitySums_walk (a0 : Option Addr) (len0 cap0 : Nat) (z0 : List Int) (c : Int) (b0 b1 b2 b3 b4 : Bool) (w : World)
    (w0 : (a0 = none ∧ len0 = 0 ∧ cap0 = 0 ∧ z0 = []) ∨ ∃ x, a0 = some x ∧ len0 ≤ cap0 ∧ cap0 ≤ maxLen ∧ z0.length = cap0 ∧ (∀ i, i < z0.length → w.cell? (x.add i) = some (.int .i64 (z0.getD i 0))) ∧ ∀ n ∈ z0, (Lit.int .i64 n).wf = true)
    (y0 : len0 * 8 ≤ 140737488351232) :
    Calls Try.prog 6 #[.slice a0 len0 cap0, .int .i64 c, .agg #[.bool b0, .bool b1, .bool b2, .bool b3, .bool b4]] w fun e w' => e = .returned (.bool true) ∧ Below w.heap.size w w' := by
  obtain ⟨l0, rfl, hr0, hm0, hw0, hc0⟩ := ReadsInt.ofRowC w0
  obtain ⟨k, h⟩ := ParitySums l0 c b0 b1 b2 b3 b4 y0
  exact gatelinelaw10_ParitySums.calls k _ _ l0 c b0 b1 b2 b3 b4 true w (Kd.C_of_reads (d := (0 : Int)) (h1 := fun _ => rfl) hr0) hc0 h
end Go.Proofs.Ytfmpeojlaibblaa.Pure
