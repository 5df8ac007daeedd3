/-
  ParityBack, the plain part and its walk: what is a character is a value again, and bits are their character's.
-/
import Derived.Test.YtfmpeojlaibblaaSF7
import Derived.Test.YtfmpeojlaibblaaPure1
namespace Go.Proofs.Ytfmpeojlaibblaa.Pure
open Go.RowKit Go.Proofs.Ytfmpeojlaibblaa.S Go.Proofs.YtfmpeojlaibblaaW.PrintWords Go.Proofs.YtfmpeojlaibblaaW.PrintLast

theorem ParityBack (v : Int) (b0 b1 b2 b3 b4 : Bool) : ∃ k, gatelinelaw10_ParityBack.f k v b0 b1 b2 b3 b4 = some true := by
  refine ⟨1, ?_⟩
  unfold gatelinelaw10_ParityBack.f
  by_cases h : 0 ≤ v ∧ v ≤ 15
  · rw [pchar_yes v h.1 h.2]
    obtain ⟨n, rfl⟩ := Int.eq_ofNat_of_zero_le h.1
    have hv : parity_Value.f (chr (n : Int)) = some ((n : Int), 0) := value_chr ⟨n, by omega⟩
    simp only [Option.bind_some, if_true, hv]
    simp only [bne_self_eq_false, gatelinelaw10_ParityBack.j0, Bool.false_eq_true, if_false, parity_Of.f, Option.bind_some, bits_of, odd_ok, if_true]
    rw [if_pos (by omega), if_pos (by simp; omega)]
    simp
  · rw [pchar_bad v h]
    simp only [Option.bind_some, parity_Of.f, bits_of, odd_ok, if_true]
    rw [if_neg (by decide)]
    by_cases h0 : v ≥ 0
    · rw [if_pos h0, if_pos (by simp; omega)]
      simp
    · rw [if_neg h0]
      simp
theorem ParityBack_walk (v : Int) (b0 b1 b2 b3 b4 : Bool) (w : World) :
    Calls Try.prog 7 #[.int .i64 v, .agg #[.bool b0, .bool b1, .bool b2, .bool b3, .bool b4]] w fun e w' => e = .returned (.bool true) ∧ Below w.heap.size w w' := by
  obtain ⟨k, h⟩ := ParityBack v b0 b1 b2 b3 b4
  exact gatelinelaw10_ParityBack.calls k v b0 b1 b2 b3 b4 true w h
end Go.Proofs.Ytfmpeojlaibblaa.Pure
