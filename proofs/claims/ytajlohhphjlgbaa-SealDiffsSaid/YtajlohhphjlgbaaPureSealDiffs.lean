/-
  SealDiffs, the plain part: the bits in which two rows of bytes differ are the reference's, and so is whether they are the same.
-/
import Derived.Test.YtajlohhphjlgbaaSF3
import Derived.Test.YtajlohhphjlgbaaPure0
namespace Go.Proofs.Ytajlohhphjlgbaa.Pure
open Go.RowKit Go.Proofs.Ytajlohhphjlgbaa.S Go.Proofs.YtajlohhphjlgbaaW.PrintWords Go.Proofs.YtajlohhphjlgbaaW.PrintLast

theorem refDiff_l (a b : List Int) (h1 : a.length ≤ 140737488355328) : ∀ (d i k : Nat), min a.length b.length - i = d → i ≤ min a.length b.length → d < k →
    gatelineref04_Diff.l0 k a b (diffTo a b i) (i : Int) = some (diffTo a b (min a.length b.length), ((a.length : Int) == (b.length : Int))) := by
  intro d
  induction d with
  | zero =>
    intro i k hd hi hk
    obtain ⟨k, rfl⟩ : ∃ m, k = m + 1 := ⟨k - 1, by omega⟩
    obtain rfl : i = min a.length b.length := by omega
    simp only [gatelineref04_Diff.l0]
    by_cases h : ((min a.length b.length : Nat) : Int) < (a.length : Int)
    · rw [if_pos h, if_neg (by omega)]
    · rw [if_neg h]
  | succ d ih =>
    intro i k hd hi hk
    obtain ⟨k, rfl⟩ : ∃ m, k = m + 1 := ⟨k - 1, by omega⟩
    simp only [gatelineref04_Diff.l0]
    rw [if_pos (by omega), if_pos (by omega), if_pos (by omega), wrap_in (by omega) (by omega), show ((i : Int) + 1) = ((i + 1 : Nat) : Int) by omega]
    exact ih (i + 1) k (by omega) (by omega) (by omega)
theorem refDiff_ev (a b : List Int) (h1 : a.length ≤ 140737488355328) : Ev (fun k => gatelineref04_Diff.f k a b) (diffTo a b (min a.length b.length), ((a.length : Int) == (b.length : Int))) :=
  ⟨min a.length b.length + 1, fun k hk => refDiff_l a b h1 (min a.length b.length) 0 k (by omega) (by omega) (by omega)⟩

theorem SealDiffs : gatelinelaw04_SealDiffs.Pure := by
  intro a b _ h0 w0 _ h1 w1
  have ha := allB_of_wf w0
  have hb := allB_of_wf w1
  refine Ev.rounds (r := true) ?_
  by_cases h : (a.length : Int) > 2000 ∨ (b.length : Int) > 2000
  · refine Ev.congr (f := fun k => gatelinelaw04_SealDiffs.j0 k a b true) (fun k => ?_) (Ev.step (f := fun _ => some true) (fun k => by simp only [gatelinelaw04_SealDiffs.j0, if_true]) (Ev.now _))
    unfold gatelinelaw04_SealDiffs.f
    split
    · rfl
    · rw [decide_eq_true (by omega)]
  · refine Ev.congr (f := fun k => gatelinelaw04_SealDiffs.j0 k a b false) (fun k => ?_) (Ev.step (fun k => by simp only [gatelinelaw04_SealDiffs.j0, Bool.false_eq_true, if_false]; rfl) ?_)
    · unfold gatelinelaw04_SealDiffs.f
      rw [if_neg (by omega), decide_eq_false (by omega)]
    · refine Ev.bind (a := (diffTo a b (min a.length b.length), ((a.length : Int) == (b.length : Int)))) ⟨0, fun k _ => by unfold seal_Diff.f; rw [if_pos ⟨by omega, by omega⟩]⟩ ?_
      refine Ev.bind (refDiff_ev a b (by omega)) ?_
      refine Ev.bind sealed_ev ?_
      refine Ev.congr (fun k => by rw [if_pos rfl, if_pos rfl, if_pos (by simp)]) ?_
      refine Ev.bind ⟨0, fun k _ => sealSame a b ha hb (by omega) (by omega)⟩ ?_
      refine Ev.bind (same_ev a b (by omega)) ?_
      exact ⟨0, fun k _ => by simp⟩
end Go.Proofs.Ytajlohhphjlgbaa.Pure
