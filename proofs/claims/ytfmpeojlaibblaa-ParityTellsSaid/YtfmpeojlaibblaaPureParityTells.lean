/-
  ParityTells, the plain part: a value that is changed changes the sum.
-/
import Derived.Test.YtfmpeojlaibblaaSF9
import Derived.Test.YtfmpeojlaibblaaPure1
namespace Go.Proofs.Ytfmpeojlaibblaa.Pure
open Go.RowKit Go.Proofs.Ytfmpeojlaibblaa.S Go.Proofs.YtfmpeojlaibblaaW.PrintWords Go.Proofs.YtfmpeojlaibblaaW.PrintLast

theorem rd_set {l : List Int} {i : Nat} (v : Int) (hi : i < l.length) (j : Nat) : rd (l.set i v) (j : Int) = if j = i then v else rd l (j : Int) := by
  by_cases h : j = i
  · subst h
    rw [if_pos rfl]
    simp [rd, hi]
  · rw [if_neg h]
    simp [rd, List.getElem?_set, Ne.symm h]

theorem tells_yes (l : List Int) (a v : Int) (x : Int) : Ev (fun k => gatelinelaw10_ParityTells.j0 k l a v x true) true :=
  Ev.step (fun k => by simp only [gatelinelaw10_ParityTells.j0, if_true]) (Ev.bind ⟨0, fun k _ => odd_ok⟩ (Ev.now _))
theorem ParityTells : gatelinelaw10_ParityTells.Pure := by
  intro l a v _ hm _ _ _
  refine Ev.rounds (r := true) ?_
  unfold gatelinelaw10_ParityTells.f
  refine Ev.bind ⟨0, fun k _ => psum l (by omega)⟩ ?_
  by_cases c1 : (l.length : Int) > 1000
  · simp only [c1, if_true]; exact tells_yes _ _ _ _
  by_cases c2 : (sumP l).2 = 0
  case neg => simp only [c1, c2, if_false]; exact tells_yes _ _ _ _
  by_cases c3 : a < 0
  · simp only [c1, c2, c3, if_false, if_true]; exact tells_yes _ _ _ _
  by_cases c4 : a ≥ (l.length : Int)
  · simp only [c1, c2, c3, c4, if_false, if_true]; exact tells_yes _ _ _ _
  by_cases c5 : v < 0
  · simp only [c1, c2, c3, c4, c5, if_false, if_true]; exact tells_yes _ _ _ _
  by_cases c6 : v > 15
  · simp only [c1, c2, c3, c4, c5, c6, if_false, if_true, decide_true]; exact tells_yes _ _ _ _
  simp only [c1, c2, c3, c4, c5, c6, if_false, if_true, decide_false]
  obtain ⟨i, rfl⟩ := Int.eq_ofNat_of_zero_le (show 0 ≤ a by omega)
  have hi : i < l.length := by omega
  have hok : sumOk l l.length = true := by
    unfold sumP at c2
    split at c2
    · assumption
    · simp at c2
  have hs : sumP l = (sumAll l l.length, 0) := by unfold sumP; rw [if_pos hok]
  have hall := (sumOk_iff l _).1 hok
  have hok2 : sumOk (l.set i v) l.length = true := by
    refine (sumOk_iff _ _).2 fun j hj => ?_
    rw [rd_set v hi j]
    split
    · omega
    · exact hall j hj
  have hs2 : sumP (l.set i v) = (sumAll (l.set i v) l.length, 0) := by unfold sumP; rw [List.length_set, if_pos hok2]
  have e1 := sumAll_nat l _ hok
  have e2 := sumAll_nat (l.set i v) _ hok2
  have hlt := nsum_lt (fun j => (rd l (j : Int)).toNat) l.length (fun j hj => by have := hall j hj; show (rd l (j : Int)).toNat < 16; omega)
  have ht := nsum_turn (fun j => (rd l (j : Int)).toNat) (fun j => (rd (l.set i v) (j : Int)).toNat) i v.toNat (by simp only [rd_set v hi i, if_true]) (fun j hj => by simp only [rd_set v hi j, if_neg hj]) l.length
  rw [if_pos hi] at ht
  rw [ht] at e2
  have key : (sumAll l l.length = sumAll (l.set i v) l.length) ↔ v = rd l (i : Int) := by
    rw [e1, e2]
    have := hall i hi
    constructor
    · intro h
      have h1 := (xor_stays _ _).1 (Int.ofNat.inj h)
      have h2 := (nat_xor_zero _ _).1 h1
      omega
    · intro h
      rw [← h, Nat.xor_self, Nat.xor_zero]
  refine Ev.step (f := fun k => (some true)) (fun k => ?_) (Ev.now _)
  simp only [gatelinelaw10_ParityTells.j0, Bool.false_eq_true, if_false, Option.bind_some]
  rw [if_pos (by simp; omega)]
  simp only [Option.bind_some, List.nil_append, Int.toNat_natCast]
  rw [if_pos (by omega), if_pos (by omega), psum _ (by simp; omega), odd_ok, hs2, hs]
  simp only [Option.bind_some, if_true]
  rw [if_pos (by omega), if_pos (by rw [beq_iff_eq, Bool.eq_iff_iff, beq_iff_eq, beq_iff_eq]; exact key), if_pos (by rw [e1]; omega)]
  congr 1
  rw [decide_eq_true_eq, e1]
  omega
end Go.Proofs.Ytfmpeojlaibblaa.Pure
