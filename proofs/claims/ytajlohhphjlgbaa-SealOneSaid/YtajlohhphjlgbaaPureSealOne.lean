/-
  SealOne, the plain part: one byte that is changed is told, with the bits that were changed.
-/
import Derived.Test.YtajlohhphjlgbaaSF5
import Derived.Test.YtajlohhphjlgbaaPure0
namespace Go.Proofs.Ytajlohhphjlgbaa.Pure
open Go.RowKit Go.Proofs.Ytajlohhphjlgbaa.S Go.Proofs.YtajlohhphjlgbaaW.PrintWords Go.Proofs.YtajlohhphjlgbaaW.PrintLast

theorem xor_xor {x y : Int} (hx : IsB x) (hy : IsB y) : Go.bits .xor .u8 x (Go.bits .xor .u8 x y) = y := by
  have hz := xor_isB hx hy
  rw [u8_xor x _ hx.1 hx.2 hz.1 hz.2, u8_xor x y hx.1 hx.2 hy.1 hy.2, Int.toNat_natCast, ← Nat.xor_assoc, Nat.xor_self, Nat.zero_xor]
  exact Int.toNat_of_nonneg hy.1
theorem xor_self {x : Int} (hx : IsB x) : Go.bits .xor .u8 x x = 0 := (xor_zero hx hx).mpr rfl
theorem isB0 : IsB 0 := ⟨by decide, by decide⟩
theorem or_left {x : Int} (hx : IsB x) : Go.bits .or .u8 0 x = x := by
  rw [u8_or 0 x (by decide) (by decide) hx.1 hx.2]
  show ((0 ||| x.toNat : Nat) : Int) = x
  rw [Nat.zero_or]
  exact Int.toNat_of_nonneg hx.1
theorem or_right {x : Int} (hx : IsB x) : Go.bits .or .u8 x 0 = x := by
  rw [u8_or x 0 hx.1 hx.2 (by decide) (by decide)]
  show ((x.toNat ||| 0 : Nat) : Int) = x
  rw [Nat.or_zero]
  exact Int.toNat_of_nonneg hx.1
theorem rd_set (l : List Int) (i j : Nat) (v : Int) (hj : j < l.length) : rd (l.set i v) (j : Int) = if i = j then v else rd l (j : Int) := by
  rw [rd_get (l := l.set i v) (by simpa using hj), List.getElem_set]
  by_cases h : i = j
  · rw [if_pos h, if_pos h]
  · rw [if_neg h, if_neg h, rd_get hj]
theorem diff_set {l : List Int} {i : Nat} {x : Int} (hl : AllB l) (hi : i < l.length) (hx : IsB x) : ∀ k : Nat, k ≤ l.length →
    diffTo l (l.set i (Go.bits .xor .u8 (rd l (i : Int)) x)) k = if i < k then x else 0
  | 0, _ => by simp [diffTo]
  | k + 1, hk => by
    simp only [diffTo]
    rw [diff_set hl hi hx k (by omega), rd_set l i k _ (by omega)]
    rcases Nat.lt_trichotomy i k with h | h | h
    · rw [if_pos h, if_neg (show ¬ i = k by omega), if_pos (show i < k + 1 by omega), xor_self (isB_rd hl _), or_right hx]
    · subst h
      rw [if_neg (show ¬ i < i by omega), if_pos rfl, if_pos (show i < i + 1 by omega), xor_xor (isB_rd hl _) hx, or_left hx]
    · rw [if_neg (show ¬ i < k by omega), if_neg (show ¬ i = k by omega), if_neg (show ¬ i < k + 1 by omega), xor_self (isB_rd hl _), or_left isB0]
theorem SealOne : gatelinelaw04_SealOne.Pure := by
  intro l a x _ h0 hw _ hx
  have hl := allB_of_wf hw
  have hxb := isB_of_wf hx
  refine Ev.rounds (r := true) ?_
  have hno : Ev (fun k => gatelinelaw04_SealOne.j0 k l a x true) true :=
    Ev.step (fun k => by simp only [gatelinelaw04_SealOne.j0, if_true]) (Ev.bind sealed_ev (Ev.now _))
  unfold gatelinelaw04_SealOne.f
  by_cases c0 : (l.length : Int) > 2000
  · simpa only [if_pos c0] using hno
  simp only [if_neg c0]
  by_cases c1 : a < 0
  · simpa only [if_pos c1] using hno
  simp only [if_neg c1]
  by_cases c2 : a ≥ (l.length : Int)
  · simpa only [decide_eq_true c2] using hno
  simp only [decide_eq_false c2]
  obtain ⟨i, rfl⟩ : ∃ i : Nat, a = (i : Int) := ⟨a.toNat, by omega⟩
  have hi : i < l.length := by omega
  have hsl : (l.set i (Go.bits .xor .u8 (rd l (i : Int)) x)).length = l.length := List.length_set
  have hsb : AllB (l.set i (Go.bits .xor .u8 (rd l (i : Int)) x)) := by
    intro z hz
    rcases List.mem_or_eq_of_mem_set hz with h | rfl
    · exact hl z h
    · exact xor_isB (isB_rd hl _) hxb
  have hd : seal_Diff.f l (l.set i (Go.bits .xor .u8 (rd l (i : Int)) x)) = some (x, true) := by
    unfold seal_Diff.f
    rw [if_pos ⟨by omega, by omega⟩, hsl, Nat.min_self, diff_set hl hi hxb _ (Nat.le_refl _), if_pos hi]
    simp
  have hs : seal_Same.f l (l.set i (Go.bits .xor .u8 (rd l (i : Int)) x)) = some (x == 0) := by
    unfold seal_Same.f
    rw [hd]
    simp
  have ht : seal_Same.f l (l.take i) = some false := by
    rw [sealSame l (l.take i) hl (fun z hz => hl z (List.mem_of_mem_take hz)) (by omega) (by rw [List.length_take]; omega)]
    congr 1
    refine decide_eq_false fun h => ?_
    have := congrArg List.length h
    rw [List.length_take] at this
    omega
  refine Ev.step (f := fun k => (gatelinelaw04_sealed.f k).bind fun t177 => if t177 = true then some true else none) (fun k => ?_) (Ev.bind sealed_ev (Ev.now _))
  show gatelinelaw04_SealOne.j0 (k + 1) _ _ _ _ = _
  rw [gatelinelaw04_SealOne.j0, if_neg (by simp)]
  simp only [Option.bind_some, List.nil_append, List.length_nil, Int.toNat_natCast]
  rw [if_pos (by omega), if_pos (by omega), if_pos (by omega), if_pos (by omega), hd]
  simp only [Option.bind_some, hs, ht]
  simp [Nat.le_of_lt hi]
end Go.Proofs.Ytajlohhphjlgbaa.Pure
