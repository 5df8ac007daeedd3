/-
  Plain lemmas on the printed functions of this seat: no Go, no memory.
-/
import Derived.Test.YtijpiaiklojafaaSF14
namespace Go.Proofs.Ytijpiaiklojafaa.Pure
open Go.RowKit Go.Proofs.Ytijpiaiklojafaa.S Go.Proofs.YtijpiaiklojafaaW.PrintWords Go.Proofs.YtijpiaiklojafaaW.PrintLast

theorem wrap_in {n : Int} (h0 : -9223372036854775808 ≤ n) (h1 : n ≤ 9223372036854775807) : wrap64 n = n := by unfold wrap64; omega
theorem rd_get {l : List Int} {i : Nat} (h : i < l.length) : rd l (i : Int) = l[i] := by simp [rd, h]
theorem get_rd {l : List Int} {i : Nat} (h : i < l.length) : l[i] = rd l (i : Int) := (rd_get h).symm
theorem drop_rd {l : List Int} {i : Nat} (h : i < l.length) : l.drop i = rd l (i : Int) :: l.drop (i + 1) := by rw [rd_get h, List.drop_eq_getElem_cons h]

/-- ref01.Same tells whether two rows are one. -/
theorem same_l (a b : List Int) (hl : a.length = b.length) (hm : a.length ≤ 140737488355328) : ∀ (d i k : Nat), a.length - i = d → i ≤ a.length → d < k →
    gatelineref01_Same.l0 k a b (i : Int) = some (decide (a.drop i = b.drop i)) := by
  intro d
  induction d with
  | zero =>
    intro i k hd hi hk
    obtain ⟨k, rfl⟩ : ∃ m, k = m + 1 := ⟨k - 1, by omega⟩
    simp only [gatelineref01_Same.l0]
    rw [if_neg (by omega), List.drop_eq_nil_of_le (by omega), List.drop_eq_nil_of_le (by omega)]
    simp
  | succ d ih =>
    intro i k hd hi hk
    obtain ⟨k, rfl⟩ : ∃ m, k = m + 1 := ⟨k - 1, by omega⟩
    simp only [gatelineref01_Same.l0]
    rw [if_pos (by omega), if_pos (by omega), if_pos (by omega), drop_rd (l := a) (by omega), drop_rd (l := b) (by omega)]
    by_cases h : rd a i = rd b i
    · rw [if_pos h, wrap_in (by omega) (by omega), show ((i : Int) + 1) = ((i + 1 : Nat) : Int) by omega, ih (i + 1) k (by omega) (by omega) (by omega), h]
      simp
    · rw [if_neg h]
      simp [h]
theorem same_ev (a b : List Int) (hm : a.length ≤ 140737488355328) : Ev (fun k => gatelineref01_Same.f k a b) (decide (a = b)) := by
  refine ⟨a.length + 1, fun k hk => ?_⟩
  show gatelineref01_Same.f k a b = _
  unfold gatelineref01_Same.f
  by_cases h : a.length = b.length
  · rw [if_pos (by omega)]
    have := same_l a b h hm a.length 0 k (by omega) (by omega) (by omega)
    simpa using this
  · rw [if_neg (by omega)]
    have : a ≠ b := fun e => h (by rw [e])
    simp [this]
theorem Ev.pos {α : Type} {c : Prop} [Decidable c] (h : c) {f g : Nat → Option α} {r : α} (e : Ev f r) : Ev (fun k => if c then f k else g k) r := by
  simp only [if_pos h]
  exact e
theorem Ev.neg {α : Type} {c : Prop} [Decidable c] (h : ¬c) {f g : Nat → Option α} {r : α} (e : Ev g r) : Ev (fun k => if c then f k else g k) r := by
  simp only [if_neg h]
  exact e
theorem byte_of_wf {x : Int} (h : (Lit.int .u8 x).wf = true) : 0 ≤ x ∧ x ≤ 255 := by
  simp [Lit.wf, IntKind.min, IntKind.max, IntKind.signed, IntKind.bits] at h
  exact ⟨by omega, by omega⟩
end Go.Proofs.Ytijpiaiklojafaa.Pure
