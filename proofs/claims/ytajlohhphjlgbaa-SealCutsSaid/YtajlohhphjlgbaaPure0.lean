/-
  Plain lemmas on the printed functions of this seat: no Go, no memory.
-/
import Derived.Test.YtajlohhphjlgbaaSF14
import Derived.Test.YtajlohhphjlgbaaSF15
import Derived.Laws.BitsAllLaws
import Derived.Test.YtajlohhphjlgbaaSF13
namespace Go.Proofs.Ytajlohhphjlgbaa.Pure
open Go.RowKit Go.Proofs.Ytajlohhphjlgbaa.S Go.Proofs.YtajlohhphjlgbaaW.PrintWords Go.Proofs.YtajlohhphjlgbaaW.PrintLast

theorem wrap_in {n : Int} (h0 : -9223372036854775808 ≤ n) (h1 : n ≤ 9223372036854775807) : wrap64 n = n := by unfold wrap64; omega
theorem rd_get {l : List Int} {i : Nat} (h : i < l.length) : rd l (i : Int) = l[i] := by simp [rd, h]
theorem get_rd {l : List Int} {i : Nat} (h : i < l.length) : l[i] = rd l (i : Int) := (rd_get h).symm
theorem drop_rd {l : List Int} {i : Nat} (h : i < l.length) : l.drop i = rd l (i : Int) :: l.drop (i + 1) := by rw [rd_get h, List.drop_eq_getElem_cons h]

/-- ref01.Same tells whether two rows are one. -/
theorem same_l (a b : List Int) (hl : a.length = b.length) (hm : a.length ≤ 140737488355328) : ∀ (d i k : Nat), a.length - i = d → i ≤ a.length → d < k →
    gatelineref01_Same.l0 k a b (i : Int) = some (decide (a.drop i = b.drop i)) := by
  intro d
  induction d with
  | zero =>
    intro i k hd hi hk
    obtain ⟨k, rfl⟩ : ∃ m, k = m + 1 := ⟨k - 1, by omega⟩
    simp only [gatelineref01_Same.l0]
    rw [if_neg (by omega), List.drop_eq_nil_of_le (by omega), List.drop_eq_nil_of_le (by omega)]
    simp
  | succ d ih =>
    intro i k hd hi hk
    obtain ⟨k, rfl⟩ : ∃ m, k = m + 1 := ⟨k - 1, by omega⟩
    simp only [gatelineref01_Same.l0]
    rw [if_pos (by omega), if_pos (by omega), if_pos (by omega), drop_rd (l := a) (by omega), drop_rd (l := b) (by omega)]
    by_cases h : rd a i = rd b i
    · rw [if_pos h, wrap_in (by omega) (by omega), show ((i : Int) + 1) = ((i + 1 : Nat) : Int) by omega, ih (i + 1) k (by omega) (by omega) (by omega), h]
      simp
    · rw [if_neg h]
      simp [h]
theorem same_ev (a b : List Int) (hm : a.length ≤ 140737488355328) : Ev (fun k => gatelineref01_Same.f k a b) (decide (a = b)) := by
  refine ⟨a.length + 1, fun k hk => ?_⟩
  show gatelineref01_Same.f k a b = _
  unfold gatelineref01_Same.f
  by_cases h : a.length = b.length
  · rw [if_pos (by omega)]
    have := same_l a b h hm a.length 0 k (by omega) (by omega) (by omega)
    simpa using this
  · rw [if_neg (by omega)]
    have : a ≠ b := fun e => h (by rw [e])
    simp [this]
theorem sealed_ev : Ev (fun k => gatelinelaw04_sealed.f k) true := Ev.of (fun k => gatelinelaw04_sealed.mono k) (k := 60) (by decide +kernel)

/-! ### bytes -/
def IsB (x : Int) : Prop := 0 ≤ x ∧ x < 256
def AllB (l : List Int) : Prop := ∀ x ∈ l, IsB x
theorem isB_of_wf {x : Int} (h : (Lit.int .u8 x).wf = true) : IsB x := by
  simp [Lit.wf, IntKind.min, IntKind.max, IntKind.signed, IntKind.bits] at h
  exact ⟨by omega, by omega⟩
theorem allB_of_wf {l : List Int} (h : ∀ x ∈ l, (Lit.int .u8 x).wf = true) : AllB l := fun x hx => isB_of_wf (h x hx)
theorem isB_rd {l : List Int} (h : AllB l) (i : Int) : IsB (rd l i) := by
  unfold rd
  by_cases hi : i.toNat < l.length
  · rw [List.getD_eq_getElem?_getD, List.getElem?_eq_getElem hi]
    exact h _ (List.getElem_mem hi)
  · rw [List.getD_eq_getElem?_getD, List.getElem?_eq_none (by omega)]
    exact ⟨by decide, by decide⟩
theorem or_isB {x y : Int} (hx : IsB x) (hy : IsB y) : IsB (Go.bits .or .u8 x y) := by
  rw [u8_or x y hx.1 hx.2 hy.1 hy.2]
  have h1 : x.toNat < 2 ^ 8 := by have := hx.2; omega
  have h2 : y.toNat < 2 ^ 8 := by have := hy.2; omega
  have := Nat.or_lt_two_pow h1 h2
  exact ⟨by omega, by omega⟩
theorem xor_isB {x y : Int} (hx : IsB x) (hy : IsB y) : IsB (Go.bits .xor .u8 x y) := by
  rw [u8_xor x y hx.1 hx.2 hy.1 hy.2]
  have h1 : x.toNat < 2 ^ 8 := by have := hx.2; omega
  have h2 : y.toNat < 2 ^ 8 := by have := hy.2; omega
  have := Nat.xor_lt_two_pow h1 h2
  exact ⟨by omega, by omega⟩
theorem or_zero {x y : Int} (hx : IsB x) (hy : IsB y) : Go.bits .or .u8 x y = 0 ↔ x = 0 ∧ y = 0 := by
  rw [u8_or x y hx.1 hx.2 hy.1 hy.2]
  have h : ((x.toNat ||| y.toNat : Nat) : Int) = 0 ↔ x.toNat = 0 ∧ y.toNat = 0 := by
    rw [← Nat.or_eq_zero_iff]; omega
  rw [h]
  have := hx.1
  have := hy.1
  omega
theorem nat_xor_zero (a b : Nat) : a ^^^ b = 0 ↔ a = b := by
  constructor
  · intro h
    have h2 : a ^^^ (a ^^^ b) = a ^^^ 0 := by rw [h]
    rw [← Nat.xor_assoc, Nat.xor_self, Nat.zero_xor, Nat.xor_zero] at h2
    exact h2.symm
  · rintro rfl
    exact Nat.xor_self a
theorem xor_zero {x y : Int} (hx : IsB x) (hy : IsB y) : Go.bits .xor .u8 x y = 0 ↔ x = y := by
  rw [u8_xor x y hx.1 hx.2 hy.1 hy.2]
  have h : ((x.toNat ^^^ y.toNat : Nat) : Int) = 0 ↔ x.toNat = y.toNat := by
    rw [← nat_xor_zero]; omega
  rw [h]
  have := hx.1
  have := hy.1
  omega
theorem diffTo_isB {a b : List Int} (ha : AllB a) (hb : AllB b) : ∀ k, IsB (diffTo a b k)
  | 0 => ⟨Int.le_refl 0, by show (0 : Int) < 256; decide⟩
  | k + 1 => or_isB (diffTo_isB ha hb k) (xor_isB (isB_rd ha _) (isB_rd hb _))
theorem diffTo_zero {a b : List Int} (ha : AllB a) (hb : AllB b) : ∀ k : Nat, diffTo a b k = 0 ↔ ∀ j : Nat, j < k → rd a (j : Int) = rd b (j : Int)
  | 0 => by simp [diffTo]
  | k + 1 => by
    simp only [diffTo]
    rw [or_zero (diffTo_isB ha hb k) (xor_isB (isB_rd ha _) (isB_rd hb _)), diffTo_zero ha hb k, xor_zero (isB_rd ha _) (isB_rd hb _)]
    constructor
    · rintro ⟨h1, h2⟩ j hj
      rcases Nat.lt_or_ge j k with h | h
      · exact h1 j h
      · obtain rfl : j = k := by omega
        exact h2
    · intro h
      exact ⟨fun j hj => h j (by omega), h k (by omega)⟩
theorem eq_of_rd {a b : List Int} (hl : a.length = b.length) (h : ∀ j : Nat, j < a.length → rd a (j : Int) = rd b (j : Int)) : a = b := by
  refine List.ext_getElem hl fun i h1 h2 => ?_
  rw [get_rd h1, get_rd h2]
  exact h i h1
/-- seal.Same tells whether two rows of bytes are one. -/
theorem sealSame (a b : List Int) (ha : AllB a) (hb : AllB b) (h1 : a.length ≤ 140737488355328) (h2 : b.length ≤ 140737488355328) : seal_Same.f a b = some (decide (a = b)) := by
  unfold seal_Same.f seal_Diff.f
  rw [if_pos ⟨h1, h2⟩]
  simp only [Option.bind_some]
  by_cases h : a.length = b.length
  · rw [if_pos (by simp [h])]
    congr 1
    rw [show min a.length b.length = a.length by omega, Bool.eq_iff_iff, beq_iff_eq, diffTo_zero ha hb, decide_eq_true_eq]
    exact ⟨eq_of_rd h, fun e _ _ => by rw [e]⟩
  · rw [if_neg (by simp; omega)]
    have : a ≠ b := fun e => h (by rw [e])
    simp [this]
end Go.Proofs.Ytajlohhphjlgbaa.Pure
