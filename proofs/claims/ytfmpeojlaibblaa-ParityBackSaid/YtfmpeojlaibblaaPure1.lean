/-
  Plain lemmas on the parity functions: characters, values, sums, bits.
-/
import Derived.Test.YtfmpeojlaibblaaPure0
import Derived.Test.YtfmpeojlaibblaaHFlips
import Derived.Test.YtfmpeojlaibblaaHSum
import Derived.Test.YtfmpeojlaibblaaHRefOf
import Derived.Test.YtfmpeojlaibblaaSF26
import Derived.Test.YtfmpeojlaibblaaSF29
import Derived.Laws.BitsAllLaws
import Derived.Laws.BitsLemmas
namespace Go.Proofs.Ytfmpeojlaibblaa.Pure
open Go.RowKit Go.Proofs.Ytfmpeojlaibblaa.S Go.Proofs.YtfmpeojlaibblaaW.PrintWords Go.Proofs.YtfmpeojlaibblaaW.PrintLast

theorem pchar_yes (v : Int) (h0 : 0 ≤ v) (h1 : v ≤ 15) : parity_Char.f v = some (chr v, 0) := by
  obtain ⟨n, rfl⟩ := Int.eq_ofNat_of_zero_le h0
  exact pchar_all ⟨n, by omega⟩
theorem within_false (v m : Int) (h : ¬ (0 ≤ v ∧ v ≤ m)) : parity_within.f v m = some false := by
  unfold parity_within.f
  by_cases h0 : v ≥ 0
  · rw [if_pos h0]; simp; omega
  · rw [if_neg h0]
theorem pchar_bad (v : Int) (h : ¬ (0 ≤ v ∧ v ≤ 15)) : parity_Char.f v = some (0, 1) := by
  unfold parity_Char.f
  rw [within_false v 15 h]
  rfl
theorem rchar_yes (v : Int) (h0 : 0 ≤ v) (h1 : v ≤ 15) : Ev (fun k => gatelineref10_Char.f k v) (chr v, 0) := by
  obtain ⟨n, rfl⟩ := Int.eq_ofNat_of_zero_le h0
  exact Ev.of (fun k => gatelineref10_Char.mono _ k) (char_all ⟨n, by omega⟩)
theorem rchar_bad (v : Int) (h : ¬ (0 ≤ v ∧ v ≤ 15)) : Ev (fun k => gatelineref10_Char.f k v) (0, 1) := by
  refine ⟨1, fun k hk => ?_⟩
  obtain ⟨k, rfl⟩ : ∃ m, k = m + 1 := ⟨k - 1, by omega⟩
  show gatelineref10_Char.f (k + 1) v = _
  unfold gatelineref10_Char.f
  split
  · rw [gatelineref10_Char.j0, if_pos rfl]
  · rw [decide_eq_true (by omega), gatelineref10_Char.j0, if_pos rfl]
/-- What both say of a number as a value: one pair. -/
theorem char_both (v : Int) : ∃ p, parity_Char.f v = some p ∧ Ev (fun k => gatelineref10_Char.f k v) p := by
  by_cases h : 0 ≤ v ∧ v ≤ 15
  · exact ⟨_, pchar_yes v h.1 h.2, rchar_yes v h.1 h.2⟩
  · exact ⟨_, pchar_bad v h, rchar_bad v h⟩
theorem value_all : ∀ c : Fin 32, ∃ p, parity_Value.f (c.val : Int) = some p ∧ gatelineref10_Value.f 20 (c.val : Int) = some p := by
  have h : ∀ c : Fin 32, (parity_Value.f (c.val : Int)).isSome = true ∧ parity_Value.f (c.val : Int) = gatelineref10_Value.f 20 (c.val : Int) := by decide +kernel
  intro c
  obtain ⟨p, hp⟩ := Option.isSome_iff_exists.1 (h c).1
  exact ⟨p, hp, (h c).2 ▸ hp⟩
theorem pvalue_bad (c : Int) (h : ¬ (0 ≤ c ∧ c ≤ 31)) : parity_Value.f c = some (0, 1) := by
  unfold parity_Value.f
  rw [within_false c 31 h]
  rfl
theorem rvalue_bad (c : Int) (h : ¬ (0 ≤ c ∧ c ≤ 31)) : Ev (fun k => gatelineref10_Value.f k c) (0, 1) := by
  refine ⟨1, fun k hk => ?_⟩
  obtain ⟨k, rfl⟩ : ∃ m, k = m + 1 := ⟨k - 1, by omega⟩
  show gatelineref10_Value.f (k + 1) c = _
  unfold gatelineref10_Value.f
  split
  · rw [gatelineref10_Value.j0, if_pos rfl]
  · rw [decide_eq_true (by omega), gatelineref10_Value.j0, if_pos rfl]
theorem value_both (c : Int) : ∃ p, parity_Value.f c = some p ∧ Ev (fun k => gatelineref10_Value.f k c) p := by
  by_cases h : 0 ≤ c ∧ c ≤ 31
  · obtain ⟨n, rfl⟩ := Int.eq_ofNat_of_zero_le h.1
    obtain ⟨p, h1, h2⟩ := value_all ⟨n, by omega⟩
    exact ⟨p, h1, Ev.of (fun k => gatelineref10_Value.mono _ k) h2⟩
  · exact ⟨_, pvalue_bad c h, rvalue_bad c h⟩

/-! ### sums -/
theorem sumOk_iff (l : List Int) : ∀ k : Nat, sumOk l k = true ↔ ∀ j : Nat, j < k → 0 ≤ rd l (j : Int) ∧ rd l (j : Int) ≤ 15
  | 0 => by simp [sumOk]
  | k + 1 => by
    simp only [sumOk, Bool.and_eq_true, sumOk_iff l k, okVal, decide_eq_true_eq]
    constructor
    · rintro ⟨h1, h2⟩ j hj
      rcases Nat.lt_or_ge j k with h | h
      · exact h1 j h
      · obtain rfl : j = k := by omega
        exact h2
    · intro h
      exact ⟨fun j hj => h j (by omega), h k (by omega)⟩
/-- The sum and whether the values are right. -/
def sumP (l : List Int) : Int × Int := if sumOk l l.length = true then (sumAll l l.length, 0) else (0, 1)
theorem psum (l : List Int) (h : l.length ≤ 140737488355328) : parity_Sum.f l = some (sumP l) := by
  unfold parity_Sum.f sumP
  rw [if_pos h]
  split <;> rfl
theorem rsum_l (l : List Int) (hm : l.length ≤ 140737488355328) : ∀ (d i k : Nat), l.length - i = d → i ≤ l.length → d < k → sumOk l i = true →
    gatelineref10_Sum.l0 k l (sumAll l i) (i : Int) = some (sumP l) := by
  intro d
  induction d with
  | zero =>
    intro i k hd hi hk ho
    obtain ⟨k, rfl⟩ : ∃ m, k = m + 1 := ⟨k - 1, by omega⟩
    obtain rfl : i = l.length := by omega
    simp only [gatelineref10_Sum.l0]
    rw [if_neg (by omega)]
    simp only [sumP, ho, if_true]
  | succ d ih =>
    intro i k hd hi hk ho
    obtain ⟨k, rfl⟩ : ∃ m, k = m + 1 := ⟨k - 1, by omega⟩
    simp only [gatelineref10_Sum.l0]
    rw [if_pos (by omega), if_pos (by omega)]
    have bad : ¬ (0 ≤ rd l (i : Int) ∧ rd l (i : Int) ≤ 15) → sumP l = (0, 1) := by
      intro hb
      unfold sumP
      rw [if_neg]
      intro h
      exact hb ((sumOk_iff l _).1 h i (by omega))
    by_cases h0 : rd l (i : Int) < 0
    · rw [if_pos h0, bad (by omega)]
    · rw [if_neg h0]
      by_cases h1 : rd l (i : Int) > 15
      · rw [if_pos h1, bad (by omega)]
      · rw [if_neg h1, wrap_in (by omega) (by omega), show ((i : Int) + 1) = ((i + 1 : Nat) : Int) by omega]
        exact ih (i + 1) k (by omega) (by omega) (by omega) (by simp only [sumOk, ho, okVal, Bool.true_and, decide_eq_true_eq]; omega)
theorem rsum (l : List Int) (hm : l.length ≤ 140737488355328) : Ev (fun k => gatelineref10_Sum.f k l) (sumP l) :=
  ⟨l.length + 1, fun k hk => rsum_l l hm l.length 0 k (by omega) (by omega) (by omega) rfl⟩

/-! ### sums of values, as natural numbers -/
def nsum (f : Nat → Nat) : Nat → Nat
  | 0 => 0
  | k + 1 => nsum f k ^^^ f k
theorem nsum_lt (f : Nat → Nat) : ∀ k : Nat, (∀ j, j < k → f j < 16) → nsum f k < 16
  | 0, _ => by show (0 : Nat) < 16; decide
  | k + 1, h => Nat.xor_lt_two_pow (n := 4) (nsum_lt f k (fun j hj => h j (by omega))) (h k (by omega))
theorem ofInt_i64 (a : Nat) (ha : a < 9223372036854775808) : (BitVec.ofInt 64 (a : Int)).toNat = a := by
  rw [BitVec.ofInt_natCast, BitVec.toNat_ofNat]; exact Nat.mod_eq_of_lt (by omega)
theorem i64_xor_nat (a b : Nat) (ha : a < 9223372036854775808) (hb : b < 9223372036854775808) : Go.bits .xor .i64 (a : Int) (b : Int) = ((a ^^^ b : Nat) : Int) := by
  have hx : a ^^^ b < 2 ^ 63 := Nat.xor_lt_two_pow (by omega) (by omega)
  show IntKind.i64.wrap ((BitVec.ofInt 64 (a : Int) ^^^ BitVec.ofInt 64 (b : Int)).toNat : Int) = _
  rw [BitVec.toNat_xor, ofInt_i64 a ha, ofInt_i64 b hb, IntKind.wrap_i64]
  omega
theorem sumAll_nat (l : List Int) : ∀ k : Nat, sumOk l k = true → sumAll l k = ((nsum (fun j => (rd l (j : Int)).toNat) k : Nat) : Int)
  | 0, _ => rfl
  | k + 1, h => by
    have hk := (sumOk_iff l (k + 1)).1 h
    have h1 : sumOk l k = true := (sumOk_iff l k).2 fun j hj => hk j (by omega)
    have h2 := hk k (by omega)
    have h3 := nsum_lt (fun j => (rd l (j : Int)).toNat) k (fun j hj => by have := hk j (by omega); show (rd l (j : Int)).toNat < 16; omega)
    simp only [sumAll, nsum]
    rw [sumAll_nat l k h1]
    have e : rd l (k : Int) = (((rd l (k : Int)).toNat : Nat) : Int) := by omega
    rw [show Go.bits .xor .i64 ((nsum (fun j => (rd l (j : Int)).toNat) k : Nat) : Int) (rd l (k : Int)) = Go.bits .xor .i64 ((nsum (fun j => (rd l (j : Int)).toNat) k : Nat) : Int) (((rd l (k : Int)).toNat : Nat) : Int) by rw [← e]]
    exact i64_xor_nat _ _ (by omega) (by omega)
theorem nsum_turn (f g : Nat → Nat) (i v : Nat) (hg : g i = v) (hf : ∀ j, j ≠ i → g j = f j) : ∀ k, nsum g k = if i < k then nsum f k ^^^ (f i ^^^ v) else nsum f k
  | 0 => by simp [nsum]
  | k + 1 => by
    simp only [nsum]
    rw [nsum_turn f g i v hg hf k]
    rcases Nat.lt_trichotomy i k with h | h | h
    · rw [if_pos h, if_pos (by omega), hf k (by omega), Nat.xor_assoc (nsum f k) (f i ^^^ v) (f k), Nat.xor_comm (f i ^^^ v) (f k), ← Nat.xor_assoc]
    · subst h
      rw [if_neg (by omega), if_pos (by omega), hg, Nat.xor_assoc, ← Nat.xor_assoc (f i) (f i) v, Nat.xor_self, Nat.zero_xor]
    · rw [if_neg (by omega), if_neg (by omega), hf k (by omega)]
theorem nat_xor_zero (a b : Nat) : a ^^^ b = 0 ↔ a = b := by
  constructor
  · intro h
    have h2 : a ^^^ (a ^^^ b) = a ^^^ 0 := by rw [h]
    rw [← Nat.xor_assoc, Nat.xor_self, Nat.zero_xor, Nat.xor_zero] at h2
    exact h2.symm
  · rintro rfl
    exact Nat.xor_self a
theorem xor_stays (a b : Nat) : a = a ^^^ b ↔ b = 0 := by
  constructor
  · intro h
    have h2 : a ^^^ a = a ^^^ (a ^^^ b) := by rw [← h]
    rw [← Nat.xor_assoc, Nat.xor_self, Nat.zero_xor] at h2
    exact h2.symm
  · rintro rfl
    rw [Nat.xor_zero]

/-! ### bits -/
theorem bits_all : ∀ c : Fin 32, (Go.bits .and .i64 (c.val : Int) 1 == 1) = ((c.val : Int) % 2 == 1) ∧ (Go.bits .and .i64 ((c.val : Int) / 2) 1 == 1) = ((c.val : Int) / 2 % 2 == 1) ∧ (Go.bits .and .i64 ((c.val : Int) / 4) 1 == 1) = ((c.val : Int) / 2 / 2 % 2 == 1) ∧
    (Go.bits .and .i64 ((c.val : Int) / 8) 1 == 1) = ((c.val : Int) / 2 / 2 / 2 % 2 == 1) ∧ (Go.bits .and .i64 ((c.val : Int) / 16) 1 == 1) = ((c.val : Int) / 2 / 2 / 2 / 2 % 2 == 1) := by decide +kernel
theorem bits_same (c : Int) : parity_Bits.f c = gatelineref10_Bits.f c := by
  by_cases h : 0 ≤ c ∧ c ≤ 31
  · obtain ⟨n, rfl⟩ := Int.eq_ofNat_of_zero_le h.1
    obtain ⟨h0, h1, h2, h3, h4⟩ := bits_all ⟨n, by omega⟩
    simp only at h0 h1 h2 h3 h4
    unfold parity_Bits.f gatelineref10_Bits.f
    rw [if_pos h, if_pos h, h0, h1, h2, h3, h4]
  · unfold parity_Bits.f gatelineref10_Bits.f
    rw [if_neg h, if_neg h]
theorem of_same : ∀ b0 b1 b2 b3 b4 : Bool, ofTo b0 b1 b2 b3 b4 5 = refTo b0 b1 b2 b3 b4 5 := by decide +kernel
theorem bits_of_all : ∀ b0 b1 b2 b3 b4 : Bool, (0 ≤ ofTo b0 b1 b2 b3 b4 5 ∧ ofTo b0 b1 b2 b3 b4 5 ≤ 31) ∧ (Go.bits .and .i64 (ofTo b0 b1 b2 b3 b4 5) 1 == 1) = b0 ∧ (Go.bits .and .i64 (ofTo b0 b1 b2 b3 b4 5 / 2) 1 == 1) = b1 ∧
    (Go.bits .and .i64 (ofTo b0 b1 b2 b3 b4 5 / 4) 1 == 1) = b2 ∧ (Go.bits .and .i64 (ofTo b0 b1 b2 b3 b4 5 / 8) 1 == 1) = b3 ∧ (Go.bits .and .i64 (ofTo b0 b1 b2 b3 b4 5 / 16) 1 == 1) = b4 := by decide +kernel
theorem bits_of (b0 b1 b2 b3 b4 : Bool) : parity_Bits.f (ofTo b0 b1 b2 b3 b4 5) = some (b0, b1, b2, b3, b4, 0) := by
  obtain ⟨h, h0, h1, h2, h3, h4⟩ := bits_of_all b0 b1 b2 b3 b4
  unfold parity_Bits.f
  rw [if_pos h, h0, h1, h2, h3, h4]
theorem value_chr : ∀ v : Fin 16, parity_Value.f (chr (v.val : Int)) = some ((v.val : Int), 0) := by decide +kernel
end Go.Proofs.Ytfmpeojlaibblaa.Pure
