/-
  The ten digits of a number: plain lemmas on the printed seal.Digits.
-/
import Derived.Test.YtajlohhphjlgbaaSF16
import Derived.Test.YtajlohhphjlgbaaPure0
namespace Go.Proofs.Ytajlohhphjlgbaa.Pure
open Go.RowKit Go.Proofs.Ytajlohhphjlgbaa.S Go.Proofs.YtajlohhphjlgbaaW.PrintWords Go.Proofs.YtajlohhphjlgbaaW.PrintLast

/-- A number's ten digits. -/
def dg (n : Int) : List Int := [n / 1000000000 % 10, n / 100000000 % 10, n / 10000000 % 10, n / 1000000 % 10, n / 100000 % 10, n / 10000 % 10, n / 1000 % 10, n / 100 % 10, n / 10 % 10, n % 10]
theorem dg_isB (n : Int) : AllB (dg n) := by
  intro x hx
  simp only [dg, List.mem_cons, List.not_mem_nil, or_false] at hx
  unfold IsB
  omega
theorem dg_inj {m n : Int} (hm0 : 0 ≤ m) (hm : m ≤ 4294967295) (hn0 : 0 ≤ n) (hn : n ≤ 4294967295) : dg m = dg n ↔ m = n := by
  constructor
  · intro h
    simp only [dg, List.cons.injEq, and_true] at h
    omega
  · rintro rfl
    rfl
theorem digits_step (m : Int) (xs : List Int) (i k : Nat) (hx : xs.length = 10) (hi : i < 10) (h0 : 0 ≤ m) (h1 : m ≤ 4294967295) :
    seal_Digits.l0 (k + 1) m xs (i : Int) = seal_Digits.l0 k (m / 10) (xs.set (9 - i) (m % 10)) ((i + 1 : Nat) : Int) := by
  rw [seal_Digits.l0]
  rw [if_pos (by omega), wrap_in (n := 9 - (i : Int)) (by omega) (by omega), if_pos (by omega), if_pos (by omega), Int.tdiv_eq_ediv_of_nonneg h0, Int.tmod_eq_emod_of_nonneg h0,
    wrap_in (n := m / 10) (by omega) (by omega), wrap_in (n := (i : Int) + 1) (by omega) (by omega), show (9 - (i : Int)).toNat = 9 - i by omega, show m % 10 % 256 = m % 10 by omega]
  rfl
theorem digits_end (m : Int) (xs : List Int) (k : Nat) : seal_Digits.l0 (k + 1) m xs ((10 : Nat) : Int) = some (xs, 0) := by
  rw [seal_Digits.l0]
  rw [if_neg (by omega)]
theorem digits_l (n : Int) (k : Nat) (h0 : 0 ≤ n) (h1 : n ≤ 4294967295) : seal_Digits.l0 (k + 11) n (List.replicate 10 0) 0 = some (dg n, 0) := by
  have e : (0 : Int) = ((0 : Nat) : Int) := rfl
  rw [e]
  rw [digits_step n _ 0 (k + 10) (by simp) (by omega) h0 h1, digits_step _ _ 1 (k + 9) (by simp) (by omega) (by omega) (by omega), digits_step _ _ 2 (k + 8) (by simp) (by omega) (by omega) (by omega),
    digits_step _ _ 3 (k + 7) (by simp) (by omega) (by omega) (by omega), digits_step _ _ 4 (k + 6) (by simp) (by omega) (by omega) (by omega), digits_step _ _ 5 (k + 5) (by simp) (by omega) (by omega) (by omega),
    digits_step _ _ 6 (k + 4) (by simp) (by omega) (by omega) (by omega), digits_step _ _ 7 (k + 3) (by simp) (by omega) (by omega) (by omega), digits_step _ _ 8 (k + 2) (by simp) (by omega) (by omega) (by omega),
    digits_step _ _ 9 (k + 1) (by simp) (by omega) (by omega) (by omega), digits_end]
  show some (([n / 10 / 10 / 10 / 10 / 10 / 10 / 10 / 10 / 10 % 10, n / 10 / 10 / 10 / 10 / 10 / 10 / 10 / 10 % 10, n / 10 / 10 / 10 / 10 / 10 / 10 / 10 % 10, n / 10 / 10 / 10 / 10 / 10 / 10 % 10, n / 10 / 10 / 10 / 10 / 10 % 10, n / 10 / 10 / 10 / 10 % 10, n / 10 / 10 / 10 % 10, n / 10 / 10 % 10, n / 10 % 10, n % 10] : List Int), (0 : Int)) = some (dg n, 0)
  simp only [dg, Option.some.injEq, Prod.mk.injEq, List.cons.injEq, and_true]
  omega
theorem digits_yes (n : Int) (h0 : 0 ≤ n) (h1 : n ≤ 4294967295) : Ev (fun k => seal_Digits.f k n) (dg n, 0) := by
  refine ⟨12, fun k hk => ?_⟩
  obtain ⟨k, rfl⟩ : ∃ m, k = m + 12 := ⟨k - 12, by omega⟩
  show seal_Digits.f (k + 12) n = _
  unfold seal_Digits.f
  rw [if_neg (by omega), decide_eq_false (by omega), seal_Digits.j0]
  simp only [Bool.false_eq_true, if_false]
  rw [if_pos (by decide)]
  exact digits_l n k h0 h1
theorem digits_no (n : Int) (h : n < 0 ∨ 4294967295 < n) : Ev (fun k => seal_Digits.f k n) ([], 1) := by
  refine ⟨1, fun k hk => ?_⟩
  obtain ⟨k, rfl⟩ : ∃ m, k = m + 1 := ⟨k - 1, by omega⟩
  show seal_Digits.f (k + 1) n = _
  unfold seal_Digits.f
  split
  · rw [seal_Digits.j0, if_pos rfl]
  · rw [decide_eq_true (by omega), seal_Digits.j0, if_pos rfl]
end Go.Proofs.Ytajlohhphjlgbaa.Pure
