/-
  DayOrder, the plain part.
-/
import Derived.Test.YtajlohhphjlgbaaSF10
import Derived.Test.YtajlohhphjlgbaaPureD0
namespace Go.Proofs.Ytajlohhphjlgbaa.Pure
open Go.RowKit Go.Proofs.Ytajlohhphjlgbaa.S Go.Proofs.YtajlohhphjlgbaaW.PrintWords Go.Proofs.YtajlohhphjlgbaaW.PrintLast

theorem order_no (n n' y m d y' m' d' : Int) (k : Nat) : gatelinelaw06_DayOrder.j0 (k + 1) n n' true y m d y' m' d' = some true := by
  rw [gatelinelaw06_DayOrder.j0, dated_eq]
  rfl
theorem order_yes (n n' y m d y' m' d' : Int) (k : Nat) (h : IsD n y m d) (h' : IsD n' y' m' d') : gatelinelaw06_DayOrder.j0 (k + 1) n n' false y m d y' m' d' = some true := by
  have hl := fun hz => h.lt h' hz
  have hg := fun hz => h'.lt h hz
  rw [gatelinelaw06_DayOrder.j0, dated_eq]
  simp only [Option.bind_some, if_true, if_neg (by simp : ¬ (false = true))]
  rcases Int.lt_trichotomy y y' with hy | rfl | hy
  · have := hl (.inl hy)
    have e1 : (y == y') = false := beq_false_of_ne (by omega)
    have e2 : (n == n') = false := beq_false_of_ne (by omega)
    simp [hy, this, e1, e2]
  · rcases Int.lt_trichotomy m m' with hm | rfl | hm
    · have := hl (.inr ⟨rfl, .inl hm⟩)
      have e1 : (m == m') = false := beq_false_of_ne (by omega)
      have e2 : (n == n') = false := beq_false_of_ne (by omega)
      simp [hm, this, e1, e2]
    · rcases Int.lt_trichotomy d d' with hd | rfl | hd
      · have := hl (.inr ⟨rfl, .inr ⟨rfl, hd⟩⟩)
        have e1 : (d == d') = false := beq_false_of_ne (by omega)
        have e2 : (n == n') = false := beq_false_of_ne (by omega)
        simp [hd, this, e1, e2]
      · obtain rfl : n = n' := by have := h.eq; have := h'.eq; omega
        simp
      · have := hg (.inr ⟨rfl, .inr ⟨rfl, hd⟩⟩)
        have e1 : (d == d') = false := beq_false_of_ne (by omega)
        have e2 : (n == n') = false := beq_false_of_ne (by omega)
        simp [e1, e2, show ¬ d < d' by omega, show ¬ n < n' by omega]
    · have := hg (.inr ⟨rfl, .inl hm⟩)
      have e1 : (m == m') = false := beq_false_of_ne (by omega)
      have e2 : (n == n') = false := beq_false_of_ne (by omega)
      simp [e1, e2, show ¬ m < m' by omega, show ¬ n < n' by omega, show ¬ m = m' by omega]
  · have := hg (.inl hy)
    have e1 : (y == y') = false := beq_false_of_ne (by omega)
    have e2 : (n == n') = false := beq_false_of_ne (by omega)
    simp [e1, e2, show ¬ y < y' by omega, show ¬ n < n' by omega, show ¬ y = y' by omega]
theorem DayOrder_f (y m d y' m' d' : Int) : gatelinelaw06_DayOrder.f 1 y m d y' m' d' = some true := by
  unfold gatelinelaw06_DayOrder.f
  rcases of_is y m d with ⟨n, hi, hn, ho⟩ | ho <;> rcases of_is y' m' d' with ⟨n', hi', hn', ho'⟩ | ho'
  · rw [ho, ho']; exact order_yes n n' y m d y' m' d' 0 hi hi'
  · rw [ho, ho']; exact order_no n 0 y m d y' m' d' 0
  · rw [ho, ho']; exact order_no 0 n' y m d y' m' d' 0
  · rw [ho, ho']; exact order_no 0 0 y m d y' m' d' 0
theorem DayOrder_walk (y m d y' m' d' : Int) (w : World) : Calls Try.prog 10 #[.agg #[.int .i64 y, .int .i64 m, .int .i64 d], .agg #[.int .i64 y', .int .i64 m', .int .i64 d']] w fun e w' => e = .returned (.bool true) ∧ Below w.heap.size w w' :=
  gatelinelaw06_DayOrder.calls 1 y m d y' m' d' true w (DayOrder_f y m d y' m' d')
end Go.Proofs.Ytajlohhphjlgbaa.Pure
