/-
  Plain lemmas on layer 5 (ring), the third text.
-/
import Derived.Test.YtijpiaiklojafaaPureR1
import Derived.Test.YtijpiaiklojafaaHRinged
namespace Go.Proofs.Ytijpiaiklojafaa.Pure
set_option linter.unusedSimpArgs false
set_option linter.unusedVariables false
open Go.RowKit Go.Proofs.Ytijpiaiklojafaa.S Go.Proofs.YtijpiaiklojafaaW.PrintWords Go.Proofs.YtijpiaiklojafaaW.PrintLast

theorem resF_len {l : List S33} (hs : Small l) {o : Option S33} {e : Int} (ho : ∀ x, o = some x → x ∈ l) : (resF o e).2.1.length ≤ 140737488355328 := by
  cases o with
  | none => simp [resF]
  | some x =>
    have := hs.2 x (ho x rfl)
    show x.f1.length ≤ _
    omega
theorem byId_mem {a : Int} {l : List S33} {x : S33} (h : byId a l = some x) : x ∈ l ∧ x.f0 = a := by
  unfold byId at h
  exact ⟨List.mem_of_find?_eq_some h, by simpa using List.find?_some h⟩
theorem onL_mem {a : Int} {l : List S33} {x : S33} (h : onL a l = some x) : x ∈ l ∧ x.f2 ≤ a ∧ a ≤ x.f3 := by
  unfold onL at h
  have h1 := List.find?_some h
  exact ⟨by simpa using List.mem_of_find?_eq_some h, by simpa using h1⟩
theorem isL_gt : ∀ (l : List S33) (last : Int), isL last l = true → ∀ x ∈ l, last < x.f0
  | [], _, _, x, hx => by cases hx
  | y :: r, last, h, x, hx => by
    simp only [isL, Bool.and_eq_true, decide_eq_true_eq] at h
    cases hx with
    | head => exact h.1.2
    | tail _ hx => have := isL_gt r y.f0 h.2 x hx; omega
theorem byId_self : ∀ (l : List S33) (last : Int), isL last l = true → ∀ x ∈ l, byId x.f0 l = some x
  | [], _, _, x, hx => by cases hx
  | y :: r, last, h, x, hx => by
    simp only [isL, Bool.and_eq_true, decide_eq_true_eq] at h
    cases hx with
    | head => simp [byId]
    | tail _ hx =>
      have g := isL_gt r y.f0 h.2 x hx
      have ih := byId_self r y.f0 h.2 x hx
      unfold byId at *
      rw [List.find?_cons_of_neg (by simp; omega)]
      exact ih
theorem onL_max {a : Int} : ∀ (l : List S33) (last : Int), isL last l = true → ∀ x, onL a l = some x → ∀ z ∈ l, z.f2 ≤ a → a ≤ z.f3 → z.f0 ≤ x.f0
  | [], _, _, x, hx, z, hz, _, _ => by cases hz
  | y :: r, last, h, x, hx, z, hz, h1, h2 => by
    simp only [isL, Bool.and_eq_true, decide_eq_true_eq] at h
    have hx' : (onL a r).or ([y].find? (fun x => decide (x.f2 ≤ a ∧ a ≤ x.f3))) = some x := by
      rw [← hx]
      unfold onL
      rw [List.reverse_cons, List.find?_append]
    cases ho : onL a r with
    | some x' =>
      rw [ho, Option.some_or] at hx'
      obtain rfl : x' = x := Option.some.inj hx'
      cases hz with
      | head => have := isL_gt r y.f0 h.2 x' (onL_mem ho).1; omega
      | tail _ hz => exact onL_max r y.f0 h.2 x' ho z hz h1 h2
    | none =>
      rw [ho, Option.none_or] at hx'
      have hm := List.mem_of_find?_eq_some hx'
      obtain rfl : x = y := by simpa using hm
      cases hz with
      | head => exact Int.le_refl _
      | tail _ hz =>
        unfold onL at ho
        have := List.find?_eq_none.mp ho z (List.mem_reverse.mpr hz)
        simp [h1, h2] at this
theorem ringed_f : gatelinelaw05_ringed.f = some true := rfl
/-- What Add answers. -/
theorem add_cases (l : List S33) (x : S33) :
    ring_Add.f l x.f0 x.f1 x.f2 x.f3 = some ([], 1) ∨ ring_Add.f l x.f0 x.f1 x.f2 x.f3 = some ([], 10) ∨ (ring_Add.f l x.f0 x.f1 x.f2 x.f3 = some (addL l x, 0) ∧ isL (-1) l = true ∧ rightB x = true ∧ byId x.f0 l = none) := by
  by_cases h : isL (-1) l = true ∧ rightB x = true
  · have e := add_f h.1 h.2
    cases hb : byId x.f0 l with
    | none =>
      rw [hb, if_neg (by simp)] at e
      exact .inr (.inr ⟨e, h.1, h.2, rfl⟩)
    | some y =>
      rw [hb, if_pos (by simp)] at e
      exact .inr (.inl e)
  · exact .inl (add_no h)
end Go.Proofs.Ytijpiaiklojafaa.Pure
