/-
  Plain lemmas on the printed functions of layer 5 (ring): no Go, no memory.
-/
import Derived.Test.YtijpiaiklojafaaPure0
import Derived.Test.YtijpiaiklojafaaHAdd
import Derived.Test.YtijpiaiklojafaaSF19
import Derived.Test.YtijpiaiklojafaaSF20
import Derived.Test.YtijpiaiklojafaaSF21
import Derived.Test.YtijpiaiklojafaaSF22
import Derived.Test.YtijpiaiklojafaaSF23
import Derived.Test.YtijpiaiklojafaaSF25
import Derived.Test.YtijpiaiklojafaaSF30
namespace Go.Proofs.Ytijpiaiklojafaa.Pure
set_option linter.unusedSimpArgs false
set_option linter.unusedVariables false
open Go.RowKit Go.Proofs.Ytijpiaiklojafaa.S Go.Proofs.YtijpiaiklojafaaW.PrintWords Go.Proofs.YtijpiaiklojafaaW.PrintLast

theorem rdK {l : List S33} {i : Nat} (h : i < l.length) : rd_T33 l (i : Int) = l[i] := by simp [rd_T33, h]
theorem dropK {l : List S33} {i : Nat} (h : i < l.length) : l.drop i = rd_T33 l (i : Int) :: l.drop (i + 1) := by rw [rdK h, List.drop_eq_getElem_cons h]
theorem one (k n : Nat) (h : n < k) : ∃ m, k = m + 1 ∧ n ≤ m := ⟨k - 1, by omega, by omega⟩

/-- Small: what Big lets pass. -/
def Small (l : List S33) : Prop := l.length ≤ 200 ∧ ∀ x ∈ l, x.f1.length ≤ 200
theorem big_l (l : List S33) (hl : l.length ≤ 200) : ∀ (d i : Nat), l.length - i = d → i ≤ l.length → ∃ b, (∀ k, 2 * d + 2 ≤ k → gatelineref05_Big.l0 k l (i : Int) = some b) ∧ (b = false → ∀ x ∈ l.drop i, x.f1.length ≤ 200) := by
  intro d
  induction d with
  | zero =>
    intro i hd hi
    refine ⟨decide ((l.length : Int) > 200), fun k hk => ?_, fun _ x hx => by rw [List.drop_eq_nil_of_le (by omega)] at hx; cases hx⟩
    obtain ⟨k, rfl, hk'⟩ := one k 1 (by omega)
    obtain ⟨k, rfl, _⟩ := one k 0 (by omega)
    simp only [gatelineref05_Big.l0, gatelineref05_Big.j1]
    rw [if_neg (by omega), if_neg (by simp)]
  | succ d ih =>
    intro i hd hi
    by_cases h : ((rd_T33 l (i : Int)).f1.length : Int) > 200
    · refine ⟨true, fun k hk => ?_, fun e => by cases e⟩
      obtain ⟨k, rfl, hk'⟩ := one k 1 (by omega)
      obtain ⟨k, rfl, _⟩ := one k 0 (by omega)
      simp only [gatelineref05_Big.l0, gatelineref05_Big.j1]
      rw [if_pos (by omega), if_pos (by simp; omega), if_pos (by omega), if_pos (by omega), if_pos h]
    · obtain ⟨b, hb, hb2⟩ := ih (i + 1) (by omega) (by omega)
      refine ⟨b, fun k hk => ?_, fun e x hx => ?_⟩
      · obtain ⟨k, rfl, hk'⟩ := one k 1 (by omega)
        obtain ⟨k, rfl, _⟩ := one k 0 (by omega)
        simp only [gatelineref05_Big.l0, gatelineref05_Big.j1]
        rw [if_pos (by omega), if_pos (by simp; omega), if_pos (by omega), if_pos (by omega), if_neg h, wrap_in (by omega) (by omega), show ((i : Int) + 1) = ((i + 1 : Nat) : Int) by omega]
        exact hb k (by omega)
      rw [dropK (by omega)] at hx
      cases hx with
      | head => omega
      | tail _ hx => exact hb2 e x hx
theorem big_ev (l : List S33) : ∃ b, Ev (fun k => gatelineref05_Big.f k l) b ∧ (b = false → Small l) := by
  by_cases hl : l.length ≤ 200
  · obtain ⟨b, hb, hb2⟩ := big_l l hl l.length 0 (by omega) (by omega)
    exact ⟨b, ⟨2 * l.length + 2, fun k hk => hb k hk⟩, fun e => ⟨hl, by simpa using hb2 e⟩⟩
  · refine ⟨true, ⟨2, fun k hk => ?_⟩, fun e => by cases e⟩
    show gatelineref05_Big.l0 k l 0 = some true
    obtain ⟨k, rfl, hk'⟩ := one k 1 (by omega)
    obtain ⟨k, rfl, _⟩ := one k 0 (by omega)
    simp only [gatelineref05_Big.l0, gatelineref05_Big.j1]
    rw [if_pos (by omega), if_neg (by simp; omega)]
    simp; omega

theorem refright_f (x : S33) : gatelineref05_Right.f x.f0 x.f1 x.f2 x.f3 = some (rightB x) := by
  rw [← right_f x]
  unfold gatelineref05_Right.f ring_right.f
  by_cases h : x.f0 ≤ 99
  · rw [if_pos h, if_pos (show x.f0 < 100 by omega)]
  · rw [if_neg h, if_neg (show ¬x.f0 < 100 by omega)]

def lastAt (l : List S33) (i : Nat) : Int := if i = 0 then -1 else (rd_T33 l ((i : Int) - 1)).f0
theorem is_l (l : List S33) (hl : l.length ≤ 140737488355328) : ∀ (d i k : Nat), l.length - i = d → i ≤ l.length → d < k → gatelineref05_Is.l0 k l (i : Int) = some (isL (lastAt l i) (l.drop i)) := by
  intro d
  induction d with
  | zero =>
    intro i k hd hi hk
    obtain ⟨k, rfl, hk'⟩ := one k 0 (by omega)
    simp only [gatelineref05_Is.l0]
    rw [if_neg (by omega), List.drop_eq_nil_of_le (by omega)]
    rfl
  | succ d ih =>
    intro i k hd hi hk
    obtain ⟨k, rfl, hk'⟩ := one k 0 (by omega)
    simp only [gatelineref05_Is.l0]
    rw [if_pos (by omega), if_pos (by omega), refright_f, Option.bind_some, dropK (by omega)]
    have hn : lastAt l (i + 1) = (rd_T33 l (i : Int)).f0 := by
      unfold lastAt
      rw [if_neg (by omega), show (((i + 1 : Nat) : Int) - 1) = (i : Int) by omega]
    have IH := ih (i + 1) k (by omega) (by omega) (by omega)
    rw [hn] at IH
    unfold isL
    by_cases hr : rightB (rd_T33 l (i : Int)) = true
    · rw [if_pos hr, hr, Bool.true_and]
      by_cases h0 : i = 0
      · subst h0
        rw [if_neg (by omega), wrap_in (by omega) (by omega)]
        have hp : decide (lastAt l 0 < (rd_T33 l ((0 : Nat) : Int)).f0) = true := by
          have := (right_in hr).1
          unfold lastAt
          simp only [if_pos]
          exact decide_eq_true (by omega)
        rw [hp, Bool.true_and]
        exact IH
      · rw [if_pos (by omega), wrap_in (n := (i : Int) - 1) (by omega) (by omega), if_pos (by omega), if_pos (by omega)]
        have hla : lastAt l i = (rd_T33 l ((i : Int) - 1)).f0 := by unfold lastAt; rw [if_neg h0]
        rw [hla]
        by_cases hc : (rd_T33 l (i : Int)).f0 ≤ (rd_T33 l ((i : Int) - 1)).f0
        · rw [if_pos hc, decide_eq_false (by omega), Bool.false_and]
        · rw [if_neg hc, decide_eq_true (by omega), Bool.true_and, wrap_in (by omega) (by omega)]
          exact IH
    · rw [if_neg hr, Bool.eq_false_iff.mpr hr]
      rfl
theorem is_ev (l : List S33) (hl : l.length ≤ 140737488355328) : Ev (fun k => gatelineref05_Is.f k l) (isL (-1) l) :=
  ⟨l.length + 1, fun k hk => is_l l hl l.length 0 k (by omega) (by omega) (by omega)⟩

def resF (o : Option S33) (e : Int) : Int × List Int × Int × Int × Int := match o with
  | some x => (x.f0, x.f1, x.f2, x.f3, 0)
  | none => (0, [], 0, 0, e)
def byId (a : Int) (l : List S33) : Option S33 := l.find? (fun x => x.f0 == a)
theorem byId_gt (a : Int) : ∀ (l : List S33) (last : Int), isL last l = true → a ≤ last → byId a l = none
  | [], _, _, _ => rfl
  | x :: r, last, h, ha => by
    simp only [isL, Bool.and_eq_true, decide_eq_true_eq] at h
    have := byId_gt a r x.f0 h.2 (by omega)
    unfold byId at *
    rw [List.find?_cons_of_neg (by simp; omega)]
    exact this
theorem byId_has (a : Int) : ∀ (l : List S33) (last : Int), isL last l = true → byId a l = if hasL a l = true then some (rd_T33 l (posL a l : Int)) else none
  | [], _, _ => by simp [byId, hasL]
  | x :: r, last, h => by
    have h' := h
    simp only [isL, Bool.and_eq_true, decide_eq_true_eq] at h
    have ih := byId_has a r x.f0 h.2
    by_cases h1 : x.f0 < a
    · have hp : posL a (x :: r) = posL a r + 1 := by
        show (if x.f0 < a then posL a r + 1 else 0) = _
        rw [if_pos h1]
      have hrd : rd_T33 (x :: r) ((posL a r + 1 : Nat) : Int) = rd_T33 r (posL a r : Int) := by
        unfold rd_T33
        simp
      have hh : hasL a (x :: r) = hasL a r := by
        unfold hasL
        rw [hp, hrd]
        simp
      rw [hh, hp, hrd, ← ih]
      unfold byId
      rw [List.find?_cons_of_neg (by simp; omega)]
    · have hp : posL a (x :: r) = 0 := by unfold posL; rw [if_neg h1]
      have hrd : rd_T33 (x :: r) ((0 : Nat) : Int) = x := by simp [rd_T33]
      by_cases h2 : x.f0 = a
      · have hh : hasL a (x :: r) = true := by
          unfold hasL
          rw [hp, hrd]
          simp [h2]
        rw [if_pos hh, hp, hrd]
        unfold byId
        rw [List.find?_cons_of_pos (by simp [h2])]
      · have hh : ¬hasL a (x :: r) = true := by
          unfold hasL
          rw [hp, hrd]
          simp [h2]
        rw [if_neg hh]
        have := byId_gt a r x.f0 h.2 (by omega)
        unfold byId at *
        rw [List.find?_cons_of_neg (by simp; omega)]
        exact this
theorem find_ev {l : List S33} (h : isL (-1) l = true) (a : Int) : Ev (fun k => ring_Find.f k l a) (resF (byId a l) 10) := by
  refine ⟨1, fun k hk => ?_⟩
  obtain ⟨k, rfl, _⟩ := one k 0 (by omega)
  have hb := byId_has a l (-1) h
  show ring_Find.f (k + 1) l a = _
  unfold ring_Find.f ring_Is.f
  rw [Option.bind_some, if_pos h]
  by_cases ha : 0 ≤ a ∧ a < 100
  · rw [if_pos (by omega)]
    simp only [ring_Find.j0]
    rw [if_pos (by simp; omega)]
    unfold ring_place.f
    rw [if_pos ⟨h, ha.1, ha.2⟩, Option.bind_some]
    by_cases hh : hasL a l = true
    · have hlt : posL a l < l.length := (of_decide_eq_true hh).1
      rw [if_pos hh, if_pos (by simp), if_pos (by simp; omega), hb, if_pos hh]
      rfl
    · rw [if_neg hh, hb, if_neg hh]
      rfl
  · have hh : ¬hasL a l = true := fun hh => by
      obtain ⟨h1, h2⟩ := of_decide_eq_true hh
      rw [rdK h1] at h2
      have := right_in (isL_at a l (-1) h _ h1).2.1
      omega
    rw [hb, if_neg hh]
    by_cases h0 : a ≥ 0
    · rw [if_pos h0]
      simp only [ring_Find.j0]
      rw [if_neg (by simp; omega)]
      rfl
    · rw [if_neg h0]
      simp only [ring_Find.j0]
      rw [if_neg (by simp)]
      rfl
theorem find_no {l : List S33} (h : ¬isL (-1) l = true) (a : Int) : Ev (fun k => ring_Find.f k l a) (0, [], 0, 0, 1) := by
  refine ⟨0, fun k hk => ?_⟩
  show ring_Find.f k l a = _
  unfold ring_Find.f ring_Is.f
  rw [Option.bind_some, if_neg h]
theorem rfind_l (l : List S33) (a : Int) (hl : l.length ≤ 140737488355328) : ∀ (d i k : Nat), l.length - i = d → i ≤ l.length → d < k → gatelineref05_Find.l0 k l a (i : Int) = some (resF (byId a (l.drop i)) 10) := by
  intro d
  induction d with
  | zero =>
    intro i k hd hi hk
    obtain ⟨k, rfl, hk'⟩ := one k 0 (by omega)
    simp only [gatelineref05_Find.l0]
    rw [if_neg (by omega), List.drop_eq_nil_of_le (by omega)]
    rfl
  | succ d ih =>
    intro i k hd hi hk
    obtain ⟨k, rfl, hk'⟩ := one k 0 (by omega)
    simp only [gatelineref05_Find.l0]
    rw [if_pos (by omega), if_pos (by omega), dropK (by omega)]
    unfold byId
    by_cases h : (rd_T33 l (i : Int)).f0 = a
    · rw [if_pos h, List.find?_cons_of_pos (by simp [h])]
      rfl
    · rw [if_neg h, List.find?_cons_of_neg (by simp [h]), wrap_in (by omega) (by omega)]
      exact ih (i + 1) k (by omega) (by omega) (by omega)
theorem rfind_ev {l : List S33} (hl : l.length ≤ 140737488355328) (h : isL (-1) l = true) (a : Int) : Ev (fun k => gatelineref05_Find.f k l a) (resF (byId a l) 10) := by
  refine ((is_ev l hl).bind ⟨l.length + 1, fun k hk => ?_⟩)
  show (if isL (-1) l = true then _ else _) = _
  rw [if_pos h]
  exact rfind_l l a hl l.length 0 k (by omega) (by omega) (by omega)
theorem rfind_no {l : List S33} (hl : l.length ≤ 140737488355328) (h : ¬isL (-1) l = true) (a : Int) : Ev (fun k => gatelineref05_Find.f k l a) (0, [], 0, 0, 1) := by
  refine ((is_ev l hl).bind ⟨0, fun k hk => ?_⟩)
  show (if isL (-1) l = true then _ else _) = _
  rw [if_neg h]
end Go.Proofs.Ytijpiaiklojafaa.Pure
