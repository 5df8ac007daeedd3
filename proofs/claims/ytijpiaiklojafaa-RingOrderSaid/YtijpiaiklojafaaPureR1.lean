/-
  Plain lemmas on layer 5 (ring), the second text: the same, on, add.
-/
import Derived.Test.YtijpiaiklojafaaPureR0
import Derived.Test.YtijpiaiklojafaaSF29
namespace Go.Proofs.Ytijpiaiklojafaa.Pure
set_option linter.unusedSimpArgs false
set_option linter.unusedVariables false
open Go.RowKit Go.Proofs.Ytijpiaiklojafaa.S Go.Proofs.YtijpiaiklojafaaW.PrintWords Go.Proofs.YtijpiaiklojafaaW.PrintLast

theorem sameK_ev (a : Int) (s : List Int) (f t : Int) (h : s.length ≤ 140737488355328) : Ev (fun k => gatelineref05_Same.f k a s f t a s f t) true := by
  unfold gatelineref05_Same.f
  refine Ev.pos rfl ?_
  refine (same_ev s s h).bind ⟨0, fun k _ => ?_⟩
  show (if decide (s = s) = true then _ else _) = _
  rw [if_pos (by simp), if_pos rfl]
  simp
theorem sameK_at {s : List Int} (h : s.length ≤ 140737488355328) : ∃ n, ∀ k, n ≤ k → ∀ a f t, gatelineref05_Same.f k a s f t a s f t = some true := by
  obtain ⟨n, hn⟩ := same_ev s s h
  refine ⟨n, fun k hk a f t => ?_⟩
  unfold gatelineref05_Same.f
  have := hn k hk
  simp only at this
  rw [if_pos rfl, this]
  simp
theorem samesK_l (l : List S33) (hl : l.length ≤ 140737488355328) (hs : ∀ x ∈ l, x.f1.length ≤ 140737488355328) : ∀ (d i : Nat), l.length - i = d → i ≤ l.length → ∃ n, ∀ k, n ≤ k → gatelineref05_Sames.l0 k l l (i : Int) = some true := by
  intro d
  induction d with
  | zero =>
    intro i hd hi
    refine ⟨1, fun k hk => ?_⟩
    obtain ⟨k, rfl, hk'⟩ := one k 0 (by omega)
    simp only [gatelineref05_Sames.l0]
    rw [if_neg (by omega)]
  | succ d ih =>
    intro i hd hi
    obtain ⟨n, hn⟩ := ih (i + 1) (by omega) (by omega)
    obtain ⟨m, hm⟩ := sameK_at (hs (rd_T33 l (i : Int)) (by rw [rdK (by omega)]; exact List.getElem_mem _))
    refine ⟨n + m + 1, fun k hk => ?_⟩
    obtain ⟨k, rfl, hk'⟩ := one k 0 (by omega)
    simp only [gatelineref05_Sames.l0]
    rw [if_pos (by omega), if_pos (by omega), if_pos (by omega), hm k (by omega), Option.bind_some, if_pos rfl, wrap_in (by omega) (by omega), show ((i : Int) + 1) = ((i + 1 : Nat) : Int) by omega]
    exact hn k (by omega)
theorem samesK_ev (l : List S33) (hl : l.length ≤ 140737488355328) (hs : ∀ x ∈ l, x.f1.length ≤ 140737488355328) : Ev (fun k => gatelineref05_Sames.f k l l) true := by
  obtain ⟨n, hn⟩ := samesK_l l hl hs l.length 0 (by omega) (by omega)
  refine ⟨n, fun k hk => ?_⟩
  show gatelineref05_Sames.f k l l = _
  unfold gatelineref05_Sames.f
  rw [if_pos rfl]
  exact hn k hk

/-- The key of a day. -/
def onL (d : Int) (l : List S33) : Option S33 := l.reverse.find? (fun x => decide (x.f2 ≤ d ∧ d ≤ x.f3))
theorem on_eq : ∀ (k : Nat) (l : List S33) (a x : Int), gatelineref05_On.l0 k l a x = ring_On.l0 k l a x
  | 0, _, _, _ => rfl
  | k + 1, l, a, x => by simp only [gatelineref05_On.l0, ring_On.l0, on_eq k]
theorem on_l (l : List S33) (a : Int) (hl : l.length ≤ 140737488355328) : ∀ (i k : Nat), i ≤ l.length → i < k → ring_On.l0 k l a ((i : Int) - 1) = some (resF (onL a (l.take i)) 20) := by
  intro i
  induction i with
  | zero =>
    intro k hi hk
    obtain ⟨k, rfl, hk'⟩ := one k 0 (by omega)
    simp only [ring_On.l0]
    rw [if_neg (by omega)]
    rfl
  | succ i ih =>
    intro k hi hk
    obtain ⟨k, rfl, hk'⟩ := one k 0 (by omega)
    have i1 := ih k (by omega) (by omega)
    have e : (((i + 1 : Nat) : Int) - 1) = (i : Int) := by omega
    have ht : l.take (i + 1) = l.take i ++ [rd_T33 l (i : Int)] := by rw [rdK (by omega), List.take_succ_eq_append_getElem (by omega)]
    simp only [ring_On.l0]
    rw [e, if_pos (by omega), if_pos (by omega), if_pos (by omega), wrap_in (by omega) (by omega), ht]
    unfold onL at *
    rw [List.reverse_append, List.reverse_singleton, List.singleton_append]
    by_cases h1 : (rd_T33 l (i : Int)).f2 ≤ a
    · rw [if_pos h1]
      by_cases h2 : a ≤ (rd_T33 l (i : Int)).f3
      · rw [if_pos h2, List.find?_cons_of_pos (by simp [h1, h2])]
        rfl
      · rw [if_neg h2, List.find?_cons_of_neg (by simp [h1, h2])]
        exact i1
    · rw [if_neg h1, List.find?_cons_of_neg (by simp [h1])]
      exact i1
theorem on_ev {l : List S33} (h : isL (-1) l = true) (a : Int) : Ev (fun k => ring_On.f k l a) (resF (onL a l) 20) := by
  have hl := isL_short h
  refine ⟨l.length + 1, fun k hk => ?_⟩
  have := on_l l a (by omega) l.length k (by omega) (by omega)
  rw [List.take_length] at this
  show ring_On.f k l a = _
  unfold ring_On.f ring_Is.f
  rw [Option.bind_some, if_pos h, wrap_in (by omega) (by omega)]
  exact this
theorem on_no {l : List S33} (h : ¬isL (-1) l = true) (a : Int) : Ev (fun k => ring_On.f k l a) (0, [], 0, 0, 1) := by
  refine ⟨0, fun k hk => ?_⟩
  show ring_On.f k l a = _
  unfold ring_On.f ring_Is.f
  rw [Option.bind_some, if_neg h]
theorem ron_ev {l : List S33} (h : isL (-1) l = true) (a : Int) : Ev (fun k => gatelineref05_On.f k l a) (resF (onL a l) 20) := by
  have hl := isL_short h
  refine (is_ev l (by omega)).bind ⟨l.length + 1, fun k hk => ?_⟩
  have := on_l l a (by omega) l.length k (by omega) (by omega)
  rw [List.take_length] at this
  show (if isL (-1) l = true then _ else _) = _
  rw [if_pos h, wrap_in (by omega) (by omega), on_eq]
  exact this
theorem ron_no {l : List S33} (hl : l.length ≤ 140737488355328) (h : ¬isL (-1) l = true) (a : Int) : Ev (fun k => gatelineref05_On.f k l a) (0, [], 0, 0, 1) := by
  refine (is_ev l hl).bind ⟨0, fun k hk => ?_⟩
  show (if isL (-1) l = true then _ else _) = _
  rw [if_neg h]

theorem addL_nil (k : S33) : addL [] k = [k] := rfl
theorem addL_cons (x : S33) (r : List S33) (k : S33) : addL (x :: r) k = if x.f0 < k.f0 then x :: addL r k else k :: x :: r := by
  unfold addL
  by_cases h : x.f0 < k.f0
  · have hp : posL k.f0 (x :: r) = posL k.f0 r + 1 := by
      show (if x.f0 < k.f0 then posL k.f0 r + 1 else 0) = _
      rw [if_pos h]
    rw [hp, if_pos h]
    simp
  · have hp : posL k.f0 (x :: r) = 0 := by
      show (if x.f0 < k.f0 then posL k.f0 r + 1 else 0) = _
      rw [if_neg h]
    rw [hp, if_neg h]
    simp
theorem addL_len (k : S33) : ∀ l : List S33, (addL l k).length = l.length + 1
  | [] => rfl
  | x :: r => by
    rw [addL_cons]
    have := addL_len k r
    split <;> simp_all
theorem addL_mem (k : S33) : ∀ (l : List S33) (x : S33), x ∈ addL l k → x = k ∨ x ∈ l
  | [], x, h => by simpa [addL_nil] using h
  | y :: r, x, h => by
    rw [addL_cons] at h
    have ih := addL_mem k r x
    split at h
    · cases h with
      | head => exact .inr (List.mem_cons_self ..)
      | tail _ h => rcases ih h with e | e; exact .inl e; exact .inr (List.mem_cons_of_mem _ e)
    · cases h with
      | head => exact .inl rfl
      | tail _ h => exact .inr h
theorem addL_isL (k : S33) (hk : rightB k = true) : ∀ (l : List S33) (last : Int), isL last l = true → last < k.f0 → byId k.f0 l = none → isL last (addL l k) = true
  | [], last, _, hl, _ => by simp [addL_nil, isL, hk, hl]
  | x :: r, last, h, hl, hn => by
    have h' := h
    simp only [isL, Bool.and_eq_true, decide_eq_true_eq] at h
    rw [addL_cons]
    unfold byId at hn
    by_cases e : x.f0 = k.f0
    · rw [List.find?_cons_of_pos (by simp [e])] at hn
      cases hn
    · rw [List.find?_cons_of_neg (by simp [e])] at hn
      by_cases c : x.f0 < k.f0
      · rw [if_pos c]
        have ih := addL_isL k hk r x.f0 h.2 c hn
        simp [isL, h.1.1, h.1.2, ih]
      · rw [if_neg c]
        simp [isL, hk, hl, h.1.1, h.2]
        omega
theorem byId_addL (k : S33) (a : Int) : ∀ (l : List S33), byId k.f0 l = none → byId a (addL l k) = if a = k.f0 then some k else byId a l
  | [], _ => by
    by_cases h : a = k.f0
    · rw [if_pos h, addL_nil]; simp [byId, h]
    · rw [if_neg h, addL_nil]; simp [byId]; omega
  | x :: r, hn => by
    rw [addL_cons]
    unfold byId at hn
    have e : ¬x.f0 = k.f0 := fun e => by
      rw [List.find?_cons_of_pos (by simp [e])] at hn
      cases hn
    rw [List.find?_cons_of_neg (by simp [e])] at hn
    have ih := byId_addL k a r hn
    unfold byId at *
    by_cases c : x.f0 < k.f0
    · rw [if_pos c]
      by_cases hx : x.f0 = a
      · rw [List.find?_cons_of_pos (by simp [hx]), if_neg (by omega), List.find?_cons_of_pos (by simp [hx])]
      · rw [List.find?_cons_of_neg (by simp [hx]), ih, List.find?_cons_of_neg (by simp [hx])]
    · rw [if_neg c]
      by_cases ha : a = k.f0
      · rw [if_pos ha, List.find?_cons_of_pos (by simp [ha])]
      · rw [if_neg ha, List.find?_cons_of_neg (by simp; omega)]
theorem addL_comm (a b : S33) (h : a.f0 ≠ b.f0) : ∀ l : List S33, addL (addL l a) b = addL (addL l b) a
  | [] => by
    rw [addL_nil, addL_nil, addL_cons, addL_cons, addL_nil, addL_nil]
    by_cases c : a.f0 < b.f0
    · rw [if_pos c, if_neg (by omega)]
    · rw [if_neg c, if_pos (by omega)]
  | x :: r => by
    have ih := addL_comm a b h r
    rw [addL_cons x r a, addL_cons x r b]
    by_cases c : x.f0 < a.f0
    · rw [if_pos c]
      by_cases d : x.f0 < b.f0
      · rw [if_pos d, addL_cons, addL_cons, if_pos d, if_pos c, ih]
      · rw [if_neg d, addL_cons, if_neg d, addL_cons, if_pos (by omega), addL_cons, if_pos c]
    · rw [if_neg c]
      by_cases d : x.f0 < b.f0
      · rw [if_pos d, addL_cons x, if_neg c, addL_cons a, if_pos (by omega), addL_cons x, if_pos d]
      · rw [if_neg d]
        by_cases e : a.f0 < b.f0
        · rw [addL_cons a, if_pos e, addL_cons x, if_neg d, addL_cons b, if_neg (by omega)]
        · rw [addL_cons a, if_neg e, addL_cons b, if_pos (by omega), addL_cons x, if_neg c]
theorem add_f {l : List S33} {x : S33} (h : isL (-1) l = true) (hx : rightB x = true) : ring_Add.f l x.f0 x.f1 x.f2 x.f3 = if (byId x.f0 l).isSome = true then some ([], 10) else some (addL l x, 0) := by
  unfold ring_Add.f
  rw [if_pos ⟨h, hx⟩, byId_has x.f0 l (-1) h]
  by_cases c : hasL x.f0 l = true
  · rw [if_pos c, if_pos c]
    simp
  · rw [if_neg c, if_neg c]
    simp
theorem add_no {l : List S33} {x : S33} (h : ¬(isL (-1) l = true ∧ rightB x = true)) : ring_Add.f l x.f0 x.f1 x.f2 x.f3 = some ([], 1) := by
  unfold ring_Add.f
  rw [if_neg h]
theorem radd_put (l : List S33) (x : S33) (hl : l.length ≤ 1000) : ∀ (d i k : Nat) (out : List S33), l.length - i = d → i ≤ l.length → d < k → out.length + d ≤ 2000 → (∀ j (hj : j < l.length), i ≤ j → x.f0 < l[j].f0) →
    gatelineref05_Add.l0 k l out true (i : Int) x.f0 x.f1 x.f2 x.f3 = some (out ++ l.drop i, 0) := by
  intro d
  induction d with
  | zero =>
    intro i k out hd hi hk ho hg
    obtain ⟨k, rfl, hk'⟩ := one k 0 (by omega)
    simp only [gatelineref05_Add.l0]
    rw [if_neg (by omega), if_pos (by trivial), List.drop_eq_nil_of_le (by omega), List.append_nil]
  | succ d ih =>
    intro i k out hd hi hk ho hg
    obtain ⟨k, rfl, hk'⟩ := one k 0 (by omega)
    have g := hg i (by omega) (by omega)
    rw [← rdK (by omega)] at g
    simp only [gatelineref05_Add.l0]
    rw [if_pos (by omega), if_pos (by omega), if_neg (by omega), if_pos (by omega), if_pos (by trivial), if_pos (by omega), wrap_in (by omega) (by omega), dropK (by omega), show ((i : Int) + 1) = ((i + 1 : Nat) : Int) by omega, ih (i + 1) k _ (by omega) (by omega) (by omega) (by simp; omega) (fun j hj hij => hg j hj (by omega))]
    simp
theorem radd_l (l : List S33) (x : S33) (hl : l.length ≤ 1000) : ∀ (d i k : Nat) (out : List S33) (last : Int), l.length - i = d → i ≤ l.length → d + 1 < k → out.length + d ≤ 1000 → isL last (l.drop i) = true →
    gatelineref05_Add.l0 k l out false (i : Int) x.f0 x.f1 x.f2 x.f3 = if (byId x.f0 (l.drop i)).isSome = true then some ([], 10) else some (out ++ addL (l.drop i) x, 0) := by
  intro d
  induction d with
  | zero =>
    intro i k out last hd hi hk ho hg
    obtain ⟨k, rfl, hk'⟩ := one k 0 (by omega)
    simp only [gatelineref05_Add.l0]
    rw [if_neg (by omega), if_neg (by simp), if_pos (by omega), List.drop_eq_nil_of_le (by omega)]
    simp [byId, addL_nil]
  | succ d ih =>
    intro i k out last hd hi hk ho hg
    obtain ⟨k, rfl, hk'⟩ := one k 0 (by omega)
    rw [dropK (by omega)] at hg ⊢
    have hg' := hg
    simp only [isL, Bool.and_eq_true, decide_eq_true_eq] at hg
    simp only [gatelineref05_Add.l0]
    rw [if_pos (by omega), if_pos (by omega)]
    by_cases c : (rd_T33 l (i : Int)).f0 = x.f0
    · rw [if_pos c]
      unfold byId
      rw [List.find?_cons_of_pos (by simp [c])]
      simp
    · rw [if_neg c, wrap_in (by omega) (by omega), addL_cons]
      unfold byId
      rw [List.find?_cons_of_neg (by simp [c])]
      by_cases e : (rd_T33 l (i : Int)).f0 > x.f0
      · have hn := byId_gt x.f0 (l.drop (i + 1)) _ hg.2 (by omega)
        unfold byId at hn
        rw [if_pos e, if_neg (by simp), if_pos (by omega), Option.bind_some, if_pos (by simp; omega), hn, if_neg (show ¬(none : Option S33).isSome = true by simp), if_neg (show ¬(rd_T33 l (i : Int)).f0 < x.f0 by omega), show ((i : Int) + 1) = ((i + 1 : Nat) : Int) by omega, radd_put l x hl d (i + 1) k _ (by omega) (by omega) (by omega) (by simp; omega) ?_]
        · simp
        · intro j hj hij
          have := isL_at x.f0 (l.drop (i + 1)) _ hg.2 (j - (i + 1)) (by simp; omega)
          have h1 := this.1
          rw [List.getElem_drop] at h1
          have e2 : i + 1 + (j - (i + 1)) = j := by omega
          simp only [e2] at h1
          omega
      · have IH := ih (i + 1) k (out ++ [rd_T33 l (i : Int)]) _ (by omega) (by omega) (by omega) (by simp; omega) hg.2
        unfold byId at IH
        rw [if_neg e, if_pos (by omega), show ((i : Int) + 1) = ((i + 1 : Nat) : Int) by omega, IH, if_pos (show (rd_T33 l (i : Int)).f0 < x.f0 by omega)]
        simp
theorem radd_ev {l : List S33} (hl : l.length ≤ 1000) (x : S33) (r : List S33 × Int) (hr : ring_Add.f l x.f0 x.f1 x.f2 x.f3 = some r) : Ev (fun k => gatelineref05_Add.f k l x.f0 x.f1 x.f2 x.f3) r := by
  refine (is_ev l (by omega)).bind ⟨l.length + 4, fun k hk => ?_⟩
  show (if isL (-1) l = true then _ else _) = _
  obtain ⟨k, rfl, hk'⟩ := one k 0 (by omega)
  rw [refright_f, Option.bind_some]
  by_cases h : isL (-1) l = true
  · rw [if_pos h]
    by_cases hx : rightB x = true
    · rw [hx]
      simp only [gatelineref05_Add.j0]
      rw [if_neg (by simp), ← hr, add_f h hx]
      have := radd_l l x hl l.length 0 k [] (-1) (by omega) (by omega) (by omega) (by simp; omega) (by simpa using h)
      simpa using this
    · rw [Bool.eq_false_iff.mpr hx]
      simp only [gatelineref05_Add.j0]
      rw [if_pos (show (!false) = true from rfl), ← hr, add_no (fun c => hx c.2)]
  · rw [if_neg h]
    simp only [gatelineref05_Add.j0]
    rw [if_pos (by trivial), ← hr, add_no (fun c => h c.1)]
end Go.Proofs.Ytijpiaiklojafaa.Pure
