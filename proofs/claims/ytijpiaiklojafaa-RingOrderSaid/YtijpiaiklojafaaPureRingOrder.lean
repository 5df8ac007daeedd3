/-
  RingOrder, the plain part.
-/
import Derived.Test.YtijpiaiklojafaaPureR2
import Derived.Test.YtijpiaiklojafaaSF12
namespace Go.Proofs.Ytijpiaiklojafaa.Pure
open Go.RowKit Go.Proofs.Ytijpiaiklojafaa.S Go.Proofs.YtijpiaiklojafaaW.PrintWords Go.Proofs.YtijpiaiklojafaaW.PrintLast
theorem order_no (l : List S33) (a b : S33) (k : Nat) : gatelinelaw05_RingOrder.j0 (k + 1) l true a.f0 a.f1 a.f2 a.f3 b.f0 b.f1 b.f2 b.f3 = some true := by
  simp only [gatelinelaw05_RingOrder.j0]
  rw [if_pos (by trivial)]
theorem order_j1no (m n : List S33) (a b : S33) (k : Nat) : gatelinelaw05_RingOrder.j1 (k + 1) m n true a.f0 a.f1 a.f2 a.f3 b.f0 b.f1 b.f2 b.f3 = some true := by
  simp only [gatelinelaw05_RingOrder.j1]
  rw [if_pos (by trivial), ringed_f]
  rfl
theorem order_j1 {m n : List S33} {a b : S33} {k : Nat} {r : List S33 × Int} (h1 : ring_Add.f m b.f0 b.f1 b.f2 b.f3 = some r) (h2 : ring_Add.f n a.f0 a.f1 a.f2 a.f3 = some r) (h3 : gatelineref05_Sames.f k r.1 r.1 = some true) (h4 : (r.2 == 0) = (a.f0 != b.f0)) : gatelinelaw05_RingOrder.j1 (k + 1) m n false a.f0 a.f1 a.f2 a.f3 b.f0 b.f1 b.f2 b.f3 = some true := by
  simp only [gatelinelaw05_RingOrder.j1]
  rw [if_neg (by simp), h1, h2]
  simp only [Option.bind_some, ringed_f, h3, if_true, h4]
  simp
theorem order_j0 (l : List S33) (a b : S33) (hS : Small l) (ha : a.f1.length ≤ 200) (hb : b.f1.length ≤ 200) : ∃ K, ∀ k, K ≤ k → gatelinelaw05_RingOrder.j0 k l false a.f0 a.f1 a.f2 a.f3 b.f0 b.f1 b.f2 b.f3 = some true := by
  have hno : ∀ r q : List S33 × Int, ring_Add.f l a.f0 a.f1 a.f2 a.f3 = some r → ring_Add.f l b.f0 b.f1 b.f2 b.f3 = some q → (r.2 ≠ 0 ∨ q.2 ≠ 0) → ∃ K, ∀ k, K ≤ k → gatelinelaw05_RingOrder.j0 k l false a.f0 a.f1 a.f2 a.f3 b.f0 b.f1 b.f2 b.f3 = some true := by
    intro r q hr hq hz
    refine ⟨2, fun k hk => ?_⟩
    obtain ⟨k, rfl, hk'⟩ := one k 1 (by omega)
    obtain ⟨k, rfl, _⟩ := one k 0 (by omega)
    simp only [gatelinelaw05_RingOrder.j0]
    rw [if_neg (by simp), hr, hq]
    simp only [Option.bind_some]
    by_cases c : r.2 = 0
    · rw [if_pos c, show (q.2 != 0) = true by simp; exact hz.resolve_left (fun h => h c)]
      exact order_j1no _ _ a b k
    · rw [if_neg c]
      exact order_j1no _ _ a b k
  rcases add_cases l a with e | e | ⟨e, hi, hxa, hna⟩
  · rcases add_cases l b with f | f | ⟨f, _⟩ <;> exact hno _ _ e f (.inl (by simp))
  · rcases add_cases l b with f | f | ⟨f, _⟩ <;> exact hno _ _ e f (.inl (by simp))
  · rcases add_cases l b with f | f | ⟨f, _, hxb, hnb⟩
    · exact hno _ _ e f (.inr (by simp))
    · exact hno _ _ e f (.inr (by simp))
    · have hm : isL (-1) (addL l a) = true := addL_isL a hxa l (-1) hi (by have := (right_in hxa).1; omega) hna
      have hn : isL (-1) (addL l b) = true := addL_isL b hxb l (-1) hi (by have := (right_in hxb).1; omega) hnb
      have g1 := add_f hm hxb
      have g2 := add_f hn hxa
      rw [byId_addL a b.f0 l hna] at g1
      rw [byId_addL b a.f0 l hnb] at g2
      obtain ⟨r, h1, h2, h3, h4, h5⟩ : ∃ r : List S33 × Int, ring_Add.f (addL l a) b.f0 b.f1 b.f2 b.f3 = some r ∧ ring_Add.f (addL l b) a.f0 a.f1 a.f2 a.f3 = some r ∧ (r.2 == 0) = (a.f0 != b.f0) ∧ r.1.length ≤ 1000 ∧ ∀ y ∈ r.1, y.f1.length ≤ 140737488355328 := by
        by_cases c : a.f0 = b.f0
        · rw [if_pos c.symm, if_pos (by simp)] at g1
          rw [if_pos c, if_pos (by simp)] at g2
          exact ⟨_, g1, g2, by simp [c], by simp, by simp⟩
        · rw [if_neg (show ¬b.f0 = a.f0 from fun h => c h.symm), hnb, if_neg (by simp)] at g1
          rw [if_neg (show ¬a.f0 = b.f0 from c), hna, if_neg (by simp), ← addL_comm a b c l] at g2
          refine ⟨_, g1, g2, by simp [c], ?_, fun y hy => ?_⟩
          · have e1 := addL_len b (addL l a)
            have e2 := addL_len a l
            have := hS.1
            show (addL (addL l a) b).length ≤ 1000
            omega
          · rcases addL_mem b _ y hy with rfl | hy
            · omega
            · rcases addL_mem a l y hy with rfl | hy
              · omega
              · have := hS.2 y hy
                omega
      obtain ⟨K2, h6⟩ := samesK_ev r.1 (by omega) h5
      refine ⟨K2 + 2, fun k hk => ?_⟩
      obtain ⟨k, rfl, hk'⟩ := one k 1 (by omega)
      obtain ⟨k, rfl, _⟩ := one k 0 (by omega)
      simp only [gatelinelaw05_RingOrder.j0]
      rw [if_neg (by simp), e, f]
      simp only [Option.bind_some]
      rw [if_pos (by trivial)]
      exact order_j1 h1 h2 (h6 k (by omega)) h3
theorem RingOrder (l : List S33) (a b : S33) : ∃ k, gatelinelaw05_RingOrder.f k l a.f0 a.f1 a.f2 a.f3 b.f0 b.f1 b.f2 b.f3 = some true := by
  obtain ⟨t, ⟨K0, h0⟩, hs⟩ := big_ev l
  cases t with
  | true =>
    refine ⟨K0 + 1, ?_⟩
    have := h0 (K0 + 1) (by omega)
    simp only at this
    unfold gatelinelaw05_RingOrder.f
    rw [this, Option.bind_some, if_pos rfl]
    exact order_no l a b K0
  | false =>
    by_cases ca : (a.f1.length : Int) > 200
    · refine ⟨K0 + 1, ?_⟩
      have := h0 (K0 + 1) (by omega)
      simp only at this
      unfold gatelinelaw05_RingOrder.f
      rw [this, Option.bind_some, if_neg (by simp), if_pos ca]
      exact order_no l a b K0
    · by_cases cb : (b.f1.length : Int) > 200
      · refine ⟨K0 + 1, ?_⟩
        have := h0 (K0 + 1) (by omega)
        simp only at this
        unfold gatelinelaw05_RingOrder.f
        rw [this, Option.bind_some, if_neg (by simp), if_neg ca, decide_eq_true cb]
        exact order_no l a b K0
      · obtain ⟨K1, h1⟩ := order_j0 l a b (hs rfl) (by omega) (by omega)
        refine ⟨K0 + K1, ?_⟩
        have := h0 (K0 + K1) (by omega)
        simp only at this
        unfold gatelinelaw05_RingOrder.f
        rw [this, Option.bind_some, if_neg (by simp), if_neg ca, decide_eq_false cb]
        exact h1 _ (by omega)
end Go.Proofs.Ytijpiaiklojafaa.Pure
