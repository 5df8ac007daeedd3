/-
  SealTells, the plain part: digits are their number's, and unlike numbers have unlike digits.
-/
import Derived.Test.YtajlohhphjlgbaaSF6
import Derived.Test.YtajlohhphjlgbaaPure1
namespace Go.Proofs.Ytajlohhphjlgbaa.Pure
open Go.RowKit Go.Proofs.Ytajlohhphjlgbaa.S Go.Proofs.YtajlohhphjlgbaaW.PrintWords Go.Proofs.YtajlohhphjlgbaaW.PrintLast

theorem tells_step (a b : Int) (xs ys : List Int) (v d v' : Int) (i k : Nat) (hx : xs.length = 10) (hi : i < 10) (hd : rd xs (i : Int) = d) (d0 : 0 ≤ d) (d9 : d ≤ 9) (v0 : 0 ≤ v) (v1 : v ≤ 1000000000) (hv : 10 * v + d = v') :
    gatelinelaw04_SealTells.l0 (k + 1) a b xs ys v (i : Int) = gatelinelaw04_SealTells.l0 k a b xs ys v' ((i + 1 : Nat) : Int) := by
  rw [gatelinelaw04_SealTells.l0]
  rw [if_pos (by omega), if_pos (by omega), if_pos (by omega), hd, if_neg (by omega), wrap_in (n := 10 * v) (by omega) (by omega), wrap_in (n := d) (by omega) (by omega), wrap_in (n := 10 * v + d) (by omega) (by omega),
    wrap_in (n := (i : Int) + 1) (by omega) (by omega), hv]
  rfl
theorem tells_end (a b : Int) (xs ys : List Int) (v : Int) (k : Nat) (hv : v = a) : gatelinelaw04_SealTells.l0 (k + 1) a b xs ys v ((10 : Nat) : Int) =
    (gatelinelaw04_sealed.f k).bind fun t => if t = true then (seal_Same.f xs ys).bind fun u => some (u == (a == b)) else none := by
  rw [gatelinelaw04_SealTells.l0]
  rw [if_neg (by omega)]
  simp only [hv, if_true]
theorem tells_l (a b : Int) (ys : List Int) (k : Nat) (h0 : 0 ≤ a) (h1 : a ≤ 4294967295) : gatelinelaw04_SealTells.l0 (k + 11) a b (dg a) ys 0 0 =
    (gatelinelaw04_sealed.f k).bind fun t => if t = true then (seal_Same.f (dg a) ys).bind fun u => some (u == (a == b)) else none := by
  show gatelinelaw04_SealTells.l0 (k + 11) a b (dg a) ys 0 ((0 : Nat) : Int) = _
  rw [tells_step a b (dg a) ys 0 (a / 1000000000 % 10) (a / 1000000000) 0 (k + 10) rfl (by omega) rfl (by omega) (by omega) (by omega) (by omega) (by omega)]
  rw [tells_step a b (dg a) ys (a / 1000000000) (a / 100000000 % 10) (a / 100000000) 1 (k + 9) rfl (by omega) rfl (by omega) (by omega) (by omega) (by omega) (by omega)]
  rw [tells_step a b (dg a) ys (a / 100000000) (a / 10000000 % 10) (a / 10000000) 2 (k + 8) rfl (by omega) rfl (by omega) (by omega) (by omega) (by omega) (by omega)]
  rw [tells_step a b (dg a) ys (a / 10000000) (a / 1000000 % 10) (a / 1000000) 3 (k + 7) rfl (by omega) rfl (by omega) (by omega) (by omega) (by omega) (by omega)]
  rw [tells_step a b (dg a) ys (a / 1000000) (a / 100000 % 10) (a / 100000) 4 (k + 6) rfl (by omega) rfl (by omega) (by omega) (by omega) (by omega) (by omega)]
  rw [tells_step a b (dg a) ys (a / 100000) (a / 10000 % 10) (a / 10000) 5 (k + 5) rfl (by omega) rfl (by omega) (by omega) (by omega) (by omega) (by omega)]
  rw [tells_step a b (dg a) ys (a / 10000) (a / 1000 % 10) (a / 1000) 6 (k + 4) rfl (by omega) rfl (by omega) (by omega) (by omega) (by omega) (by omega)]
  rw [tells_step a b (dg a) ys (a / 1000) (a / 100 % 10) (a / 100) 7 (k + 3) rfl (by omega) rfl (by omega) (by omega) (by omega) (by omega) (by omega)]
  rw [tells_step a b (dg a) ys (a / 100) (a / 10 % 10) (a / 10) 8 (k + 2) rfl (by omega) rfl (by omega) (by omega) (by omega) (by omega) (by omega)]
  rw [tells_step a b (dg a) ys (a / 10) (a % 10) (a) 9 (k + 1) rfl (by omega) rfl (by omega) (by omega) (by omega) (by omega) (by omega)]
  exact tells_end a b (dg a) ys a k rfl

theorem tells_ev (a b : Int) (x : List Int × Int) (y : List Int × Int) (hx : Ev (fun k => seal_Digits.f k a) x) (hy : Ev (fun k => seal_Digits.f k b) y)
    (hz : Ev (fun k => gatelinelaw04_SealTells.j0 k a b x.1 y.1 (if x.2 = 0 then y.2 != 0 else true)) true) : Ev (fun k => gatelinelaw04_SealTells.f k a b) true := by
  unfold gatelinelaw04_SealTells.f
  refine Ev.bind hx (Ev.bind hy ?_)
  by_cases h : x.2 = 0
  · simp only [h, if_true] at hz ⊢
    exact hz
  · simp only [h, if_false] at hz ⊢
    exact hz
theorem SealTells : gatelinelaw04_SealTells.Pure := by
  intro a b _ _
  refine Ev.rounds (r := true) ?_
  have hno : ∀ (x y : List Int), Ev (fun k => gatelinelaw04_SealTells.j0 k a b x y true) true := fun x y =>
    Ev.step (fun k => by simp only [gatelinelaw04_SealTells.j0, if_true]) (Ev.bind sealed_ev (Ev.now _))
  by_cases ha : a < 0 ∨ 4294967295 < a
  · by_cases hb : b < 0 ∨ 4294967295 < b
    · exact tells_ev a b _ _ (digits_no a ha) (digits_no b hb) (hno _ _)
    · exact tells_ev a b _ _ (digits_no a ha) (digits_yes b (by omega) (by omega)) (hno _ _)
  · by_cases hb : b < 0 ∨ 4294967295 < b
    · exact tells_ev a b _ _ (digits_yes a (by omega) (by omega)) (digits_no b hb) (hno _ _)
    · refine tells_ev a b _ _ (digits_yes a (by omega) (by omega)) (digits_yes b (by omega) (by omega)) ?_
      refine Ev.step (f := fun k => gatelinelaw04_SealTells.j1 k a b (dg a) (dg b) false) (fun k => ?_) (Ev.step (f := fun k => gatelinelaw04_SealTells.l0 k a b (dg a) (dg b) 0 0) (fun k => ?_) ?_)
      · simp [gatelinelaw04_SealTells.j0, dg]
      · simp [gatelinelaw04_SealTells.j1]
      · have h : Ev (fun k => (gatelinelaw04_sealed.f k).bind fun t => if t = true then (seal_Same.f (dg a) (dg b)).bind fun u => some (u == (a == b)) else none) true := by
          refine Ev.bind sealed_ev (Ev.congr (fun k => by rw [if_pos rfl]) (Ev.bind ⟨0, fun k _ => sealSame _ _ (dg_isB a) (dg_isB b) (by simp [dg]) (by simp [dg])⟩ ⟨0, fun k _ => ?_⟩))
          by_cases hab : a = b <;> simp [hab, dg_inj, show 0 ≤ a by omega, show a ≤ 4294967295 by omega, show 0 ≤ b by omega, show b ≤ 4294967295 by omega]
        obtain ⟨K, hK⟩ := h
        refine ⟨K + 11, fun n hn => ?_⟩
        obtain ⟨m, rfl⟩ : ∃ m, n = m + 11 := ⟨n - 11, by omega⟩
        exact (tells_l a b (dg b) m (by omega) (by omega)).trans (hK m (by omega))
end Go.Proofs.Ytajlohhphjlgbaa.Pure
