/-
  What an argument looks like that is an array of five bools: its value, cell by cell.
-/
import Derived.Test.YtfmpeojlaibblaaProg
import Derived.WalkKit
import Derived.ProofKit
import Derived.OpenShut
namespace Go.Proofs.Ytfmpeojlaibblaa.Row0
open Go.ChangeShapes Go.WideShapes Go.ChangeAt Go.RowKit

theorem cells36 : Try.prog.cellsOf 36 = 5 := by kernel_rfl
theorem cells4 : Try.prog.cellsOf 4 = 1 := by kernel_rfl
theorem five {H : Type} {enc : TypeId × Value → H} {W : World} {base : Nat} {b0 : Nat} {spare : Nat → Bool} {held : Bool} {v : Value} {d : DataW H} {p : List MemPlace}
    (hv : Value.okWide Try.prog W .any base 36 v) (h : DataW.Trod enc Try.prog W b0 spare held 36 v d p) : ∃ x0 x1 x2 x3 x4 : Bool, v = .agg #[.bool x0, .bool x1, .bool x2, .bool x3, .bool x4] := by
  obtain ⟨cs, rfl, hsz, _⟩ : ∃ cs, v = .agg cs ∧ cs.size = Try.prog.cellsOf 36 ∧ Row.okWide Try.prog W .any base 36 cs := by
    simpa [Value.okWide, Try.underlying36] using hv
  rw [cells36] at hsz
  obtain ⟨l⟩ := cs
  match l, hsz with
  | [c0, c1, c2, c3, c4], _ =>
    obtain ⟨fuel, hf⟩ := h
    obtain ⟨xs, m, _, _, _, hn, hi⟩ := DataW.trod_array Try.underlying36 hf
    have one : ∀ (c : Value) (j : Nat), j < 5 → DataW.trod enc Try.prog W b0 spare held m 4 [c] = xs[j]? → ∃ x : Bool, c = .bool x := by
      intro c j hj h1
      have hx : xs[j]? = some (xs[j]'(by omega)) := List.getElem?_eq_getElem (by omega)
      rw [hx] at h1
      obtain ⟨x, e, _⟩ := DataW.trod_bool Try.underlying4 h1
      exact ⟨x, by simpa using e⟩
    rw [cells4] at hi
    obtain ⟨x0, rfl⟩ := one c0 0 (by omega) (by simpa [Value.cells] using hi 0 (by omega))
    obtain ⟨x1, rfl⟩ := one c1 1 (by omega) (by simpa [Value.cells] using hi 1 (by omega))
    obtain ⟨x2, rfl⟩ := one c2 2 (by omega) (by simpa [Value.cells] using hi 2 (by omega))
    obtain ⟨x3, rfl⟩ := one c3 3 (by omega) (by simpa [Value.cells] using hi 3 (by omega))
    obtain ⟨x4, rfl⟩ := one c4 4 (by omega) (by simpa [Value.cells] using hi 4 (by omega))
    exact ⟨x0, x1, x2, x3, x4, rfl⟩
end Go.Proofs.Ytfmpeojlaibblaa.Row0
