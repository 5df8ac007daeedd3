/-
  What an argument looks like that is a date: its value, cell by cell.
-/
import Derived.Test.YtajlohhphjlgbaaProg
import Derived.WalkKit
import Derived.ProofKit
import Derived.OpenShut
import Derived.Lib.SmallJoins
namespace Go.Proofs.Ytajlohhphjlgbaa.Row0
open Go.ChangeShapes Go.WideShapes Go.ChangeAt Go.RowKit Go.Joins

theorem cells36 : Try.prog.cellsOf 36 = 3 := by kernel_rfl
theorem date {H : Type} {enc : TypeId × Value → H} {W : World} {base : Nat} {b0 : Nat} {spare : Nat → Bool} {held : Bool} {v : Value} {d : DataW H} {p : List MemPlace}
    (hv : Value.okWide Try.prog W .any base 36 v) (h : DataW.Trod enc Try.prog W b0 spare held 36 v d p) : ∃ x0 x1 x2 : Int, v = .agg #[.int .i64 x0, .int .i64 x1, .int .i64 x2] := by
  obtain ⟨c0, c1, c2, y0, y1, y2, m, rfl, -, -, hy0, hy1, hy2⟩ := open_agg3 Try.underlying36 (by kernel_rfl) cells36 hv h
  obtain ⟨x, e0, -, -⟩ := DataW.trod_int Try.underlying3 hy0
  obtain ⟨y, e1, -, -⟩ := DataW.trod_int Try.underlying3 hy1
  obtain ⟨z, e2, -, -⟩ := DataW.trod_int Try.underlying3 hy2
  simp at e0 e1 e2
  subst e0 e1 e2
  exact ⟨x, y, z, rfl⟩

theorem cells27 : Try.prog.cellsOf 27 = 32 := by kernel_rfl
theorem cells5 : Try.prog.cellsOf 5 = 1 := by kernel_rfl
theorem tag {H : Type} {enc : TypeId × Value → H} {W : World} {base : Nat} {b0 : Nat} {spare : Nat → Bool} {held : Bool} {v : Value} {d : DataW H} {p : List MemPlace}
    (hv : Value.okWide Try.prog W .any base 27 v) (h : DataW.Trod enc Try.prog W b0 spare held 27 v d p) : ∃ (cs : Array Value) (x0 x1 x2 x3 : Int), v = .agg cs ∧ cs.size = 32 ∧ cs[0]? = some (.int .u8 x0) ∧ cs[1]? = some (.int .u8 x1) ∧ cs[2]? = some (.int .u8 x2) ∧ cs[3]? = some (.int .u8 x3) ∧
      (Lit.int .u8 x0).wf = true ∧ (Lit.int .u8 x1).wf = true ∧ (Lit.int .u8 x2).wf = true ∧ (Lit.int .u8 x3).wf = true := by
  obtain ⟨cs, rfl, hsz, _⟩ : ∃ cs, v = .agg cs ∧ cs.size = Try.prog.cellsOf 27 ∧ Row.okWide Try.prog W .any base 27 cs := by
    simpa [Value.okWide, Try.underlying27] using hv
  rw [cells27] at hsz
  obtain ⟨fuel, hf⟩ := h
  obtain ⟨xs, m, _, _, _, hn, hi⟩ := DataW.trod_array Try.underlying27 hf
  rw [cells5] at hi
  have one : ∀ j, j < 32 → ∃ x : Int, cs[j]? = some (.int .u8 x) ∧ (Lit.int .u8 x).wf = true := by
    intro j hj
    have h1 := hi j (by omega)
    have hx : xs[j]? = some (xs[j]'(by omega)) := List.getElem?_eq_getElem (by omega)
    rw [hx] at h1
    obtain ⟨x, e, _, wx⟩ := DataW.trod_int Try.underlying5 h1
    have hc : cs[j]? = some (cs[j]'(by omega)) := Array.getElem?_eq_getElem (by omega)
    refine ⟨x, ?_, wx⟩
    have hL : j < cs.toList.length := by simp; omega
    have e2 : List.take 1 (List.drop j cs.toList) = [Value.int .u8 x] := by simpa [Value.cells] using e
    rw [List.drop_eq_getElem_cons hL] at e2
    simp at e2
    rw [hc, e2]
  obtain ⟨x0, g0, b0⟩ := one 0 (by omega)
  obtain ⟨x1, g1, b1⟩ := one 1 (by omega)
  obtain ⟨x2, g2, b2⟩ := one 2 (by omega)
  obtain ⟨x3, g3, b3⟩ := one 3 (by omega)
  exact ⟨cs, x0, x1, x2, x3, rfl, hsz, g0, g1, g2, g3, b0, b1, b2, b3⟩
end Go.Proofs.Ytajlohhphjlgbaa.Row0
