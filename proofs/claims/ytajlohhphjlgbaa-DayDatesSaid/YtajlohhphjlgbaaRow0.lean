/-
  What an argument looks like that is a date: its value, cell by cell.
-/
import Derived.Test.YtajlohhphjlgbaaProg
import Derived.WalkKit
import Derived.ProofKit
import Derived.OpenShut
import Derived.Lib.SmallJoins
namespace Go.Proofs.Ytajlohhphjlgbaa.Row0
open Go.ChangeShapes Go.WideShapes Go.ChangeAt Go.RowKit Go.Joins

theorem cells36 : Try.prog.cellsOf 36 = 3 := by kernel_rfl
theorem date {H : Type} {enc : TypeId × Value → H} {W : World} {base : Nat} {b0 : Nat} {spare : Nat → Bool} {held : Bool} {v : Value} {d : DataW H} {p : List MemPlace}
    (hv : Value.okWide Try.prog W .any base 36 v) (h : DataW.Trod enc Try.prog W b0 spare held 36 v d p) : ∃ x0 x1 x2 : Int, v = .agg #[.int .i64 x0, .int .i64 x1, .int .i64 x2] := by
  obtain ⟨c0, c1, c2, y0, y1, y2, m, rfl, -, -, hy0, hy1, hy2⟩ := open_agg3 Try.underlying36 (by kernel_rfl) cells36 hv h
  obtain ⟨x, e0, -, -⟩ := DataW.trod_int Try.underlying3 hy0
  obtain ⟨y, e1, -, -⟩ := DataW.trod_int Try.underlying3 hy1
  obtain ⟨z, e2, -, -⟩ := DataW.trod_int Try.underlying3 hy2
  simp at e0 e1 e2
  subst e0 e1 e2
  exact ⟨x, y, z, rfl⟩
end Go.Proofs.Ytajlohhphjlgbaa.Row0
