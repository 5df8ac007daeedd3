/-
  The cuts of a tag (32 bytes, told as one value), and the law SealCuts: walks.
-/
import Derived.Test.YtajlohhphjlgbaaS0
import Derived.Laws.Rows
import Derived.Lib.Hide
import Derived.LoopTactic
namespace Go.Proofs.Ytajlohhphjlgbaa.S
open Go.RowKit Go.Proofs.YtajlohhphjlgbaaW.PrintWords Go.Proofs.YtajlohhphjlgbaaW.PrintLast Go.Proofs.YtajlohhphjlgbaaW.PrintMore

theorem cut_at (cs : Array Value) (x0 x1 x2 x3 : Int) (hs : cs.size = 32) (h0 : cs[0]? = some (.int .u8 x0)) (h1 : cs[1]? = some (.int .u8 x1)) (h2 : cs[2]? = some (.int .u8 x2)) (h3 : cs[3]? = some (.int .u8 x3)) (w : World) :
    Calls Try.prog 18 #[.agg cs] w fun e w' => e = .returned (.int .i64 (Go.bits .or .i64 (Go.bits .or .i64 (Go.bits .or .i64 (wrap64 ((wrap64 x0) * 16777216)) (wrap64 ((wrap64 x1) * 65536))) (wrap64 ((wrap64 x2) * 256))) (wrap64 x3))) ∧ Below w.heap.size w w' := by
  have hu27 := Try.underlying27
  have g0 : cs[0] = .int .u8 x0 := by rw [Array.getElem?_eq_getElem (by omega)] at h0; exact Option.some.inj h0
  have g1 : cs[1] = .int .u8 x1 := by rw [Array.getElem?_eq_getElem (by omega)] at h1; exact Option.some.inj h1
  have g2 : cs[2] = .int .u8 x2 := by rw [Array.getElem?_eq_getElem (by omega)] at h2; exact Option.some.inj h2
  have g3 : cs[3] = .int .u8 x3 := by rw [Array.getElem?_eq_getElem (by omega)] at h3; exact Option.some.inj h3
  go_enter Try.func18, Try.ntmps18
  go_wp2
  go_ret
  exact ⟨rfl, (Below.refl _ _).alloc (Nat.le_refl _) _⟩

theorem four_reads (W : World) (g : Nat) (x0 x1 x2 x3 : Int) (h0 : W.cell? ⟨g, 0, none⟩ = some (.int .u8 x0)) (h1 : W.cell? ⟨g, 1, none⟩ = some (.int .u8 x1)) (h2 : W.cell? ⟨g, 2, none⟩ = some (.int .u8 x2)) (h3 : W.cell? ⟨g, 3, none⟩ = some (.int .u8 x3)) :
    Kd.C (Kd.int .u8) W (some ⟨g, 0, none⟩) ([x0, x1, x2, x3] : List Int).length [x0, x1, x2, x3] := by
  have one : ∀ (j : Nat) (p : Int), W.cell? ⟨g, j, none⟩ = some (.int .u8 p) → ∃ c : List Value, c.length = (Kd.int .u8).sz ∧ (Kd.int .u8).K W p c ∧ ∀ i u, c[i]? = some u → W.cell? ((⟨g, 0, none⟩ : Addr).add (j * (Kd.int .u8).sz + i)) = some u := by
    intro j p hp
    refine ⟨[.int .u8 p], rfl, rfl, fun i u hi => ?_⟩
    obtain rfl : i = 0 := by
      have := (List.getElem?_eq_some_iff.mp hi).1
      simpa using this
    simp at hi
    subst hi
    rcases j with _ | j <;> simpa [Kd.int, Kd.scalar, Addr.add] using hp
  refine ⟨rfl, by simp, fun _ => ⟨_, rfl, ?_⟩⟩
  intro j p hj
  match j with
  | 0 => simp at hj; subst hj; exact one 0 _ h0
  | 1 => simp at hj; subst hj; exact one 1 _ h1
  | 2 => simp at hj; subst hj; exact one 2 _ h2
  | 3 => simp at hj; subst hj; exact one 3 _ h3
  | n + 4 => simp at hj

theorem refcut_at (cs : Array Value) (x0 x1 x2 x3 r : Int) (k : Nat) (hs : cs.size = 32) (h0 : cs[0]? = some (.int .u8 x0)) (h1 : cs[1]? = some (.int .u8 x1)) (h2 : cs[2]? = some (.int .u8 x2)) (h3 : cs[3]? = some (.int .u8 x3)) (w : World)
    (hget : ∀ (w : World) (A0 : Option Addr) (c0 : Nat), Kd.C (Kd.int .u8) w A0 ([x0, x1, x2, x3] : List Int).length [x0, x1, x2, x3] → 4 ≤ c0 → Calls Try.prog 29 #[.slice A0 4 c0] w fun e w' => e = .returned (.tuple #[.int .i64 r, .int .i64 0]) ∧ Drawn0 w w') :
    Calls Try.prog 19 #[.agg cs] w fun e w' => e = .returned (.int .i64 r) ∧ Below w.heap.size w w' := by
  have hu27 := Try.underlying27
  have hX : (w.alloc (.cells cs 27)).heap[w.heap.size]? = some (.cells cs 27 (0, 0)) := heap_alloc_new w _
  have hB : Below w.heap.size w (w.alloc (.cells cs 27)) := (Below.refl _ _).alloc (Nat.le_refl _) _
  have c0 := (cell_of_row _ w.heap.size 0 _ _ _ hX).trans h0
  have c1 := (cell_of_row _ w.heap.size 1 _ _ _ hX).trans h1
  have c2 := (cell_of_row _ w.heap.size 2 _ _ _ hX).trans h2
  have c3 := (cell_of_row _ w.heap.size 3 _ _ _ hX).trans h3
  have HC := Lib.hid (four_reads _ _ _ _ _ _ c0 c1 c2 c3)
  have HB := Lib.hid hB
  clear hX hB c0 c1 c2 c3
  go_enter Try.func19, Try.ntmps19
  go_wp2_with (go_at_call 29; refine (hget _ _ _ HC.out (by omega)).mono ?_; rintro e w5 ⟨rfl, hd⟩)
  go_ret
  exact ⟨rfl, HB.out.trans (hd.below.mono (by simp))⟩
end Go.Proofs.Ytajlohhphjlgbaa.S
