/-
  A key, and a slice of keys, opened out of the reading.
-/
import Derived.Test.YtijpiaiklojafaaS0
import Derived.Deep.Slices
import Derived.ChangeSame
import Derived.Lib.SmallJoins
namespace Go.Proofs.Ytijpiaiklojafaa.OpenK
set_option linter.unusedSimpArgs false
set_option linter.unusedVariables false
open Go.Joins Go.ChangeShapes Go.WideShapes Go.RowKit Go.Deep Go.Proofs.Ytijpiaiklojafaa.S Go.Proofs.YtijpiaiklojafaaW.PrintWords Go.Proofs.YtijpiaiklojafaaW.PrintLast
section
variable {H : Type} {enc : TypeId × Value → H} {P : Program} {w : World} {base : Nat} {spare : Nat → Bool} {held : Bool}
/-- A []byte that is read, as a row of numbers. -/
theorem bytes_C {fuel : Nat} {v : Value} {x : DataW H × List MemPlace} (h : DataW.trod enc Try.prog w base spare held fuel 22 [v] = some x) :
    ∃ (A : Option Addr) (c : Nat) (s : List Int), v = .slice A s.length c ∧ s.length ≤ c ∧ Kd.C (Kd.int .u8) w A s.length s := by
  rcases open_ints Try.underlying22 Try.underlying5 (by kernel_rfl) h with ⟨hcs, _⟩ | ⟨a, l, c, zs, hcs, _, hl, hm, hz, _, hcell, hwz⟩
  · obtain rfl : v = .slice none 0 0 := by simpa using hcs
    exact ⟨none, 0, [], rfl, Nat.le_refl _, rfl, by simp, fun h => absurd h (by simp)⟩
  · obtain rfl : v = .slice (some a) l c := by simpa using hcs
    have hlz : l ≤ zs.length := by rw [hz]; split <;> omega
    have ht : (zs.take l).length = l := by rw [List.length_take]; omega
    refine ⟨some a, c, zs.take l, by rw [ht], by omega, rfl, by rw [ht]; unfold maxLen at hm; omega, fun _ => ⟨a, rfl, fun j p hj => ⟨[.int .u8 p], rfl, rfl, fun i u hu => ?_⟩⟩⟩
    cases i with
    | succ i => simp at hu
    | zero =>
      obtain rfl : Value.int .u8 p = u := by simpa using hu
      have hjl : j < l := by
        have := (List.getElem?_eq_some_iff.mp hj).1
        omega
      have hc := hcell j (by omega)
      have hp : zs.getD j 0 = p := by
        rw [List.getElem?_take_of_lt hjl] at hj
        simp [List.getD_eq_getElem?_getD, hj]
      rw [hp] at hc
      have e : j * (Kd.int IntKind.u8).sz + 0 = j := by rw [show (Kd.int IntKind.u8).sz = 1 from rfl]; omega
      rw [e]
      exact hc
/-- A key by value. -/
theorem open_key {r : Reach} {b0 : Nat} {v : Value} {d : DataW H} {p : List MemPlace} (hv : Value.okWide Try.prog w r b0 33 v) (h : DataW.Trod enc Try.prog w base spare held 33 v d p) :
    ∃ (x : S33) (A : Option Addr) (c : Nat), v = .agg #[.int .i64 x.f0, .slice A x.f1.length c, .int .i64 x.f2, .int .i64 x.f3] ∧ x.f1.length ≤ c ∧ Kd.C (Kd.int .u8) w A x.f1.length x.f1 := by
  obtain ⟨v0, v1, v2, v3, y0, y1, y2, y3, n, rfl, _, _, t0, t1, t2, t3⟩ := open_agg4 Try.underlying33 (by kernel_rfl) (by kernel_rfl) hv h
  obtain ⟨n0, e0, _⟩ := DataW.trod_int Try.underlying3 t0
  obtain ⟨n2, e2, _⟩ := DataW.trod_int Try.underlying3 t2
  obtain ⟨n3, e3, _⟩ := DataW.trod_int Try.underlying3 t3
  obtain ⟨A, c, s, rfl, hc, hC⟩ := bytes_C t1
  obtain rfl : v0 = .int .i64 n0 := by simpa using e0
  obtain rfl : v2 = .int .i64 n2 := by simpa using e2
  obtain rfl : v3 = .int .i64 n3 := by simpa using e3
  exact ⟨⟨n0, s, n2, n3⟩, A, c, rfl, hc, hC⟩
/-- The four cells of a key that is read. -/
theorem key_cells {a : Addr} {i fu : Nat} {x : DataW H × List MemPlace} (h : ∃ cs, w.cells? base (a.add (i * Try.prog.cellsOf 33)) (Try.prog.cellsOf 33) = some cs ∧ DataW.trod enc Try.prog w base spare held fu 33 cs = some x) :
    ∃ (v0 v1 v2 v3 : Value) (n : Nat) (y0 y1 y2 y3 : DataW H × List MemPlace), w.cell? (a.add (i * 4 + 0)) = some v0 ∧ w.cell? (a.add (i * 4 + 1)) = some v1 ∧ w.cell? (a.add (i * 4 + 2)) = some v2 ∧ w.cell? (a.add (i * 4 + 3)) = some v3 ∧
      DataW.trod enc Try.prog w base spare held n 3 [v0] = some y0 ∧ DataW.trod enc Try.prog w base spare held n 22 [v1] = some y1 ∧ DataW.trod enc Try.prog w base spare held n 3 [v2] = some y2 ∧ DataW.trod enc Try.prog w base spare held n 3 [v3] = some y3 := by
  have e33 : Try.prog.cellsOf 33 = 4 := by kernel_rfl
  have e3 : Try.prog.cellsOf 3 = 1 := by kernel_rfl
  have e22 : Try.prog.cellsOf 22 = 1 := by kernel_rfl
  obtain ⟨cs, hc, ht⟩ := h
  rw [e33] at hc
  obtain ⟨_, hlen, hat⟩ := World.cells?_some hc
  obtain ⟨ys, n, _, _, _, hyl, hf⟩ := DataW.trod_struct Try.underlying33 ht
  match cs, hlen with
  | [v0, v1, v2, v3], _ =>
    match ys, hyl with
    | [y0, y1, y2, y3], _ =>
      refine ⟨v0, v1, v2, v3, n, y0, y1, y2, y3, ?_, ?_, ?_, ?_, ?_, ?_, ?_, ?_⟩
      · rw [← Go.Deep.add_add]; exact hat 0 (by omega)
      · rw [← Go.Deep.add_add]; exact hat 1 (by omega)
      · rw [← Go.Deep.add_add]; exact hat 2 (by omega)
      · rw [← Go.Deep.add_add]; exact hat 3 (by omega)
      · simpa [e3] using hf 0 _ rfl
      · simpa [e22] using hf 1 _ rfl
      · simpa [e3] using hf 2 _ rfl
      · simpa [e3] using hf 3 _ rfl
/-- A slice of keys. -/
theorem open_keys {r : Reach} {b0 : Nat} {v : Value} {d : DataW H} {p : List MemPlace} (hv : Value.okWide Try.prog w r b0 30 v) (h : DataW.Trod enc Try.prog w base spare held 30 v d p) :
    ∃ (l : List S33) (A : Option Addr) (c : Nat), v = .slice A l.length c ∧ l.length ≤ c ∧ Kd.C k33 w A l.length l := by
  obtain ⟨A0, len0, cap0, rfl⟩ := okWide_slice Try.underlying30 hv
  obtain ⟨fuel, hf⟩ := h
  rcases open_slice Try.underlying30 hf with ⟨hcs, _⟩ | ⟨a, l, c, m, fu, D, Pl, hcs, _, hl, hm, hmm, _, hi⟩
  · simp [Value.cells] at hcs
    obtain ⟨rfl, rfl, rfl⟩ := hcs
    exact ⟨[], none, 0, rfl, Nat.le_refl _, rfl, by simp, fun h => absurd h (by simp)⟩
  · simp [Value.cells] at hcs
    obtain ⟨rfl, rfl, rfl⟩ := hcs
    have hlm : len0 ≤ m := by rw [hmm]; split <;> omega
    have hx : ∀ i : Nat, ∃ x : S33, i < len0 → ∃ (A1 : Option Addr) (c1 : Nat), x.f1.length ≤ c1 ∧ Kd.C (Kd.int .u8) w A1 x.f1.length x.f1 ∧ w.cell? (a.add (i * 4 + 0)) = some (.int .i64 x.f0) ∧ w.cell? (a.add (i * 4 + 1)) = some (.slice A1 x.f1.length c1) ∧ w.cell? (a.add (i * 4 + 2)) = some (.int .i64 x.f2) ∧ w.cell? (a.add (i * 4 + 3)) = some (.int .i64 x.f3) := by
      intro i
      by_cases hil : i < len0
      · obtain ⟨v0, v1, v2, v3, n, y0, y1, y2, y3, c0, c1, c2, c3, t0, t1, t2, t3⟩ := key_cells (hi i (by omega))
        obtain ⟨n0, e0, _⟩ := DataW.trod_int Try.underlying3 t0
        obtain ⟨n2, e2, _⟩ := DataW.trod_int Try.underlying3 t2
        obtain ⟨n3, e3, _⟩ := DataW.trod_int Try.underlying3 t3
        obtain ⟨A, c, s, rfl, hc, hC⟩ := bytes_C t1
        obtain rfl : v0 = .int .i64 n0 := by simpa using e0
        obtain rfl : v2 = .int .i64 n2 := by simpa using e2
        obtain rfl : v3 = .int .i64 n3 := by simpa using e3
        exact ⟨⟨n0, s, n2, n3⟩, fun _ => ⟨A, c, hc, hC, c0, c1, c2, c3⟩⟩
      · exact ⟨z33, fun h => absurd h hil⟩
    have hX : ∃ X : Nat → S33, ∀ i, i < len0 → ∃ (A1 : Option Addr) (c1 : Nat), (X i).f1.length ≤ c1 ∧ Kd.C (Kd.int .u8) w A1 (X i).f1.length (X i).f1 ∧ w.cell? (a.add (i * 4 + 0)) = some (.int .i64 (X i).f0) ∧ w.cell? (a.add (i * 4 + 1)) = some (.slice A1 (X i).f1.length c1) ∧ w.cell? (a.add (i * 4 + 2)) = some (.int .i64 (X i).f2) ∧ w.cell? (a.add (i * 4 + 3)) = some (.int .i64 (X i).f3) := Classical.axiomOfChoice hx
    obtain ⟨X, hX⟩ := hX
    have hlen : ((List.range len0).map X).length = len0 := by simp
    refine ⟨(List.range len0).map X, some a, cap0, by rw [hlen], by omega, by rw [hlen], by rw [hlen]; unfold maxLen at hm; omega, fun _ => ⟨a, rfl, fun j p hj => ?_⟩⟩
    have hjl : j < len0 := by
      have := (List.getElem?_eq_some_iff.mp hj).1
      simpa using this
    obtain rfl : X j = p := by simpa [hjl] using hj
    obtain ⟨A1, c1, hc1, hC1, g0, g1, g2, g3⟩ := hX j hjl
    refine ⟨_, rfl, k33_mk w (X j) hc1 hC1, fun i u hu => ?_⟩
    have hi4 : i < 4 := by
      have := (List.getElem?_eq_some_iff.mp hu).1
      simpa using this
    rw [show k33.sz = 4 from rfl]
    obtain rfl | rfl | rfl | rfl : i = 0 ∨ i = 1 ∨ i = 2 ∨ i = 3 := by omega
    · simp at hu; subst hu; exact g0
    · simp at hu; subst hu; exact g1
    · simp at hu; subst hu; exact g2
    · simp at hu; subst hu; exact g3
end
end Go.Proofs.Ytijpiaiklojafaa.OpenK
