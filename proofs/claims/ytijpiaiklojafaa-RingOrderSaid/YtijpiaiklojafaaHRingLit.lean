/-
  For the chapter's examples: rows of keys that are written out, and the functions on them.
-/
import Derived.Test.YtijpiaiklojafaaHAdd
import Derived.Test.YtijpiaiklojafaaSF20
import Derived.Test.YtijpiaiklojafaaSF22
import Derived.Test.YtijpiaiklojafaaSF25
import Derived.Test.YtijpiaiklojafaaSF30
namespace Go.Proofs.Ytijpiaiklojafaa.S
set_option linter.unusedSimpArgs false
set_option linter.unusedVariables false
open Go.RowKit Go.Proofs.YtijpiaiklojafaaW.PrintWords Go.Proofs.YtijpiaiklojafaaW.PrintLast Go.Proofs.YtijpiaiklojafaaW.PrintMore

theorem C_rows {W : World} {b : Nat} {f : Nat × Nat} {cs : List Value} (h : W.heap[b]? = some (.cells cs.toArray 33 f)) {xs : List S33} {n : Nat} (hn : xs.length = n) (hl : n ≤ 1000)
    (hall : ∀ j p, xs[j]? = some p → ∃ A c, p.f1.length ≤ c ∧ Kd.C (Kd.int .u8) W A p.f1.length p.f1 ∧ cs[j * 4]? = some (.int .i64 p.f0) ∧ cs[j * 4 + 1]? = some (.slice A p.f1.length c) ∧ cs[j * 4 + 2]? = some (.int .i64 p.f2) ∧ cs[j * 4 + 3]? = some (.int .i64 p.f3)) : Kd.C k33 W (some ⟨b, 0, none⟩) n xs := by
  refine ⟨hn, by omega, fun _ => ⟨_, rfl, fun j p hj => ?_⟩⟩
  obtain ⟨A, c, hc, hC, h0, h1, h2, h3⟩ := hall j p hj
  refine ⟨_, rfl, k33_mk W p hc hC, fun i u hu => ?_⟩
  have e : (⟨b, 0, none⟩ : Addr).add (j * k33.sz + i) = ⟨b, j * 4 + i, none⟩ := by
    rw [show k33.sz = 4 from rfl]
    simp [Addr.add]
    try omega
  rw [e, cell_of_row W b (j * 4 + i) _ 33 f h]
  have hi : i < 4 := by
    have := (List.getElem?_eq_some_iff.mp hu).1
    simpa using this
  obtain rfl | rfl | rfl | rfl : i = 0 ∨ i = 1 ∨ i = 2 ∨ i = 3 := by omega
  · simp at hu; subst hu; simpa using h0
  · simp at hu; subst hu; simpa using h1
  · simp at hu; subst hu; simpa using h2
  · simp at hu; subst hu; simpa using h3
theorem C_byte {W : World} {b : Nat} {x : Int} {f : Nat × Nat} (h : W.heap[b]? = some (.cells #[.int .u8 x] 5 f)) : Kd.C (Kd.int .u8) W (some ⟨b, 0, none⟩) 1 [x] := by
  refine ⟨rfl, by omega, fun _ => ⟨_, rfl, fun j p hj => ?_⟩⟩
  have hj0 : j = 0 := by
    have := (List.getElem?_eq_some_iff.mp hj).1
    simp at this
    exact this
  subst hj0
  obtain rfl : x = p := by simpa using hj
  refine ⟨[.int .u8 x], rfl, rfl, fun i u hu => ?_⟩
  have hi : i = 0 := by
    have := (List.getElem?_eq_some_iff.mp hu).1
    simpa using this
  subst hi
  obtain rfl : Value.int .u8 x = u := by simpa using hu
  exact (cell_of_row W b 0 _ 5 f h).trans rfl
/-- The list with the two keys; with the three. -/
theorem C_two {W : World} {b : Nat} {f : Nat × Nat} {x y : S33} {Ax Ay : Option Addr} {cx cy : Nat}
    (h : W.heap[b]? = some (.cells #[.int .i64 x.f0, .slice Ax x.f1.length cx, .int .i64 x.f2, .int .i64 x.f3, .int .i64 y.f0, .slice Ay y.f1.length cy, .int .i64 y.f2, .int .i64 y.f3] 33 f))
    (lx : x.f1.length ≤ cx) (hx : Kd.C (Kd.int .u8) W Ax x.f1.length x.f1) (ly : y.f1.length ≤ cy) (hy : Kd.C (Kd.int .u8) W Ay y.f1.length y.f1) : Kd.C k33 W (some ⟨b, 0, none⟩) 2 [x, y] := by
  refine C_rows (cs := [_, _, _, _, _, _, _, _]) h rfl (by omega) fun j p hj => ?_
  have hlt : j < 2 := by
    have := (List.getElem?_eq_some_iff.mp hj).1
    simpa using this
  obtain rfl | rfl : j = 0 ∨ j = 1 := by omega
  · obtain rfl : x = p := by simpa using hj
    exact ⟨Ax, cx, lx, hx, rfl, rfl, rfl, rfl⟩
  · obtain rfl : y = p := by simpa using hj
    exact ⟨Ay, cy, ly, hy, rfl, rfl, rfl, rfl⟩
theorem C_three {W : World} {b : Nat} {f : Nat × Nat} {x y z : S33} {Ax Ay Az : Option Addr} {cx cy cz : Nat}
    (h : W.heap[b]? = some (.cells #[.int .i64 x.f0, .slice Ax x.f1.length cx, .int .i64 x.f2, .int .i64 x.f3, .int .i64 y.f0, .slice Ay y.f1.length cy, .int .i64 y.f2, .int .i64 y.f3, .int .i64 z.f0, .slice Az z.f1.length cz, .int .i64 z.f2, .int .i64 z.f3] 33 f))
    (lx : x.f1.length ≤ cx) (hx : Kd.C (Kd.int .u8) W Ax x.f1.length x.f1) (ly : y.f1.length ≤ cy) (hy : Kd.C (Kd.int .u8) W Ay y.f1.length y.f1) (lz : z.f1.length ≤ cz) (hz : Kd.C (Kd.int .u8) W Az z.f1.length z.f1) : Kd.C k33 W (some ⟨b, 0, none⟩) 3 [x, y, z] := by
  refine C_rows (cs := [_, _, _, _, _, _, _, _, _, _, _, _]) h rfl (by omega) fun j p hj => ?_
  have hlt : j < 3 := by
    have := (List.getElem?_eq_some_iff.mp hj).1
    simpa using this
  obtain rfl | rfl | rfl : j = 0 ∨ j = 1 ∨ j = 2 := by omega
  · obtain rfl : x = p := by simpa using hj
    exact ⟨Ax, cx, lx, hx, rfl, rfl, rfl, rfl⟩
  · obtain rfl : y = p := by simpa using hj
    exact ⟨Ay, cy, ly, hy, rfl, rfl, rfl, rfl⟩
  · obtain rfl : z = p := by simpa using hj
    exact ⟨Az, cz, lz, hz, rfl, rfl, rfl, rfl⟩

theorem V_of_C {W : World} {A : Option Addr} {c n base : Nat} {l : List S33} (hC : Kd.C k33 W A n l) (hn : l.length = n) (hc : n ≤ c) : Kd.V k33 33 W base (fun k => k < W.heap.size) (.slice A l.length c) l := by
  subst hn
  exact Kd.V_mk hc (Kd.C_F k33_heap hC)
theorem V_of_Ci {W : World} {A : Option Addr} {c n base : Nat} {l : List Int} (hC : Kd.C (Kd.int .u8) W A n l) (hn : l.length = n) (hc : n ≤ c) : Kd.V (Kd.int .u8) 5 W base (fun k => k < W.heap.size) (.slice A l.length c) l := by
  subst hn
  exact Kd.V_mk hc (Kd.C_F (Kd.heap_int .u8) hC)

theorem find_lit (W : World) (A : Option Addr) (n c : Nat) (l : List S33) (id r1 : Int) (r2 : List Int) (m : Nat) (r3 r4 r5 : Int) (hn : l.length = n) (hc : n ≤ c) (hm : r2.length = m) (hC : Kd.C k33 W A n l) (h : ring_Find.f 300 l id = some (r1, r2, r3, r4, r5)) :
    Calls Try.prog 20 #[.slice A n c, .int .i64 id] W fun e w' => ∃ (A' : Option Addr) (c' : Nat), e = .returned (.tuple #[.agg #[.int .i64 r1, .slice A' m c', .int .i64 r3, .int .i64 r4], .int .i64 r5]) ∧ m ≤ c' ∧ Kd.C (Kd.int .u8) w' A' m r2 ∧ Below W.heap.size W w' := by
  subst hn hm
  refine (ring_Find.calls 300 _ A c l id r1 r2 r3 r4 r5 W (V_of_C hC rfl hc) h).mono ?_
  rintro e w' ⟨v, rfl, hv, hb⟩
  obtain ⟨A', c', rfl⟩ := Kd.V_slice hv
  exact ⟨A', c', rfl, (Kd.V_reads' hv).2.1, (Kd.V_reads' hv).2.2, hb⟩
theorem on_lit (W : World) (A : Option Addr) (n c : Nat) (l : List S33) (id r1 : Int) (r2 : List Int) (m : Nat) (r3 r4 r5 : Int) (hn : l.length = n) (hc : n ≤ c) (hm : r2.length = m) (hC : Kd.C k33 W A n l) (h : ring_On.f 300 l id = some (r1, r2, r3, r4, r5)) :
    Calls Try.prog 22 #[.slice A n c, .int .i64 id] W fun e w' => ∃ (A' : Option Addr) (c' : Nat), e = .returned (.tuple #[.agg #[.int .i64 r1, .slice A' m c', .int .i64 r3, .int .i64 r4], .int .i64 r5]) ∧ m ≤ c' ∧ Kd.C (Kd.int .u8) w' A' m r2 ∧ Below W.heap.size W w' := by
  subst hn hm
  refine (ring_On.calls 300 _ A c l id r1 r2 r3 r4 r5 W (V_of_C hC rfl hc) h).mono ?_
  rintro e w' ⟨v, rfl, hv, hb⟩
  obtain ⟨A', c', rfl⟩ := Kd.V_slice hv
  exact ⟨A', c', rfl, (Kd.V_reads' hv).2.1, (Kd.V_reads' hv).2.2, hb⟩
theorem add_lit (W : World) (A : Option Addr) (n c : Nat) (l : List S33) (a : Int) (A1 : Option Addr) (q c1 : Nat) (l1 : List Int) (a2 a3 : Int) (r1 : List S33) (m : Nat) (r2 : Int) (hn : l.length = n) (hc : n ≤ c) (hq : l1.length = q) (hc1 : q ≤ c1) (hm : r1.length = m) (hC : Kd.C k33 W A n l) (hC1 : Kd.C (Kd.int .u8) W A1 q l1) (h : ring_Add.f l a l1 a2 a3 = some (r1, r2)) :
    Calls Try.prog 28 #[.slice A n c, .agg #[.int .i64 a, .slice A1 q c1, .int .i64 a2, .int .i64 a3]] W fun e w' => ∃ (A' : Option Addr) (c' : Nat), e = .returned (.tuple #[.slice A' m c', .int .i64 r2]) ∧ m ≤ c' ∧ Kd.C k33 w' A' m r1 ∧ Below W.heap.size W w' := by
  subst hn hq hm
  refine (ring_Add.calls _ A c l a _ A1 c1 l1 a2 a3 r1 r2 W (V_of_C hC rfl hc) (V_of_Ci hC1 rfl hc1) h).mono ?_
  rintro e w' ⟨v, rfl, hv, hb⟩
  obtain ⟨A', c', rfl⟩ := Kd.N_slice hv
  exact ⟨A', c', rfl, (Kd.N_reads' hv).2.1, (Kd.N_reads' hv).2.2, hb⟩
theorem is_lit (W : World) (A : Option Addr) (n c : Nat) (l : List S33) (r : Bool) (hn : l.length = n) (hc : n ≤ c) (hC : Kd.C k33 W A n l) (h : ring_Is.f l = some r) :
    Calls Try.prog 26 #[.slice A n c] W fun e w' => e = .returned (.bool r) ∧ Below W.heap.size W w' := by
  subst hn
  exact ring_Is.calls A c l r W hC hc h
theorem sames_lit (W : World) (A A1 : Option Addr) (n c n1 c1 : Nat) (l l1 : List S33) (r : Bool) (hn : l.length = n) (hc : n ≤ c) (hn1 : l1.length = n1) (hc1 : n1 ≤ c1) (hC : Kd.C k33 W A n l) (hC1 : Kd.C k33 W A1 n1 l1) (h : gatelineref05_Sames.f 300 l l1 = some r) :
    Calls Try.prog 30 #[.slice A n c, .slice A1 n1 c1] W fun e w' => e = .returned (.bool r) ∧ Below W.heap.size W w' := by
  subst hn hn1
  exact gatelineref05_Sames.calls 300 A c l A1 c1 l1 r W hC hc hC1 hc1 h
theorem sameK_lit (W : World) (a0 a2 a3 b0 b2 b3 : Int) (A B : Option Addr) (n c m d : Nat) (l l1 : List Int) (r : Bool) (hn : l.length = n) (hc : n ≤ c) (hm : l1.length = m) (hd : m ≤ d) (hC : Kd.C (Kd.int .u8) W A n l) (hC1 : Kd.C (Kd.int .u8) W B m l1) (h : gatelineref05_Same.f 300 a0 l a2 a3 b0 l1 b2 b3 = some r) :
    Calls Try.prog 25 #[.agg #[.int .i64 a0, .slice A n c, .int .i64 a2, .int .i64 a3], .agg #[.int .i64 b0, .slice B m d, .int .i64 b2, .int .i64 b3]] W fun e w' => e = .returned (.bool r) ∧ Below W.heap.size W w' := by
  subst hn hm
  exact gatelineref05_Same.calls 300 a0 A c l a2 a3 b0 B d l1 b2 b3 r W hC hc hC1 hd h
end Go.Proofs.Ytijpiaiklojafaa.S
