/-
  ring.place: what it answers in a ring, as a Lean function, and that the Go code answers just this (a binary search by a function).
-/
import Derived.Test.YtijpiaiklojafaaHIs
import Derived.IntWalk
namespace Go.Proofs.Ytijpiaiklojafaa.S
set_option linter.unusedSimpArgs false
set_option linter.unusedVariables false
open Go.RowKit Go.Proofs.YtijpiaiklojafaaW.PrintWords Go.Proofs.YtijpiaiklojafaaW.PrintLast Go.Proofs.YtijpiaiklojafaaW.PrintMore

/-- How many keys have a lesser number. -/
def posL (a : Int) : List S33 → Nat
  | [] => 0
  | x :: r => if x.f0 < a then posL a r + 1 else 0
def hasL (a : Int) (l : List S33) : Bool := decide (posL a l < l.length ∧ (rd_T33 l (posL a l : Int)).f0 = a)
def ring_place.f (l0 : List (S33)) (a1 : Int) : Option (Int × Bool) := if isL (-1) l0 = true ∧ 0 ≤ a1 ∧ a1 < 100 then some ((posL a1 l0 : Int), hasL a1 l0) else none
theorem posL_le (a : Int) : ∀ l : List S33, posL a l ≤ l.length
  | [] => Nat.le_refl _
  | x :: r => by
    unfold posL
    have := posL_le a r
    split <;> simp <;> omega
theorem isL_at (a : Int) : ∀ (l : List S33) (last : Int), isL last l = true → ∀ (t : Nat) (h : t < l.length), last < l[t].f0 ∧ rightB l[t] = true ∧ (t < posL a l ↔ l[t].f0 < a)
  | [], _, _, t, h => by simp at h
  | x :: r, last, hi, t, h => by
    simp only [isL, Bool.and_eq_true, decide_eq_true_eq] at hi
    obtain ⟨⟨h1, h2⟩, h3⟩ := hi
    cases t with
    | zero =>
      refine ⟨h2, h1, ?_⟩
      show 0 < posL a (x :: r) ↔ x.f0 < a
      unfold posL
      by_cases e : x.f0 < a
      · rw [if_pos e]; exact ⟨fun _ => e, fun _ => by omega⟩
      · rw [if_neg e]; exact ⟨fun h => by omega, fun h => absurd h e⟩
    | succ t =>
      have ht : t < r.length := by simpa using h
      obtain ⟨i1, i2, i3⟩ := isL_at a r x.f0 h3 t ht
      refine ⟨by show last < r[t].f0; omega, i2, ?_⟩
      show t + 1 < posL a (x :: r) ↔ r[t].f0 < a
      unfold posL
      by_cases e : x.f0 < a
      · rw [if_pos e]
        constructor
        · intro h; exact i3.1 (by omega)
        · intro h; have := i3.2 h; omega
      · rw [if_neg e]
        exact ⟨fun h => by omega, fun h => by omega⟩
theorem right_in {x : S33} (h : rightB x = true) : 0 ≤ x.f0 ∧ x.f0 < 100 := by
  unfold rightB at h
  have := of_decide_eq_true h
  exact ⟨this.1, this.2.1⟩

set_option maxHeartbeats 2000000 in
theorem cmp_calls (x : S33) (A : Option Addr) (c : Nat) (a : Int) (w : World) (h0 : 0 ≤ x.f0) (h1 : x.f0 < 100) (h2 : 0 ≤ a) (h3 : a < 100) :
    Calls Try.prog 41 #[.agg #[.int .i64 x.f0, .slice A x.f1.length c, .int .i64 x.f2, .int .i64 x.f3], .int .i64 a] w fun e w' => e = .returned (.int .i64 (x.f0 - a)) ∧ Below w.heap.size w w' := by
  have hu33 := Try.underlying33
  go_enter Try.func41, Try.ntmps41
  go_wp2
  go_ret
  exact ⟨rfl, below_alloc (Below.refl _ w) _⟩
def BinOut (w0 : World) (p : Int) (b : Bool) (e : Ending) (w' : World) : Prop := e = .returned (.tuple #[.int .i64 p, .bool b]) ∧ Below w0.heap.size w0 w'
set_option maxRecDepth 100000 in
set_option maxHeartbeats 4000000 in
theorem bin_calls (A0 : Option Addr) (c0 : Nat) (l0 : List S33) (a : Int) (w : World) (hC : Kd.C k33 w A0 l0.length l0) (hc0 : l0.length ≤ c0) (hI : isL (-1) l0 = true) (ha0 : 0 ≤ a) (ha1 : a < 100) :
    Calls Try.prog 40 #[.slice A0 l0.length c0, .int .i64 a, .func (.func 41) #[] #[]] w (BinOut w (posL a l0) (hasL a l0)) := by
  have hl := isL_short hI
  have HC := Lib.hid hC
  have HI := Lib.hid hI
  clear hC hI
  go_enter Try.func40, Try.ntmps40
  go_wp2
  go_loopw [9, 10] (fun s9 s10 wr => ∃ (i j : Nat), i ≤ posL a l0 ∧ posL a l0 ≤ j ∧ j ≤ l0.length ∧ s9 = .int .i64 (i : Int) ∧ s10 = .int .i64 (j : Int) ∧ Hid (Below w.heap.size w wr))
    (fun s9 s10 _ => (intOf s10).toNat - (intOf s9).toNat)
  case atStart => exact ⟨0, l0.length, by omega, posL_le a l0, Nat.le_refl _, rfl, rfl, Lib.hid (Below.refl _ w)⟩
  case round =>
    obtain ⟨i, j, hi, hj, hjl, rfl, rfl, HB⟩ := hrel
    by_cases hlt : i < j
    · obtain ⟨m, hm⟩ : ∃ m, m = (i + j) / 2 := ⟨_, rfl⟩
      have hm0 : i ≤ m := by omega
      have hm1 : m < j := by omega
      have hml : m < l0.length := by omega
      have hmi : ((i : Int) + (j : Int)) / 2 = (m : Int) := by omega
      have hs0 : 0 ≤ (i : Int) + (j : Int) := by omega
      have hs1 : (i : Int) + (j : Int) ≤ 2000000 := by omega
      have hw1 : IntKind.u64.wrap ((i : Int) + (j : Int)) = (i : Int) + (j : Int) := by simp [IntKind.wrap, IntKind.bits, IntKind.signed]; omega
      have hw2 : IntKind.i64.wrap (m : Int) = (m : Int) := IntWalk.i64_in _ ⟨by omega, by omega⟩
      have HM := Lib.hid hm
      clear hm
      obtain ⟨ad, A1, c1, rfl, hx0, hx1, hx2, hx3, hl1, hi1⟩ := at_T33 HC.out (m : Int) (by omega) (by omega)
      obtain ⟨x, hx⟩ : ∃ x, x = rd_T33 l0 (m : Int) := ⟨_, rfl⟩
      rw [← hx] at hx0 hx1 hx2 hx3 hl1 hi1
      simp only [Int.toNat_natCast] at hx0 hx1 hx2 hx3
      replace hx0 := (HB.out.cell (World.block_lt_of_cell? w _ hx0)).trans hx0
      replace hx1 := (HB.out.cell (World.block_lt_of_cell? w _ hx1)).trans hx1
      replace hx2 := (HB.out.cell (World.block_lt_of_cell? w _ hx2)).trans hx2
      replace hx3 := (HB.out.cell (World.block_lt_of_cell? w _ hx3)).trans hx3
      obtain ⟨-, g2, g3⟩ := isL_at a l0 (-1) HI.out m hml
      rw [← rd_T33_get l0 m hml, ← hx] at g2 g3
      obtain ⟨k0, k1⟩ := right_in g2
      have HX := Lib.hid hx
      have HG := Lib.hid g3
      clear hx hi1 g2 g3
      have HS := Lib.hid (cmp_calls x A1 c1 a wr k0 k1 ha0 ha1)
      have hj0 : 0 ≤ (m : Int) := by omega
      have hj1 : (m : Int) < (l0.length : Int) := by omega
      by_cases hc : x.f0 - a < 0
      · go_wp2_with (go_at_call 41; (with_reducible refine HS.out.mono ?_); rintro e w2 ⟨rfl, hb2⟩)
        refine ⟨⟨m + 1, j, by have := HG.out.2 (by omega); omega, hj, hjl, by go_num, rfl, Lib.hid (below_step HB.out hb2)⟩, by simp [intOf]; omega⟩
      · go_wp2_with (go_at_call 41; (with_reducible refine HS.out.mono ?_); rintro e w2 ⟨rfl, hb2⟩)
        refine ⟨⟨i, m, hi, by have := mt HG.out.1 (by omega); omega, by omega, rfl, rfl, Lib.hid (below_step HB.out hb2)⟩, by simp [intOf]; omega⟩
    · obtain rfl : i = j := by omega
      have hip : i = posL a l0 := by omega
      by_cases hpl : i < l0.length
      · obtain ⟨ad, A1, c1, rfl, hx0, hx1, hx2, hx3, hl1, hi1⟩ := at_T33 HC.out (i : Int) (by omega) (by omega)
        obtain ⟨x, hx⟩ : ∃ x, x = rd_T33 l0 (i : Int) := ⟨_, rfl⟩
        rw [← hx] at hx0 hx1 hx2 hx3 hl1 hi1
        simp only [Int.toNat_natCast] at hx0 hx1 hx2 hx3
        replace hx0 := (HB.out.cell (World.block_lt_of_cell? w _ hx0)).trans hx0
        replace hx1 := (HB.out.cell (World.block_lt_of_cell? w _ hx1)).trans hx1
        replace hx2 := (HB.out.cell (World.block_lt_of_cell? w _ hx2)).trans hx2
        replace hx3 := (HB.out.cell (World.block_lt_of_cell? w _ hx3)).trans hx3
        obtain ⟨-, g2, g3⟩ := isL_at a l0 (-1) HI.out i hpl
        rw [← rd_T33_get l0 i hpl, ← hx] at g2 g3
        obtain ⟨k0, k1⟩ := right_in g2
        have hh : hasL a l0 = (x.f0 - a == 0) := by
          unfold hasL
          rw [← hip, ← hx]
          by_cases e : x.f0 = a
          · rw [decide_eq_true ⟨hpl, e⟩, e]; simp
          · rw [decide_eq_false (fun h => e h.2)]
            exact (beq_eq_false_iff_ne.2 (by omega)).symm
        have HH := Lib.hid hh
        have HX := Lib.hid hx
        have HP := Lib.hid hip
        clear hx hi1 g2 g3 hip hh
        have HS := Lib.hid (cmp_calls x A1 c1 a wr k0 k1 ha0 ha1)
        have hj0 : 0 ≤ (i : Int) := by omega
        have hj1 : (i : Int) < (l0.length : Int) := by omega
        go_wp2_with (go_at_call 41; (with_reducible refine HS.out.mono ?_); rintro e w2 ⟨rfl, hb2⟩)
        go_ret2
        exact ⟨by rw [← HP.out, HH.out]; rfl, below_step HB.out hb2⟩
      · have hh : hasL a l0 = false := by
          unfold hasL
          rw [← hip]
          exact decide_eq_false (fun h => hpl h.1)
        have HH := Lib.hid hh
        clear hh
        have HP := Lib.hid hip
        clear hip
        go_wp2
        go_ret2
        exact ⟨by rw [← HP.out, HH.out]; rfl, HB.out⟩
set_option maxHeartbeats 2000000 in
theorem ring_place.calls (A0 : Option Addr) (c0 : Nat) (l0 : List (S33)) (a1 : Int) (r1 : Int) (r2 : Bool) (w : World) (hr0 : Kd.C k33 w A0 l0.length l0) (hc0 : l0.length ≤ c0) (h : ring_place.f l0 a1 = some (r1, r2)) :
    Calls Try.prog 34 #[.slice A0 l0.length c0, .int .i64 a1] w fun e w' => e = .returned (.tuple #[.int .i64 r1, .bool r2]) ∧ Below w.heap.size w w' := by
  unfold ring_place.f at h
  split at h
  case isFalse => cases h
  rename_i hc
  obtain ⟨h1, h2, h3⟩ := hc
  simp only [Option.some.injEq, Prod.mk.injEq] at h
  obtain ⟨rfl, rfl⟩ := h
  have HS := Lib.hid (bin_calls A0 c0 l0 a1 w hr0 hc0 h1 h2 h3)
  clear h1 hr0
  go_enter Try.func34, Try.ntmps34
  go_wp2_with (go_at_call 40; (with_reducible refine HS.out.mono ?_); rintro e w2 ⟨rfl, hb2⟩)
  go_ret2
  exact ⟨rfl, hb2⟩
end Go.Proofs.Ytijpiaiklojafaa.S
