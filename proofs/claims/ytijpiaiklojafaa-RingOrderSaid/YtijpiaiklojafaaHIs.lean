/-
  ring.Is: what it answers, as a Lean function, and that the Go code answers just this (a closure that keeps the number before).
-/
import Derived.Test.YtijpiaiklojafaaSF37
import Derived.RangeFuncBox
import Derived.RangeFuncNested
import Derived.Lib.Hide
namespace Go.Proofs.Ytijpiaiklojafaa.S
set_option linter.unusedSimpArgs false
set_option linter.unusedVariables false
open Go.RowKit Go.Proofs.YtijpiaiklojafaaW.PrintWords Go.Proofs.YtijpiaiklojafaaW.PrintLast Go.Proofs.YtijpiaiklojafaaW.PrintMore

def rightB (x : S33) : Bool := decide (0 ≤ x.f0 ∧ x.f0 < 100 ∧ 1 ≤ x.f1.length ∧ x.f1.length ≤ 64 ∧ 0 ≤ x.f2 ∧ x.f2 ≤ x.f3 ∧ x.f3 ≤ 99999)
def isL (last : Int) : List S33 → Bool
  | [] => true
  | x :: r => rightB x && decide (last < x.f0) && isL x.f0 r
/-- Where a key is not right, or does not follow; -1 where all are and do. -/
def badI (last : Int) (i : Int) : List S33 → Int
  | [] => -1
  | x :: r => if (rightB x && decide (last < x.f0)) = true then badI x.f0 (i + 1) r else i
def ring_Is.f (l0 : List (S33)) : Option (Bool) := some (isL (-1) l0)
theorem right_f (x : S33) : ring_right.f x.f0 x.f1 x.f2 x.f3 = some (rightB x) := by
  unfold ring_right.f rightB
  by_cases h1 : x.f0 ≥ 0
  · rw [if_pos h1]
    by_cases h2 : x.f0 < 100
    · rw [if_pos h2]
      by_cases h3 : (x.f1.length : Int) ≥ 1
      · rw [if_pos h3]
        by_cases h4 : (x.f1.length : Int) ≤ 64
        · rw [if_pos h4]
          by_cases h5 : x.f2 ≥ 0
          · rw [if_pos h5]
            by_cases h6 : x.f2 ≤ x.f3
            · rw [if_pos h6]
              congr 1
              exact decide_eq_decide.2 ⟨fun h => ⟨h1, h2, by omega, by omega, h5, h6, h⟩, fun h => h.2.2.2.2.2.2⟩
            · rw [if_neg h6, decide_eq_false (fun h => h6 h.2.2.2.2.2.1)]
          · rw [if_neg h5, decide_eq_false (fun h => h5 h.2.2.2.2.1)]
        · rw [if_neg h4, decide_eq_false (fun h => h4 (by have := h.2.2.2.1; omega))]
      · rw [if_neg h3, decide_eq_false (fun h => h3 (by have := h.2.2.1; omega))]
    · rw [if_neg h2, decide_eq_false (fun h => h2 h.2.1)]
  · rw [if_neg h1, decide_eq_false (fun h => h1 h.1)]
theorem badI_isL : ∀ (l : List S33) (last i : Int), 0 ≤ i → (badI last i l < 0 ↔ isL last l = true)
  | [], last, i, h => by simp [badI, isL]
  | x :: r, last, i, h => by
    unfold badI isL
    by_cases e : (rightB x && decide (last < x.f0)) = true
    · rw [if_pos e, e, Bool.true_and]
      exact badI_isL r x.f0 (i + 1) (by omega)
    · rw [if_neg e]
      simp only [Bool.not_eq_true] at e
      rw [e]
      simp
      omega

theorem Boxed_below {w w' : World} {B t : Nat} {v : Value} (h : Boxed w B t v) (hb : Below w.heap.size w w') : Boxed w' B t v := (hb.block B h.lt).trans h
theorem isL_len : ∀ (l : List S33) (last : Int), last ≤ 99 → isL last l = true → (l.length : Int) ≤ 99 - last
  | [], last, h, _ => by simp; omega
  | x :: r, last, h, hi => by
    simp only [isL, Bool.and_eq_true, decide_eq_true_eq] at hi
    obtain ⟨⟨h1, h2⟩, h3⟩ := hi
    have h4 : x.f0 < 100 := by
      unfold rightB at h1
      exact (of_decide_eq_true h1).2.1
    have := isL_len r x.f0 (by omega) h3
    simp only [List.length_cons]
    omega
theorem isL_short {l : List S33} (h : isL (-1) l = true) : l.length ≤ 100 := by
  have := isL_len l (-1) (by omega) h
  omega
def Is1Out (w0 : World) (B : Nat) (b : Bool) (f0 : Int) (e : Ending) (w' : World) : Prop := e = .returned (.bool b) ∧ Boxed w' B 3 (.int .i64 f0) ∧ Below w0.heap.size w0 w'
set_option maxHeartbeats 2000000 in
theorem is1_calls (w0 : World) (B : Nat) (hB : w0.heap.size ≤ B) (x : S33) (A : Option Addr) (c : Nat) (was : Int) (w : World) (hC : Kd.C (Kd.int .u8) w0 A x.f1.length x.f1) (hc : x.f1.length ≤ c) (hb : Boxed w B 3 (.int .i64 was)) (hbel : Below w0.heap.size w0 w) :
    Calls Try.prog 36 #[.agg #[.int .i64 x.f0, .slice A x.f1.length c, .int .i64 x.f2, .int .i64 x.f3], .pointer (some ⟨B, 0, none⟩)] w (Is1Out w0 B (!(rightB x && decide (was < x.f0))) x.f0) := by
  have hu33 := Try.underlying33
  have h1 := hb.cell
  have h2 := hb.frozen
  have h3 := hb.lt
  have hsz := hbel.size
  have HW : Below w0.heap.size w0 ((w.setCell ⟨B, 0, none⟩ (.int .i64 x.f0)).alloc (.cells #[.int .i64 x.f0, .slice A x.f1.length c, .int .i64 x.f2, .int .i64 x.f3] 33)) := below_alloc (hbel.setCell (p := ⟨B, 0, none⟩) hB _) _
  have HR := Lib.hid (ring_right.calls x.f0 A c x.f1 x.f2 x.f3 (rightB x) _ (Kd.C_below hC HW) hc (right_f x))
  have HX : Boxed ((w.setCell ⟨B, 0, none⟩ (.int .i64 x.f0)).alloc (.cells #[.int .i64 x.f0, .slice A x.f1.length c, .int .i64 x.f2, .int .i64 x.f3] 33)) B 3 (.int .i64 x.f0) := (hb.set _).alloc _
  have HN := cell_of_row ((w.setCell ⟨B, 0, none⟩ (.int .i64 x.f0)).alloc (.cells #[.int .i64 x.f0, .slice A x.f1.length c, .int .i64 x.f2, .int .i64 x.f3] 33)) w.heap.size 0 _ 33 _ (by simpa using heap_alloc_new (w.setCell ⟨B, 0, none⟩ (.int .i64 x.f0)) (.cells #[.int .i64 x.f0, .slice A x.f1.length c, .int .i64 x.f2, .int .i64 x.f3] 33))
  have H0 := Lib.hid HW
  have HX := Lib.hid HX
  have HN := Lib.hid HN
  clear HW
  cases hr : rightB x with
  | false =>
    rw [hr] at HR
    clear hr
    go_enter Try.func36, Try.ntmps36
    go_wp2_with (go_at_call 37; (with_reducible refine HR.out.mono ?_); rintro e w2 ⟨rfl, hb2⟩)
    go_ret
    exact ⟨rfl, Boxed_below HX.out hb2, H0.out.trans (hb2.mono (by simp; omega))⟩
  | true =>
    rw [hr] at HR
    clear hr
    have hd : decide (x.f0 ≤ was) = !(true && decide (was < x.f0)) := by
      by_cases h : was < x.f0
      · rw [decide_eq_true h, decide_eq_false (by omega)]; rfl
      · rw [decide_eq_false h, decide_eq_true (by omega)]; rfl
    rw [← hd]
    have HD := Lib.hid hd
    clear hd
    go_enter Try.func36, Try.ntmps36
    go_wp2_with (go_at_call 37; (with_reducible refine HR.out.mono ?_); rintro e w2 ⟨rfl, hb2⟩; have hn2 := (hb2.cell (p := ⟨w.heap.size, 0, none⟩) (by simp)).trans HN.out)
    go_ret
    exact ⟨rfl, Boxed_below HX.out hb2, H0.out.trans (hb2.mono (by simp; omega))⟩

/-- The row's search: the first key that is not right, or does not follow. -/
def IdxOut (w0 : World) (n : Int) (e : Ending) (w' : World) : Prop := e = .returned (.int .i64 n) ∧ Below w0.heap.size w0 w'
theorem rd_T33_get (l : List S33) (i : Nat) (h : i < l.length) : rd_T33 l (i : Int) = l[i] := by
  simp [rd_T33, List.getD_eq_getElem?_getD, List.getElem?_eq_getElem h]
set_option maxHeartbeats 4000000 in
theorem idx_calls (w0 : World) (B : Nat) (hB : w0.heap.size ≤ B) (A0 : Option Addr) (c0 : Nat) (l0 : List S33) (hC : Kd.C k33 w0 A0 l0.length l0) (hc0 : l0.length ≤ c0) (hl : l0.length ≤ 9223372036854775807) (w : World) (hb : Boxed w B 3 (.int .i64 (-1))) (hbel : Below w0.heap.size w0 w) :
    Calls Try.prog 42 #[.slice A0 l0.length c0, .func (.func 36) #[] #[.pointer (some ⟨B, 0, none⟩)]] w (IdxOut w0 (badI (-1) 0 l0)) := by
  have HB := Lib.hid hb
  have HBel := Lib.hid hbel
  have HC := Lib.hid hC
  clear hb hbel hC
  go_enter Try.func42, Try.ntmps42
  go_wp2
  go_loopw [8] (fun s8 wr => ∃ (i : Nat) (last : Int), i ≤ l0.length ∧ s8 = .int .i64 (i : Int) ∧ Hid (Boxed wr B 3 (.int .i64 last)) ∧ Hid (Below w0.heap.size w0 wr) ∧ Hid (badI last (i : Int) (l0.drop i) = badI (-1) 0 l0))
    (fun s8 _ => l0.length - (intOf s8).toNat)
  case atStart => exact ⟨0, -1, by omega, rfl, HB, HBel, Lib.hid rfl⟩
  case round =>
    clear HB HBel
    obtain ⟨i, last, hi, rfl, HB, HBel, HI⟩ := hrel
    by_cases hlt : i < l0.length
    · have j0 : 0 ≤ (i : Int) := by omega
      have j1 : (i : Int) < (l0.length : Int) := by omega
      obtain ⟨ad, A1, c1, rfl, hx0, hx1, hx2, hx3, hl1, hi1⟩ := at_T33 HC.out (i : Int) j0 j1
      obtain ⟨x, hx⟩ : ∃ x, x = rd_T33 l0 (i : Int) := ⟨_, rfl⟩
      rw [← hx] at hx0 hx1 hx2 hx3 hl1 hi1
      simp only [Int.toNat_natCast] at hx0 hx1 hx2 hx3
      have hd : l0.drop i = x :: l0.drop (i + 1) := by rw [hx, rd_T33_get l0 i hlt, List.drop_eq_getElem_cons hlt]
      replace hx0 := (HBel.out.cell (World.block_lt_of_cell? w0 _ hx0)).trans hx0
      replace hx1 := (HBel.out.cell (World.block_lt_of_cell? w0 _ hx1)).trans hx1
      replace hx2 := (HBel.out.cell (World.block_lt_of_cell? w0 _ hx2)).trans hx2
      replace hx3 := (HBel.out.cell (World.block_lt_of_cell? w0 _ hx3)).trans hx3
      have HD := Lib.hid hd
      have HX := Lib.hid hx
      have HS := Lib.hid (is1_calls w0 B hB x A1 c1 last wr hi1 hl1 HB.out HBel.out)
      clear hd hx hi1
      cases hr : (rightB x && decide (last < x.f0)) with
      | true =>
        rw [hr] at HS
        have HR := Lib.hid hr
        clear hr
        go_wp2_with (go_at_call 36; (with_reducible refine HS.out.mono ?_); rintro e w2 ⟨rfl, hb2, hbel2⟩)
        go_roundw
        case rel => exact ⟨i + 1, x.f0, by omega, by go_num, Lib.hid hb2, Lib.hid hbel2, Lib.hid (by rw [← HI.out, HD.out, badI, if_pos HR.out]; rfl)⟩
        case measure => simp [intOf]; omega
      | false =>
        rw [hr] at HS
        have HR := Lib.hid hr
        clear hr
        go_wp2_with (go_at_call 36; (with_reducible refine HS.out.mono ?_); rintro e w2 ⟨rfl, hb2, hbel2⟩)
        go_ret
        refine ⟨?_, hbel2⟩
        show Ending.returned (.int .i64 (i : Int)) = _
        rw [← HI.out, HD.out, badI, if_neg (by rw [HR.out]; simp)]
    · obtain rfl : i = l0.length := by omega
      go_wp2
      go_ret
      refine ⟨?_, HBel.out⟩
      show Ending.returned (.int .i64 (-1)) = _
      rw [← HI.out, List.drop_length]
      rfl
def ConOut (w0 : World) (b : Bool) (e : Ending) (w' : World) : Prop := e = .returned (.bool b) ∧ Below w0.heap.size w0 w'
set_option maxHeartbeats 4000000 in
theorem con_calls (w0 : World) (B : Nat) (hB : w0.heap.size ≤ B) (A0 : Option Addr) (c0 : Nat) (l0 : List S33) (hC : Kd.C k33 w0 A0 l0.length l0) (hc0 : l0.length ≤ c0) (hl : l0.length ≤ 9223372036854775807) (w : World) (hb : Boxed w B 3 (.int .i64 (-1))) (hbel : Below w0.heap.size w0 w) :
    Calls Try.prog 35 #[.slice A0 l0.length c0, .func (.func 36) #[] #[.pointer (some ⟨B, 0, none⟩)]] w (ConOut w0 (!isL (-1) l0)) := by
  have HS := Lib.hid (idx_calls w0 B hB A0 c0 l0 hC hc0 hl w hb hbel)
  have HI := badI_isL l0 (-1) 0 (by omega)
  have hd : decide (0 ≤ badI (-1) 0 l0) = !isL (-1) l0 := by
    cases h : isL (-1) l0 with
    | true => rw [h] at HI; have := HI.2 rfl; rw [decide_eq_false (by omega)]; rfl
    | false =>
      rw [h] at HI
      have h2 : ¬ badI (-1) 0 l0 < 0 := fun h2 => absurd (HI.1 h2) (by simp)
      rw [decide_eq_true (by omega)]
      rfl
  rw [← hd]
  clear hd HI hb hbel hC
  go_enter Try.func35, Try.ntmps35
  go_wp2_with (go_at_call 42; (with_reducible refine HS.out.mono ?_); rintro e w2 ⟨rfl, hbel2⟩)
  go_ret
  exact ⟨rfl, hbel2⟩
set_option maxHeartbeats 4000000 in
theorem ring_Is.calls (A0 : Option Addr) (c0 : Nat) (l0 : List (S33)) (r : Bool) (w : World) (hr0 : Kd.C k33 w A0 l0.length l0) (hc0 : l0.length ≤ c0) (h : ring_Is.f l0 = some r) :
    Calls Try.prog 26 #[.slice A0 l0.length c0] w fun e w' => e = .returned (.bool r) ∧ Below w.heap.size w w' := by
  cases h
  have hl : l0.length ≤ 9223372036854775807 := hr0.2.1
  have hb0 : Below w.heap.size w (w.alloc (.cells #[.int .i64 (-1)] 3)) := below_alloc (Below.refl _ w) _
  have HS := Lib.hid (con_calls w w.heap.size (Nat.le_refl _) A0 c0 l0 hr0 hc0 hl _ (Boxed.new w 3 (.int .i64 (-1))) hb0)
  clear hb0 hr0
  have hd : (!(!isL (-1) l0)) = isL (-1) l0 := Bool.not_not _
  have HD := Lib.hid hd
  clear hd
  have hmf : ∀ (fn : Fn) (first cap : Array Value) (w : World), (Instr.makeFunc fn first cap).run Try.prog w = .ok (.func fn first cap) w := fun _ _ _ _ => rfl
  go_enter Try.func26, Try.ntmps26
  go_wp2_with (go_at_call 35; (with_reducible refine HS.out.mono ?_); rintro e w2 ⟨rfl, hbel2⟩)
  go_ret
  exact ⟨by simp, hbel2⟩
end Go.Proofs.Ytijpiaiklojafaa.S
