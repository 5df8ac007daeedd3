/-
  parity.Sum: what it answers, as a Lean function, and that the Go code answers just this (the closure writes two variables of the call's own).
-/
import Derived.Test.YtfmpeojlaibblaaSF50
import Derived.OneCell
import Derived.Lib.Hide
namespace Go.Proofs.Ytfmpeojlaibblaa.S
open Go.RowKit Go.Proofs.YtfmpeojlaibblaaW.PrintWords Go.Proofs.YtfmpeojlaibblaaW.PrintLast Go.Proofs.YtfmpeojlaibblaaW.PrintMore

def sumAll (l : List Int) : Nat → Int
  | 0 => 0
  | k + 1 => Go.bits .xor .i64 (sumAll l k) (rd l k)
def okVal (x : Int) : Bool := decide (0 ≤ x ∧ x ≤ 15)
def sumOk (l : List Int) : Nat → Bool
  | 0 => true
  | k + 1 => sumOk l k && okVal (rd l k)
def parity_Sum.f (l0 : List Int) : Option (Int × Int) :=
  if l0.length ≤ 140737488355328 then (if sumOk l0 l0.length = true then some (sumAll l0 l0.length, 0) else some (0, 1)) else none

theorem within15 (x : Int) (w : World) : Calls Try.prog 50 #[.int .i64 x, .int .i64 15] w fun e w' => e = .returned (.bool (okVal x)) ∧ Drawn0 w w' := by
  refine parity_within.calls x 15 (okVal x) w ?_
  unfold parity_within.f okVal
  split
  · simp; omega
  · simp; omega

theorem two_set {w : World} {B g : Nat} {t s : TypeId} {u0 v0 : Value} (u v : Value) (hne : B ≠ g) (ho : w.heap[B]? = some (.cells #[u0] t (0, 0))) (ha : w.heap[g]? = some (.cells #[v0] s (0, 0))) :
    ((w.setCell ⟨B, 0, none⟩ u).setCell ⟨g, 0, none⟩ v).heap[B]? = some (.cells #[u] t (0, 0)) ∧ ((w.setCell ⟨B, 0, none⟩ u).setCell ⟨g, 0, none⟩ v).heap[g]? = some (.cells #[v] s (0, 0)) ∧
      ∀ C, C ≤ B → C ≤ g → Below C w ((w.setCell ⟨B, 0, none⟩ u).setCell ⟨g, 0, none⟩ v) :=
  ⟨(Below.heap_setCell _ _ _ _ hne).trans (one_setCell ho), one_setCell ((Below.heap_setCell _ _ _ _ (fun e => hne e.symm)).trans ha),
    fun C h1 h2 => ((Below.refl C w).setCell (p := ⟨B, 0, none⟩) h1 u).setCell (p := ⟨g, 0, none⟩) h2 v⟩

/-- The two variables: block B: ok, block g: all. -/
theorem sum1_calls (x a : Int) (ok : Bool) (B g : Nat) (w : World) (hne : B ≠ g) (ho : w.heap[B]? = some (.cells #[.bool ok] 4 (0, 0))) (ha : w.heap[g]? = some (.cells #[.int .i64 a] 3 (0, 0))) :
    Calls Try.prog 53 #[.int .i64 x, .pointer (some ⟨B, 0, none⟩), .pointer (some ⟨g, 0, none⟩)] w fun e w' => e = .returned (.tuple #[]) ∧
      w'.heap[B]? = some (.cells #[.bool (ok && okVal x)] 4 (0, 0)) ∧ w'.heap[g]? = some (.cells #[.int .i64 (Go.bits .xor .i64 a x)] 3 (0, 0)) ∧ (∀ C, C ≤ B → C ≤ g → Below C w w') := by
  have c1 := cell_of_one ho
  have f1 := free_of_one ho
  have c2 := cell_of_one ha
  have f2 := free_of_one ha
  have HO := Lib.hid ho
  have HA := Lib.hid ha
  clear ho ha
  cases ok
  · go_enter Try.func53, Try.ntmps53
    go_wp2
    go_end0
    exact ⟨rfl, two_set _ _ hne HO.out HA.out⟩
  · go_enter Try.func53, Try.ntmps53
    go_wp2_with (go_at_call 50; refine (within15 _ _).mono ?_; rintro e w' ⟨rfl, ⟨nd, rfl⟩⟩)
    go_end0
    have h := two_set (w := w.drewN nd) (.bool (okVal x)) (.int .i64 (Go.bits .xor .i64 a x)) hne HO.out HA.out
    exact ⟨rfl, h.1, h.2.1, fun C h1 h2 => (pw_below_drewN (Below.refl C w) nd).trans (h.2.2 C h1 h2)⟩

theorem heap_two (w : World) (a b : Obj) : ((w.alloc a).alloc b).heap[w.heap.size]? = some a ∧ ((w.alloc a).alloc b).heap[w.heap.size + 1]? = some b := by
  constructor
  · show ((w.heap.push a).push b)[w.heap.size]? = _
    simp [Array.getElem?_push]
  · show ((w.heap.push a).push b)[w.heap.size + 1]? = _
    rw [Array.getElem?_push, if_pos (by simp)]
theorem ret_ii {k q : IntKind} {a a' b b' : Int} (h : a = a') (h' : b = b') : Ending.returned (.tuple #[.int k a, .int q b]) = .returned (.tuple #[.int k a', .int q b']) := by rw [h, h']

set_option maxHeartbeats 1000000 in
theorem parity_Sum.calls (A0 : Option Addr) (c0 : Nat) (l0 : List Int) (r1 : Int) (r2 : Int) (w : World) (hr0 : Kd.C (Kd.int .i64) w A0 l0.length l0) (_hc0 : l0.length ≤ c0) (h : parity_Sum.f l0 = some (r1, r2)) :
    Calls Try.prog 28 #[.slice A0 l0.length c0] w fun e w' => e = .returned (.tuple #[.int .i64 r1, .int .i64 r2]) ∧ Below w.heap.size w w' := by
  unfold parity_Sum.f at h
  split at h
  case isFalse => cases h
  rename_i hmax
  have H := Lib.hid h
  clear h
  go_enter Try.func28, Try.ntmps28
  go_wp2
  go_loopw [12] (fun i wr => ∃ k : Nat, k ≤ l0.length ∧ i = .int .i64 k ∧ wr.heap[w.heap.size + 1]? = some (.cells #[.bool (sumOk l0 k)] 4 (0, 0)) ∧ wr.heap[w.heap.size]? = some (.cells #[.int .i64 (sumAll l0 k)] 3 (0, 0)) ∧ Below w.heap.size w wr) (fun i _ => l0.length - (intOf i).toNat)
  case atStart => exact ⟨0, Nat.zero_le _, rfl, (heap_two w _ _).2, (heap_two w _ _).1, ((Below.refl _ _).alloc (Nat.le_refl _) _).alloc (by simp) _⟩
  case round =>
    obtain ⟨k, hk, rfl, ho, ha, hb⟩ := hrel
    by_cases hlt : k < l0.length
    · obtain ⟨ad0, rfl, e0⟩ := Kd.at_int (Kd.C_below hr0 hb) k (by omega) (by omega)
      have hk0 : (k : Int) < l0.length := by omega
      simp only [Int.toNat_natCast] at e0
      have HO := Lib.hid ho
      have HA := Lib.hid ha
      clear ho ha
      go_wp2_with (go_at_call 53; refine (sum1_calls _ (sumAll l0 k) (sumOk l0 k) (w.heap.size + 1) w.heap.size _ (by omega) HO.out HA.out).mono ?_; rintro e w' ⟨rfl, ho2, ha2, hb2⟩)
      go_roundw
      case rel => exact ⟨k + 1, by omega, by go_num, ho2, ha2, hb.trans (hb2 _ (by omega) (by omega))⟩
      case measure => simp [intOf]; omega
    · obtain rfl : k = l0.length := by omega
      have c1 := cell_of_one ho
      have c2 := cell_of_one ha
      have HS : Hid (∃ b, sumOk l0 l0.length = b) := ⟨_, rfl⟩
      obtain ⟨b, hb1⟩ := HS.out
      rw [hb1] at c1
      have H1 := H.out
      rw [hb1] at H1
      clear HS H ho ha
      have HB1 := Lib.hid hb1
      clear hb1
      cases b
      · rw [if_neg (by decide)] at H1
        obtain ⟨rfl, rfl⟩ := Prod.mk.inj (Option.some.inj H1)
        go_wp2
        go_ret2
        exact ⟨rfl, hb⟩
      · rw [if_pos rfl] at H1
        have H2 := Lib.hid (Prod.mk.inj (Option.some.inj H1)).1
        have H3 := Lib.hid (Prod.mk.inj (Option.some.inj H1)).2
        clear H1
        go_wp2
        go_ret2
        exact ⟨ret_ii H2.out H3.out, hb⟩
end Go.Proofs.Ytfmpeojlaibblaa.S
