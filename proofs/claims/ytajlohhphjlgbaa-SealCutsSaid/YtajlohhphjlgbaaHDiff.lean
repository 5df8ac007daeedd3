/-
  seal.Diff: what it answers, as a Lean function, and that the Go code answers just this. The two rows of bytes are read, nothing that was there is written.
-/
import Derived.Test.YtajlohhphjlgbaaS0
import Derived.StillTailTactics
import Derived.OneCell
import Derived.Lib.Hide
namespace Go.Proofs.Ytajlohhphjlgbaa.S
open Go.RowKit Go.Proofs.YtajlohhphjlgbaaW.PrintWords Go.Proofs.YtajlohhphjlgbaaW.PrintLast Go.Proofs.YtajlohhphjlgbaaW.PrintMore

/-- The bits in which the first k bytes differ. -/
def diffTo (a b : List Int) : Nat → Int
  | 0 => 0
  | k + 1 => Go.bits .or .u8 (diffTo a b k) (Go.bits .xor .u8 (rd a k) (rd b k))
def seal_Diff.f (l0 l1 : List Int) : Option (Int × Bool) :=
  if l0.length ≤ 140737488355328 ∧ l1.length ≤ 140737488355328 then some (diffTo l0 l1 (min l0.length l1.length), ((l0.length : Int) == (l1.length : Int))) else none

theorem diff1_calls (a b v : Int) (B : Nat) (w : World) (hc : w.cell? ⟨B, 0, none⟩ = some (.int .u8 v)) (hf : w.frozen? ⟨B, 0, none⟩ = false) :
    Calls Try.prog 28 #[.int .u8 a, .int .u8 b, .pointer (some ⟨B, 0, none⟩)] w fun e w' => e = .returned (.tuple #[]) ∧ w.setCell ⟨B, 0, none⟩ (.int .u8 (Go.bits .or .u8 v (Go.bits .xor .u8 a b))) = w' := by
  go_enter Try.func28, Try.ntmps28
  go_wp2
  go_end0
  exact ⟨rfl, rfl⟩

theorem ret_ib {k : IntKind} {a a' : Int} {b b' : Bool} (h : a = a') (h' : b = b') : Ending.returned (.tuple #[.int k a, .bool b]) = .returned (.tuple #[.int k a', .bool b']) := by rw [h, h']

attribute [local go_sem] max2_int min2_int max_two min_two
set_option maxHeartbeats 1000000 in
theorem seal_Diff.calls (A0 : Option Addr) (c0 : Nat) (l0 : List Int) (A1 : Option Addr) (c1 : Nat) (l1 : List Int) (r1 : Int) (r2 : Bool) (w : World) (hr0 : Kd.C (Kd.int .u8) w A0 l0.length l0) (hc0 : l0.length ≤ c0) (hr1 : Kd.C (Kd.int .u8) w A1 l1.length l1) (hc1 : l1.length ≤ c1) (h : seal_Diff.f l0 l1 = some (r1, r2)) :
    Calls Try.prog 11 #[.slice A0 l0.length c0, .slice A1 l1.length c1] w fun e w' => e = .returned (.tuple #[.int .u8 r1, .bool r2]) ∧ Below w.heap.size w w' := by
  unfold seal_Diff.f at h
  split at h
  case isFalse => cases h
  rename_i hmax
  obtain ⟨hm0, hm1⟩ := hmax
  simp only [Option.some.injEq, Prod.mk.injEq] at h
  obtain ⟨h1, h2⟩ := h
  by_cases hlen : (l1.length : Int) < (l0.length : Int)
  · have hn : l1.length ≤ l0.length := by omega
    rw [Nat.min_eq_right hn] at h1
    have H1 := Lib.hid h1
    have H2 := Lib.hid h2
    clear h1 h2
    go_enter Try.func11, Try.ntmps11
    go_wp2
    go_loopw [15] (fun i wr => ∃ k : Nat, k ≤ l1.length ∧ i = .int .i64 k ∧ wr.cell? ⟨w.heap.size, 0, none⟩ = some (.int .u8 (diffTo l0 l1 k)) ∧ wr.frozen? ⟨w.heap.size, 0, none⟩ = false ∧ Below w.heap.size w wr) (fun i _ => l1.length - (intOf i).toNat)
    case atStart => exact ⟨0, Nat.zero_le _, rfl, by simp [diffTo], by simp, (Below.refl _ _).alloc (Nat.le_refl _) _⟩
    case round =>
      obtain ⟨k, hk, rfl, hc, hf, hb⟩ := hrel
      by_cases hlt : k < l1.length
      · obtain ⟨ad0, rfl, e0⟩ := Kd.at_int (Kd.C_below hr0 hb) k (by omega) (by omega)
        obtain ⟨ad1, rfl, e1⟩ := Kd.at_int (Kd.C_below hr1 hb) k (by omega) (by omega)
        have hk0 : (k : Int) < l0.length := by omega
        have hk1 : (k : Int) < l1.length := by omega
        simp only [Int.toNat_natCast] at e0 e1
        go_wp2
        go_still_tail 9, (by kernel_rfl)
        go_wp2_with (go_at_call 28; refine (diff1_calls _ _ (diffTo l0 l1 k) w.heap.size _ (by simpa using hc) (by simpa using hf)).mono ?_; rintro e w' ⟨rfl, rfl⟩)
        go_roundw
        case rel => exact ⟨k + 1, by omega, by go_num, World.cell?_setCell_same' _ _ _ (by simp [hc]), by rw [World.frozen?_drew, World.frozen?_setCell]; exact hf, (hb.setCell (Nat.le_refl _) _).drew⟩
        case measure => simp [intOf]; omega
      · obtain rfl : k = l1.length := by omega
        go_wp2
        go_ret2
        exact ⟨ret_ib H1.out H2.out, hb⟩

  · have hn : l0.length ≤ l1.length := by omega
    rw [Nat.min_eq_left hn] at h1
    have H1 := Lib.hid h1
    have H2 := Lib.hid h2
    clear h1 h2
    go_enter Try.func11, Try.ntmps11
    go_wp2
    go_loopw [15] (fun i wr => ∃ k : Nat, k ≤ l0.length ∧ i = .int .i64 k ∧ wr.cell? ⟨w.heap.size, 0, none⟩ = some (.int .u8 (diffTo l0 l1 k)) ∧ wr.frozen? ⟨w.heap.size, 0, none⟩ = false ∧ Below w.heap.size w wr) (fun i _ => l0.length - (intOf i).toNat)
    case atStart => exact ⟨0, Nat.zero_le _, rfl, by simp [diffTo], by simp, (Below.refl _ _).alloc (Nat.le_refl _) _⟩
    case round =>
      obtain ⟨k, hk, rfl, hc, hf, hb⟩ := hrel
      by_cases hlt : k < l0.length
      · obtain ⟨ad0, rfl, e0⟩ := Kd.at_int (Kd.C_below hr0 hb) k (by omega) (by omega)
        obtain ⟨ad1, rfl, e1⟩ := Kd.at_int (Kd.C_below hr1 hb) k (by omega) (by omega)
        have hk0 : (k : Int) < l0.length := by omega
        have hk1 : (k : Int) < l1.length := by omega
        simp only [Int.toNat_natCast] at e0 e1
        go_wp2
        go_still_tail 9, (by kernel_rfl)
        go_wp2_with (go_at_call 28; refine (diff1_calls _ _ (diffTo l0 l1 k) w.heap.size _ (by simpa using hc) (by simpa using hf)).mono ?_; rintro e w' ⟨rfl, rfl⟩)
        go_roundw
        case rel => exact ⟨k + 1, by omega, by go_num, World.cell?_setCell_same' _ _ _ (by simp [hc]), by rw [World.frozen?_drew, World.frozen?_setCell]; exact hf, (hb.setCell (Nat.le_refl _) _).drew⟩
        case measure => simp [intOf]; omega
      · obtain rfl : k = l0.length := by omega
        go_wp2
        go_ret2
        exact ⟨ret_ib H1.out H2.out, hb⟩


end Go.Proofs.Ytajlohhphjlgbaa.S
