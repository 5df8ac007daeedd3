/-
  track.bits: what it answers for values from 0 to 15, as a Lean function, and that the Go code answers just this.
-/
import Derived.Test.YtfmpeojlaibblaaHBits
import Derived.Test.YtfmpeojlaibblaaHChars
import Derived.Test.YtfmpeojlaibblaaSF23
import Derived.OneCell
namespace Go.Proofs.Ytfmpeojlaibblaa.S
open Go.RowKit Go.Proofs.YtfmpeojlaibblaaW.PrintWords Go.Proofs.YtfmpeojlaibblaaW.PrintLast Go.Proofs.YtfmpeojlaibblaaW.PrintMore

def andBit (c : Int) : List Bool := [Go.bits .and .i64 c 1 == 1, Go.bits .and .i64 (c / 2) 1 == 1, Go.bits .and .i64 (c / 4) 1 == 1, Go.bits .and .i64 (c / 8) 1 == 1, Go.bits .and .i64 (c / 16) 1 == 1]
def track_bits.f (a0 : Int) : Option (List Bool) := if 0 ≤ a0 ∧ a0 ≤ 15 then some (andBit (chr a0)) else none

theorem pchar_all : ∀ v : Fin 16, parity_Char.f (v.val : Int) = some (chr (v.val : Int), 0) := by decide +kernel
theorem pchar_at (v : Int) (h0 : 0 ≤ v) (h1 : v ≤ 15) (w : World) : Calls Try.prog 23 #[.int .i64 v] w fun e w' => e = .returned (.tuple #[.int .i64 (chr v), .int .i64 0]) ∧ Drawn0 w w' := by
  obtain ⟨n, rfl⟩ := Int.eq_ofNat_of_zero_le h0
  exact parity_Char.calls _ _ _ w (pchar_all ⟨n, by omega⟩)
theorem R_five (b0 b1 b2 b3 b4 : Bool) (W : World) (base g : Nat) (hb : base ≤ g) (h : W.heap[g]? = some (.cells #[.bool b0, .bool b1, .bool b2, .bool b3, .bool b4] 36 (0, 0))) :
    Kd.R Kd.bool 36 W base (fun _ => True) (.slice (some ⟨g, 0, none⟩) 5 5) [b0, b1, b2, b3, b4] :=
  Kd.R_of_own (enc := Value.bool) (h1 := fun _ => rfl) ⟨by simp [encs], .inr ⟨g, 5, _, rfl, hb, h, Nat.le_refl _, by decide, by simp, by simp [encs]⟩⟩ (fun _ _ => trivial)

set_option maxHeartbeats 1000000 in
theorem track_bits.calls (a0 : Int) (r : List Bool) (w : World) (h : track_bits.f a0 = some r) :
    Calls Try.prog 44 #[.int .i64 a0] w fun e w' => ∃ v0_ : Value, e = .returned (v0_) ∧ Kd.R Kd.bool 36 w' w.heap.size (fun _ => True) v0_ r ∧ Below w.heap.size w w' := by
  unfold track_bits.f at h
  split at h
  case isFalse => cases h
  rename_i hc
  obtain ⟨h0, h1⟩ := hc
  have H := Lib.hid (Option.some.inj h)
  clear h
  obtain ⟨hc0, hc1⟩ := chr_bd a0
  go_enter Try.func44, Try.ntmps44
  go_wp2_with (first | (go_at_call 23; refine (pchar_at _ h0 h1 _).mono ?_; rintro e w' ⟨rfl, ⟨nd, rfl⟩⟩) | (go_at_call 30; refine (bits_yes _ _ hc0 hc1).mono ?_; rintro e w5 ⟨rfl, hb5⟩))
  go_ret
  refine ⟨_, rfl, ?_, below_alloc (below_step (pw_below_drewN (Below.refl _ w) nd) hb5) _⟩
  rw [← H.out]
  exact R_five _ _ _ _ _ _ _ _ hb5.size (heap_alloc_new _ _)
end Go.Proofs.Ytfmpeojlaibblaa.S
