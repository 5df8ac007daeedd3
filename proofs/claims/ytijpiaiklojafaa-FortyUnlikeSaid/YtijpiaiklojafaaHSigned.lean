/-
  gatelinelaw16.signed: the chapter's examples: it returns true.
-/
import Derived.Test.YtijpiaiklojafaaHGet
import Derived.Test.YtijpiaiklojafaaSF14
import Derived.Lib.SlBytesConst
namespace Go.Proofs.Ytijpiaiklojafaa.S
set_option linter.unusedSimpArgs false
set_option linter.unusedVariables false
open Go.RowKit Go.Proofs.YtijpiaiklojafaaW.PrintWords Go.Proofs.YtijpiaiklojafaaW.PrintLast Go.Proofs.YtijpiaiklojafaaW.PrintMore

theorem C_lit {W : World} {xs : List Int} {cs : Array Value} {f : Nat × Nat} (h : cs = (xs.map (Value.int .u8)).toArray) (hl : xs.length ≤ 1000) : Kd.C (Kd.int .u8) (W.alloc (.cells cs 5 f)) (some ⟨W.heap.size, 0, none⟩) xs.length xs := by
  subst h
  refine ⟨rfl, by omega, fun hn => ⟨_, rfl, fun j p hj => ⟨[.int .u8 p], rfl, rfl, fun i u hu => ?_⟩⟩⟩
  cases i with
  | succ i => simp at hu
  | zero =>
    obtain rfl : Value.int .u8 p = u := by simpa using hu
    have h := cell_of_row (W.alloc (.cells (xs.map (Value.int .u8)).toArray 5 f)) W.heap.size j _ 5 f (heap_alloc_new W _)
    have e : (⟨W.heap.size, 0, none⟩ : Addr).add (j * 1 + 0) = ⟨W.heap.size, j, none⟩ := by
      simp [Addr.add]
      omega
    rw [show (Kd.int IntKind.u8).sz = 1 from rfl, e, h]
    simp [hj]

/-- The two, at a row that is written out. -/
theorem put_lit (W : World) (n : Nat) (xs out : List Int) (cs : Array Value) (hn : xs.length = n) (hn2 : n ≤ 1000) (hcs : cs = (xs.map (Value.int .u8)).toArray) (h : forty_Put.f xs = some out) :
    Calls Try.prog 15 #[.slice (some ⟨W.heap.size, 0, none⟩) n n] (W.alloc (.cells cs 5 (n, n + 1))) fun e w' => ∃ (A : Option Addr) (c : Nat), e = .returned (.slice A out.length c) ∧ Kd.R (Kd.int .u8) 5 w' W.heap.size (fun _ => True) (.slice A out.length c) out ∧ Below W.heap.size W w' := by
  subst hn
  refine (forty_Put.calls _ _ xs out _ (C_lit hcs hn2) (Nat.le_refl _) h).mono ?_
  rintro e w' ⟨v, rfl, hr, hb⟩
  have hB : Below W.heap.size W (W.alloc (.cells cs 5 (xs.length, xs.length + 1))) := (Below.refl _ _).alloc (Nat.le_refl _) _
  obtain ⟨A, c, rfl⟩ := Kd.R_slice hr
  exact ⟨A, c, rfl, Kd.R_lower hr (by simp), hB.trans (hb.mono (by simp))⟩
theorem get_lit (W : World) (n : Nat) (xs out : List Int) (er : Int) (cs : Array Value) (hn : xs.length = n) (hn2 : n ≤ 1000) (hcs : cs = (xs.map (Value.int .u8)).toArray) (h : forty_Get.f xs = some (out, er)) :
    Calls Try.prog 17 #[.slice (some ⟨W.heap.size, 0, none⟩) n n] (W.alloc (.cells cs 5 (n, n + 1))) fun e w' => ∃ (A : Option Addr) (c : Nat), e = .returned (.tuple #[.slice A out.length c, .int .i64 er]) ∧ Kd.R (Kd.int .u8) 5 w' W.heap.size (fun _ => True) (.slice A out.length c) out ∧ Below W.heap.size W w' := by
  subst hn
  refine (forty_Get.calls _ _ xs out er _ (C_lit hcs hn2) (Nat.le_refl _) h).mono ?_
  rintro e w' ⟨v, rfl, hr, hb⟩
  have hB : Below W.heap.size W (W.alloc (.cells cs 5 (xs.length, xs.length + 1))) := (Below.refl _ _).alloc (Nat.le_refl _) _
  obtain ⟨A, c, rfl⟩ := Kd.R_slice hr
  exact ⟨A, c, rfl, Kd.R_lower hr (by simp), hB.trans (hb.mono (by simp))⟩
theorem same_lit (k : Nat) (W : World) (n m : Nat) (A : Option Addr) (c : Nat) (ys xs : List Int) (cs : Array Value) (hA : Kd.C (Kd.int .u8) W A ys.length ys) (hm : ys.length = m) (hc : m ≤ c) (hn : xs.length = n) (hn2 : n ≤ 1000) (hcs : cs = (xs.map (Value.int .u8)).toArray) (h : gatelineref01_Same.f k ys xs = some true) :
    Calls Try.prog 14 #[.slice A m c, .slice (some ⟨W.heap.size, 0, none⟩) n n] (W.alloc (.cells cs 5 (n, n + 1))) fun e w' => e = .returned (.bool true) ∧ Below W.heap.size W w' := by
  subst hn
  subst hm
  have hB : Below W.heap.size W (W.alloc (.cells cs 5 (xs.length, xs.length + 1))) := (Below.refl _ _).alloc (Nat.le_refl _) _
  refine (gatelineref01_Same.calls k A c ys _ _ xs true _ (Kd.C_below hA hB) hc (C_lit hcs hn2) (Nat.le_refl _) h).mono ?_
  rintro e w' ⟨rfl, hd⟩
  exact ⟨rfl, hB.trans (hd.below.mono (by simp))⟩

def gatelinelaw16_signed.f : Option Bool := some true
set_option maxHeartbeats 4000000 in
set_option maxRecDepth 100000 in
theorem gatelinelaw16_signed.calls (r : Bool) (w : World) (h : gatelinelaw16_signed.f = some r) :
    Calls Try.prog 13 #[] w fun e w' => e = .returned (.bool r) ∧ Below w.heap.size w w' := by
  cases h
  have kc := fun (w : World) (C : Array Value) (n c : Nat) => Lib.run_convert_bytes_const (P := Try.prog) w 22 5 C n c Try.underlying22 Try.underlying5
  have G0 := fun W => put_lit W 7 [72, 101, 108, 108, 111, 33, 33] [37, 54, 57, 32, 86, 68, 57, 50, 69, 88, 48] #[.int .u8 72, .int .u8 101, .int .u8 108, .int .u8 108, .int .u8 111, .int .u8 33, .int .u8 33] rfl (by decide) rfl (by decide +kernel)
  have G1 := fun W => get_lit W 8 [81, 69, 68, 56, 87, 69, 88, 48] [105, 101, 116, 102, 33] 0 #[.int .u8 81, .int .u8 69, .int .u8 68, .int .u8 56, .int .u8 87, .int .u8 69, .int .u8 88, .int .u8 48] rfl (by decide) rfl (by decide +kernel)
  have G2 := fun W => get_lit W 4 [81, 69, 68, 56] [] 14 #[.int .u8 81, .int .u8 69, .int .u8 68, .int .u8 56] rfl (by decide) rfl (by decide +kernel)
  have G3 := fun W => get_lit W 8 [81, 69, 100, 56, 87, 69, 88, 48] [] 7 #[.int .u8 81, .int .u8 69, .int .u8 100, .int .u8 56, .int .u8 87, .int .u8 69, .int .u8 88, .int .u8 48] rfl (by decide) rfl (by decide +kernel)
  have G4 := fun W => get_lit W 4 [58, 58, 58, 58] [] 14 #[.int .u8 58, .int .u8 58, .int .u8 58, .int .u8 58] rfl (by decide) rfl (by decide +kernel)
  have G5 := fun W => get_lit W 3 [58, 58, 58] [] 23 #[.int .u8 58, .int .u8 58, .int .u8 58] rfl (by decide) rfl (by decide +kernel)
  have G6 := fun W => get_lit W 2 [58, 58] [] 23 #[.int .u8 58, .int .u8 58] rfl (by decide) rfl (by decide +kernel)
  have H0 := Lib.hid G0
  have H1 := Lib.hid G1
  have H2 := Lib.hid G2
  have H3 := Lib.hid G3
  have H4 := Lib.hid G4
  have H5 := Lib.hid G5
  have H6 := Lib.hid G6
  clear G0 G1 G2 G3 G4 G5 G6
  go_enter Try.func13, Try.ntmps13
  go_wp2_with (go_at_call 15; with_reducible refine (H0.out w).mono ?_; rintro e w1 ⟨A1, c1, rfl, hr1, hb1⟩; have HA1 := Lib.hid hr1; have HB1 := Lib.hid hb1; clear hr1 hb1)
  go_wp2_with (go_at_call 17; with_reducible refine (H1.out w1).mono ?_; rintro e w2 ⟨A2, c2, rfl, hr2, hb2⟩; have HB2 := Lib.hid (HB1.out.trans (hb2.mono HB1.out.size)); have HA2 := Lib.hid (Kd.R_below HA1.out hb2); have HC2 := Lib.hid hr2; clear hr2 hb2)
  go_wp2_with (go_at_call 17; with_reducible refine (H2.out w2).mono ?_; rintro e w3 ⟨A3, c3, rfl, hr3, hb3⟩; have HB3 := Lib.hid (HB2.out.trans (hb3.mono HB2.out.size)); have HA3 := Lib.hid (Kd.R_below HA2.out hb3); have HC3 := Lib.hid (Kd.R_below HC2.out hb3); clear hr3 hb3)
  go_wp2_with (go_at_call 17; with_reducible refine (H3.out w3).mono ?_; rintro e w4 ⟨A4, c4, rfl, hr4, hb4⟩; have HB4 := Lib.hid (HB3.out.trans (hb4.mono HB3.out.size)); have HA4 := Lib.hid (Kd.R_below HA3.out hb4); have HC4 := Lib.hid (Kd.R_below HC3.out hb4); clear hr4 hb4)
  go_wp2_with (go_at_call 17; with_reducible refine (H4.out w4).mono ?_; rintro e w5 ⟨A5, c5, rfl, hr5, hb5⟩; have HB5 := Lib.hid (HB4.out.trans (hb5.mono HB4.out.size)); have HA5 := Lib.hid (Kd.R_below HA4.out hb5); have HC5 := Lib.hid (Kd.R_below HC4.out hb5); clear hr5 hb5)
  go_wp2_with (go_at_call 17; with_reducible refine (H5.out w5).mono ?_; rintro e w6 ⟨A6, c6, rfl, hr6, hb6⟩; have HB6 := Lib.hid (HB5.out.trans (hb6.mono HB5.out.size)); have HA6 := Lib.hid (Kd.R_below HA5.out hb6); have HC6 := Lib.hid (Kd.R_below HC5.out hb6); clear hr6 hb6)
  go_wp2_with (go_at_call 17; with_reducible refine (H6.out w6).mono ?_; rintro e w7 ⟨A7, c7, rfl, hr7, hb7⟩; have HB7 := Lib.hid (HB6.out.trans (hb7.mono HB6.out.size)); have HA7 := Lib.hid (Kd.R_below HA6.out hb7); have HC7 := Lib.hid (Kd.R_below HC6.out hb7); clear hr7 hb7)
  have S1 := same_lit 30 w7 11 11 A1 c1 [37, 54, 57, 32, 86, 68, 57, 50, 69, 88, 48] [37, 54, 57, 32, 86, 68, 57, 50, 69, 88, 48] #[.int .u8 37, .int .u8 54, .int .u8 57, .int .u8 32, .int .u8 86, .int .u8 68, .int .u8 57, .int .u8 50, .int .u8 69, .int .u8 88, .int .u8 48] (Kd.R_reads' HA7.out).2.2 rfl (Kd.R_reads' HA7.out).2.1 rfl (by decide) rfl (by decide +kernel)
  have S1 := Lib.hid S1
  go_wp2_with (go_at_call 14; with_reducible refine S1.out.mono ?_; rintro e w8 ⟨rfl, hb8⟩; have HB8 := Lib.hid (HB7.out.trans (hb8.mono HB7.out.size)); have HC8 := Lib.hid (Kd.R_below HC7.out hb8); clear hb8)
  have S2 := Lib.hid (same_lit 30 w8 5 5 A2 c2 [105, 101, 116, 102, 33] [105, 101, 116, 102, 33] #[.int .u8 105, .int .u8 101, .int .u8 116, .int .u8 102, .int .u8 33] (Kd.R_reads' HC8.out).2.2 rfl (Kd.R_reads' HC8.out).2.1 rfl (by decide) rfl (by decide +kernel))
  go_wp2_with (go_at_call 14; with_reducible refine S2.out.mono ?_; rintro e w9 ⟨rfl, hb9⟩; have HB9 := Lib.hid (HB8.out.trans (hb9.mono HB8.out.size)); clear hb9)
  go_ret
  exact ⟨rfl, HB9.out⟩
end Go.Proofs.Ytijpiaiklojafaa.S
