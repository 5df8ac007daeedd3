/-
  SealCuts, the plain part: the first four bytes as one number, the digits of a number; and the law's function over any tag.
-/
import Derived.Test.YtajlohhphjlgbaaHCut
import Derived.Test.YtajlohhphjlgbaaHCuts
import Derived.Test.YtajlohhphjlgbaaSF29
import Derived.Test.YtajlohhphjlgbaaPure1
import Derived.Laws.BitsLemmas
namespace Go.Proofs.Ytajlohhphjlgbaa.Pure
open Go.RowKit Go.Proofs.Ytajlohhphjlgbaa.S Go.Proofs.YtajlohhphjlgbaaW.PrintWords Go.Proofs.YtajlohhphjlgbaaW.PrintLast

theorem refdig_step (n q d b b' : Int) (xs : List Int) (i k : Nat) (hx : xs.length = i) (hi : i < 10) (n0 : 0 ≤ n) (hb : 0 < b) (hq : n / b = q) (q0 : 0 ≤ q) (q1 : q ≤ 4294967295) (hd : q % 10 = d) (hb' : b / 10 = b') (b0 : 0 ≤ b') (b1 : b' ≤ 1000000000) :
    gatelineref04_Digits.l0 (k + 1) n xs b (i : Int) = gatelineref04_Digits.l0 k n (xs ++ [d]) b' ((i + 1 : Nat) : Int) := by
  rw [gatelineref04_Digits.l0, if_pos (by omega), if_neg (by omega), if_pos (by omega), Int.tdiv_eq_ediv_of_nonneg n0, hq, wrap_in (n := q) (by omega) (by omega), Int.tmod_eq_emod_of_nonneg q0, hd, Int.tdiv_eq_ediv_of_nonneg (by omega), hb',
    wrap_in (n := b') (by omega) (by omega), wrap_in (n := (i : Int) + 1) (by omega) (by omega), Int.emod_eq_of_lt (by omega) (by omega)]
  rfl
theorem refdig_l (n : Int) (k : Nat) (h0 : 0 ≤ n) (h1 : n ≤ 4294967295) : gatelineref04_Digits.l0 (k + 11) n [] 1000000000 0 = some (dg n, 0) := by
  have e : (0 : Int) = ((0 : Nat) : Int) := rfl
  rw [e]
  rw [refdig_step n (n / 1000000000) (n / 1000000000 % 10) 1000000000 100000000 _ 0 (k + 10) rfl (by omega) h0 (by omega) rfl (by omega) (by omega) rfl (by omega) (by omega) (by omega)]
  rw [refdig_step n (n / 100000000) (n / 100000000 % 10) 100000000 10000000 _ 1 (k + 9) rfl (by omega) h0 (by omega) rfl (by omega) (by omega) rfl (by omega) (by omega) (by omega)]
  rw [refdig_step n (n / 10000000) (n / 10000000 % 10) 10000000 1000000 _ 2 (k + 8) rfl (by omega) h0 (by omega) rfl (by omega) (by omega) rfl (by omega) (by omega) (by omega)]
  rw [refdig_step n (n / 1000000) (n / 1000000 % 10) 1000000 100000 _ 3 (k + 7) rfl (by omega) h0 (by omega) rfl (by omega) (by omega) rfl (by omega) (by omega) (by omega)]
  rw [refdig_step n (n / 100000) (n / 100000 % 10) 100000 10000 _ 4 (k + 6) rfl (by omega) h0 (by omega) rfl (by omega) (by omega) rfl (by omega) (by omega) (by omega)]
  rw [refdig_step n (n / 10000) (n / 10000 % 10) 10000 1000 _ 5 (k + 5) rfl (by omega) h0 (by omega) rfl (by omega) (by omega) rfl (by omega) (by omega) (by omega)]
  rw [refdig_step n (n / 1000) (n / 1000 % 10) 1000 100 _ 6 (k + 4) rfl (by omega) h0 (by omega) rfl (by omega) (by omega) rfl (by omega) (by omega) (by omega)]
  rw [refdig_step n (n / 100) (n / 100 % 10) 100 10 _ 7 (k + 3) rfl (by omega) h0 (by omega) rfl (by omega) (by omega) rfl (by omega) (by omega) (by omega)]
  rw [refdig_step n (n / 10) (n / 10 % 10) 10 1 _ 8 (k + 2) rfl (by omega) h0 (by omega) rfl (by omega) (by omega) rfl (by omega) (by omega) (by omega)]
  rw [refdig_step n n (n % 10) 1 0 _ 9 (k + 1) rfl (by omega) h0 (by omega) (by omega) (by omega) (by omega) rfl (by omega) (by omega) (by omega)]
  rw [gatelineref04_Digits.l0, if_neg (by omega)]
  rfl
theorem refdig_yes (n : Int) (h0 : 0 ≤ n) (h1 : n ≤ 4294967295) : Ev (fun k => gatelineref04_Digits.f k n) (dg n, 0) := by
  refine ⟨12, fun k hk => ?_⟩
  obtain ⟨k, rfl⟩ : ∃ m, k = m + 12 := ⟨k - 12, by omega⟩
  show gatelineref04_Digits.f (k + 12) n = _
  unfold gatelineref04_Digits.f
  rw [if_neg (by omega), decide_eq_false (by omega), gatelineref04_Digits.j0, if_neg (by simp)]
  exact refdig_l n k h0 h1
theorem refdig_no (n : Int) (h : n < 0 ∨ 4294967295 < n) : Ev (fun k => gatelineref04_Digits.f k n) ([], 1) := by
  refine ⟨1, fun k hk => ?_⟩
  obtain ⟨k, rfl⟩ : ∃ m, k = m + 1 := ⟨k - 1, by omega⟩
  show gatelineref04_Digits.f (k + 1) n = _
  unfold gatelineref04_Digits.f
  by_cases hn : n < 0
  · rw [if_pos hn, gatelineref04_Digits.j0, if_pos rfl]
  · rw [if_neg hn, decide_eq_true (by omega), gatelineref04_Digits.j0, if_pos rfl]

/-- Four bytes' number. -/
def four (x0 x1 x2 x3 : Int) : Int := 16777216 * x0 + 65536 * x1 + 256 * x2 + x3
theorem or_add (a b i : Nat) (ha : 2 ^ i * a + b < 9223372036854775808) (hb : b < 2 ^ i) : Go.bits .or .i64 ((2 ^ i * a : Nat) : Int) (b : Int) = ((2 ^ i * a + b : Nat) : Int) := by
  rw [(bits_nat .i64 63 (by decide) (fun n h1 h2 => by rw [IntKind.wrap_i64]; omega) (2 ^ i * a) b (by omega) (by omega)).2, ← Nat.two_pow_add_eq_or_of_lt hb]
theorem or_four {x0 x1 x2 x3 : Int} (h0 : IsB x0) (h1 : IsB x1) (h2 : IsB x2) (h3 : IsB x3) :
    Go.bits .or .i64 (Go.bits .or .i64 (Go.bits .or .i64 (wrap64 ((wrap64 x0) * 16777216)) (wrap64 ((wrap64 x1) * 65536))) (wrap64 ((wrap64 x2) * 256))) (wrap64 x3) = four x0 x1 x2 x3 := by
  obtain ⟨a0, b0⟩ := h0
  obtain ⟨a1, b1⟩ := h1
  obtain ⟨a2, b2⟩ := h2
  obtain ⟨a3, b3⟩ := h3
  obtain ⟨n0, rfl⟩ := Int.eq_ofNat_of_zero_le a0
  obtain ⟨n1, rfl⟩ := Int.eq_ofNat_of_zero_le a1
  obtain ⟨n2, rfl⟩ := Int.eq_ofNat_of_zero_le a2
  obtain ⟨n3, rfl⟩ := Int.eq_ofNat_of_zero_le a3
  rw [wrap_in (n := (n0 : Int)) (by omega) (by omega), wrap_in (n := (n1 : Int)) (by omega) (by omega), wrap_in (n := (n2 : Int)) (by omega) (by omega), wrap_in (n := (n3 : Int)) (by omega) (by omega),
    wrap_in (n := (n0 : Int) * 16777216) (by omega) (by omega), wrap_in (n := (n1 : Int) * 65536) (by omega) (by omega), wrap_in (n := (n2 : Int) * 256) (by omega) (by omega)]
  rw [show (n0 : Int) * 16777216 = ((2 ^ 24 * n0 : Nat) : Int) by omega, show (n1 : Int) * 65536 = ((65536 * n1 : Nat) : Int) by omega, or_add n0 (65536 * n1) 24 (by omega) (by omega)]
  rw [show 2 ^ 24 * n0 + 65536 * n1 = 2 ^ 16 * (256 * n0 + n1) by omega, show (n2 : Int) * 256 = ((256 * n2 : Nat) : Int) by omega, or_add (256 * n0 + n1) (256 * n2) 16 (by omega) (by omega)]
  rw [show 2 ^ 16 * (256 * n0 + n1) + 256 * n2 = 2 ^ 8 * (65536 * n0 + 256 * n1 + n2) by omega, or_add (65536 * n0 + 256 * n1 + n2) n3 8 (by omega) (by omega)]
  unfold four
  omega
theorem get_four {x0 x1 x2 x3 : Int} (h0 : IsB x0) (h1 : IsB x1) (h2 : IsB x2) (h3 : IsB x3) : gatelineref01_Get.f 6 [x0, x1, x2, x3] = some (four x0 x1 x2 x3, 0) := by
  obtain ⟨a0, b0⟩ := h0
  obtain ⟨a1, b1⟩ := h1
  obtain ⟨a2, b2⟩ := h2
  obtain ⟨a3, b3⟩ := h3
  have w0 : wrap64 x0 = x0 := wrap_in (by omega) (by omega)
  have w1 : wrap64 x1 = x1 := wrap_in (by omega) (by omega)
  have w2 : wrap64 x2 = x2 := wrap_in (by omega) (by omega)
  have w3 : wrap64 x3 = x3 := wrap_in (by omega) (by omega)
  have z : wrap64 0 = 0 := wrap_in (by omega) (by omega)
  have z1 : wrap64 (0 + 1) = 1 := wrap_in (by omega) (by omega)
  have z2 : wrap64 (1 + 1) = 2 := wrap_in (by omega) (by omega)
  have z3 : wrap64 (2 + 1) = 3 := wrap_in (by omega) (by omega)
  have z4 : wrap64 (3 + 1) = 4 := wrap_in (by omega) (by omega)
  have m0 : wrap64 (wrap64 (256 * 0) + x0) = x0 := by rw [show (256 : Int) * 0 = 0 by omega, z, wrap_in (by omega) (by omega)]; omega
  have m1 : wrap64 (wrap64 (256 * x0) + x1) = 256 * x0 + x1 := by rw [wrap_in (n := 256 * x0) (by omega) (by omega), wrap_in (by omega) (by omega)]
  have m2 : wrap64 (wrap64 (256 * (256 * x0 + x1)) + x2) = 256 * (256 * x0 + x1) + x2 := by rw [wrap_in (n := 256 * (256 * x0 + x1)) (by omega) (by omega), wrap_in (by omega) (by omega)]
  have m3 : wrap64 (wrap64 (256 * (256 * (256 * x0 + x1) + x2)) + x3) = four x0 x1 x2 x3 := by rw [wrap_in (n := 256 * (256 * (256 * x0 + x1) + x2)) (by omega) (by omega), wrap_in (by omega) (by omega)]; unfold four; omega
  have r0 : rd [x0, x1, x2, x3] 0 = x0 := rfl
  have r1 : rd [x0, x1, x2, x3] 1 = x1 := rfl
  have r2 : rd [x0, x1, x2, x3] 2 = x2 := rfl
  have r3 : rd [x0, x1, x2, x3] 3 = x3 := rfl
  have hl : (([x0, x1, x2, x3] : List Int).length : Int) = 4 := rfl
  unfold gatelineref01_Get.f
  rw [hl, if_neg (by omega), if_neg (by omega), gatelineref01_Get.j0, if_neg (by simp)]
  rw [gatelineref01_Get.l0, hl, if_pos (by omega), if_pos (by omega), r0, w0, m0, z1]
  rw [gatelineref01_Get.l0, hl, if_pos (by omega), if_pos (by omega), r1, w1, m1, z2]
  rw [gatelineref01_Get.l0, hl, if_pos (by omega), if_pos (by omega), r2, w2, m2, z3]
  rw [gatelineref01_Get.l0, hl, if_pos (by omega), if_pos (by omega), r3, w3, m3, z4]
  rw [gatelineref01_Get.l0, hl, if_neg (by omega)]

theorem SealCuts_walk (cs : Array Value) (n x0 x1 x2 x3 : Int) (hs : cs.size = 32) (g0 : cs[0]? = some (.int .u8 x0)) (g1 : cs[1]? = some (.int .u8 x1)) (g2 : cs[2]? = some (.int .u8 x2)) (g3 : cs[3]? = some (.int .u8 x3))
    (b0 : (Lit.int .u8 x0).wf = true) (b1 : (Lit.int .u8 x1).wf = true) (b2 : (Lit.int .u8 x2).wf = true) (b3 : (Lit.int .u8 x3).wf = true) (w : World) :
    Calls Try.prog 4 #[.agg cs, .int .i64 n] w fun e w' => e = .returned (.bool true) ∧ Below w.heap.size w w' := by
  have h0 := isB_of_wf b0
  have h1 := isB_of_wf b1
  have h2 := isB_of_wf b2
  have h3 := isB_of_wf b3
  have hcut : ∀ w, Calls Try.prog 18 #[.agg cs] w fun e w' => e = .returned (.int .i64 (four x0 x1 x2 x3)) ∧ Below w.heap.size w w' := by
    intro w
    rw [← or_four h0 h1 h2 h3]
    exact cut_at cs x0 x1 x2 x3 hs g0 g1 g2 g3 w
  have hget : ∀ (w : World) (A0 : Option Addr) (c0 : Nat), Kd.C (Kd.int .u8) w A0 ([x0, x1, x2, x3] : List Int).length [x0, x1, x2, x3] → 4 ≤ c0 → Calls Try.prog 29 #[.slice A0 4 c0] w fun e w' => e = .returned (.tuple #[.int .i64 (four x0 x1 x2 x3), .int .i64 0]) ∧ Drawn0 w w' := by
    intro w A0 c0 hc h4
    have hx := gatelineref01_Get.calls 6 A0 c0 [x0, x1, x2, x3] (four x0 x1 x2 x3) 0 w hc h4 (get_four h0 h1 h2 h3)
    rw [show ([x0, x1, x2, x3] : List Int).length = 4 from rfl] at hx
    exact hx
  have href : ∀ w, Calls Try.prog 19 #[.agg cs] w fun e w' => e = .returned (.int .i64 (four x0 x1 x2 x3)) ∧ Below w.heap.size w w' := fun w =>
    refcut_at cs x0 x1 x2 x3 _ 6 hs g0 g1 g2 g3 w hget
  obtain ⟨l, e, hd, hr, hl⟩ : ∃ (l : List Int) (e : Int), Ev (fun k => seal_Digits.f k n) (l, e) ∧ Ev (fun k => gatelineref04_Digits.f k n) (l, e) ∧ l.length ≤ 140737488355328 := by
    by_cases h : n < 0 ∨ 4294967295 < n
    · exact ⟨_, _, digits_no n h, refdig_no n h, by simp⟩
    · exact ⟨_, _, digits_yes n (by omega) (by omega), refdig_yes n (by omega) (by omega), by simp [dg]⟩
  obtain ⟨k1, q1⟩ := hd
  obtain ⟨k2, q2⟩ := hr
  obtain ⟨k3, q3⟩ := sealed_ev
  obtain ⟨k4, q4⟩ := same_ev l l hl
  have hw := cuts_walk (k1 + k2 + k3 + k4) cs hs _ hcut href n l e l e (q1 _ (by omega)) (q2 _ (by omega)) (q3 _ (by omega)) (by simpa using q4 (k1 + k2 + k3 + k4) (by omega)) w
  rw [beq_self_eq_true] at hw
  exact hw
end Go.Proofs.Ytajlohhphjlgbaa.Pure
