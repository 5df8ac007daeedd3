/-
  forty, the plain part: what is put is got again, and what is got is put as it was.
-/
import Derived.Test.YtijpiaiklojafaaPure0
import Derived.Test.YtijpiaiklojafaaHSigned
namespace Go.Proofs.Ytijpiaiklojafaa.Pure
open Go.RowKit Go.Proofs.Ytijpiaiklojafaa.S Go.Proofs.YtijpiaiklojafaaW.PrintWords Go.Proofs.YtijpiaiklojafaaW.PrintLast

theorem allB_of_wf {l : List Int} (h : ∀ x ∈ l, (Lit.int .u8 x).wf = true) : AllB l := fun x hx => byte_of_wf (h x hx)
theorem putf {l : List Int} (h : AllB l) (hl : l.length ≤ 100000) : forty_Put.f l = some (putL l) := by
  unfold forty_Put.f
  rw [if_pos ⟨h, hl⟩]
theorem getf {l : List Int} (h : AllB l) (hl : l.length ≤ 100000) (h3 : l.length % 3 ≠ 1) : forty_Get.f l = some (getL l) := by
  unfold forty_Get.f
  rw [if_neg h3, if_pos ⟨h, hl⟩]
theorem digs_len (n : Int) : ∀ k, (digs n k).length = k := by
  intro k
  induction k generalizing n with
  | zero => rfl
  | succ k ih => simp [digs, ih]
theorem putL_len : ∀ l : List Int, (putL l).length = l.length / 2 * 3 + l.length % 2 * 2
  | [] => rfl
  | [x] => by simp [putL, digs_len]
  | x :: y :: r => by
    have := putL_len r
    simp only [putL, List.length_append, digs_len, this, List.length_cons]
    omega
theorem digs_isB (n : Int) : ∀ k, AllB (digs n k) := by
  intro k
  induction k generalizing n with
  | zero => intro x hx; cases hx
  | succ k ih =>
    intro x hx
    simp only [digs, List.mem_cons] at hx
    rcases hx with rfl | hx
    · exact sg_in _
    · exact ih _ x hx
theorem putL_isB : ∀ l : List Int, AllB (putL l)
  | [] => fun x hx => by cases hx
  | [x] => digs_isB _ _
  | x :: y :: r => fun z hz => by
    simp only [putL, List.mem_append] at hz
    rcases hz with hz | hz
    · exact digs_isB _ _ z hz
    · exact putL_isB r z hz
theorem sd_sg : ∀ n : Fin 45, sd (sg (n.val : Int)) = (n.val : Int) + 1 := by decide +kernel
theorem sd_sg' {n : Int} (h : 0 ≤ n ∧ n < 45) : sd (sg n) = n + 1 := by
  obtain ⟨m, rfl⟩ := Int.eq_ofNat_of_zero_le h.1
  exact sd_sg ⟨m, by omega⟩
theorem sg_sdn (x : Int) : ∀ i, sdn i x ≠ 0 → sg (sdn i x - 1) = x
  | 0, h => absurd rfl h
  | i + 1, h => by
    unfold sdn at h ⊢
    by_cases e : x = sg (i : Int)
    · rw [if_pos e, e]
      congr 1
      omega
    · rw [if_neg e] at h ⊢
      exact sg_sdn x i h
theorem sd_in (x : Int) : 0 ≤ sd x ∧ sd x ≤ 45 := sdn_in 45 x
theorem sg_sd {x : Int} (h : sd x ≠ 0) : sg (sd x - 1) = x := sg_sdn x 45 h
/-- A group's number, of signs. -/
theorem grp3 {a b c : Int} (ha : 0 ≤ a ∧ a < 45) (hb : 0 ≤ b ∧ b < 45) (hc : 0 ≤ c ∧ c < 45) : grpN [sg a, sg b, sg c] = some (a + 45 * b + 2025 * c) := by
  simp only [grpN, sd_sg' ha, sd_sg' hb, sd_sg' hc]
  rw [if_neg (by omega)]
  simp only
  rw [if_neg (by omega)]
  simp only
  rw [if_neg (by omega)]
  congr 1
  omega
theorem grp2 {a b : Int} (ha : 0 ≤ a ∧ a < 45) (hb : 0 ≤ b ∧ b < 45) : grpN [sg a, sg b] = some (a + 45 * b) := by
  simp only [grpN, sd_sg' ha, sd_sg' hb]
  rw [if_neg (by omega)]
  simp only
  rw [if_neg (by omega)]
  congr 1
  omega
/-- What was put is got again. -/
theorem get_put : ∀ l : List Int, AllB l → getL (putL l) = (l, 0)
  | [], _ => rfl
  | [x], h => by
    have hx := h x (by simp)
    show getL [sg (x % 45), sg (x / 45 % 45)] = _
    simp only [getL, grp2 (a := x % 45) (b := x / 45 % 45) (by omega) (by omega)]
    rw [if_neg (by omega), show x % 45 + 45 * (x / 45 % 45) = x by omega]
  | x :: y :: r, h => by
    have hx := h x (by simp)
    have hy := h y (by simp)
    have ih := get_put r (fun z hz => h z (by simp [hz]))
    show getL (sg ((256 * x + y) % 45) :: sg ((256 * x + y) / 45 % 45) :: sg ((256 * x + y) / 45 / 45 % 45) :: putL r) = _
    obtain ⟨n, hn⟩ : ∃ n, n = 256 * x + y := ⟨_, rfl⟩
    rw [← hn, getL, grp3 (a := n % 45) (b := n / 45 % 45) (c := n / 45 / 45 % 45) (by omega) (by omega) (by omega)]
    have h2 : n / 45 / 45 % 45 = n / 45 / 45 := Int.emod_eq_of_lt (by omega) (by omega)
    have h1 : n % 45 + 45 * (n / 45 % 45) + 2025 * (n / 45 / 45 % 45) = n := by omega
    simp only [h1]
    rw [if_neg (by omega), ih, show n / 256 = x by omega, show n % 256 = y by omega]
    rfl
theorem grp_some1 {x : Int} {r : List Int} {n : Int} (h : grpN (x :: r) = some n) : ∃ m, grpN r = some m ∧ sd x ≠ 0 ∧ n = 45 * m + sd x - 1 := by
  unfold grpN at h
  cases hr : grpN r with
  | none => rw [hr] at h; cases h
  | some m =>
    rw [hr] at h
    simp only at h
    by_cases h0 : sd x = 0
    · rw [if_pos h0] at h; cases h
    · rw [if_neg h0] at h
      exact ⟨m, rfl, h0, (Option.some.inj h).symm⟩
/-- What was got is put as it was. -/
theorem put_get : ∀ s : List Int, s.length % 3 ≠ 1 → (getL s).2 = 0 → putL (getL s).1 = s ∧ AllB (getL s).1 ∧ (getL s).1.length ≤ s.length
  | [], _, _ => ⟨rfl, (fun x hx => (by cases hx)), Nat.le_refl _⟩
  | [_], h, _ => absurd rfl h
  | [x, y], _, h => by
    unfold getL at h ⊢
    cases hg : grpN [x, y] with
    | none => rw [hg] at h; simp at h
    | some n =>
      rw [hg] at h
      simp only at h ⊢
      by_cases hb : 255 < n
      · rw [if_pos hb] at h; simp at h
      · rw [if_neg hb]
        obtain ⟨m, h1, hx, rfl⟩ := grp_some1 hg
        obtain ⟨m', h2, hy, rfl⟩ := grp_some1 h1
        cases h2
        have bx := sd_in x
        have by_ := sd_in y
        refine ⟨?_, fun z hz => ?_, by simp⟩
        · show [sg ((45 * (45 * 0 + sd y - 1) + sd x - 1) % 45), sg ((45 * (45 * 0 + sd y - 1) + sd x - 1) / 45 % 45)] = _
          rw [show (45 * (45 * 0 + sd y - 1) + sd x - 1) % 45 = sd x - 1 by omega, show (45 * (45 * 0 + sd y - 1) + sd x - 1) / 45 % 45 = sd y - 1 by omega, sg_sd hx, sg_sd hy]
        · have : z = 45 * (45 * 0 + sd y - 1) + sd x - 1 := by simpa using hz
          omega
  | x :: y :: z :: r, h3, h => by
    have ih := put_get r (by simp only [List.length_cons] at h3; omega)
    rw [getL] at h ⊢
    cases hg : grpN [x, y, z] with
    | none => rw [hg] at h; simp at h
    | some n =>
      rw [hg] at h
      simp only at h ⊢
      by_cases hb : 65535 < n
      · rw [if_pos hb] at h; simp at h
      · rw [if_neg hb] at h ⊢
        have h0 : (getL r).2 = 0 := by
          unfold joinG at h
          by_cases e : (getL r).2 = 0
          · exact e
          · rw [if_neg e] at h; exact absurd h e
        obtain ⟨i1, i2, i3⟩ := ih h0
        obtain ⟨m, h1, hx, rfl⟩ := grp_some1 hg
        obtain ⟨m', h2, hy, rfl⟩ := grp_some1 h1
        obtain ⟨m'', h4, hz, rfl⟩ := grp_some1 h2
        cases h4
        have bx := sd_in x
        have by_ := sd_in y
        have bz := sd_in z
        have hj : joinG [(45 * (45 * (45 * 0 + sd z - 1) + sd y - 1) + sd x - 1) / 256, (45 * (45 * (45 * 0 + sd z - 1) + sd y - 1) + sd x - 1) % 256] (getL r) = ((45 * (45 * (45 * 0 + sd z - 1) + sd y - 1) + sd x - 1) / 256 :: (45 * (45 * (45 * 0 + sd z - 1) + sd y - 1) + sd x - 1) % 256 :: (getL r).1, 0) := by
          unfold joinG
          rw [if_pos h0]
          rfl
        rw [hj]
        obtain ⟨n, hn⟩ : ∃ n, n = 45 * (45 * (45 * 0 + sd z - 1) + sd y - 1) + sd x - 1 := ⟨_, rfl⟩
        rw [← hn]
        refine ⟨?_, fun q hq => ?_, by simp only [List.length_cons]; omega⟩
        · show sg ((256 * (n / 256) + n % 256) % 45) :: sg ((256 * (n / 256) + n % 256) / 45 % 45) :: sg ((256 * (n / 256) + n % 256) / 45 / 45 % 45) :: putL (getL r).1 = _
          rw [show 256 * (n / 256) + n % 256 = n by omega, show n % 45 = sd x - 1 by omega, show n / 45 % 45 = sd y - 1 by omega, show n / 45 / 45 % 45 = sd z - 1 by omega, sg_sd hx, sg_sd hy, sg_sd hz, i1]
        · simp only [List.mem_cons] at hq
          rcases hq with rfl | rfl | hq
          · omega
          · omega
          · exact i2 q hq
theorem putL_append : ∀ a b : List Int, a.length % 2 = 0 → putL (a ++ b) = putL a ++ putL b
  | [], b, _ => rfl
  | [x], b, h => by simp at h
  | x :: y :: r, b, h => by
    have ih := putL_append r b (by simp only [List.length_cons] at h; omega)
    show digs (256 * x + y) 3 ++ putL (r ++ b) = (digs (256 * x + y) 3 ++ putL r) ++ putL b
    rw [ih, List.append_assoc]
theorem putL_inj {a b : List Int} (ha : AllB a) (hb : AllB b) (h : putL a = putL b) : a = b := by
  have e1 := get_put a ha
  rw [h, get_put b hb] at e1
  exact (congrArg Prod.fst e1).symm
end Go.Proofs.Ytijpiaiklojafaa.Pure
