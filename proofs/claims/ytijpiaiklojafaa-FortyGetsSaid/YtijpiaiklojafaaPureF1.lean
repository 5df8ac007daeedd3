/-
  forty, the plain part: what the reference answers.
-/
import Derived.Test.YtijpiaiklojafaaPureF0
import Derived.Test.YtijpiaiklojafaaSF16
import Derived.Test.YtijpiaiklojafaaSF18
namespace Go.Proofs.Ytijpiaiklojafaa.Pure
open Go.RowKit Go.Proofs.Ytijpiaiklojafaa.S Go.Proofs.YtijpiaiklojafaaW.PrintWords Go.Proofs.YtijpiaiklojafaaW.PrintLast

theorem rd_isB {l : List Int} (h : AllB l) {i : Nat} (hi : i < l.length) : 0 ≤ rd l (i : Int) ∧ rd l (i : Int) ≤ 255 := by
  rw [rd_get hi]
  exact h _ (List.getElem_mem hi)
theorem ar1 {n : Int} (h : 0 ≤ n ∧ n ≤ 65535) : wrap64 (Int.tdiv n 45) = n / 45 := by rw [Int.tdiv_eq_ediv_of_nonneg h.1, wrap_in (by omega) (by omega)]
theorem ar2 {n : Int} (h : 0 ≤ n ∧ n ≤ 65535) : wrap64 (Int.tdiv n 2025) = n / 45 / 45 % 45 := by
  rw [Int.tdiv_eq_ediv_of_nonneg h.1, wrap_in (by omega) (by omega)]
  omega
theorem ar3 {n : Int} (h : 0 ≤ n ∧ n ≤ 65535) : Int.tmod (n / 45) 45 = n / 45 % 45 := Int.tmod_eq_emod_of_nonneg (by omega)
theorem ar4 {x : Int} (h : 0 ≤ x ∧ x ≤ 255) : wrap64 (Int.tdiv x 45) = x / 45 % 45 := by
  rw [Int.tdiv_eq_ediv_of_nonneg h.1, wrap_in (by omega) (by omega)]
  omega
theorem ar5 (i : Nat) (h : i ≤ 100000) : wrap64 ((i : Int) + 1) = ((i + 1 : Nat) : Int) := by rw [wrap_in (by omega) (by omega)]; omega
theorem ar6 (i : Nat) (h : i ≤ 100000) : wrap64 ((i : Int) + 2) = ((i + 2 : Nat) : Int) := by rw [wrap_in (by omega) (by omega)]; omega
theorem ar7 (i : Nat) (h : i ≤ 100000) : wrap64 ((i : Int) + 3) = ((i + 3 : Nat) : Int) := by rw [wrap_in (by omega) (by omega)]; omega
theorem ar8 {n : Int} (h : 0 ≤ n ∧ n ≤ 65535) : (0 ≤ n % 45 ∧ n % 45 < 45) ∧ (0 ≤ n / 45 % 45 ∧ n / 45 % 45 < 45) ∧ (0 ≤ n / 45 / 45 % 45 ∧ n / 45 / 45 % 45 < 45) := by
  refine ⟨⟨Int.emod_nonneg _ (by decide), Int.emod_lt_of_pos _ (by decide)⟩, ⟨Int.emod_nonneg _ (by decide), Int.emod_lt_of_pos _ (by decide)⟩, Int.emod_nonneg _ (by decide), Int.emod_lt_of_pos _ (by decide)⟩
theorem ar9 {x : Int} (h : 0 ≤ x ∧ x ≤ 255) : wrap64 x = x ∧ wrap64 (256 * x) = 256 * x := ⟨wrap_in (by omega) (by omega), wrap_in (by omega) (by omega)⟩
theorem ar10 {x y : Int} (h : 0 ≤ x ∧ x ≤ 255) (h' : 0 ≤ y ∧ y ≤ 255) : wrap64 (256 * x + y) = 256 * x + y ∧ 0 ≤ 256 * x + y ∧ 256 * x + y ≤ 65535 := ⟨wrap_in (by omega) (by omega), by omega, by omega⟩
theorem rput_l (S : ByteArray) (hs : (S.size : Int) = 45) (hS : ∀ n, bt S n = sg n) (l : List Int) (h : AllB l) (hl : l.length ≤ 100000) : ∀ d i out, i ≤ l.length → l.length - i ≤ 2 * d → out.length ≤ 2 * i → Ev (fun k => gatelineref16_Put.l0 k l S out (i : Int)) (out ++ putL (l.drop i)) := by
  intro d
  induction d with
  | zero =>
    intro i out hi hd ho
    refine Ev.step (f := fun _ => some (out ++ putL (l.drop i))) (fun k => ?_) (Ev.now _)
    show gatelineref16_Put.l0 (k + 1) l S out (i : Int) = _
    rw [gatelineref16_Put.l0, if_neg (by omega), List.drop_eq_nil_of_le (by omega)]
    simp [putL]
  | succ d ih =>
    intro i out hi hd ho
    by_cases h0 : i < l.length
    · have bx := rd_isB h h0
      obtain ⟨x, hx⟩ : ∃ x, x = rd l (i : Int) := ⟨_, rfl⟩
      rw [← hx] at bx
      have i0 : (0 : Int) ≤ (i : Int) := by omega
      have i1 : (i : Int) < (l.length : Int) := by omega
      have ib : i ≤ 100000 := by omega
      by_cases h1 : i + 1 < l.length
      · have by_ := rd_isB h h1
        obtain ⟨y, hy⟩ : ∃ y, y = rd l ((i + 1 : Nat) : Int) := ⟨_, rfl⟩
        rw [← hy] at by_
        have z := fun n => ih (i + 2) (out ++ digs n 3) (by omega) (by omega) (by simp [digs_len]; omega)
        have j0 : (0 : Int) ≤ ((i + 1 : Nat) : Int) := by omega
        have j1 : ((i + 1 : Nat) : Int) < (l.length : Int) := by omega
        have ol : out.length + 3 < 140737488355328 := by omega
        obtain ⟨e2, e3⟩ := ar9 bx
        have e4 := (ar9 by_).1
        obtain ⟨e5, bn⟩ := ar10 bx by_
        obtain ⟨n, hn⟩ : ∃ n, n = 256 * x + y := ⟨_, rfl⟩
        rw [← hn] at e5 bn
        have e6 : Int.tmod n 45 = n % 45 := Int.tmod_eq_emod_of_nonneg bn.1
        have e7 := ar1 bn
        have e8 := ar3 bn
        have e10 := ar2 bn
        obtain ⟨⟨b1, b2⟩, ⟨b3, b4⟩, b5, b6⟩ := ar8 bn
        have e1 := ar5 i ib
        have e9 := ar6 i ib
        have hp : putL (l.drop i) = digs n 3 ++ putL (l.drop (i + 2)) := by
          rw [drop_rd h0, drop_rd h1, ← hx, ← hy, hn]
          rfl
        rw [hp, ← List.append_assoc]
        refine Ev.step (fun k => ?_) (z n)
        · show gatelineref16_Put.l0 (k + 1) l S out (i : Int) = _
          rw [gatelineref16_Put.l0, if_pos i1]
          simp only [e1, ← hx, ← hy, e2, e3, e4, ← hn, e5, e6, e7, e8, e9, e10, hs]
          rw [if_pos j1, if_pos i0, if_pos j0, if_pos b1, if_pos b2, if_pos b3, if_pos b4, if_pos b5, if_pos b6, Option.bind_some, if_pos (by simpa using ol)]
          simp only [hS]
          rfl
      · have ol : out.length + 2 < 140737488355328 := by omega
        have j1 : ¬ ((i + 1 : Nat) : Int) < (l.length : Int) := by omega
        have j2 : l.length ≤ i + 1 := by omega
        have j3 : l.length ≤ i + 2 := by omega
        have j4 : ¬ ((i + 2 : Nat) : Int) < (l.length : Int) := by omega
        have bx2 : 0 ≤ x ∧ x ≤ 65535 := by omega
        have e2 := (ar9 bx).1
        have e3 : Int.tmod x 45 = x % 45 := Int.tmod_eq_emod_of_nonneg bx.1
        have e4 := ar4 bx
        obtain ⟨⟨b1, b2⟩, ⟨b3, b4⟩, -, -⟩ := ar8 bx2
        have e1 := ar5 i ib
        have e9 := ar6 i ib
        have hp : putL (l.drop i) = digs x 2 ++ putL (l.drop (i + 2)) := by
          rw [drop_rd h0, List.drop_eq_nil_of_le j2, List.drop_eq_nil_of_le j3, ← hx]
          simp [putL]
        have hz : Ev (fun k => gatelineref16_Put.l0 k l S (out ++ digs x 2) ((i + 2 : Nat) : Int)) (out ++ digs x 2 ++ putL (l.drop (i + 2))) := by
          refine Ev.step (f := fun _ => some (out ++ digs x 2 ++ putL (l.drop (i + 2)))) (fun k => ?_) (Ev.now _)
          show gatelineref16_Put.l0 (k + 1) _ _ _ _ = _
          rw [gatelineref16_Put.l0, if_neg j4, List.drop_eq_nil_of_le j3]
          simp [putL]
        rw [hp, ← List.append_assoc]
        refine Ev.step (fun k => ?_) hz
        · show gatelineref16_Put.l0 (k + 1) l S out (i : Int) = _
          rw [gatelineref16_Put.l0, if_pos i1]
          simp only [e1, ← hx, e2, e3, e4, e9, hs]
          rw [if_neg j1, if_pos i0, if_pos b1, if_pos b2, if_pos b3, if_pos b4, Option.bind_some, if_pos (by simpa using ol)]
          simp only [hS]
          rfl
    · refine Ev.step (f := fun _ => some (out ++ putL (l.drop i))) (fun k => ?_) (Ev.now _)
      show gatelineref16_Put.l0 (k + 1) l S out (i : Int) = _
      rw [gatelineref16_Put.l0, if_neg (by omega), List.drop_eq_nil_of_le (by omega)]
      simp [putL]
theorem rput (l : List Int) (h : AllB l) (hl : l.length ≤ 100000) : Ev (fun k => gatelineref16_Put.f k l) (putL l) := by
  have := rput_l signBytes rfl (fun _ => rfl) l h hl l.length 0 [] (by omega) (by omega) (by simp)
  exact this

theorem sign_all : ∀ c : Fin 256, gatelineref16_sign.f 60 (c.val : Int) = some (sd (c.val : Int) - 1) := by decide +kernel
theorem sign_ev {c : Int} (h : 0 ≤ c ∧ c ≤ 255) : Ev (fun k => gatelineref16_sign.f k c) (sd c - 1) := by
  obtain ⟨m, rfl⟩ := Int.eq_ofNat_of_zero_le h.1
  exact Ev.of (fun k => gatelineref16_sign.mono _ k) (sign_all ⟨m, by omega⟩)

/-! ### the reference's Get -/
def nxt (n by_ : Int) (x : Int) : Int := n + by_ * (sd x - 1)
theorem ar11 {x by_ n : Int} (hx : 0 ≤ sd x ∧ sd x ≤ 45) (hb : by_ = 1 ∨ by_ = 45 ∨ by_ = 2025) (hn : 0 ≤ n ∧ n ≤ 100000) : wrap64 (by_ * (sd x - 1)) = by_ * (sd x - 1) ∧ wrap64 (n + by_ * (sd x - 1)) = n + by_ * (sd x - 1) ∧ wrap64 (by_ * 45) = by_ * 45 := by
  rcases hb with rfl | rfl | rfl
  · exact ⟨wrap_in (by omega) (by omega), wrap_in (by omega) (by omega), wrap_in (by omega) (by omega)⟩
  · exact ⟨wrap_in (by omega) (by omega), wrap_in (by omega) (by omega), wrap_in (by omega) (by omega)⟩
  · exact ⟨wrap_in (by omega) (by omega), wrap_in (by omega) (by omega), wrap_in (by omega) (by omega)⟩
/-- One sign of a group. -/
theorem get_one {l : List Int} (h : AllB l) (hl : l.length ≤ 100000) {i j : Nat} (hi : i ≤ 100000) (hj : j < l.length) (h3 : j < i + 3) (out : List Int) {n by_ : Int} (hb : by_ = 1 ∨ by_ = 45 ∨ by_ = 2025) (hn : 0 ≤ n ∧ n ≤ 100000) {r : List Int × Int}
    (hok : sd (rd l (j : Int)) ≠ 0 → Ev (fun k => gatelineref16_Get.l1 k l out (i : Int) (n + by_ * (sd (rd l (j : Int)) - 1)) (by_ * 45) ((j + 1 : Nat) : Int)) r) (hno : sd (rd l (j : Int)) = 0 → r = ([], 7)) :
    Ev (fun k => gatelineref16_Get.l1 k l out (i : Int) n by_ (j : Int)) r := by
  have c1 : (j : Int) < ((i + 3 : Nat) : Int) := by omega
  have c2 : (j : Int) < (l.length : Int) := by omega
  have c3 : (0 : Int) ≤ (j : Int) := by omega
  have c4 : j ≤ 100000 := by omega
  have bx := rd_isB h hj
  obtain ⟨x, hx⟩ : ∃ x, x = rd l (j : Int) := ⟨_, rfl⟩
  rw [← hx] at bx hok hno
  have bs := sd_in x
  have e3 := ar7 i hi
  refine Ev.step (f := fun k => gatelineref16_Get.j2 k l out (i : Int) n by_ (j : Int) true) (fun k => ?_) ?_
  · show gatelineref16_Get.l1 (k + 1) l out (i : Int) n by_ (j : Int) = _
    rw [gatelineref16_Get.l1, e3, if_pos c1, decide_eq_true c2]
  · refine Ev.step (f := fun k => (gatelineref16_sign.f k x).bind fun t => if t < 0 then some ([], 7) else gatelineref16_Get.l1 k l out (i : Int) (wrap64 (n + wrap64 (by_ * t))) (wrap64 (by_ * 45)) (wrap64 ((j : Int) + 1))) (fun k => ?_) ?_
    · show gatelineref16_Get.j2 (k + 1) l out (i : Int) n by_ (j : Int) true = _
      rw [gatelineref16_Get.j2, if_pos rfl, if_pos c3, if_pos c2, ← hx]
    · refine Ev.bind (sign_ev bx) ?_
      by_cases h0 : sd x = 0
      · refine Ev.pos (by omega) ?_
        rw [hno h0]
        exact Ev.now _
      · refine Ev.neg (by omega) ?_
        obtain ⟨w1, w2, w3⟩ := ar11 (x := x) bs hb hn
        rw [w1, w2, w3, ar5 j c4]
        exact hok h0
/-- A group's end. -/
theorem get_end' {l : List Int} (hl : l.length ≤ 100000) {i j : Nat} (hi : i ≤ 100000) (hj : i + 3 ≤ j ∨ j = l.length) (out : List Int) (n by_ : Int) {r : List Int × Int}
    (hr : Ev (fun k => gatelineref16_Get.j2 k l out (i : Int) n by_ (j : Int) false) r) : Ev (fun k => gatelineref16_Get.l1 k l out (i : Int) n by_ (j : Int)) r := by
  have e3 := ar7 i hi
  refine Ev.step (fun k => ?_) hr
  show gatelineref16_Get.l1 (k + 1) l out (i : Int) n by_ (j : Int) = _
  rw [gatelineref16_Get.l1, e3]
  by_cases c : (j : Int) < ((i + 3 : Nat) : Int)
  · rw [if_pos c, decide_eq_false (by omega)]
  · rw [if_neg c]
theorem ar12 {n : Int} (h : 0 ≤ n ∧ n ≤ 65535) : wrap64 (Int.tdiv n 256) % 256 = n / 256 ∧ Int.tmod n 256 % 256 = n % 256 := by
  rw [Int.tdiv_eq_ediv_of_nonneg h.1, Int.tmod_eq_emod_of_nonneg h.1, wrap_in (by omega) (by omega)]
  omega
theorem grp3' (x y z : Int) : grpN [x, y, z] = if sd x = 0 ∨ sd y = 0 ∨ sd z = 0 then none else some ((sd x - 1) + 45 * (sd y - 1) + 2025 * (sd z - 1)) := by
  simp only [grpN]
  by_cases hz : sd z = 0
  · simp [hz]
  · rw [if_neg hz]
    simp only
    by_cases hy : sd y = 0
    · simp [hy]
    · rw [if_neg hy]
      simp only
      by_cases hx : sd x = 0
      · simp [hx]
      · rw [if_neg hx, if_neg (by omega)]
        congr 1
        omega
theorem grp2' (x y : Int) : grpN [x, y] = if sd x = 0 ∨ sd y = 0 then none else some ((sd x - 1) + 45 * (sd y - 1)) := by
  simp only [grpN]
  by_cases hy : sd y = 0
  · simp [hy]
  · rw [if_neg hy]
    simp only
    by_cases hx : sd x = 0
    · simp [hx]
    · rw [if_neg hx, if_neg (by omega)]
      congr 1
      omega
theorem rget_l (l : List Int) (h : AllB l) (hl : l.length ≤ 100000) : ∀ d i out, i ≤ l.length → l.length - i ≤ 3 * d → (l.length - i) % 3 ≠ 1 → out.length ≤ i → Ev (fun k => gatelineref16_Get.l0 k l out (i : Int)) (joinG out (getL (l.drop i))) := by
  intro d
  induction d with
  | zero =>
    intro i out hi hd h3 ho
    have c : ¬ (i : Int) < (l.length : Int) := by omega
    refine Ev.step (f := fun _ => some (out, 0)) (fun k => ?_) ?_
    · show gatelineref16_Get.l0 (k + 1) l out (i : Int) = _
      rw [gatelineref16_Get.l0, if_neg c]
    · rw [List.drop_eq_nil_of_le (by omega)]
      simp only [getL, joinG, List.append_nil, if_true]
      exact Ev.now _
  | succ d ih =>
    intro i out hi hd h3 ho
    by_cases h0 : i < l.length
    case neg =>
      have c : ¬ (i : Int) < (l.length : Int) := by omega
      refine Ev.step (f := fun _ => some (out, 0)) (fun k => ?_) ?_
      · show gatelineref16_Get.l0 (k + 1) l out (i : Int) = _
        rw [gatelineref16_Get.l0, if_neg c]
      · rw [List.drop_eq_nil_of_le (by omega)]
        simp only [getL, joinG, List.append_nil, if_true]
        exact Ev.now _
    have c0 : (i : Int) < (l.length : Int) := by omega
    have ib : i ≤ 100000 := by omega
    have h1 : i + 1 < l.length := by omega
    refine Ev.step (f := fun k => gatelineref16_Get.l1 k l out (i : Int) 0 1 (i : Int)) (fun k => ?_) ?_
    · show gatelineref16_Get.l0 (k + 1) l out (i : Int) = _
      rw [gatelineref16_Get.l0, if_pos c0]
    obtain ⟨x, hx⟩ : ∃ x, x = rd l (i : Int) := ⟨_, rfl⟩
    obtain ⟨y, hy⟩ : ∃ y, y = rd l ((i + 1 : Nat) : Int) := ⟨_, rfl⟩
    have bx := sd_in x
    have by_ := sd_in y
    by_cases h2 : i + 2 < l.length
    · -- three
      obtain ⟨z, hz⟩ : ∃ z, z = rd l ((i + 2 : Nat) : Int) := ⟨_, rfl⟩
      have bz := sd_in z
      have hd3 : l.drop i = x :: y :: z :: l.drop (i + 3) := by rw [drop_rd h0, drop_rd h1, drop_rd h2, ← hx, ← hy, ← hz]
      rw [hd3, getL, grp3']
      have err : (sd x = 0 ∨ sd y = 0 ∨ sd z = 0) → joinG out (match (if sd x = 0 ∨ sd y = 0 ∨ sd z = 0 then none else some ((sd x - 1) + 45 * (sd y - 1) + 2025 * (sd z - 1)) : Option Int) with
        | none => (([], 7) : List Int × Int)
        | some n => if 65535 < n then ([], 23) else joinG [n / 256, n % 256] (getL (l.drop (i + 3)))) = ([], 7) := fun he => by rw [if_pos he]; rfl
      refine get_one h hl ib h0 (by omega) out (by omega) (by omega) (fun hx0 => ?_) (fun hx0 => err (.inl (by rw [hx]; exact hx0)))
      rw [← hx] at hx0 ⊢
      refine get_one h hl ib h1 (by omega) out (by omega) (by omega) (fun hy0 => ?_) (fun hy0 => err (.inr (.inl (by rw [hy]; exact hy0))))
      rw [← hy] at hy0 ⊢
      refine get_one h hl ib h2 (by omega) out (by omega) (by omega) (fun hz0 => ?_) (fun hz0 => err (.inr (.inr (by rw [hz]; exact hz0))))
      rw [← hz] at hz0 ⊢
      clear err
      rw [if_neg (by omega)]
      obtain ⟨n, hn⟩ : ∃ n, n = (sd x - 1) + 45 * (sd y - 1) + 2025 * (sd z - 1) := ⟨_, rfl⟩
      rw [← hn, show (0 : Int) + 1 * (sd x - 1) + 1 * 45 * (sd y - 1) + 1 * 45 * 45 * (sd z - 1) = n by omega]
      have bn0 : 0 ≤ n := by omega
      have c2 : ((i + 2 : Nat) : Int) < (l.length : Int) := by omega
      refine get_end' hl ib (.inl (Nat.le_refl _)) out _ _ ?_
      simp only
      by_cases hb : 65535 < n
      · rw [if_pos hb]
        refine Ev.step (f := fun _ => some ([], 23)) (fun k => ?_) (Ev.now _)
        show gatelineref16_Get.j2 (k + 1) l out (i : Int) n _ _ false = _
        rw [gatelineref16_Get.j2, if_neg (by simp), ar6 i ib, if_pos c2, if_pos (by omega)]
      · rw [if_neg hb, joinG_join]
        have bn : 0 ≤ n ∧ n ≤ 65535 := by omega
        have ol : out.length + 2 < 140737488355328 := by omega
        have z' := ih (i + 3) (out ++ [n / 256, n % 256]) (by omega) (by omega) (by omega) (by simp; omega)
        refine Ev.step (fun k => ?_) z'
        show gatelineref16_Get.j2 (k + 1) l out (i : Int) n _ _ false = _
        obtain ⟨a1, a2⟩ := ar12 bn
        rw [gatelineref16_Get.j2, if_neg (by simp), ar6 i ib, if_pos c2, if_neg (by omega), a1, a2, Option.bind_some, if_pos (by simpa using ol), ar7 i ib]
    · have hd2 : l.drop i = [x, y] := by rw [drop_rd h0, drop_rd h1, ← hx, ← hy, List.drop_eq_nil_of_le (show l.length ≤ i + 1 + 1 by omega)]
      rw [hd2, getL, grp2']
      have err : (sd x = 0 ∨ sd y = 0) → joinG out (match (if sd x = 0 ∨ sd y = 0 then none else some ((sd x - 1) + 45 * (sd y - 1)) : Option Int) with
        | none => (([], 7) : List Int × Int)
        | some n => if 255 < n then ([], 23) else ([n], 0)) = ([], 7) := fun he => by rw [if_pos he]; rfl
      refine get_one h hl ib h0 (by omega) out (by omega) (by omega) (fun hx0 => ?_) (fun hx0 => err (.inl (by rw [hx]; exact hx0)))
      rw [← hx] at hx0 ⊢
      refine get_one h hl ib h1 (by omega) out (by omega) (by omega) (fun hy0 => ?_) (fun hy0 => err (.inr (by rw [hy]; exact hy0)))
      rw [← hy] at hy0 ⊢
      clear err
      rw [if_neg (by omega)]
      obtain ⟨n, hn⟩ : ∃ n, n = (sd x - 1) + 45 * (sd y - 1) := ⟨_, rfl⟩
      rw [← hn, show (0 : Int) + 1 * (sd x - 1) + 1 * 45 * (sd y - 1) = n by omega]
      have bn0 : 0 ≤ n := by omega
      have c2 : ¬ ((i + 2 : Nat) : Int) < (l.length : Int) := by omega
      refine get_end' hl ib (.inr (by omega)) out _ _ ?_
      simp only
      by_cases hb : 255 < n
      · rw [if_pos hb]
        refine Ev.step (f := fun _ => some ([], 23)) (fun k => ?_) (Ev.now _)
        show gatelineref16_Get.j2 (k + 1) l out (i : Int) n _ _ false = _
        rw [gatelineref16_Get.j2, if_neg (by simp), ar6 i ib, if_neg c2, if_pos (by omega)]
      · rw [if_neg hb]
        have ol : out.length < 140737488355328 := by omega
        have c4 : ¬ ((i + 3 : Nat) : Int) < (l.length : Int) := by omega
        have m : n % 256 = n := Int.emod_eq_of_lt (by omega) (by omega)
        refine Ev.step (f := fun k => gatelineref16_Get.l0 k l (out ++ [n]) ((i + 3 : Nat) : Int)) (fun k => ?_) (Ev.step (f := fun _ => some (out ++ [n], 0)) (fun k => ?_) (Ev.now _))
        · show gatelineref16_Get.j2 (k + 1) l out (i : Int) n _ _ false = _
          rw [gatelineref16_Get.j2, if_neg (by simp), ar6 i ib, if_neg c2, if_neg (by omega), if_pos ol, ar7 i ib, m]
        · show gatelineref16_Get.l0 (k + 1) l _ _ = _
          rw [gatelineref16_Get.l0, if_neg c4]
theorem rget (l : List Int) (h : AllB l) (hl : l.length ≤ 100000) : Ev (fun k => gatelineref16_Get.f k l) (if l.length % 3 = 1 then ([], 14) else getL l) := by
  unfold gatelineref16_Get.f
  by_cases h3 : l.length % 3 = 1
  · rw [if_pos h3]
    exact Ev.pos (by omega) (Ev.now _)
  · rw [if_neg h3]
    refine Ev.neg (by omega) ?_
    have z := rget_l l h hl l.length 0 [] (by omega) (by omega) (by simpa using h3) (by simp)
    rw [joinG_nil _ (getL_err _)] at z
    exact z
end Go.Proofs.Ytijpiaiklojafaa.Pure
