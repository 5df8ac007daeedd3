import Derived.Test.YtfmpeojlaibblaaTSwipeOnceUpto4
set_option linter.unusedVariables false
set_option linter.unusedSimpArgs false

/-
  track.Get, the plain part: the program reads a track as the document does.
-/
namespace Go.Proofs.Ytfmpeojlaibblaa.Pure
open Go.RowKit Go.Proofs.Ytfmpeojlaibblaa.S Go.Proofs.YtfmpeojlaibblaaW.PrintWords Go.Proofs.YtfmpeojlaibblaaW.PrintLast Go.Proofs.YtfmpeojlaibblaaW.PrintMore

theorem equal_l (a b : List Int) (hl : a.length = b.length) (hm : a.length ≤ 1000000) : ∀ d i, i + d = a.length → (∀ j : Nat, j < i → rd a (j : Int) = rd b (j : Int)) → Ev (fun k => slices_Equal_byte_byte.l0 k a b (a.length : Int) (i : Int)) (decide (a = b)) := by
  intro d
  induction d with
  | zero =>
    intro i hi hg
    obtain rfl : i = a.length := by omega
    have he : a = b := eq_of_rd hl hg
    refine Ev.step (f := fun _ => some (decide (a = b))) (fun k => ?_) (Ev.now _)
    show slices_Equal_byte_byte.l0 (k + 1) _ _ _ _ = _
    rw [slices_Equal_byte_byte.l0, if_neg (by omega), decide_eq_true he]
  | succ d ih =>
    intro i hi hg
    by_cases he : rd a (i : Int) = rd b (i : Int)
    · refine Ev.step (fun k => ?_) (ih (i + 1) (by omega) (fun j hj => by
        rcases Nat.lt_or_ge j i with h | h
        · exact hg j h
        · obtain rfl : j = i := by omega
          exact he))
      show slices_Equal_byte_byte.l0 (k + 1) _ _ _ _ = _
      rw [slices_Equal_byte_byte.l0, if_pos (by omega), wrap_in (n := (i : Int) + 1) (by omega) (by omega)]
      simp only [he, if_true]
      repeat' split
      all_goals first | rfl | omega
    · have hne : a ≠ b := fun h => he (by rw [h])
      refine Ev.step (f := fun _ => some (decide (a = b))) (fun k => ?_) (Ev.now _)
      show slices_Equal_byte_byte.l0 (k + 1) _ _ _ _ = _
      rw [slices_Equal_byte_byte.l0, if_pos (by omega), decide_eq_false hne]
      simp only [he, if_false]
      repeat' split
      all_goals first | rfl | omega
theorem equal_ev (a b : List Int) (hm : a.length ≤ 1000000) : Ev (fun k => slices_Equal_byte_byte.f k a b) (decide (a = b)) := by
  unfold slices_Equal_byte_byte.f
  by_cases h : (a.length : Int) = (b.length : Int)
  · simp only [if_pos h]
    exact equal_l a b (by omega) hm a.length 0 (by omega) (by omega)
  · simp only [if_neg h]
    have hne : a ≠ b := fun e => h (by rw [e])
    rw [decide_eq_false hne]
    exact Ev.now _

theorem at_chunk (l : List Bool) (i : Nat) (hi : i + 5 ≤ l.length) (hl : l.length ≤ 1000000) : gatelineref11_at.f l (i : Int) = some (chunk l i) := by
  unfold gatelineref11_at.f chunk
  rw [if_pos ⟨by omega, by omega, by omega⟩, of_same]
  rfl
theorem last_rd (vals : List Int) (v : Int) : rd (vals ++ [v]) (((vals ++ [v]).length : Int) - 1) = v := by
  have : (((vals ++ [v]).length : Int) - 1) = ((vals.length : Nat) : Int) := by simp
  rw [this, rd_get (by simp)]
  simp
/-- What the document's loop does at its head. -/
theorem ref_head (b : List Int) (l : List Bool) (vals out : List Int) (v : Int) (i k : Nat) (hv : vals.length ≤ 1000000) :
    gatelineref11_Get.l0 (k + 1) b l (vals ++ [v]) out (i : Int) =
      if v = 15 then (if wrap64 ((i : Int) + 5) > (l.length : Int) then some ([], 5) else (gatelineref11_at.f l (i : Int)).bind fun c => (gatelineref10_Value.f k c).bind fun p => if p.2 = 0 then (gatelineref10_Sum.f k (vals ++ [v])).bind fun s => if p.1 = s.1 then (if (out.length : Int) > 77 then some ([], 21) else if 0 ≤ wrap64 ((i : Int) + 5) then (if wrap64 ((i : Int) + 5) ≤ (l.length : Int) then (gatelineref11_Pack.f k (l.take (wrap64 ((i : Int) + 5)).toNat)).bind fun t => (gatelineref01_Same.f k t b).bind fun e => if e = true then some (out, 0) else some ([], 14) else none) else none) else some ([], 6) else some ([], p.2))
      else (if wrap64 ((i : Int) + 5) > (l.length : Int) then some ([], 5) else (gatelineref11_at.f l (i : Int)).bind fun c => (gatelineref10_Value.f k c).bind fun p => if p.2 = 0 then (if p.1 > 9 then gatelineref11_Get.j2 k b l (vals ++ [v]) out (i : Int) p.1 (p.1 != 15) else gatelineref11_Get.j2 k b l (vals ++ [v]) out (i : Int) p.1 false) else some ([], p.2)) := by
  have hlen : (vals ++ [v]).length = vals.length + 1 := by simp
  have hw : wrap64 (((vals ++ [v]).length : Int) - 1) = ((vals ++ [v]).length : Int) - 1 := wrap_in (by omega) (by omega)
  rw [gatelineref11_Get.l0, hw, if_pos (by omega), if_pos (by omega), last_rd]

/-- The program's result and the document's, from a place on. -/
def Both (b : List Int) (l : List Bool) (g : Nat → Option (Int ⊕ (List Int × Nat))) (h : Nat → Option (List Int × Int)) : Prop := ∃ res r, Ev g res ∧ Ev (fun k => getOut k b l res) r ∧ r.1.length ≤ 1000 ∧ Ev h r
theorem both_err {b : List Int} {l : List Bool} {g : Nat → Option (Int ⊕ (List Int × Nat))} {h : Nat → Option (List Int × Int)} (er : Int) (hg : Ev g (.inl er)) (hh : Ev h ([], er)) : Both b l g h := ⟨.inl er, ([], er), hg, Ev.now _, by simp, hh⟩
theorem both_end (b : List Int) (l : List Bool) (hb : b.length ≤ 50) (hl : l.length ≤ 1000) (vals out : List Int) (i : Nat) (hi : i ≤ l.length) (hv : vals.length ≤ 1000) :
    Both b l (fun _ => digEnd l i (vals ++ [15]) out) (fun k => gatelineref11_Get.l0 k b l (vals ++ [15]) out (i : Int)) := by
  have hps := psum (vals ++ [15]) (by simp; omega)
  have hrs := rsum (vals ++ [15]) (by simp; omega)
  have hw : wrap64 ((i : Int) + 5) = (i : Int) + 5 := wrap_in (by omega) (by omega)
  unfold digEnd
  rw [hps]
  simp only [Option.bind_some]
  have head := fun k => ref_head b l vals out 15 i k (by omega)
  simp only [if_true, hw] at head
  by_cases hend : l.length < i + 5
  · simp only [if_pos hend]
    refine both_err 5 (Ev.now _) (Ev.step (f := fun _ => some ([], 5)) (fun k => ?_) (Ev.now _))
    show gatelineref11_Get.l0 (k + 1) _ _ _ _ _ = _
    rw [head, if_pos (by omega)]
  · simp only [if_neg hend]
    have head2 : ∀ k, gatelineref11_Get.l0 (k + 1) b l (vals ++ [15]) out (i : Int) = (gatelineref10_Value.f k (chunk l i)).bind fun p => if p.2 = 0 then (gatelineref10_Sum.f k (vals ++ [15])).bind fun s => if p.1 = s.1 then (if (out.length : Int) > 77 then some ([], 21) else if 0 ≤ (i : Int) + 5 then (if (i : Int) + 5 ≤ (l.length : Int) then (gatelineref11_Pack.f k (l.take ((i : Int) + 5).toNat)).bind fun t => (gatelineref01_Same.f k t b).bind fun e => if e = true then some (out, 0) else some ([], 14) else none) else none) else some ([], 6) else some ([], p.2) := by
      intro k
      rw [head, if_neg (by omega), at_chunk l i (by omega) (by omega), Option.bind_some]
    obtain ⟨p, hp, hq⟩ := value_both (chunk l i)
    rw [hp]
    simp only [Option.bind_some]
    by_cases h2 : p.2 = 0
    · simp only [if_pos h2]
      by_cases hs : p.1 = (sumP (vals ++ [15])).1
      · simp only [if_pos hs]
        by_cases h7 : 77 < (out.length : Int)
        · simp only [if_pos h7]
          refine both_err 21 (Ev.now _) (Ev.step (fun k => head2 k) (Ev.bind hq ?_))
          refine Ev.congr (fun k => by rw [if_pos h2]) (Ev.bind hrs ?_)
          exact ⟨0, fun k _ => by simp only [if_pos hs]; rw [if_pos h7]⟩
        · simp only [if_neg h7]
          have ht : ((i : Int) + 5).toNat = i + 5 := by omega
          have htl : (l.take (i + 5)).length ≤ 1000 := by rw [List.length_take]; omega
          have hpl : (packL (l.take (i + 5))).length ≤ 1000 := by rw [packL_len]; omega
          refine ⟨.inr (out, i + 5), if packL (l.take (i + 5)) = b then (out, 0) else ([], 14), Ev.now _, ?_, by split <;> simp <;> omega, Ev.step (fun k => head2 k) (Ev.bind hq ?_)⟩
          · show Ev (fun k => (track_Pack.f k (l.take (i + 5))).bind fun t => (slices_Equal_byte_byte.f k t b).bind fun e => if e = true then some (out, 0) else some ([], 14)) _
            refine Ev.bind (tpack _ (by omega)) (Ev.bind (equal_ev _ _ (by omega)) ⟨0, fun k _ => ?_⟩)
            by_cases he : packL (l.take (i + 5)) = b
            · rw [if_pos he, decide_eq_true he, if_pos rfl]
            · rw [if_neg he, decide_eq_false he, if_neg (by simp)]
          · refine Ev.congr (fun k => by rw [if_pos h2]) (Ev.bind hrs ?_)
            refine Ev.congr (fun k => by rw [if_pos hs, if_neg (by omega), if_pos (by omega), if_pos (by omega), ht]) (Ev.bind (rpack (l.take (i + 5)) (by omega)) (Ev.bind (same_ev (packL (l.take (i + 5))) b (by omega)) ⟨0, fun k _ => ?_⟩))
            by_cases he : packL (l.take (i + 5)) = b
            · rw [if_pos he, decide_eq_true he, if_pos rfl]
            · rw [if_neg he, decide_eq_false he, if_neg (by simp)]
      · simp only [if_neg hs]
        refine both_err 6 (Ev.now _) (Ev.step (fun k => head2 k) (Ev.bind hq ?_))
        refine Ev.congr (fun k => by rw [if_pos h2]) (Ev.bind hrs ?_)
        exact ⟨0, fun k _ => by simp only [if_neg hs]⟩
    · simp only [if_neg h2]
      refine both_err p.2 (Ev.now _) (Ev.step (fun k => head2 k) (Ev.bind hq ?_))
      exact ⟨0, fun k _ => by simp only [if_neg h2]⟩

theorem both_loop (b : List Int) (l : List Bool) (hb : b.length ≤ 50) (hl : l.length ≤ 400) : ∀ (d i : Nat) (vals out : List Int) (v0 : Int), l.length - i ≤ d → i ≤ l.length → v0 ≠ 15 → vals.length ≤ i → out.length ≤ i →
    Both b l (fun k => digL l k i (vals ++ [v0]) out) (fun k => gatelineref11_Get.l0 k b l (vals ++ [v0]) out (i : Int)) := by
  intro d
  induction d with
  | zero =>
    intro i vals out v0 hd hi h15 hv ho
    have head := fun k => ref_head b l vals out v0 i k (by omega)
    simp only [if_neg h15, wrap_in (n := (i : Int) + 5) (by omega) (by omega)] at head
    refine both_err 5 (Ev.step (f := fun _ => some (.inl 5)) (fun k => ?_) (Ev.now _)) (Ev.step (f := fun _ => some ([], 5)) (fun k => ?_) (Ev.now _))
    · show digL l (k + 1) _ _ _ = _
      rw [digL, if_pos (by omega)]
    · show gatelineref11_Get.l0 (k + 1) _ _ _ _ _ = _
      rw [head, if_pos (by omega)]
  | succ d ih =>
    intro i vals out v0 hd hi h15 hv ho
    have hw : wrap64 ((i : Int) + 5) = (i : Int) + 5 := wrap_in (by omega) (by omega)
    have head := fun k => ref_head b l vals out v0 i k (by omega)
    simp only [if_neg h15, hw] at head
    by_cases hend : l.length < i + 5
    · refine both_err 5 (Ev.step (f := fun _ => some (.inl 5)) (fun k => ?_) (Ev.now _)) (Ev.step (f := fun _ => some ([], 5)) (fun k => ?_) (Ev.now _))
      · show digL l (k + 1) _ _ _ = _
        rw [digL, if_pos hend]
      · show gatelineref11_Get.l0 (k + 1) _ _ _ _ _ = _
        rw [head, if_pos (by omega)]
    · have head2 : ∀ k, gatelineref11_Get.l0 (k + 1) b l (vals ++ [v0]) out (i : Int) = (gatelineref10_Value.f k (chunk l i)).bind fun p => if p.2 = 0 then (if p.1 > 9 then gatelineref11_Get.j2 k b l (vals ++ [v0]) out (i : Int) p.1 (p.1 != 15) else gatelineref11_Get.j2 k b l (vals ++ [v0]) out (i : Int) p.1 false) else some ([], p.2) := by
        intro k
        rw [head, if_neg (by omega), at_chunk l i (by omega) (by omega), Option.bind_some]
      obtain ⟨p, hp, hq⟩ := value_both (chunk l i)
      have dig : ∀ k, digL l (k + 1) i (vals ++ [v0]) out = if p.2 = 0 then (if p.1 = 15 then digEnd l (i + 5) ((vals ++ [v0]) ++ [p.1]) out else if 9 < p.1 then some (.inl 7) else digL l k (i + 5) ((vals ++ [v0]) ++ [p.1]) (out ++ [p.1 % 256])) else some (.inl p.2) := by
        intro k
        have hvl : (vals ++ [v0]).length < 17592186044416 := by simp; omega
        have hol : out.length < 140737488355328 := by omega
        rw [digL, if_neg hend, hp, Option.bind_some]
        simp only [if_pos hvl, if_pos hol]
      by_cases h2 : p.2 = 0
      · simp only [if_pos h2] at dig
        by_cases hp15 : p.1 = 15
        · simp only [if_pos hp15] at dig
          obtain ⟨res, r, hg, ho', hz, hh⟩ := both_end b l hb (by omega) (vals ++ [v0]) out (i + 5) (by omega) (by simp; omega)
          refine ⟨res, r, Ev.step (fun k => by show digL l (k + 1) _ _ _ = _; rw [dig, hp15]) hg, ho', hz, Ev.step (fun k => head2 k) (Ev.bind hq ?_)⟩
          refine Ev.congr (f := fun k => gatelineref11_Get.j2 k b l (vals ++ [v0]) out (i : Int) 15 false) (fun k => ?_) (Ev.step (fun k => ?_) hh)
          · simp only [if_pos h2]
            rw [hp15, if_pos (by omega)]
            rfl
          · show gatelineref11_Get.j2 (k + 1) _ _ _ _ _ _ _ = _
            rw [gatelineref11_Get.j2, if_neg (by simp), if_pos (by simp; omega), Option.bind_some, if_pos rfl, hw]
            rfl
        · simp only [if_neg hp15] at dig
          by_cases h9 : 9 < p.1
          · simp only [if_pos h9] at dig
            refine both_err 7 (Ev.step (f := fun _ => some (.inl 7)) (fun k => dig k) (Ev.now _)) (Ev.step (fun k => head2 k) (Ev.bind hq ?_))
            refine Ev.congr (f := fun k => gatelineref11_Get.j2 k b l (vals ++ [v0]) out (i : Int) p.1 true) (fun k => ?_) (Ev.step (f := fun _ => some ([], 7)) (fun k => ?_) (Ev.now _))
            · simp only [if_pos h2]
              rw [if_pos (show p.1 > 9 from h9), show (p.1 != 15) = true from bne_iff_ne.mpr hp15]
            · show gatelineref11_Get.j2 (k + 1) _ _ _ _ _ _ _ = _
              rw [gatelineref11_Get.j2, if_pos rfl]
          · simp only [if_neg h9] at dig
            obtain ⟨res, r, hg, ho', hz, hh⟩ := ih (i + 5) (vals ++ [v0]) (out ++ [p.1 % 256]) p.1 (by omega) (by omega) hp15 (by simp; omega) (by simp; omega)
            refine ⟨res, r, Ev.step (fun k => dig k) hg, ho', hz, Ev.step (fun k => head2 k) (Ev.bind hq ?_)⟩
            refine Ev.congr (f := fun k => gatelineref11_Get.j2 k b l (vals ++ [v0]) out (i : Int) p.1 false) (fun k => ?_) (Ev.step (fun k => ?_) hh)
            · simp only [if_pos h2]
              rw [if_neg (show ¬ p.1 > 9 from h9)]
            · show gatelineref11_Get.j2 (k + 1) _ _ _ _ _ _ _ = _
              rw [gatelineref11_Get.j2, if_neg (by simp), if_pos (by simp; omega), Option.bind_some, if_neg hp15, if_pos (by omega), hw]
              rfl
      · simp only [if_neg h2] at dig
        refine both_err p.2 (Ev.step (f := fun _ => some (.inl p.2)) (fun k => dig k) (Ev.now _)) (Ev.step (fun k => head2 k) (Ev.bind hq ?_))
        exact ⟨0, fun k _ => by simp only [if_neg h2]⟩

/-- What is read of a track is the same in both. -/
theorem get_both (b : List Int) (hb : AllB b) : ∃ r, Ev (fun k => track_Get.f k b) r ∧ Ev (fun k => gatelineref11_Get.f k b) r ∧ r.1.length ≤ 1000 := by
  have j0 : ∀ x, x = true → Ev (fun k => gatelineref11_Get.j0 k b x) ([], 14) := fun x hx => by
    subst hx
    refine Ev.step (f := fun _ => some ([], 14)) (fun k => ?_) (Ev.now _)
    show gatelineref11_Get.j0 (k + 1) _ _ = _
    rw [gatelineref11_Get.j0, if_pos rfl]
  by_cases h : b.length < 2 ∨ 50 < b.length
  · refine ⟨([], 14), ?_, ?_, by simp⟩
    · unfold track_Get.f
      simp only [if_pos h]
      exact Ev.now _
    · unfold gatelineref11_Get.f
      by_cases h2 : (b.length : Int) < 2
      · simp only [if_pos h2]; exact j0 _ rfl
      · simp only [if_neg h2]; exact j0 _ (decide_eq_true (by omega))
  · have hl : (unpackL b).length = 8 * b.length := unpackL_len b
    have ht := tunpack b hb (by omega)
    have hr := runpack b hb (by omega)
    obtain ⟨r, hg, hh, hz⟩ : ∃ r, Ev (fun k => (digF (unpackL b) k).bind fun res => getOut k b (unpackL b) res) r ∧ Ev (fun k => (gatelineref11_at.f (unpackL b) 0).bind fun t => if t = 11 then gatelineref11_Get.l0 k b (unpackL b) [11] [] 5 else some ([], 4)) r ∧ r.1.length ≤ 1000 := by
      have ha := at_chunk (unpackL b) 0 (by omega) (by omega)
      have ha' : gatelineref11_at.f (unpackL b) 0 = some (chunk (unpackL b) 0) := ha
      unfold digF
      rw [ha']
      by_cases h11 : chunk (unpackL b) 0 = 11
      · obtain ⟨res, r, h1, h2, hz, h3⟩ := both_loop b (unpackL b) (by omega) (by omega) (unpackL b).length 5 [] [] 11 (by omega) (by omega) (by omega) (by simp) (by simp)
        simp only [if_pos h11, Option.bind_some]
        exact ⟨r, Ev.bind h1 h2, h3, hz⟩
      · simp only [if_neg h11, Option.bind_some]
        exact ⟨([], 4), Ev.now _, Ev.now _, by simp⟩
    refine ⟨r, ?_, ?_, hz⟩
    · unfold track_Get.f
      simp only [if_neg h]
      refine Ev.bind ht (Ev.congr (fun k => ?_) hg)
      rw [if_pos ⟨by omega, by omega⟩]
    · unfold gatelineref11_Get.f
      simp only [if_neg (show ¬ (b.length : Int) < 2 by omega), decide_eq_false (show ¬ (b.length : Int) > 50 by omega)]
      refine Ev.step (fun k => ?_) (Ev.bind (f := fun k l => (gatelineref11_at.f l 0).bind fun t => if t = 11 then gatelineref11_Get.l0 k b l [11] [] 5 else some ([], 4)) hr hh)
      show gatelineref11_Get.j0 (k + 1) _ _ = _
      rw [gatelineref11_Get.j0, if_neg (by simp)]
end Go.Proofs.Ytfmpeojlaibblaa.Pure

/-
  track: characters' bits, and what bytes tell of them, the plain part.
-/
namespace Go.Proofs.Ytfmpeojlaibblaa.Pure
open Go.RowKit Go.Proofs.Ytfmpeojlaibblaa.S Go.Proofs.YtfmpeojlaibblaaW.PrintWords Go.Proofs.YtfmpeojlaibblaaW.PrintLast Go.Proofs.YtfmpeojlaibblaaW.PrintMore

theorem v8_bit : ∀ b0 b1 b2 b3 b4 b5 b6 b7 : Bool, bitOf ((v8 b0 b1 b2 b3 b4 b5 b6 b7 : Nat) : Int) 0 = b0 ∧ bitOf ((v8 b0 b1 b2 b3 b4 b5 b6 b7 : Nat) : Int) 1 = b1 ∧ bitOf ((v8 b0 b1 b2 b3 b4 b5 b6 b7 : Nat) : Int) 2 = b2 ∧ bitOf ((v8 b0 b1 b2 b3 b4 b5 b6 b7 : Nat) : Int) 3 = b3 ∧
    bitOf ((v8 b0 b1 b2 b3 b4 b5 b6 b7 : Nat) : Int) 4 = b4 ∧ bitOf ((v8 b0 b1 b2 b3 b4 b5 b6 b7 : Nat) : Int) 5 = b5 ∧ bitOf ((v8 b0 b1 b2 b3 b4 b5 b6 b7 : Nat) : Int) 6 = b6 ∧ bitOf ((v8 b0 b1 b2 b3 b4 b5 b6 b7 : Nat) : Int) 7 = b7 := by decide +kernel
theorem byt_bit (l : List Bool) (i t : Nat) (ht : t < 8) : bitOf ((byt l i 8 : Nat) : Int) t = l.getD (i + t) false := by
  rw [byt8]
  obtain ⟨h0, h1, h2, h3, h4, h5, h6, h7⟩ := v8_bit (l.getD i false) (l.getD (i + 1) false) (l.getD (i + 2) false) (l.getD (i + 3) false) (l.getD (i + 4) false) (l.getD (i + 5) false) (l.getD (i + 6) false) (l.getD (i + 7) false)
  match t, ht with
  | 0, _ => exact h0
  | 1, _ => exact h1
  | 2, _ => exact h2
  | 3, _ => exact h3
  | 4, _ => exact h4
  | 5, _ => exact h5
  | 6, _ => exact h6
  | 7, _ => exact h7
/-- Bits, packed and unpacked: as they were, and nought behind them. -/
theorem unpack_pack (l : List Bool) (j : Nat) (hj : j < 8 * ((l.length + 7) / 8)) : (unpackL (packL l)).getD j false = l.getD j false := by
  rw [unpackL_getD _ _ (by rw [packL_len]; exact hj)]
  have hq : j / 8 < (packL l).length := by rw [packL_len]; omega
  rw [rd_get hq]
  have : (packL l)[j / 8] = ((byt l (8 * (j / 8)) 8 : Nat) : Int) := by simp [packL]
  rw [this, byt_bit _ _ _ (by omega), show 8 * (j / 8) + j % 8 = j by omega]
theorem charsTo_getD (ys : List Int) : ∀ n, n ≤ ys.length → ∀ i t, i < n → t < 5 → (charsTo ys n).getD (5 * i + t) false = (bit5 (chr (rd ys (i : Int)))).getD t false := by
  intro n
  induction n with
  | zero => intro _ i t hi; omega
  | succ n ih =>
    intro hn i t hi ht
    have hl := charsTo_len ys n (by omega)
    rw [charsTo_succ ys n (by omega), List.getD_eq_getElem?_getD, List.getElem?_append]
    rcases Nat.lt_or_ge i n with h | h
    · rw [if_pos (by omega)]
      have := ih (by omega) i t h ht
      rw [List.getD_eq_getElem?_getD] at this
      exact this
    · obtain rfl : i = n := by omega
      rw [if_neg (by omega), hl, show 5 * i + t - 5 * i = t by omega, List.getD_eq_getElem?_getD]
theorem bit5_chr_inj : ∀ v w : Fin 16, bit5 (chr (v.val : Int)) = bit5 (chr (w.val : Int)) → v = w := by decide +kernel
theorem bit5_eq {x y : Int} (hx : 0 ≤ x ∧ x ≤ 15) (hy : 0 ≤ y ∧ y ≤ 15) (h : ∀ t, t < 5 → (bit5 (chr x)).getD t false = (bit5 (chr y)).getD t false) : x = y := by
  have he : bit5 (chr x) = bit5 (chr y) := by
    refine List.ext_getElem (by simp [bit5]) fun t h1 h2 => ?_
    have := h t (by simpa [bit5] using h1)
    rw [List.getD_eq_getElem?_getD, List.getD_eq_getElem?_getD, List.getElem?_eq_getElem h1, List.getElem?_eq_getElem h2] at this
    simpa using this
  obtain ⟨n, rfl⟩ := Int.eq_ofNat_of_zero_le hx.1
  obtain ⟨m, rfl⟩ := Int.eq_ofNat_of_zero_le hy.1
  have := bit5_chr_inj ⟨n, by omega⟩ ⟨m, by omega⟩ he
  simp only [Fin.mk.injEq] at this
  rw [this]
theorem bitsOf_len (l : List Int) : (bitsOf l).length = 5 * l.length + 15 := by
  unfold bitsOf
  rw [charsTo_len _ _ (Nat.le_refl _), vals1_len]
  omega
theorem vals1_rd (l : List Int) (i : Nat) (hi : i < l.length) : rd (vals1 l) ((i + 1 : Nat) : Int) = rd l (i : Int) := by
  rw [rd_get (by rw [vals1_len]; omega), rd_get hi]
  simp only [vals1, vals0, List.cons_append, List.getElem_cons_succ]
  rw [List.getElem_append_left (by simp; omega), List.getElem_append_left (by omega)]
theorem vals1_end (l : List Int) : rd (vals1 l) ((l.length + 1 : Nat) : Int) = 15 := by
  rw [rd_get (by rw [vals1_len]; omega)]
  simp [vals1, vals0]
theorem pack_char {l m : List Int} (h : packL (bitsOf l) = packL (bitsOf m)) (i : Nat) (hi : i < l.length + 3) (hj : i < m.length + 3) (hl : Dig l) (hm : Dig m) : rd (vals1 l) (i : Int) = rd (vals1 m) (i : Int) := by
  have li := bitsOf_len l
  have lm := bitsOf_len m
  have e1 := vals1_len l
  have e2 := vals1_len m
  refine bit5_eq (vals1_in hl _ (by rw [rd_get (by omega)]; exact List.getElem_mem _)) (vals1_in hm _ (by rw [rd_get (by omega)]; exact List.getElem_mem _)) fun t ht => ?_
  rw [← charsTo_getD (vals1 l) (vals1 l).length (Nat.le_refl _) i t (by omega) ht, ← charsTo_getD (vals1 m) (vals1 m).length (Nat.le_refl _) i t (by omega) ht]
  show (bitsOf l).getD _ _ = (bitsOf m).getD _ _
  rw [← unpack_pack (bitsOf l) (5 * i + t) (by omega), ← unpack_pack (bitsOf m) (5 * i + t) (by omega), h]
theorem pack_lt {l m : List Int} (hl : Dig l) (hm : Dig m) (h : packL (bitsOf l) = packL (bitsOf m)) (hn : l.length < m.length) : False := by
  have e := pack_char h (l.length + 1) (by omega) (by omega) hl hm
  rw [vals1_end, vals1_rd m l.length hn] at e
  have := hm (rd m (l.length : Int)) (by rw [rd_get hn]; exact List.getElem_mem _)
  omega
/-- Unlike digits have unlike tracks. -/
theorem pack_inj {l m : List Int} (hl : Dig l) (hm : Dig m) (h : packL (bitsOf l) = packL (bitsOf m)) : l = m := by
  rcases Nat.lt_trichotomy l.length m.length with hn | hn | hn
  · exact (pack_lt hl hm h hn).elim
  · refine eq_of_rd hn fun j hj => ?_
    have e := pack_char h (j + 1) (by omega) (by omega) hl hm
    rw [vals1_rd l j hj, vals1_rd m j (by omega)] at e
    exact e
  · exact (pack_lt hm hl h.symm hn).elim
theorem put_ok {l : List Int} (hb : AllB l) (h : (put l).2 = 0) : l.length ≤ 77 ∧ Dig l ∧ (put l).1 = packL (bitsOf l) := by
  unfold put at h ⊢
  by_cases h7 : (l.length : Int) > 77
  · rw [if_pos h7] at h; simp at h
  · rw [if_neg h7] at h ⊢
    unfold putL at h ⊢
    by_cases ha : (l.drop 0).any (fun x => decide (9 < x)) = true
    · rw [if_pos ha] at h; simp at h
    · rw [if_neg ha]
      refine ⟨by omega, fun v hv => ?_, rfl⟩
      have h0 := (hb v hv).1
      have : ¬ 9 < v := fun h9 => ha (by rw [List.any_eq_true]; exact ⟨v, by simpa using hv, by simpa using h9⟩)
      omega
end Go.Proofs.Ytfmpeojlaibblaa.Pure

/-
  track.Get after track.Put, and track.Put after track.Get: the plain part.
-/
namespace Go.Proofs.Ytfmpeojlaibblaa.Pure
open Go.RowKit Go.Proofs.Ytfmpeojlaibblaa.S Go.Proofs.YtfmpeojlaibblaaW.PrintWords Go.Proofs.YtfmpeojlaibblaaW.PrintLast Go.Proofs.YtfmpeojlaibblaaW.PrintMore

theorem of_bit5 : ∀ v : Fin 16, ofTo ((bit5 (chr (v.val : Int))).getD 0 false) ((bit5 (chr (v.val : Int))).getD 1 false) ((bit5 (chr (v.val : Int))).getD 2 false) ((bit5 (chr (v.val : Int))).getD 3 false) ((bit5 (chr (v.val : Int))).getD 4 false) 5 = chr (v.val : Int) := by decide +kernel
/-- Value and bits of a character. -/
theorem value_bits : ∀ b0 b1 b2 b3 b4 : Bool, ∀ v : Fin 16, parity_Value.f (ofTo b0 b1 b2 b3 b4 5) = some ((v.val : Int), 0) → bit5 (chr (v.val : Int)) = [b0, b1, b2, b3, b4] := by decide +kernel
theorem value_in (b0 b1 b2 b3 b4 : Bool) : ∃ p, parity_Value.f (ofTo b0 b1 b2 b3 b4 5) = some p ∧ (p.2 = 0 → 0 ≤ p.1 ∧ p.1 ≤ 15) := by
  have h : ∀ b0 b1 b2 b3 b4 : Bool, ((parity_Value.f (ofTo b0 b1 b2 b3 b4 5)).any fun p => decide (p.2 = 0 → 0 ≤ p.1 ∧ p.1 ≤ 15)) = true := by decide +kernel
  have := h b0 b1 b2 b3 b4
  cases hp : parity_Value.f (ofTo b0 b1 b2 b3 b4 5) with
  | none => rw [hp] at this; simp at this
  | some p => rw [hp] at this; exact ⟨p, rfl, by simpa only [Option.any_some, decide_eq_true_eq] using this⟩
theorem bitAt_nat (l : List Bool) (i : Nat) : bitAt l (i : Int) = l.getD i false := rdOf_nat l i
/-- The character at a place, where the bits are those of a value's. -/
theorem chunk_chr (l : List Bool) (i : Nat) (v : Int) (hv : 0 ≤ v ∧ v ≤ 15) (h : ∀ t, t < 5 → l.getD (i + t) false = (bit5 (chr v)).getD t false) : chunk l i = chr v := by
  obtain ⟨n, rfl⟩ := Int.eq_ofNat_of_zero_le hv.1
  have k := of_bit5 ⟨n, by omega⟩
  simp only at k
  unfold chunk
  simp only [bitAt_nat]
  rw [show l.getD i false = _ from h 0 (by omega), h 1 (by omega), h 2 (by omega), h 3 (by omega), h 4 (by omega)]
  exact k
theorem value_of_chr (v : Int) (hv : 0 ≤ v ∧ v ≤ 15) : parity_Value.f (chr v) = some (v, 0) := by
  obtain ⟨n, rfl⟩ := Int.eq_ofNat_of_zero_le hv.1
  exact value_chr ⟨n, by omega⟩
theorem bits_of_value (l : List Bool) (i : Nat) (v : Int) (hv : 0 ≤ v ∧ v ≤ 15) (h : parity_Value.f (chunk l i) = some (v, 0)) : ∀ t, t < 5 → l.getD (i + t) false = (bit5 (chr v)).getD t false := by
  obtain ⟨n, rfl⟩ := Int.eq_ofNat_of_zero_le hv.1
  unfold chunk at h
  simp only [bitAt_nat] at h
  have k := value_bits _ _ _ _ _ ⟨n, by omega⟩ h
  simp only at k
  intro t ht
  rw [k]
  match t, ht with
  | 0, _ => rfl
  | 1, _ => rfl
  | 2, _ => rfl
  | 3, _ => rfl
  | 4, _ => rfl

section
variable (l : List Int) (hd : Dig l) (hn : l.length ≤ 77)
/-- The bits of a track that was put. -/
def LL : List Bool := unpackL (packL (bitsOf l))
theorem LL_len : (LL l).length = 8 * ((5 * l.length + 22) / 8) := by
  unfold LL
  rw [unpackL_len, packL_len, bitsOf_len]
theorem LL_char (i : Nat) (hi : i < l.length + 3) (t : Nat) (ht : t < 5) : (LL l).getD (5 * i + t) false = (bit5 (chr (rd (vals1 l) (i : Int)))).getD t false := by
  have lb := bitsOf_len l
  have e1 := vals1_len l
  unfold LL
  rw [unpack_pack _ _ (by omega)]
  exact charsTo_getD (vals1 l) (vals1 l).length (Nat.le_refl _) i t (by omega) ht
include hd in
theorem LL_value (i : Nat) (hi : i < l.length + 3) : parity_Value.f (chunk (LL l) (5 * i)) = some (rd (vals1 l) (i : Int), 0) := by
  have e1 := vals1_len l
  have hv := vals1_in hd (rd (vals1 l) (i : Int)) (by rw [rd_get (by omega)]; exact List.getElem_mem _)
  rw [chunk_chr (LL l) (5 * i) _ hv (fun t ht => LL_char l i hi t ht)]
  exact value_of_chr _ hv
theorem vals1_sum : rd (vals1 l) ((l.length + 2 : Nat) : Int) = (sumP (vals0 l)).1 := by
  have e1 := vals1_len l
  rw [rd_get (by omega)]
  have hz : (vals0 l).length = l.length + 2 := by simp [vals0]
  simp only [vals1]
  rw [List.getElem_append_right (by omega)]
  simp [hz]
include hd hn in
theorem LL_dig : ∀ d i, i + d = l.length → Ev (fun k => digL (LL l) k (5 * (i + 1)) (11 :: l.take i) (l.take i)) (.inr (l, 5 * (l.length + 3))) := by
  have hll := LL_len l
  intro d
  induction d with
  | zero =>
    intro i hi
    obtain rfl : i = l.length := by omega
    rw [List.take_length]
    have hv := LL_value l hd (l.length + 1) (by omega)
    rw [vals1_end] at hv
    have hs := LL_value l hd (l.length + 2) (by omega)
    rw [vals1_sum] at hs
    refine Ev.step (f := fun _ => some (.inr (l, 5 * (l.length + 3)))) (fun k => ?_) (Ev.now _)
    show digL (LL l) (k + 1) _ _ _ = _
    have h0 : (11 :: l).length < 17592186044416 := by simp; omega
    rw [digL, if_neg (by omega), hv, Option.bind_some]
    simp only [if_true, if_pos h0]
    have hv0 : 11 :: l ++ [15] = vals0 l := rfl
    unfold digEnd
    rw [hv0, psum _ (by simp [vals0]; omega), Option.bind_some, if_neg (by omega), show 5 * (l.length + 1) + 5 = 5 * (l.length + 2) by omega, hs, Option.bind_some]
    simp only [if_true]
    rw [if_neg (by omega), show 5 * (l.length + 2) + 5 = 5 * (l.length + 3) by omega]
  | succ d ih =>
    intro i hi
    have hv := LL_value l hd (i + 1) (by omega)
    rw [vals1_rd l i (by omega)] at hv
    have hx := hd (rd l (i : Int)) (by rw [rd_get (show i < l.length by omega)]; exact List.getElem_mem _)
    refine Ev.step (fun k => ?_) (ih (i + 1) (by omega))
    show digL (LL l) (k + 1) _ _ _ = _
    have h0 : (11 :: l.take i).length < 17592186044416 := by simp; omega
    have h1 : (l.take i).length < 140737488355328 := by simp; omega
    rw [digL, if_neg (by omega), hv, Option.bind_some]
    simp only [if_true, if_pos h0, if_pos h1]
    rw [if_neg (by omega), if_neg (by omega), Int.emod_eq_of_lt (by omega) (by omega), take_rd l i (by omega)]
    rfl
include hd hn in
/-- What was put is got again. -/
theorem get_put : Ev (fun k => track_Get.f k (packL (bitsOf l))) (l, 0) := by
  have hll := LL_len l
  have lb := bitsOf_len l
  have hpl : (packL (bitsOf l)).length = (5 * l.length + 22) / 8 := by rw [packL_len, lb]
  have hab : AllB (packL (bitsOf l)) := by
    intro x hx
    simp only [packL, List.mem_map] at hx
    obtain ⟨q, _, rfl⟩ := hx
    have := byt_lt (bitsOf l) (8 * q) 8
    exact ⟨by omega, by omega⟩
  have hc : chunk (LL l) 0 = 11 := by
    have := chunk_chr (LL l) 0 11 (by omega) (fun t ht => by
      have h := LL_char l 0 (by omega) t ht
      rw [show rd (vals1 l) ((0 : Nat) : Int) = 11 from rfl] at h
      simpa using h)
    rw [this]
    rfl
  have htk : (LL l).take (5 * (l.length + 3)) = bitsOf l := by
    refine List.ext_getElem (by rw [List.length_take]; omega) fun j h1 h2 => ?_
    have g : (LL l).getD j false = (bitsOf l).getD j false := unpack_pack (bitsOf l) j (by omega)
    rw [List.getD_eq_getElem?_getD, List.getD_eq_getElem?_getD, List.getElem?_eq_getElem (by omega), List.getElem?_eq_getElem h2] at g
    simpa using g
  have hdig := LL_dig l hd hn l.length 0 (by omega)
  unfold track_Get.f
  simp only [if_neg (show ¬ ((packL (bitsOf l)).length < 2 ∨ 50 < (packL (bitsOf l)).length) by omega)]
  refine Ev.bind (tunpack _ hab (by omega)) (Ev.congr (f := fun k => (digF (LL l) k).bind fun res => getOut k (packL (bitsOf l)) (LL l) res) (fun k => ?_) ?_)
  · show (if 5 ≤ (LL l).length ∧ (LL l).length ≤ 1000000 then (digF (LL l) k).bind fun res => getOut k (packL (bitsOf l)) (LL l) res else none) = _
    rw [if_pos ⟨by omega, by omega⟩]
  · unfold digF
    simp only [if_pos hc]
    refine Ev.bind hdig ?_
    show Ev (fun k => (track_Pack.f k ((LL l).take (5 * (l.length + 3)))).bind fun t => (slices_Equal_byte_byte.f k t (packL (bitsOf l))).bind fun e => if e = true then some (l, 0) else some ([], 14)) _
    rw [htk]
    exact Ev.bind (tpack _ (by omega)) (Ev.bind (equal_ev _ _ (by omega)) ⟨0, fun k _ => by rw [decide_eq_true rfl, if_pos rfl]⟩)
end

/-! ### what was got is put as it was -/
/-- What is got: digits whose track is these very bytes, or nothing and a reason. -/
def Good (b : List Int) (r : List Int × Int) : Prop := (r.2 = 0 → Dig r.1 ∧ r.1.length ≤ 77 ∧ packL (bitsOf r.1) = b) ∧ (r.2 ≠ 0 → r.1 = [])
theorem good_err (b : List Int) {er : Int} (h : er ≠ 0) : Good b ([], er) := ⟨fun h0 => absurd h0 h, fun _ => rfl⟩
/-- The bits up to a place are these values' characters. -/
def Read (l : List Bool) (vs : List Int) : Prop := ∀ i t, i < vs.length → t < 5 → l.getD (5 * i + t) false = (bit5 (chr (rd vs (i : Int)))).getD t false
theorem Read.snoc {l : List Bool} {vs : List Int} {v : Int} (h : Read l vs) (hv : ∀ t, t < 5 → l.getD (5 * vs.length + t) false = (bit5 (chr v)).getD t false) : Read l (vs ++ [v]) := by
  intro i t hi ht
  rcases Nat.lt_or_ge i vs.length with h1 | h1
  · have e : rd (vs ++ [v]) (i : Int) = rd vs (i : Int) := by
      rw [rd_get hi, rd_get h1, List.getElem_append_left h1]
    rw [e]
    exact h i t h1 ht
  · obtain rfl : i = vs.length := by simp at hi; omega
    have e : rd (vs ++ [v]) ((vs.length : Nat) : Int) = v := by
      rw [rd_get hi]
      simp
    rw [e]
    exact hv t ht
theorem read_take {l : List Bool} {vs : List Int} (h : Read l vs) (hl : 5 * vs.length ≤ l.length) : l.take (5 * vs.length) = charsTo vs vs.length := by
  have hc := charsTo_len vs vs.length (Nat.le_refl _)
  refine List.ext_getElem (by rw [List.length_take]; omega) fun j h1 h2 => ?_
  have g := h (j / 5) (j % 5) (by omega) (by omega)
  rw [← charsTo_getD vs vs.length (Nat.le_refl _) (j / 5) (j % 5) (by omega) (by omega), show 5 * (j / 5) + j % 5 = j by omega] at g
  rw [List.getD_eq_getElem?_getD, List.getD_eq_getElem?_getD, List.getElem?_eq_getElem (by rw [List.length_take] at h1; omega), List.getElem?_eq_getElem h2] at g
  simpa using g
theorem value_at (l : List Bool) (i : Nat) : ∃ p, parity_Value.f (chunk l i) = some p ∧ (p.2 = 0 → 0 ≤ p.1 ∧ p.1 ≤ 15) := value_in _ _ _ _ _
theorem good_now {b : List Int} {l : List Bool} {er : Int} (h : er ≠ 0) : Ev (fun k => getOut k b l (.inl er)) ([], er) ∧ Good b ([], er) := ⟨Ev.now _, good_err b h⟩
theorem good_end (b : List Int) (l : List Bool) (hl : l.length ≤ 400) (out : List Int) (hr : Read l (11 :: out ++ [15])) (hd : Dig out) (hlen : 5 * (out.length + 2) ≤ l.length) :
    ∃ res r, digEnd l (5 * (out.length + 2)) (11 :: out ++ [15]) out = some res ∧ Ev (fun k => getOut k b l res) r ∧ Good b r := by
  have hv0 : 11 :: out ++ [15] = vals0 out := rfl
  rw [hv0] at hr ⊢
  have hz : (vals0 out).length = out.length + 2 := by simp [vals0]
  unfold digEnd
  rw [psum _ (by omega), Option.bind_some]
  by_cases hend : l.length < 5 * (out.length + 2) + 5
  · rw [if_pos hend]
    exact ⟨_, _, rfl, good_now (by omega)⟩
  · rw [if_neg hend]
    obtain ⟨p, hp, hin⟩ := value_at l (5 * (out.length + 2))
    rw [hp, Option.bind_some]
    by_cases h2 : p.2 = 0
    · rw [if_pos h2]
      by_cases hs : p.1 = (sumP (vals0 out)).1
      · rw [if_pos hs]
        by_cases h7 : 77 < (out.length : Int)
        · rw [if_pos h7]
          exact ⟨_, _, rfl, good_now (by omega)⟩
        · rw [if_neg h7]
          have hpe : parity_Value.f (chunk l (5 * (out.length + 2))) = some (p.1, 0) := by rw [hp, ← h2]
          have hr1 : Read l (vals1 out) := by
            unfold vals1
            refine hr.snoc ?_
            rw [hz, ← hs]
            exact bits_of_value l _ p.1 (hin h2) hpe
          have e1 := vals1_len out
          have ht : l.take (5 * (out.length + 2) + 5) = bitsOf out := by
            have := read_take hr1 (by omega)
            rw [e1] at this
            rw [show 5 * (out.length + 2) + 5 = 5 * (out.length + 3) by omega, this]
            unfold bitsOf
            rw [e1]
          have lb := bitsOf_len out
          have hpl : (packL (bitsOf out)).length ≤ 1000 := by rw [packL_len]; omega
          refine ⟨_, if packL (bitsOf out) = b then (out, 0) else ([], 14), rfl, ?_, ?_⟩
          · show Ev (fun k => (track_Pack.f k (l.take (5 * (out.length + 2) + 5))).bind fun t => (slices_Equal_byte_byte.f k t b).bind fun e => if e = true then some (out, 0) else some ([], 14)) _
            rw [ht]
            refine Ev.bind (tpack _ (by omega)) (Ev.bind (equal_ev _ _ (by omega)) ⟨0, fun k _ => ?_⟩)
            by_cases he : packL (bitsOf out) = b
            · rw [if_pos he, decide_eq_true he, if_pos rfl]
            · rw [if_neg he, decide_eq_false he, if_neg (by simp)]
          · by_cases he : packL (bitsOf out) = b
            · rw [if_pos he]
              exact ⟨fun _ => ⟨hd, show out.length ≤ 77 by omega, he⟩, fun h => absurd rfl h⟩
            · rw [if_neg he]
              exact good_err b (by omega)
      · rw [if_neg hs]
        exact ⟨_, _, rfl, good_now (by omega)⟩
    · rw [if_neg h2]
      exact ⟨_, _, rfl, good_now h2⟩
theorem good_inl (b : List Int) (l : List Bool) {g : Nat → Option (Int ⊕ (List Int × Nat))} (er : Int) (h : er ≠ 0) (hg : Ev g (.inl er)) : ∃ res r, Ev g res ∧ Ev (fun k => getOut k b l res) r ∧ Good b r := ⟨.inl er, ([], er), hg, Ev.now _, good_err b h⟩
theorem good_loop (b : List Int) (l : List Bool) (hl : l.length ≤ 400) : ∀ (d : Nat) (out : List Int), l.length - 5 * (out.length + 1) ≤ d → 5 * (out.length + 1) ≤ l.length → Dig out → Read l (11 :: out) →
    ∃ res r, Ev (fun k => digL l k (5 * (out.length + 1)) (11 :: out) out) res ∧ Ev (fun k => getOut k b l res) r ∧ Good b r := by
  intro d
  induction d with
  | zero =>
    intro out hd hi hdig hr
    refine good_inl b l 5 (by omega) (Ev.step (f := fun _ => some (.inl 5)) (fun k => ?_) (Ev.now _))
    show digL l (k + 1) _ _ _ = _
    rw [digL, if_pos (by omega)]
  | succ d ih =>
    intro out hd hi hdig hr
    by_cases hend : l.length < 5 * (out.length + 1) + 5
    · refine good_inl b l 5 (by omega) (Ev.step (f := fun _ => some (.inl 5)) (fun k => ?_) (Ev.now _))
      show digL l (k + 1) _ _ _ = _
      rw [digL, if_pos hend]
    · obtain ⟨p, hp, hin⟩ := value_at l (5 * (out.length + 1))
      have h0 : (11 :: out).length < 17592186044416 := by simp; omega
      have h1 : out.length < 140737488355328 := by omega
      have dig : ∀ k, digL l (k + 1) (5 * (out.length + 1)) (11 :: out) out = if p.2 = 0 then (if p.1 = 15 then digEnd l (5 * (out.length + 1) + 5) (11 :: out ++ [p.1]) out else if 9 < p.1 then some (.inl 7) else digL l k (5 * (out.length + 1) + 5) (11 :: out ++ [p.1]) (out ++ [p.1 % 256])) else some (.inl p.2) := by
        intro k
        rw [digL, if_neg hend, hp, Option.bind_some]
        simp only [if_pos h0, if_pos h1]
      by_cases h2 : p.2 = 0
      · simp only [if_pos h2] at dig
        have hpe : parity_Value.f (chunk l (5 * (out.length + 1))) = some (p.1, 0) := by rw [hp, ← h2]
        have hr1 : Read l (11 :: out ++ [p.1]) := hr.snoc (bits_of_value l _ p.1 (hin h2) hpe)
        by_cases h15 : p.1 = 15
        · simp only [if_pos h15] at dig
          rw [h15] at hr1
          obtain ⟨res, r, e1, e2, e3⟩ := good_end b l hl out hr1 hdig (by omega)
          exact ⟨res, r, Ev.step (f := fun _ => some res) (fun k => by show digL l (k + 1) _ _ _ = _; rw [dig, h15, show 5 * (out.length + 1) + 5 = 5 * (out.length + 2) by omega, e1]) (Ev.now _), e2, e3⟩
        · simp only [if_neg h15] at dig
          by_cases h9 : 9 < p.1
          · simp only [if_pos h9] at dig
            exact good_inl b l 7 (by omega) (Ev.step (f := fun _ => some (.inl 7)) (fun k => dig k) (Ev.now _))
          · simp only [if_neg h9] at dig
            have hp0 := (hin h2).1
            have hmod : p.1 % 256 = p.1 := Int.emod_eq_of_lt (by omega) (by omega)
            have hd' : Dig (out ++ [p.1]) := by
              intro v hv
              rw [List.mem_append] at hv
              rcases hv with hv | hv
              · exact hdig v hv
              · simp at hv; omega
            obtain ⟨res, r, e1, e2, e3⟩ := ih (out ++ [p.1]) (by simp; omega) (by simp; omega) hd' hr1
            have hlen : (out ++ [p.1]).length + 1 = out.length + 2 := by simp
            rw [hlen] at e1
            refine ⟨res, r, Ev.step (fun k => ?_) e1, e2, e3⟩
            show digL l (k + 1) _ _ _ = _
            rw [dig, hmod, show 5 * (out.length + 1) + 5 = 5 * (out.length + 2) by omega]
            rfl
      · simp only [if_neg h2] at dig
        exact good_inl b l p.2 h2 (Ev.step (f := fun _ => some (.inl p.2)) (fun k => dig k) (Ev.now _))
theorem get_good (b : List Int) (hb : AllB b) : ∃ r, Ev (fun k => track_Get.f k b) r ∧ Good b r := by
  unfold track_Get.f
  by_cases h : b.length < 2 ∨ 50 < b.length
  · simp only [if_pos h]
    exact ⟨_, Ev.now _, good_err b (by omega)⟩
  · simp only [if_neg h]
    have hl : (unpackL b).length = 8 * b.length := unpackL_len b
    obtain ⟨r, hg, hz⟩ : ∃ r, Ev (fun k => (digF (unpackL b) k).bind fun res => getOut k b (unpackL b) res) r ∧ Good b r := by
      unfold digF
      by_cases h11 : chunk (unpackL b) 0 = 11
      · have hr : Read (unpackL b) [11] := by
          intro i t hi ht
          obtain rfl : i = 0 := by simpa using hi
          have hv : parity_Value.f (chunk (unpackL b) 0) = some (11, 0) := by rw [h11]; decide +kernel
          exact bits_of_value (unpackL b) 0 11 (by omega) hv t ht
        obtain ⟨res, r, e1, e2, e3⟩ := good_loop b (unpackL b) (by omega) (unpackL b).length [] (by omega) (by simp; omega) (fun v hv => by simp at hv) hr
        simp only [if_pos h11]
        exact ⟨r, Ev.bind e1 e2, e3⟩
      · simp only [if_neg h11, Option.bind_some]
        exact ⟨_, Ev.now _, good_err b (by omega)⟩
    refine ⟨r, Ev.bind (tunpack b hb (by omega)) (Ev.congr (fun k => ?_) hg), hz⟩
    rw [if_pos ⟨by omega, by omega⟩]
theorem dig_isB {l : List Int} (h : Dig l) : AllB l := fun x hx => ⟨(h x hx).1, by have := (h x hx).2; omega⟩
theorem put_of_dig {l : List Int} (hd : Dig l) (hn : l.length ≤ 77) : put l = (packL (bitsOf l), 0) := by
  unfold put
  rw [if_neg (by omega)]
  unfold putL
  rw [if_neg]
  · rfl
  · intro ha
    rw [List.any_eq_true] at ha
    obtain ⟨x, hx, h9⟩ := ha
    have := hd x (by simpa using hx)
    simp at h9
    omega
end Go.Proofs.Ytfmpeojlaibblaa.Pure

/- Written for this claim by a program of this session (handprint.py, over the kit's print). Lean checks it. -/
namespace Go.Proofs.Ytfmpeojlaibblaa.S
open Go.RowKit Go.Proofs.YtfmpeojlaibblaaW.PrintWords Go.Proofs.YtfmpeojlaibblaaW.PrintLast Go.Proofs.YtfmpeojlaibblaaW.PrintMore
attribute [local go_sem] max2_int min2_int max_two min_two max_three min_three max_four min_four   -- for this text's walks alone
set_option linter.unusedVariables false
set_option linter.unusedSimpArgs false

/-! ### gatelineref14_Turn: function 42 -/
def gatelineref14_Turn.l0 : Nat → List Bool → List Bool → Int → Option (List Int)
  | 0, _, _, _ => none
  | k + 1, x3, x4, x5 => if x5 ≥ 0 then (if 0 ≤ x5 then (if x5 < (x3.length : Int) then (if x4.length < 140737488355328 then (gatelineref14_Turn.l0 k x3 (x4 ++ [rdOf false x3 x5]) (wrap64 (x5 - 1))) else (none)) else (none)) else (none)) else ((gatelineref11_Pack.f k x4).bind fun t536 => (some t536))
def gatelineref14_Turn.f (k : Nat) (l0 : List Int) : Option (List Int) := (gatelineref11_Unpack.f k l0).bind fun t526 => (gatelineref14_Turn.l0 k t526 (([] : List Bool)) (wrap64 ((t526.length : Int) - 1)))
theorem gatelineref14_Turn.mono_l : ∀ k, (∀ y0 y1 y2, LeO (gatelineref14_Turn.l0 k y0 y1 y2) (gatelineref14_Turn.l0 (k + 1) y0 y1 y2))
  | 0 => fun _ _ _ r h => by simp [gatelineref14_Turn.l0] at h
  | k + 1 => by
    have ih0 := gatelineref14_Turn.mono_l k
    · intro y0 y1 y2
      unfold gatelineref14_Turn.l0
      repeat' first
      | (with_reducible exact ih0 _ _ _)
      | (with_reducible exact gatelineref11_Pack.mono _ _)
      | (with_reducible exact gatelineref11_Unpack.mono _ _)
      | (with_reducible exact LeO.refl _)
      | (with_reducible exact LeO.none _)
      | (with_reducible refine LeO.ite ?_ ?_)
      | (with_reducible refine LeO.bind ?_ (fun _ => ?_))
      | exact ih0 _ _ _
      | exact gatelineref11_Pack.mono _ _
      | exact gatelineref11_Unpack.mono _ _
      | exact LeO.none _
      | refine LeO.ite ?_ ?_
      | refine LeO.bind ?_ (fun _ => ?_)
theorem gatelineref14_Turn.mono : ∀ a0 k, LeO (gatelineref14_Turn.f k a0) (gatelineref14_Turn.f (k + 1) a0) := by
  intro a0 k
  have ih0 := gatelineref14_Turn.mono_l k
  unfold gatelineref14_Turn.f
  repeat' first
      | (with_reducible exact ih0 _ _ _)
      | (with_reducible exact gatelineref11_Pack.mono _ _)
      | (with_reducible exact gatelineref11_Unpack.mono _ _)
      | (with_reducible exact LeO.refl _)
      | (with_reducible exact LeO.none _)
      | (with_reducible refine LeO.ite ?_ ?_)
      | (with_reducible refine LeO.bind ?_ (fun _ => ?_))
      | exact ih0 _ _ _
      | exact gatelineref11_Pack.mono _ _
      | exact gatelineref11_Unpack.mono _ _
      | exact LeO.none _
      | refine LeO.ite ?_ ?_
      | refine LeO.bind ?_ (fun _ => ?_)
set_option maxHeartbeats 8000000 in
set_option maxRecDepth 100000 in
theorem gatelineref14_Turn.calls (k : Nat) (A0 : Option Addr) (c0 : Nat) (l0 : List Int) (r : List Int) (w : World) (hr0 : Kd.C (Kd.int .u8) w A0 l0.length l0) (hc0 : l0.length ≤ c0) (h : gatelineref14_Turn.f k l0 = some r) :
    Calls Try.prog 42 #[.slice A0 l0.length c0] w fun e w' => ∃ v0_ : Value, e = .returned (v0_) ∧ Kd.R (Kd.int .u8) 5 w' w.heap.size (fun _ => True) v0_ r ∧ Below w.heap.size w w' := by
  have HR0 := Aside0.mk hr0
  have HC0 := Aside0.mk hc0
  clear hr0 hc0
  have HB := Aside0.mk (Below.refl w.heap.size w)
  have H : ((gatelineref11_Unpack.f k l0).bind fun t526 => (gatelineref14_Turn.l0 k t526 (([] : List Bool)) (wrap64 ((t526.length : Int) - 1)))) = some r := h
  clear h
  replace H := Option.bind_eq_some_iff.mp H
  obtain ⟨t526, A20, H⟩ := H
  replace H : (gatelineref14_Turn.l0 k t526 (([] : List Bool)) (wrap64 ((t526.length : Int) - 1))) = some r := H
  have A2 := Aside0.mk A20
  clear A20
  obtain ⟨y529, hy529⟩ : ∃ y_ : List Bool, y_ = (([] : List Bool)) := ⟨_, rfl⟩
  replace H : (gatelineref14_Turn.l0 k t526 y529 (wrap64 ((t526.length : Int) - 1))) = some r := by first | (rw [hy529]; with_reducible exact H) | (have H2_ := (Option.bind_some _ _).symm.trans H; rw [hy529]; with_reducible exact H2_) | (have H2_ := (Option.bind_some _ _).symm.trans H; with_reducible exact H2_) | with_reducible exact H | (rw [hy529]; exact H) | exact H
  have Ny529 := Aside0.mk hy529
  clear hy529
  have H' := Aside0.mk H
  clear H
  go_enter Try.func42, Try.ntmps42
  go_wp2_with (first | ((with_reducible refine gate_callee (f := 39) rfl ?_); refine goesL_ (some 7) rfl rfl Try.func39 (by kernel_rfl) rfl #[.slice A0 l0.length c0] rfl (by (try simp only [List.map_toArray, List.map_cons, List.map_nil]); first | done | rfl | (simp only [List.length_drop, List.length_take]; rfl)) ?_; (with_reducible refine (gatelineref11_Unpack.calls k _ _ l0 t526 _ ?side1 ?side2 A2.out).mono ?_); (case side1 => repeat (first | exact HR0.out | (with_reducible refine Kd.C_alloc ?_ _) | (with_reducible refine Kd.C_drewN ?_ _) | (with_reducible refine Kd.C_drew ?_))); (case side2 => exact HC0.out); rintro e w3 ⟨v527, rfl, ho0, hb⟩; refine ⟨_, rfl, ?_⟩; have n0_ := Aside0.mk (Kd.R_lower ho0 (below_size (by repeat (first | (with_reducible first | exact HB.out | apply below_alloc | apply pw_below_drewN | apply below_drew1) | exact HB.out)))); have n1_ := Aside0.mk (below_step (by repeat (first | (with_reducible first | exact HB.out | apply below_alloc | apply pw_below_drewN | apply below_drew1) | exact HB.out)) hb); clear HB; have HO528 := n0_; have HB := n1_; clear n0_ n1_; (try clear hb); (try clear hb2); (try clear hk); (try clear hi); (try clear ho0)) | ((with_reducible refine gate_dst (N := 8) rfl ?_); refine Kd.R_lit Kd.bool _ 4 ?hg (N := 8) ?hd (xs := ([] : List Bool)) (inner := []) (ok := fun _ => True) (okp := fun _ => True) ?hr ?hp (fun _ hk => hk) trivial (Below.refl _ _) (Nat.le_refl _) (by simp) ?_; (case hd => rfl); (case hg => rfl); (case hr => first | (go_simp; done) | (go_simp; rfl)); (case hp => exact (Reps.none _ _)); intro v530 w4 ho5 hb hg_ hnew_; clear hg_ hnew_; (first | rw [← Ny529.out] at ho5 | (simp only [Int.reduceToNat] at ho5; rw [← Ny529.out] at ho5)); have n0_ := Aside0.mk (Kd.R_elder' (by (with_reducible repeat (first | apply Kd.R_alloc | apply Kd.R_drewN | apply Kd.R_drew)); exact HO528.out) (Kd.R_base ho5) hb); have n1_ := Aside0.mk (Kd.R_lower (Kd.R_new' ho5 (Kd.R_lt (by (with_reducible repeat (first | apply Kd.R_alloc | apply Kd.R_drewN | apply Kd.R_drew)); exact HO528.out))) (below_size (by repeat (first | (with_reducible first | exact HB.out | apply below_alloc | apply pw_below_drewN | apply below_drew1) | exact HB.out)))); have n2_ := Aside0.mk (below_step (by repeat (first | (with_reducible first | exact HB.out | apply below_alloc | apply pw_below_drewN | apply below_drew1) | exact HB.out)) hb); clear HO528; clear HB; have HO528 := n0_; have HO531 := n1_; have HB := n2_; clear n0_ n1_ n2_; clear hb ho5; obtain ⟨Ao6, co6, eo6⟩ := Kd.R_slice HO528.out; subst eo6))
  go_loopg [4, 5] k (fun kq v4 v5 w' => ∃ (x4_1 : List Bool) (x5_1 : Int), v5 = .int .i64 x5_1 ∧ Aside0 (gatelineref14_Turn.l0 kq t526 x4_1 x5_1 = some r) ∧ Aside0 (kq ≤ k) ∧ Aside0 (Kd.R Kd.bool 4 w' w.heap.size (fun k_ => some k_ ≠ (v4 : Value).ownBlock) (.slice Ao6 t526.length co6) t526) ∧ Aside0 (Kd.R Kd.bool 4 w' w.heap.size (fun k_ => some k_ ≠ ((.slice Ao6 t526.length co6) : Value).ownBlock) v4 x4_1) ∧ Aside0 (Below w.heap.size w w'))
  case atStart => exact ⟨(y529), (wrap64 ((t526.length : Int) - 1)), (by first | rfl | (simp; done) | (simp [*]; done)), H', ⟨Nat.le_refl _⟩, ⟨by (with_reducible repeat (first | apply Kd.R_alloc | apply Kd.R_drewN | apply Kd.R_drew)); exact Kd.R_mono HO528.out (fun _ hk => hk.2)⟩, ⟨by (with_reducible repeat (first | apply Kd.R_alloc | apply Kd.R_drewN | apply Kd.R_drew)); exact Kd.R_mono HO531.out (fun _ hk => hk.2)⟩, ⟨by repeat (first | (with_reducible first | exact HB.out | apply below_alloc | apply pw_below_drewN | apply below_drew1) | exact HB.out)⟩⟩
  case round =>
    clear H'
    try clear p2
    try clear c3
    try clear c4
    try clear p6
    obtain ⟨x4_1, x5_1, rfl, HA, HK1, HO_3, HO_4, HB⟩ := hrel
    cases gk with
    | zero => exact absurd HA.out (by simp [gatelineref14_Turn.l0])
    | succ k1 =>
      have H := HA.out
      clear HA
      simp only [gatelineref14_Turn.l0] at H
      by_cases c7 : x5_1 ≥ 0
      · rw [if_pos c7] at H
        have c7b0 : decide (0 ≤ x5_1) = true := decide_eq_true c7
        clear c7
        by_cases c8 : 0 ≤ x5_1
        · rw [if_pos c8] at H
          have c8b0 : decide (0 ≤ x5_1) = true := decide_eq_true c8
          clear c8
          by_cases c9 : x5_1 < (t526.length : Int)
          · rw [if_pos c9] at H
            have c9b0 : decide (x5_1 < (t526.length : Int)) = true := decide_eq_true c9
            clear c9
            by_cases c10 : x4_1.length < 140737488355328
            · rw [if_pos c10] at H
              have LMc10 := Aside0.mk c10
              clear c10
              obtain ⟨y533, hy533⟩ : ∃ y_ : List Bool, y_ = (x4_1 ++ [rdOf false t526 x5_1]) := ⟨_, rfl⟩
              replace H : (gatelineref14_Turn.l0 k1 t526 y533 (wrap64 (x5_1 - 1))) = some r := by first | (rw [hy533]; with_reducible exact H) | (have H2_ := (Option.bind_some _ _).symm.trans H; rw [hy533]; with_reducible exact H2_) | (have H2_ := (Option.bind_some _ _).symm.trans H; with_reducible exact H2_) | with_reducible exact H | (rw [hy533]; exact H) | exact H
              have Ny533 := Aside0.mk hy533
              clear hy533
              have H' := Aside0.mk H
              clear H
              have p532 : 0 ≤ (x5_1 : Int) := of_decide_eq_true (by first | (with_reducible assumption) | assumption)
              have q532 : x5_1 < (t526.length : Int) := of_decide_eq_true (by first | (with_reducible assumption) | assumption)
              obtain ⟨ad532, e532, hx532_0⟩ := Kd.at_bool (Kd.R_reads' HO_3.out).2.2 x5_1 p532 q532
              cases e532
              replace p532 := eq_true p532
              replace q532 := eq_true q532
              go_wp2_with (first | ((with_reducible refine gate_builtin (b := .append) (xs := #[.tmp 16, .tmp 21]) rfl ?_); at_builtin; refine Kd.R_append Kd.bool (w0 := w) w.heap.size rfl (.tmp 16) (.tmp 21) 44 4 (.bool false) 1 rfl Try.underlying44 info4 rfl (by decide) (by omega) u4 x4_1 (rdOf false t526 x5_1) [.bool (rdOf false t526 x5_1)] (fun k_ => some k_ ≠ (.slice (some ad532) t526.length co6 : Value).ownBlock) (fun _ => False) rfl rfl ?aP (fun _ hk => hk.elim) ?aF ?aO ?aB ?aS ?aL ?_; (case aP => exact rfl); (case aB => exact (by repeat (first | (with_reducible first | exact HB.out | apply below_alloc | apply pw_below_drewN | apply below_drew1) | exact HB.out))); (case aF => exact (fun k_ hk => Kd.fresh' (Kd.R_lt (by (with_reducible repeat (first | apply Kd.R_alloc | apply Kd.R_drewN | apply Kd.R_drew)); exact HO_3.out)) k_ hk)); (case aO => exact (by (with_reducible repeat (first | apply Kd.R_alloc | apply Kd.R_drewN | apply Kd.R_drew)); exact HO_4.out)); (case aS => exact (below_size (by repeat (first | (with_reducible first | exact HB.out | apply below_alloc | apply pw_below_drewN | apply below_drew1) | exact HB.out)))); (case aL => have := LMc10.out; omega); intro v534 w11 ho hb hg hat; rw [← Ny533.out] at ho; have n0_ := Aside0.mk (Kd.R_after (ok := (fun _ => True)) (by (with_reducible repeat (first | apply Kd.R_alloc | apply Kd.R_drewN | apply Kd.R_drew)); exact Kd.R_mono HO_3.out (fun _ hk => ⟨trivial, hk⟩)) hg hat); have n1_ := Aside0.mk (hb); have n2_ := Aside0.mk (ho); clear HO_3; clear HB; clear HO_4; have HO_3 := n0_; have HB := n1_; have HO535 := n2_; clear n0_ n1_ n2_; clear ho hb hg hat))
              go_roundg k1
              case measure => have := HK1.out; omega
              case rel => exact ⟨(y533), (wrap64 (x5_1 - 1)), (by first | rfl | (simp; done) | (simp [*]; done)), H', ⟨by have := HK1.out; omega⟩, ⟨by (with_reducible repeat (first | apply Kd.R_alloc | apply Kd.R_drewN | apply Kd.R_drew)); exact Kd.R_mono HO_3.out (fun _ hk => hk.2)⟩, ⟨by (with_reducible repeat (first | apply Kd.R_alloc | apply Kd.R_drewN | apply Kd.R_drew)); exact HO535.out⟩, ⟨by repeat (first | (with_reducible first | exact HB.out | apply below_alloc | apply pw_below_drewN | apply below_drew1) | exact HB.out)⟩⟩
            · rw [if_neg c10] at H
              exact absurd H (by simp)
          · rw [if_neg c9] at H
            exact absurd H (by simp)
        · rw [if_neg c8] at H
          exact absurd H (by simp)
      · rw [if_neg c7] at H
        have c7b0 : decide (0 ≤ x5_1) = false := decide_eq_false c7
        clear c7
        replace H := Option.bind_eq_some_iff.mp H
        obtain ⟨t536, A120, H⟩ := H
        replace H : (some t536) = some r := H
        have A12 := Aside0.mk A120
        clear A120
        obtain rfl := Option.some.inj H
        obtain ⟨Ao13, co13, eo13⟩ := Kd.R_slice HO_4.out
        subst eo13
        go_wp2_with (first | ((with_reducible refine gate_callee (f := 36) rfl ?_); refine goesL_ (some 24) rfl rfl Try.func36 (by kernel_rfl) rfl #[.slice Ao13 x4_1.length co13] rfl (by (try simp only [List.map_toArray, List.map_cons, List.map_nil]); first | done | rfl | (simp only [List.length_drop, List.length_take]; rfl)) ?_; (with_reducible refine (gatelineref11_Pack.calls k1 _ _ x4_1 t536 _ ?side1 ?side2 A12.out).mono ?_); (case side1 => repeat (first | exact (Kd.R_reads' HO_4.out).2.2 | (with_reducible refine Kd.C_alloc ?_ _) | (with_reducible refine Kd.C_drewN ?_ _) | (with_reducible refine Kd.C_drew ?_))); (case side2 => exact (Kd.R_reads' HO_4.out).2.1); rintro e w14 ⟨v537, rfl, ho0, hb⟩; refine ⟨_, rfl, ?_⟩; have n0_ := Aside0.mk (Kd.R_below (by (with_reducible repeat (first | apply Kd.R_alloc | apply Kd.R_drewN | apply Kd.R_drew)); exact HO_3.out) hb); have n1_ := Aside0.mk (Kd.R_below (by (with_reducible repeat (first | apply Kd.R_alloc | apply Kd.R_drewN | apply Kd.R_drew)); exact HO_4.out) hb); have n2_ := Aside0.mk (Kd.R_lower ho0 (below_size (by repeat (first | (with_reducible first | exact HB.out | apply below_alloc | apply pw_below_drewN | apply below_drew1) | exact HB.out)))); have n3_ := Aside0.mk (below_step (by repeat (first | (with_reducible first | exact HB.out | apply below_alloc | apply pw_below_drewN | apply below_drew1) | exact HB.out)) hb); clear HO_3; clear HO_4; clear HB; have HO_3 := n0_; have HO_4 := n1_; have HO538 := n2_; have HB := n3_; clear n0_ n1_ n2_ n3_; (try clear hb); (try clear hb2); (try clear hk); (try clear hi); (try clear ho0)))
        go_ret
        exact ⟨_, by first | rfl | (simp [errW_none, errW_some] <;> rfl) | (simp [*, errW_none, errW_some] <;> rfl), by (with_reducible repeat (first | apply Kd.R_alloc | apply Kd.R_drewN | apply Kd.R_drew)); exact HO538.out, by repeat (first | (with_reducible first | exact HB.out | apply below_alloc | apply pw_below_drewN | apply below_drew1) | exact HB.out)⟩

end Go.Proofs.Ytfmpeojlaibblaa.S

/-
  swipe.Turn, the plain part: the bits turned round.
-/
namespace Go.Proofs.Ytfmpeojlaibblaa.Pure
open Go.RowKit Go.Proofs.Ytfmpeojlaibblaa.S Go.Proofs.YtfmpeojlaibblaaW.PrintWords Go.Proofs.YtfmpeojlaibblaaW.PrintLast Go.Proofs.YtfmpeojlaibblaaW.PrintMore

def swp (L : List Bool) (i : Nat) : List Bool := (List.range L.length).map fun j => if j < i ∨ L.length - i ≤ j then L.getD (L.length - 1 - j) false else L.getD j false
theorem swp_len (L : List Bool) (i : Nat) : (swp L i).length = L.length := by simp [swp]
theorem swp_rd (L : List Bool) (i j : Nat) (hj : j < L.length) : rdOf false (swp L i) (j : Int) = if j < i ∨ L.length - i ≤ j then L.getD (L.length - 1 - j) false else L.getD j false := by
  rw [rdOf_nat, List.getD_eq_getElem?_getD, List.getElem?_eq_getElem (by rw [swp_len]; exact hj)]
  simp [swp]
theorem swp_zero (L : List Bool) : swp L 0 = L := by
  refine List.ext_getElem (swp_len L 0) fun j h1 h2 => ?_
  simp only [swp, List.getElem_map, List.getElem_range]
  rw [if_neg (by omega), List.getD_eq_getElem?_getD, List.getElem?_eq_getElem h2]
  rfl
theorem swp_step (L : List Bool) (i : Nat) (hi : i < L.length / 2) : ((swp L i).set i (rdOf false (swp L i) ((L.length - 1 - i : Nat) : Int))).set (L.length - 1 - i) (rdOf false (swp L i) (i : Int)) = swp L (i + 1) := by
  rw [swp_rd L i _ (by omega), swp_rd L i _ (by omega), if_neg (by omega), if_neg (by omega)]
  refine List.ext_getElem (by simp [swp]) fun j h1 h2 => ?_
  have hj : j < L.length := by rw [swp_len] at h2; exact h2
  rw [List.getElem_set, List.getElem_set]
  simp only [swp, List.getElem_map, List.getElem_range]
  by_cases e1 : L.length - 1 - i = j
  · rw [if_pos e1, if_pos (by omega)]
    congr 1
    omega
  · rw [if_neg e1]
    by_cases e2 : i = j
    · rw [if_pos e2, if_pos (by omega)]
      congr 1
      omega
    · rw [if_neg e2]
      by_cases e3 : j < i ∨ L.length - i ≤ j
      · rw [if_pos e3, if_pos (by omega)]
      · rw [if_neg e3, if_neg (by omega)]
theorem swp_all (L : List Bool) : swp L (L.length / 2) = L.reverse := by
  refine List.ext_getElem (by simp [swp]) fun j h1 h2 => ?_
  have hj : j < L.length := by rw [swp_len] at h1; exact h1
  simp only [swp, List.getElem_map, List.getElem_range, List.getElem_reverse]
  have hr : L.getD (L.length - 1 - j) false = L[L.length - 1 - j] := by
    rw [List.getD_eq_getElem?_getD, List.getElem?_eq_getElem (by omega)]
    rfl
  by_cases e : j < L.length / 2 ∨ L.length - L.length / 2 ≤ j
  · rw [if_pos e, hr]
  · rw [if_neg e, ← hr]
    congr 1
    omega
def turnL (b : List Int) : List Int := packL (unpackL b).reverse
theorem turn_l (L : List Bool) (hl : L.length ≤ 10000000) : ∀ d i, i + d = L.length / 2 → Ev (fun k => swipe_Turn.l0 k (swp L i) (wrap64 ((L.length : Int) - 1)) (wrap64 ((L.length : Int) / 2)) (i : Int)) (packL L.reverse) := by
  have w1 : wrap64 ((L.length : Int) - 1) = (L.length : Int) - 1 := wrap_in (by omega) (by omega)
  have w2 : wrap64 ((L.length : Int) / 2) = (L.length : Int) / 2 := wrap_in (by omega) (by omega)
  rw [w1, w2]
  intro d
  induction d with
  | zero =>
    intro i hi
    obtain rfl : i = L.length / 2 := by omega
    rw [swp_all]
    refine Ev.step (f := fun k => (track_Pack.f k L.reverse).bind fun t => some t) (fun k => ?_) (Ev.bind (tpack _ (by simp; omega)) (Ev.now _))
    show swipe_Turn.l0 (k + 1) _ _ _ _ = _
    rw [swipe_Turn.l0, if_neg (by omega)]
  | succ d ih =>
    intro i hi
    have hn := swp_len L i
    refine Ev.step (fun k => ?_) (ih (i + 1) (by omega))
    show swipe_Turn.l0 (k + 1) _ _ _ _ = _
    rw [swipe_Turn.l0, if_pos (by omega), wrap_in (n := (L.length : Int) - 1 - (i : Int)) (by omega) (by omega), if_pos (by omega), if_pos (by omega), if_pos (by omega), if_pos (by omega), wrap_in (n := (i : Int) + 1) (by omega) (by omega),
      show (L.length : Int) - 1 - (i : Int) = ((L.length - 1 - i : Nat) : Int) by omega, Int.toNat_natCast, Int.toNat_natCast, swp_step L i (by omega)]
    rfl
theorem turn_ev (b : List Int) (hb : AllB b) (hl : b.length ≤ 1100000) : Ev (fun k => swipe_Turn.f k b) (turnL b) := by
  have hu := unpackL_len b
  have h := turn_l (unpackL b) (by omega) ((unpackL b).length / 2) 0 (by omega)
  rw [swp_zero] at h
  unfold swipe_Turn.f
  exact Ev.bind (tunpack b hb (by omega)) h

theorem rturn_l (L : List Bool) (hl : L.length ≤ 10000000) : ∀ i, i ≤ L.length → Ev (fun k => gatelineref14_Turn.l0 k L (L.drop i).reverse ((i : Int) - 1)) (packL L.reverse) := by
  intro i
  induction i with
  | zero =>
    intro _
    refine Ev.step (f := fun k => (gatelineref11_Pack.f k L.reverse).bind fun t => some t) (fun k => ?_) (Ev.bind (rpack _ (by simp; omega)) (Ev.now _))
    show gatelineref14_Turn.l0 (k + 1) _ _ _ = _
    rw [gatelineref14_Turn.l0, if_neg (by omega)]
    rfl
  | succ i ih =>
    intro hi
    have h := ih (by omega)
    have hd : (L.drop i).reverse = (L.drop (i + 1)).reverse ++ [L.getD i false] := by
      rw [List.drop_eq_getElem_cons (show i < L.length by omega), List.reverse_cons, List.getD_eq_getElem?_getD, List.getElem?_eq_getElem (show i < L.length by omega)]
      rfl
    rw [hd] at h
    refine Ev.step (fun k => ?_) h
    show gatelineref14_Turn.l0 (k + 1) _ _ _ = _
    rw [show ((i + 1 : Nat) : Int) - 1 = (i : Int) by omega, gatelineref14_Turn.l0, if_pos (by omega), if_pos (by omega), if_pos (by omega), if_pos (by simp; omega), wrap_in (n := (i : Int) - 1) (by omega) (by omega), rdOf_nat]
theorem rturn_ev (b : List Int) (hb : AllB b) (hl : b.length ≤ 1100000) : Ev (fun k => gatelineref14_Turn.f k b) (turnL b) := by
  have hu := unpackL_len b
  have h := rturn_l (unpackL b) (by omega) (unpackL b).length (Nat.le_refl _)
  rw [List.drop_length] at h
  unfold gatelineref14_Turn.f
  refine Ev.bind (runpack b hb (by omega)) (Ev.congr (fun k => ?_) h)
  rw [wrap_in (by omega) (by omega)]
  rfl
theorem turnL_len (b : List Int) : (turnL b).length = b.length := by
  unfold turnL
  rw [packL_len, List.length_reverse, unpackL_len]
  omega
theorem turnL_isB (b : List Int) : AllB (turnL b) := by
  intro x hx
  simp only [turnL, packL, List.mem_map] at hx
  obtain ⟨q, _, rfl⟩ := hx
  have := byt_lt (unpackL b).reverse (8 * q) 8
  exact ⟨by omega, by omega⟩
theorem unpack_pack_eq (l : List Bool) (h : l.length % 8 = 0) : unpackL (packL l) = l := by
  have hp := packL_len l
  refine List.ext_getElem (by rw [unpackL_len, hp]; omega) fun j h1 h2 => ?_
  have g := unpack_pack l j (by omega)
  rw [List.getD_eq_getElem?_getD, List.getD_eq_getElem?_getD, List.getElem?_eq_getElem h1, List.getElem?_eq_getElem h2] at g
  simpa using g
/-- Turned twice: as it was. -/
theorem turn_turn (b : List Int) (hb : AllB b) : turnL (turnL b) = b := by
  have hu := unpackL_len b
  unfold turnL
  rw [unpack_pack_eq _ (by rw [List.length_reverse]; omega), List.reverse_reverse, pack_unpack b hb]
end Go.Proofs.Ytfmpeojlaibblaa.Pure

/-
  swipe.Read, the plain part.
-/
namespace Go.Proofs.Ytfmpeojlaibblaa.Pure
open Go.RowKit Go.Proofs.Ytfmpeojlaibblaa.S Go.Proofs.YtfmpeojlaibblaaW.PrintWords Go.Proofs.YtfmpeojlaibblaaW.PrintLast Go.Proofs.YtfmpeojlaibblaaW.PrintMore

set_option maxRecDepth 100000 in
theorem swiped_ev : Ev (fun k => gatelinelaw14_swiped.f k) true := Ev.of (fun k => gatelinelaw14_swiped.mono k) (k := 200) (by decide +kernel)
theorem Ev.pos {α : Type} {c : Prop} [Decidable c] (h : c) {f g : Nat → Option α} {r : α} (e : Ev f r) : Ev (fun k => if c then f k else g k) r := by
  simp only [if_pos h]
  exact e
theorem Ev.neg {α : Type} {c : Prop} [Decidable c] (h : ¬c) {f g : Nat → Option α} {r : α} (e : Ev g r) : Ev (fun k => if c then f k else g k) r := by
  simp only [if_neg h]
  exact e
theorem ev_one {α : Type} {g : Nat → Option α} {r r' : α} (h : Ev g r) (h' : Ev g r') : r = r' := by
  obtain ⟨K, h⟩ := h
  obtain ⟨K', h'⟩ := h'
  have e := (h (K + K') (by omega)).symm.trans (h' (K + K') (by omega))
  exact Option.some.inj e
theorem get_all (b : List Int) (hb : AllB b) : ∃ r, Ev (fun k => track_Get.f k b) r ∧ Ev (fun k => gatelineref11_Get.f k b) r ∧ r.1.length ≤ 1000 ∧ Good b r := by
  obtain ⟨r, h1, h2, h3⟩ := get_both b hb
  obtain ⟨r', h4, h5⟩ := get_good b hb
  obtain rfl := ev_one h1 h4
  exact ⟨r, h1, h2, h3, h5⟩
theorem read_first_ev {b : List Int} {p : List Int × Int} (hp : Ev (fun k => track_Get.f k b) p) (h : p.2 = 0) : Ev (fun k => swipe_Read.f k b) (p.1, false, 0) := by
  unfold swipe_Read.f
  exact Ev.bind hp ⟨0, fun k _ => by simp only [if_pos h]⟩
theorem read_second_ev {b : List Int} {p q : List Int × Int} (hb : AllB b) (hl : b.length ≤ 1100000) (hp : Ev (fun k => track_Get.f k b) p) (h : p.2 ≠ 0) (hq : Ev (fun k => track_Get.f k (turnL b)) q) : Ev (fun k => swipe_Read.f k b) (if q.2 = 0 then (q.1, true, 0) else ([], false, p.2)) := by
  unfold swipe_Read.f
  refine Ev.bind hp (Ev.neg h (Ev.bind (turn_ev b hb hl) (Ev.bind hq ⟨0, fun k _ => ?_⟩)))
  by_cases h2 : q.2 = 0
  · simp only [if_pos h2]
  · simp only [if_neg h2]
end Go.Proofs.Ytfmpeojlaibblaa.Pure

/-
  SwipeOnce, the plain part: for what is of bulk at most 1048576.
-/
namespace Go.Proofs.Ytfmpeojlaibblaa.Pure
open Go.RowKit Go.Proofs.Ytfmpeojlaibblaa.S Go.Proofs.YtfmpeojlaibblaaW.PrintWords Go.Proofs.YtfmpeojlaibblaaW.PrintLast

theorem sonce_no (l p : List Int) (x : Bool) : Ev (fun k => gatelinelaw14_SwipeOnce.j0 k l p x true) true :=
  Ev.step (f := fun k => (gatelinelaw14_swiped.f k).bind fun t => some t) (fun k => by show gatelinelaw14_SwipeOnce.j0 (k + 1) _ _ _ _ = _; rw [gatelinelaw14_SwipeOnce.j0, if_pos rfl]) (Ev.bind swiped_ev (Ev.now _))
theorem sonce_yes (b m t : List Int) (x : Bool) (hb : AllB b) (hl : b.length ≤ 1000) (hd : Dig m) (hn : m.length ≤ 77) (he : packL (bitsOf m) = t) (ht : t = if x = true then turnL b else b) : Ev (fun k => gatelinelaw14_SwipeOnce.j0 k b m x false) true := by
  have hp := tput m (dig_isB hd)
  rw [put_of_dig hd hn, he] at hp
  have htl : t.length ≤ 1000 := by
    rw [← he, packL_len, bitsOf_len]
    omega
  refine Ev.step (f := fun k => (track_Put.f k m).bind fun bt610 => if bt610.2 = 0 then (if x = true then (gatelinelaw14_swiped.f k).bind fun t614 => (if t614 = true then (swipe_Turn.f k b).bind fun t615 => (gatelineref01_Same.f k bt610.1 t615).bind fun t618 => some t618 else none) else (gatelinelaw14_swiped.f k).bind fun t619 => (if t619 = true then (gatelineref01_Same.f k bt610.1 b).bind fun t620 => some t620 else none)) else none) (fun k => by show gatelinelaw14_SwipeOnce.j0 (k + 1) _ _ _ _ = _; rw [gatelinelaw14_SwipeOnce.j0, if_neg (by simp)]) (Ev.bind hp (Ev.pos rfl ?_))
  cases x with
  | true =>
    simp only [if_true] at ht
    refine Ev.pos rfl (Ev.bind swiped_ev (Ev.pos rfl (Ev.bind (turn_ev b hb (by omega)) (Ev.bind (same_ev t (turnL b) (by omega)) ?_))))
    rw [ht]
    exact ⟨0, fun k _ => by simp⟩
  | false =>
    simp only [Bool.false_eq_true, if_false] at ht
    refine Ev.neg (by simp) (Ev.bind swiped_ev (Ev.pos rfl (Ev.bind (same_ev t b (by omega)) ?_)))
    rw [ht]
    exact ⟨0, fun k _ => by simp⟩
/-- What is read is that track, or that track turned. -/
theorem SwipeOnceUpto (b : List Int) (hl : b.length ≤ 1048576) (hw : ∀ x ∈ b, (Lit.int .u8 x).wf = true) : ∃ k, gatelinelaw14_SwipeOnce.f k b = some true := by
  have hb := allB_of_wf hw
  refine Ev.rounds (r := true) ?_
  unfold gatelinelaw14_SwipeOnce.f
  obtain ⟨p, h1, -, -, g1⟩ := get_all b hb
  by_cases h : p.2 = 0
  · refine Ev.bind (read_first_ev h1 h) ?_
    by_cases h5 : (b.length : Int) > 1000
    · exact Ev.pos h5 (sonce_no _ _ _)
    · refine Ev.neg h5 ?_
      obtain ⟨hd, hn, he⟩ := g1.1 h
      exact sonce_yes b p.1 b false hb (by omega) hd hn he rfl
  · obtain ⟨q, h2, -, -, g2⟩ := get_all (turnL b) (turnL_isB b)
    refine Ev.bind (read_second_ev hb (by omega) h1 h h2) ?_
    by_cases h7 : q.2 = 0
    · simp only [if_pos h7]
      by_cases h5 : (b.length : Int) > 1000
      · exact Ev.pos h5 (sonce_no _ _ _)
      · refine Ev.neg h5 ?_
        obtain ⟨hd, hn, he⟩ := g2.1 h7
        exact sonce_yes b q.1 (turnL b) true hb (by omega) hd hn he rfl
    · simp only [if_neg h7]
      by_cases h5 : (b.length : Int) > 1000
      · exact Ev.pos h5 (sonce_no _ _ _)
      · refine Ev.neg h5 ?_
        rw [show (p.2 != 0) = true from bne_iff_ne.mpr h]
        exact sonce_no _ _ _
end Go.Proofs.Ytfmpeojlaibblaa.Pure
