/-
  gatelineref11.chars: what it answers for values from 0 to 15, as a Lean function, and that the Go code answers just this.
-/
import Derived.Test.YtfmpeojlaibblaaHRefBits
import Derived.Test.YtfmpeojlaibblaaSF24
import Derived.OneCell
import Derived.LoopTactic
namespace Go.Proofs.Ytfmpeojlaibblaa.S
open Go.RowKit Go.Proofs.YtfmpeojlaibblaaW.PrintWords Go.Proofs.YtfmpeojlaibblaaW.PrintLast Go.Proofs.YtfmpeojlaibblaaW.PrintMore

/-- A value's character. -/
def chr (v : Int) : Int := ([16, 1, 2, 19, 4, 21, 22, 7, 8, 25, 26, 11, 28, 13, 14, 31] : List Int).getD v.toNat 0
def bit5 (c : Int) : List Bool := [c % 2 == 1, c / 2 % 2 == 1, c / 2 / 2 % 2 == 1, c / 2 / 2 / 2 % 2 == 1, c / 2 / 2 / 2 / 2 % 2 == 1]
def charsTo (l : List Int) (k : Nat) : List Bool := (l.take k).flatMap fun v => bit5 (chr v)
def gatelineref11_chars.f (l0 : List Int) : Option (List Bool) :=
  if l0.length ≤ 1000000 ∧ ∀ v ∈ l0, 0 ≤ v ∧ v ≤ 15 then some (charsTo l0 l0.length) else none

theorem char_all : ∀ v : Fin 16, gatelineref10_Char.f 20 (v.val : Int) = some (chr (v.val : Int), 0) := by decide +kernel
theorem char_at (v : Int) (h0 : 0 ≤ v) (h1 : v ≤ 15) (w : World) : Calls Try.prog 24 #[.int .i64 v] w fun e w' => e = .returned (.tuple #[.int .i64 (chr v), .int .i64 0]) ∧ Drawn0 w w' := by
  obtain ⟨n, rfl⟩ := Int.eq_ofNat_of_zero_le h0
  exact gatelineref10_Char.calls 20 _ _ _ w (char_all ⟨n, by omega⟩)
theorem chr_bd (v : Int) : 0 ≤ chr v ∧ chr v ≤ 31 := by
  unfold chr
  generalize v.toNat = n
  by_cases h : n < 16
  · have : ∀ m : Fin 16, 0 ≤ ([16, 1, 2, 19, 4, 21, 22, 7, 8, 25, 26, 11, 28, 13, 14, 31] : List Int).getD m.val 0 ∧ ([16, 1, 2, 19, 4, 21, 22, 7, 8, 25, 26, 11, 28, 13, 14, 31] : List Int).getD m.val 0 ≤ 31 := by decide
    exact this ⟨n, h⟩
  · rw [List.getD_eq_getElem?_getD, List.getElem?_eq_none (by simp; omega)]
    decide
theorem charsTo_succ (l : List Int) (k : Nat) (h : k < l.length) : charsTo l (k + 1) = charsTo l k ++ bit5 (chr (rd l (k : Int))) := by
  unfold charsTo
  have : rd l (k : Int) = l[k] := by simp [rd, h]
  rw [this, List.take_succ_eq_append_getElem h, List.flatMap_append]
  simp
theorem charsTo_len (l : List Int) (k : Nat) (h : k ≤ l.length) : (charsTo l k).length = 5 * k := by
  induction k with
  | zero => simp [charsTo]
  | succ k ih => rw [charsTo_succ l k (by omega), List.length_append, ih (by omega)]; simp [bit5]; omega
theorem take_succ_getD (l : List Bool) (k : Nat) (h : k < l.length) : l.take (k + 1) = l.take k ++ [l.getD k false] := by
  rw [List.take_succ_eq_append_getElem h]; simp [h]

set_option maxHeartbeats 2000000 in
theorem gatelineref11_chars.calls (A0 : Option Addr) (c0 : Nat) (l0 : List Int) (r : List Bool) (w : World) (hr0 : Kd.C (Kd.int .i64) w A0 l0.length l0) (_hc0 : l0.length ≤ c0) (h : gatelineref11_chars.f l0 = some r) :
    Calls Try.prog 54 #[.slice A0 l0.length c0] w fun e w' => ∃ v0_ : Value, e = .returned (v0_) ∧ Kd.R Kd.bool 4 w' w.heap.size (fun _ => True) v0_ r ∧ Below w.heap.size w w' := by
  unfold gatelineref11_chars.f at h
  split at h
  case isFalse => cases h
  rename_i hc
  obtain ⟨hmax, hall⟩ := hc
  have H := Lib.hid (Option.some.inj h)
  clear h
  have HALL := Lib.hid hall
  clear hall
  go_enter Try.func54, Try.ntmps54
  go_wp2_with (first | ((with_reducible refine gate_dst (N := 10) rfl ?_); (try (refine gate_guard (by rfl) ?_; dsimp only)); refine Kd.R_lit Kd.bool _ 4 ?hg (N := 10) ?hd (xs := ([] : List Bool)) (inner := []) (ok := fun _ => True) (okp := fun _ => True) ?hr ?hp (fun _ hk => hk) trivial (Below.refl _ _) (Nat.le_refl _) (by simp) ?_; (case hd => rfl); (case hg => rfl); (case hr => first | (go_simp; done) | (go_simp; rfl)); (case hp => exact (Reps.none _ _)); intro v1 w1 ho1 hb1 hg_ hnew_; clear hg_ hnew_; have HO := Aside0.mk ho1; have HB := Aside0.mk hb1; clear ho1 hb1))
  go_loopw [3, 4] (fun v i wr => ∃ k : Nat, k ≤ l0.length ∧ i = .int .i64 k ∧ Aside0 (Kd.R Kd.bool 4 wr w.heap.size (fun _ => True) v (charsTo l0 k)) ∧ Aside0 (Below w.heap.size w wr)) (fun _ i _ => l0.length - (intOf i).toNat)
  case atStart => exact ⟨0, Nat.zero_le _, rfl, ⟨HO.out⟩, ⟨HB.out⟩⟩
  case round =>
    obtain ⟨k, hk, rfl, HO1, HB1⟩ := hrel
    clear HO HB
    by_cases hlt : k < l0.length
    · obtain ⟨ad0, rfl, e0⟩ := Kd.at_int (Kd.C_below hr0 HB1.out) k (by omega) (by omega)
      have hk0 : (k : Int) < l0.length := by omega
      simp only [Int.toNat_natCast] at e0
      have hv : 0 ≤ rd l0 (k : Int) ∧ rd l0 (k : Int) ≤ 15 := HALL.out _ (by simp [rd, hlt])
      obtain ⟨hv0, hv1⟩ := hv
      obtain ⟨hc0, hc1⟩ := chr_bd (rd l0 (k : Int))
      go_wp2_with (first | (go_at_call 24; refine (char_at _ hv0 hv1 _).mono ?_; rintro e w' ⟨rfl, ⟨nd, rfl⟩⟩) | (go_at_call 31; refine (refbits_yes _ _ hc0 hc1).mono ?_; rintro e w5 ⟨rfl, hb5⟩))
      have HO2 := Aside0.mk (Kd.R_alloc (Kd.R_below (Kd.R_drewN HO1.out nd) hb5) (.cells #[.bool ((chr (rd l0 (k : Int))) % 2 == 1), .bool ((chr (rd l0 (k : Int))) / 2 % 2 == 1), .bool ((chr (rd l0 (k : Int))) / 2 / 2 % 2 == 1), .bool ((chr (rd l0 (k : Int))) / 2 / 2 / 2 % 2 == 1), .bool ((chr (rd l0 (k : Int))) / 2 / 2 / 2 / 2 % 2 == 1)] 36))
      have HB2 := Aside0.mk (below_alloc (below_step (pw_below_drewN HB1.out nd) hb5) (.cells #[.bool ((chr (rd l0 (k : Int))) % 2 == 1), .bool ((chr (rd l0 (k : Int))) / 2 % 2 == 1), .bool ((chr (rd l0 (k : Int))) / 2 / 2 % 2 == 1), .bool ((chr (rd l0 (k : Int))) / 2 / 2 / 2 % 2 == 1), .bool ((chr (rd l0 (k : Int))) / 2 / 2 / 2 / 2 % 2 == 1)] 36))
      have HG2 := Aside0.mk (heap_alloc_new w5 (.cells #[.bool ((chr (rd l0 (k : Int))) % 2 == 1), .bool ((chr (rd l0 (k : Int))) / 2 % 2 == 1), .bool ((chr (rd l0 (k : Int))) / 2 / 2 % 2 == 1), .bool ((chr (rd l0 (k : Int))) / 2 / 2 / 2 % 2 == 1), .bool ((chr (rd l0 (k : Int))) / 2 / 2 / 2 / 2 % 2 == 1)] 36))
      obtain ⟨g, hg⟩ : ∃ g, g = w5.heap.size := ⟨_, rfl⟩
      rw [← hg] at HG2 ⊢
      clear HO1 HB1 hb5
      have HGE := Lib.hid hg
      clear hg
      go_loopw [3, 9] (fun v j wr2 => ∃ k2 : Nat, k2 ≤ 5 ∧ j = .int .i64 k2 ∧ Aside0 (Kd.R Kd.bool 4 wr2 w.heap.size (fun _ => True) v (charsTo l0 k ++ (bit5 (chr (rd l0 (k : Int)))).take k2)) ∧ Aside0 (Below w.heap.size w wr2) ∧ Aside0 (wr2.heap[g]? = some (.cells #[.bool ((chr (rd l0 (k : Int))) % 2 == 1), .bool ((chr (rd l0 (k : Int))) / 2 % 2 == 1), .bool ((chr (rd l0 (k : Int))) / 2 / 2 % 2 == 1), .bool ((chr (rd l0 (k : Int))) / 2 / 2 / 2 % 2 == 1), .bool ((chr (rd l0 (k : Int))) / 2 / 2 / 2 / 2 % 2 == 1)] 36 (0, 0)))) (fun _ j _ => 5 - (intOf j).toNat)
      case atStart => exact ⟨0, by omega, rfl, ⟨by simpa using HO2.out⟩, HB2, HG2⟩
      case round =>
        clear HO2 HB2 HG2
        obtain ⟨k2, hk2, rfl, HO3, HB3, HG3⟩ := hrel
        have hlen := charsTo_len l0 k (by omega)
        obtain h | h | h | h | h | h : k2 = 0 ∨ k2 = 1 ∨ k2 = 2 ∨ k2 = 3 ∨ k2 = 4 ∨ k2 = 5 := by omega
        · subst h
          have hx : wr.cell? ⟨g, 0, none⟩ = some (.bool ((chr (rd l0 (k : Int))) % 2 == 1)) := by simp [World.cell?, HG3.out]
          go_wp2_with (first | ((with_reducible refine gate_builtin (b := .append) (xs := #[.tmp 34, .tmp 38]) rfl ?_); at_builtin; refine Kd.R_append Kd.bool (w0 := w) w.heap.size rfl (.tmp 34) (.tmp 38) 44 4 (.bool false) 1 rfl Try.underlying44 info4 rfl (by decide) (by omega) _ (charsTo l0 k ++ (bit5 (chr (rd l0 (k : Int)))).take 0) ((chr (rd l0 (k : Int))) % 2 == 1) [.bool ((chr (rd l0 (k : Int))) % 2 == 1)] (fun _ => True) (fun _ => False) rfl rfl ?aP (fun _ hk => hk.elim) ?aF ?aO ?aB ?aS ?aL ?_; (case aP => exact rfl); (case aF => exact (fun _ _ => trivial)); (case aO => exact HO3.out); (case aB => exact HB3.out); (case aS => exact HB3.out.size); (case aL => simp [bit5, hlen]; omega); intro v4 w4 ho4 hb4 hg4 hat4; have HO4 := Aside0.mk ho4; have HB4 := Aside0.mk hb4; have HG4 := Aside0.mk ((hg4.block g (lt_of_block HG3.out) (Kd.R_ne HO3.out HG3.out (by decide))).trans HG3.out); clear HO3 HB3 HG3 ho4 hb4 hg4 hat4 hx))
          go_roundw
          case rel => exact ⟨1, by omega, by go_num, ⟨by have := HO4.out; rw [List.append_assoc] at this; exact this⟩, HB4, HG4⟩
          case measure => simp [intOf]
        · subst h
          have hx : wr.cell? ⟨g, 1, none⟩ = some (.bool ((chr (rd l0 (k : Int))) / 2 % 2 == 1)) := by simp [World.cell?, HG3.out]
          go_wp2_with (first | ((with_reducible refine gate_builtin (b := .append) (xs := #[.tmp 34, .tmp 38]) rfl ?_); at_builtin; refine Kd.R_append Kd.bool (w0 := w) w.heap.size rfl (.tmp 34) (.tmp 38) 44 4 (.bool false) 1 rfl Try.underlying44 info4 rfl (by decide) (by omega) _ (charsTo l0 k ++ (bit5 (chr (rd l0 (k : Int)))).take 1) ((chr (rd l0 (k : Int))) / 2 % 2 == 1) [.bool ((chr (rd l0 (k : Int))) / 2 % 2 == 1)] (fun _ => True) (fun _ => False) rfl rfl ?aP (fun _ hk => hk.elim) ?aF ?aO ?aB ?aS ?aL ?_; (case aP => exact rfl); (case aF => exact (fun _ _ => trivial)); (case aO => exact HO3.out); (case aB => exact HB3.out); (case aS => exact HB3.out.size); (case aL => simp [bit5, hlen]; omega); intro v4 w4 ho4 hb4 hg4 hat4; have HO4 := Aside0.mk ho4; have HB4 := Aside0.mk hb4; have HG4 := Aside0.mk ((hg4.block g (lt_of_block HG3.out) (Kd.R_ne HO3.out HG3.out (by decide))).trans HG3.out); clear HO3 HB3 HG3 ho4 hb4 hg4 hat4 hx))
          go_roundw
          case rel => exact ⟨2, by omega, by go_num, ⟨by have := HO4.out; rw [List.append_assoc] at this; exact this⟩, HB4, HG4⟩
          case measure => simp [intOf]
        · subst h
          have hx : wr.cell? ⟨g, 2, none⟩ = some (.bool ((chr (rd l0 (k : Int))) / 2 / 2 % 2 == 1)) := by simp [World.cell?, HG3.out]
          go_wp2_with (first | ((with_reducible refine gate_builtin (b := .append) (xs := #[.tmp 34, .tmp 38]) rfl ?_); at_builtin; refine Kd.R_append Kd.bool (w0 := w) w.heap.size rfl (.tmp 34) (.tmp 38) 44 4 (.bool false) 1 rfl Try.underlying44 info4 rfl (by decide) (by omega) _ (charsTo l0 k ++ (bit5 (chr (rd l0 (k : Int)))).take 2) ((chr (rd l0 (k : Int))) / 2 / 2 % 2 == 1) [.bool ((chr (rd l0 (k : Int))) / 2 / 2 % 2 == 1)] (fun _ => True) (fun _ => False) rfl rfl ?aP (fun _ hk => hk.elim) ?aF ?aO ?aB ?aS ?aL ?_; (case aP => exact rfl); (case aF => exact (fun _ _ => trivial)); (case aO => exact HO3.out); (case aB => exact HB3.out); (case aS => exact HB3.out.size); (case aL => simp [bit5, hlen]; omega); intro v4 w4 ho4 hb4 hg4 hat4; have HO4 := Aside0.mk ho4; have HB4 := Aside0.mk hb4; have HG4 := Aside0.mk ((hg4.block g (lt_of_block HG3.out) (Kd.R_ne HO3.out HG3.out (by decide))).trans HG3.out); clear HO3 HB3 HG3 ho4 hb4 hg4 hat4 hx))
          go_roundw
          case rel => exact ⟨3, by omega, by go_num, ⟨by have := HO4.out; rw [List.append_assoc] at this; exact this⟩, HB4, HG4⟩
          case measure => simp [intOf]
        · subst h
          have hx : wr.cell? ⟨g, 3, none⟩ = some (.bool ((chr (rd l0 (k : Int))) / 2 / 2 / 2 % 2 == 1)) := by simp [World.cell?, HG3.out]
          go_wp2_with (first | ((with_reducible refine gate_builtin (b := .append) (xs := #[.tmp 34, .tmp 38]) rfl ?_); at_builtin; refine Kd.R_append Kd.bool (w0 := w) w.heap.size rfl (.tmp 34) (.tmp 38) 44 4 (.bool false) 1 rfl Try.underlying44 info4 rfl (by decide) (by omega) _ (charsTo l0 k ++ (bit5 (chr (rd l0 (k : Int)))).take 3) ((chr (rd l0 (k : Int))) / 2 / 2 / 2 % 2 == 1) [.bool ((chr (rd l0 (k : Int))) / 2 / 2 / 2 % 2 == 1)] (fun _ => True) (fun _ => False) rfl rfl ?aP (fun _ hk => hk.elim) ?aF ?aO ?aB ?aS ?aL ?_; (case aP => exact rfl); (case aF => exact (fun _ _ => trivial)); (case aO => exact HO3.out); (case aB => exact HB3.out); (case aS => exact HB3.out.size); (case aL => simp [bit5, hlen]; omega); intro v4 w4 ho4 hb4 hg4 hat4; have HO4 := Aside0.mk ho4; have HB4 := Aside0.mk hb4; have HG4 := Aside0.mk ((hg4.block g (lt_of_block HG3.out) (Kd.R_ne HO3.out HG3.out (by decide))).trans HG3.out); clear HO3 HB3 HG3 ho4 hb4 hg4 hat4 hx))
          go_roundw
          case rel => exact ⟨4, by omega, by go_num, ⟨by have := HO4.out; rw [List.append_assoc] at this; exact this⟩, HB4, HG4⟩
          case measure => simp [intOf]
        · subst h
          have hx : wr.cell? ⟨g, 4, none⟩ = some (.bool ((chr (rd l0 (k : Int))) / 2 / 2 / 2 / 2 % 2 == 1)) := by simp [World.cell?, HG3.out]
          go_wp2_with (first | ((with_reducible refine gate_builtin (b := .append) (xs := #[.tmp 34, .tmp 38]) rfl ?_); at_builtin; refine Kd.R_append Kd.bool (w0 := w) w.heap.size rfl (.tmp 34) (.tmp 38) 44 4 (.bool false) 1 rfl Try.underlying44 info4 rfl (by decide) (by omega) _ (charsTo l0 k ++ (bit5 (chr (rd l0 (k : Int)))).take 4) ((chr (rd l0 (k : Int))) / 2 / 2 / 2 / 2 % 2 == 1) [.bool ((chr (rd l0 (k : Int))) / 2 / 2 / 2 / 2 % 2 == 1)] (fun _ => True) (fun _ => False) rfl rfl ?aP (fun _ hk => hk.elim) ?aF ?aO ?aB ?aS ?aL ?_; (case aP => exact rfl); (case aF => exact (fun _ _ => trivial)); (case aO => exact HO3.out); (case aB => exact HB3.out); (case aS => exact HB3.out.size); (case aL => simp [bit5, hlen]; omega); intro v4 w4 ho4 hb4 hg4 hat4; have HO4 := Aside0.mk ho4; have HB4 := Aside0.mk hb4; have HG4 := Aside0.mk ((hg4.block g (lt_of_block HG3.out) (Kd.R_ne HO3.out HG3.out (by decide))).trans HG3.out); clear HO3 HB3 HG3 ho4 hb4 hg4 hat4 hx))
          go_roundw
          case rel => exact ⟨5, by omega, by go_num, ⟨by have := HO4.out; rw [List.append_assoc] at this; exact this⟩, HB4, HG4⟩
          case measure => simp [intOf]
        · subst h
          go_wp2
          go_roundw
          case rel => exact ⟨k + 1, by omega, by go_num, ⟨by rw [charsTo_succ l0 k hlt]; exact HO3.out⟩, HB3⟩
          case measure => simp [intOf]; omega
    · obtain rfl : k = l0.length := by omega
      go_wp2
      go_ret
      exact ⟨_, rfl, by rw [← H.out]; exact HO1.out, HB1.out⟩
end Go.Proofs.Ytfmpeojlaibblaa.S
