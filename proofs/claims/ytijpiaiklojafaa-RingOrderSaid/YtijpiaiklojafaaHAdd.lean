/-
  ring.Add: what it answers, as a Lean function, and that the Go code answers just this (a new row of the keys, the secrets shared).
-/
import Derived.Test.YtijpiaiklojafaaHPlace
import Derived.ArgAppend
namespace Go.Proofs.Ytijpiaiklojafaa.S
set_option linter.unusedSimpArgs false
set_option linter.unusedVariables false
open Go.RowKit Go.Proofs.YtijpiaiklojafaaW.PrintWords Go.Proofs.YtijpiaiklojafaaW.PrintLast Go.Proofs.YtijpiaiklojafaaW.PrintMore

def addL (l : List S33) (k : S33) : List S33 := l.take (posL k.f0 l) ++ [k] ++ l.drop (posL k.f0 l)
def ring_Add.f (l0 : List (S33)) (a1_0 : Int) (l1_1 : List Int) (a1_2 : Int) (a1_3 : Int) : Option ((List (S33)) × Int) :=
  if isL (-1) l0 = true ∧ rightB ⟨a1_0, l1_1, a1_2, a1_3⟩ = true then (if hasL a1_0 l0 = true then some ([], 10) else some (addL l0 ⟨a1_0, l1_1, a1_2, a1_3⟩, 0)) else some ([], 1)

/-- append onto a row with no room: a new row, the elements' own rows shared. -/
theorem first_append (W : World) (ok : Nat → Prop) (base : Nat) (hbase : base ≤ W.heap.size) (A : Option Addr) (l : List S33) (HF : Kd.F k33 W ok A l.length l) (p : S33) (cs : List Value) (hcs : Kd.FK k33 W ok p cs) (hfresh : ∀ k, W.heap.size ≤ k → ok k) (hl : l.length ≤ 1000000) (ty : TypeId) (A0 : Option Addr) (hA : A = none → l.length = 0) :
    ∃ v1 w1, (Builtin.append_ #[30, 30] ty #[.slice A l.length l.length, .slice (some ⟨W.heap.size, 0, none⟩) 1 1]).run Try.prog (W.alloc (.cells cs.toArray 33)) = .ok v1 w1 ∧ Kd.N k33 33 w1 base ok v1 (l ++ [p]) ∧ Below base W w1 ∧ (W.alloc (.cells cs.toArray 33)).grownBy w1 none ∧ (∃ b, v1.ownBlock = some b ∧ W.heap.size ≤ b) := by
  obtain ⟨i0, hi, hz0, hz1, hz2⟩ := info_parts info33
  have hk4 : cs.length = 4 := k33.K_len (Kd.FK_now hcs)
  have hk1 : ∀ u ∈ cs, u.oneCell' = true := k33.K_one (Kd.FK_now hcs)
  have hnews : ∀ (j : Nat) (u : Value), cs[j]? = some u → (W.alloc (.cells cs.toArray 33)).cell? ((⟨W.heap.size, 0, none⟩ : Addr).add j) = some u := fun j u hu => by
    have h := cell_of_row (W.alloc (.cells cs.toArray 33)) W.heap.size j _ 33 _ (heap_alloc_new W _)
    have e : (⟨W.heap.size, 0, none⟩ : Addr).add j = ⟨W.heap.size, j, none⟩ := by
      simp [Addr.add]
      omega
    rw [e, h]
    simpa using hu
  have hg0 : W.grownBy (W.alloc (.cells cs.toArray 33)) none := World.grownBy_alloc W _ none
  have fin : ∀ (inner : List Value) v1 w1, Reps (fun x c => Kd.FK k33 W ok x c) 4 l inner → w1.ownsRow (W.alloc (.cells cs.toArray 33)).heap.size 33 4 v1 (l.length + 1) (inner ++ cs) → (W.alloc (.cells cs.toArray 33)).grownBy w1 none →
      Kd.N k33 33 w1 base ok v1 (l ++ [p]) ∧ Below base W w1 ∧ (W.alloc (.cells cs.toArray 33)).grownBy w1 none ∧ (∃ b, v1.ownBlock = some b ∧ W.heap.size ≤ b) := by
    intro inner v1 w1 hr ho hg
    have hr' : Reps (fun x c => Kd.FK k33 W ok x c) 4 (l ++ [p]) (inner ++ cs) := Reps.snoc hr hcs hk4
    have hb : ∃ b, v1.ownBlock = some b ∧ W.heap.size ≤ b := by
      rcases ho.2 with ⟨_, h0⟩ | ⟨g, cap, cur, rfl, hgb, _, _⟩
      · omega
      · exact ⟨g, by simp [Value.ownBlock], by simp at hgb; omega⟩
    obtain ⟨b, hvb, hbW⟩ := hb
    have hst : ∀ k, k < W.heap.size → w1.heap[k]? = W.heap[k]? := fun k hk => (hg.block k (by simp; omega) (by simp)).trans (hg0.block k hk (by simp))
    refine ⟨⟨fun k hk => hfresh k (by rw [hvb] at hk; cases hk; exact hbW), Kd.chunks 4 (l ++ [p]).length (inner ++ cs), Kd.chunks_length _ _ _, ⟨fun k hk => hk.symm, inner ++ cs, ?_, Kd.reps_raw hr' (fun x c hp => ⟨k33.K_len (Kd.FK_now hp), k33.K_one (Kd.FK_now hp)⟩)⟩, fun j x c hx hc => ?_⟩, ?_, hg, b, hvb, hbW⟩
    · rw [Kd.chunks_length, show (l ++ [p]).length = l.length + 1 by simp]
      exact own_weaken ho (by simp; omega)
    · rw [Kd.chunks_get hc]
      refine Kd.FK_mono (Kd.FK_step (Kd.FK_bound (hr'.2 j x hx)) (fun k hk hlt => hst k hlt)) (fun k hk => ⟨hk.1, fun e => ?_⟩)
      rw [hvb] at e
      cases e
      have := hk.2
      omega
    · exact ((Below.refl base W).grown hg0 hbase (fun k e => by cases e)).grown hg (by simp; omega) (fun k e => by cases e)
  cases A with
  | none =>
    have h0 := hA rfl
    obtain rfl : l = [] := List.length_eq_zero_iff.1 h0
    obtain ⟨v1, w1, hrun, r1, r2, _⟩ := run_append_own (P := Try.prog) (W.alloc (.cells cs.toArray 33)) (W.alloc (.cells cs.toArray 33)).heap.size 30 ty 33 i0 _ 4 48 Try.underlying30 hi hz0 hz1 hz2 rfl (by decide) (.slice none 0 0) 0 [] (World.ownsRow_nil _ _ _ _) ⟨W.heap.size, 0, none⟩ 1 1 cs (by omega) hnews hk1 (by simp [maxLen]) (by omega) (Nat.le_refl _)
    exact ⟨v1, w1, hrun, fin [] v1 w1 (Reps.none _ _) r1 r2⟩
  | some ad =>
    obtain ⟨inner, hr, hc⟩ := ReadsRow.inner_ (Kd.F_rows HF)
    obtain ⟨v1, w1, hrun, r1, r2⟩ := run_append_arg_grows (P := Try.prog) (W.alloc (.cells cs.toArray 33)) 30 ty 33 i0 _ 4 48 Try.underlying30 hi hz0 hz1 hz2 rfl (by decide) ad l.length l.length inner hr.1 (fun j u hu => by
      have h := hc j u hu
      exact ((below_alloc (Below.refl _ W) _).cell (World.block_lt_of_cell? W _ h)).trans h) ⟨W.heap.size, 0, none⟩ 1 1 cs (by omega) hnews (by omega) (by simp [maxLen]; omega) (by omega)
    exact ⟨v1, w1, hrun, fin inner v1 w1 hr r1 r2⟩

def add6T : Bool × List (List Nat × List Nat) := (true, [([], []), ([], []), ([], []), ([0, 1, 2], [0, 1, 2]), ([], []), ([4], [4]), ([3, 5], [3, 5]), ([], []), ([], []), ([7, 8], [7, 8]), ([6, 9, 6], [6, 9]), ([10, 10, 0, 1, 2, 3, 4, 5, 6, 7, 8, 9, 10], [10]), ([11, 0, 1, 2, 3, 4, 5, 6, 7, 8, 9, 10, 11], [])])
def add6B : List Nat := [0, 0, 0, 7, 0, 16, 63, 0, 0, 384, 1023, 2047, 4095]
theorem add6_tab : rtab .any (opsOf Try.f28 6) = add6T := by kernel_rfl
theorem add6_bits : waitsOk add6T.2 add6B = true := by kernel_rfl


theorem cell_below {w w1 : World} {p : Addr} {v : Value} (hb : Below w.heap.size w w1) (h : w.cell? p = some v) : w1.cell? p = some v := (hb.cell (World.block_lt_of_cell? w _ h)).trans h
theorem cell_grown {w w1 : World} {p : Addr} {v : Value} (hg : w.grownBy w1 none) (h : w.cell? p = some v) : w1.cell? p = some v := by
  have hb := hg.block p.block (World.block_lt_of_cell? w _ h) (by simp)
  rw [← h]
  simp [World.cell?, hb]
theorem append_step {P : Program} {ops : Array Oper} {Q : Exit → Act → World → Prop} {o : Oper} {a : Act} {K : Act → World → Prop} (hw : Region.wanted o (yielded ops a.tmps) = true) (s x : Operand) (t : TypeId) (hop : o.op = Op.call { callee := Callee.builtin Builtin.append, args := #[s, x], argTypes := #[t, t] }) (u v : Value) (hs : a.eval s = u) (hx : a.eval x = v) {W w1 : World} {v1 : Value}
    (hrun : (Builtin.append_ #[t, t] o.type #[u, v]).run P W = .ok v1 w1) (hK : K (a.put o.dst v1) w1) : if Region.wanted o (yielded ops a.tmps) = true then Oper.wp P o a W K Q else K (a.put o.dst undef) W := by
  rw [if_pos hw]
  unfold Oper.wp
  simp [execOp, hop, resolve, invoke, builtin, hs, hx, hrun, Result.andThen]
  exact hK
theorem cell_grown2 {w w1 : World} {p : Addr} {v : Value} {row : Option Nat} (hg : w.grownBy w1 row) (hne : some p.block ≠ row) (h : w.cell? p = some v) : w1.cell? p = some v := by
  have hb := hg.block p.block (World.block_lt_of_cell? w _ h) hne
  rw [← h]
  simp [World.cell?, hb]
/-- x[:p:p] -/
theorem cut_three (A : Option Addr) (n c p : Nat) (hp : p ≤ n) (hc : n ≤ c) (W : World) : (Instr.slice 30 (.slice A n c) none (some (.int .i64 (p : Int))) (some (.int .i64 (p : Int)))).run Try.prog W = .ok (.slice A p p) W := by
  obtain ⟨i0, hi33, hz0, hz1, hz2⟩ := info_parts info33
  have hel : Try.prog.elem 30 = 33 := by simp [Program.elem, Try.underlying30]
  have hu : Try.prog.underlying 30 = some (.slice (Try.prog.elem 30)) := by rw [hel]; exact Try.underlying30
  have ha : (A.map fun x => x.add 0) = A := by cases A <;> simp [Addr.add]
  rw [run_slice_hm W 30 A n c hu .i64 .i64 (p : Int) (p : Int) (by omega) (by omega) (by omega), hel]
  simp [sizeOf, typeInfo, hi33, sliced, Result.andThen, ha]
def AddOut (ok : Nat → Prop) (w : World) (r1 : List S33) (r2 : Int) (e : Ending) (w' : World) : Prop := ∃ v0_ : Value, e = .returned (.tuple #[v0_, .int .i64 r2]) ∧ Kd.N k33 33 w' w.heap.size ok v0_ r1 ∧ Below w.heap.size w w'
theorem ret_nil {ok : Nat → Prop} {w w' : World} {r2 : Int} (h : Below w.heap.size w w') : AddOut ok w [] r2 (.returned (.tuple #[.slice none 0 0, .int .i64 r2])) w' := ⟨_, rfl, Kd.N_nil _ _ _ _ _, h⟩
set_option maxRecDepth 100000 in
set_option maxHeartbeats 4000000 in
theorem add_walk (P0_ : Nat → Prop) (A0 : Option Addr) (c0 : Nat) (l0 : List (S33)) (x : S33) (P1_ : Nat → Prop) (A1 : Option Addr) (c1 : Nat) (w : World) (hl0 : l0.length ≤ c0) (hF0 : Kd.F k33 w P0_ A0 l0.length l0) (hl1 : x.f1.length ≤ c1) (hF1 : Kd.F (Kd.int .u8) w P1_ A1 x.f1.length x.f1)
    (r1 : List S33) (r2 : Int) (h : (if isL (-1) l0 = true ∧ rightB x = true then (if hasL x.f0 l0 = true then some ([], 10) else some (addL l0 x, 0)) else some ([], 1)) = some (r1, r2)) :
    Calls Try.prog 28 #[.slice A0 l0.length c0, .agg #[.int .i64 x.f0, .slice A1 x.f1.length c1, .int .i64 x.f2, .int .i64 x.f3]] w (AddOut (fun k_ => ((P0_ k_ ∨ P1_ k_) ∨ w.heap.size ≤ k_)) w r1 r2) := by
  have hu33 := Try.underlying33
  have hB0 : Below w.heap.size w (w.alloc (.cells #[.int .i64 x.f0, .slice A1 x.f1.length c1, .int .i64 x.f2, .int .i64 x.f3] 33)) := below_alloc (Below.refl _ w) _
  have hI : Calls Try.prog 26 #[.slice A0 l0.length c0] (w.alloc (.cells #[.int .i64 x.f0, .slice A1 x.f1.length c1, .int .i64 x.f2, .int .i64 x.f3] 33)) _ := ring_Is.calls A0 c0 l0 (isL (-1) l0) _ (Kd.C_below (Kd.F_now hF0) hB0) hl0 rfl
  have hcell : ∀ (j : Nat) (W : World), Below (w.alloc (.cells #[.int .i64 x.f0, .slice A1 x.f1.length c1, .int .i64 x.f2, .int .i64 x.f3] 33)).heap.size (w.alloc (.cells #[.int .i64 x.f0, .slice A1 x.f1.length c1, .int .i64 x.f2, .int .i64 x.f3] 33)) W → W.cell? ⟨w.heap.size, j, none⟩ = (#[.int .i64 x.f0, .slice A1 x.f1.length c1, .int .i64 x.f2, .int .i64 x.f3] : Array Value)[j]? := fun j W hW =>
    (hW.cell (p := ⟨w.heap.size, j, none⟩) (by simp)).trans (cell_of_row _ _ j _ 33 _ (heap_alloc_new w _))
  have HF0 := Lib.hid hF0
  have HF1 := Lib.hid hF1
  have HB := Lib.hid hB0
  have HC := Lib.hid hcell
  have HI := Lib.hid hI
  clear hF0 hF1 hB0 hcell hI
  cases h1 : isL (-1) l0 with
  | false =>
    rw [h1] at h HI
    rw [if_neg (by simp)] at h
    cases h
    have H1 := Lib.hid h1
    clear h1
    go_enter Try.func28, Try.ntmps28
    go_wp2_with (go_at_call 26; (with_reducible refine HI.out.mono ?_); rintro e w1 ⟨rfl, hb1⟩)
    go_ret2
    exact ret_nil (HB.out.trans (hb1.mono (by simp)))
  | true =>
    rw [h1] at h HI
    have hl := isL_short h1
    have H1 := Lib.hid h1
    clear h1
    have HR : ∀ W, Below w.heap.size w W → Calls Try.prog 37 #[.agg #[.int .i64 x.f0, .slice A1 x.f1.length c1, .int .i64 x.f2, .int .i64 x.f3]] W fun e w' => e = .returned (.bool (rightB x)) ∧ Below W.heap.size W w' := fun W hW => ring_right.calls x.f0 A1 c1 x.f1 x.f2 x.f3 (rightB x) W (Kd.C_below (Kd.F_now HF1.out) hW) hl1 (right_f x)
    have HR := Lib.hid HR
    cases h2 : rightB x with
    | false =>
      rw [h2] at h HR
      rw [if_neg (by simp)] at h
      cases h
      clear h2
      go_enter Try.func28, Try.ntmps28
      go_wp2_with (first
        | (go_at_call 26; (with_reducible refine HI.out.mono ?_); rintro e w1 ⟨rfl, hb1⟩; have HB1 := Lib.hid (HB.out.trans (hb1.mono (by simp))); have q0 := HC.out 0 _ hb1; have q1 := HC.out 1 _ hb1; have q2 := HC.out 2 _ hb1; have q3 := HC.out 3 _ hb1; simp at q0 q1 q2 q3; have HRR := Lib.hid (HR.out w1 HB1.out))
        | (go_at_call 37; (with_reducible refine HRR.out.mono ?_); rintro e w2 ⟨rfl, hb2⟩))
      go_ret2
      exact ret_nil (below_step HB1.out hb2)
    | true =>
      rw [h2] at h HR
      simp only [true_and, if_true] at h
      obtain ⟨k0, k1⟩ := right_in h2
      have HP : ∀ W, Below w.heap.size w W → Calls Try.prog 34 #[.slice A0 l0.length c0, .int .i64 x.f0] W fun e w' => e = .returned (.tuple #[.int .i64 (posL x.f0 l0), .bool (hasL x.f0 l0)]) ∧ Below W.heap.size W w' := fun W hW => ring_place.calls A0 c0 l0 x.f0 _ _ W (Kd.C_below (Kd.F_now HF0.out) hW) hl0 (by unfold ring_place.f; rw [if_pos ⟨H1.out, k0, k1⟩])
      have HP := Lib.hid HP
      clear h2
      cases h3 : hasL x.f0 l0 with
      | true =>
        rw [h3] at h HP
        rw [if_pos rfl] at h
        cases h
        clear h3
        go_enter Try.func28, Try.ntmps28
        go_wp2_with (first
          | (go_at_call 26; (with_reducible refine HI.out.mono ?_); rintro e w1 ⟨rfl, hb1⟩; have HB1 := Lib.hid (HB.out.trans (hb1.mono (by simp))); have q0 := HC.out 0 _ hb1; have q1 := HC.out 1 _ hb1; have q2 := HC.out 2 _ hb1; have q3 := HC.out 3 _ hb1; simp at q0 q1 q2 q3; have HRR := Lib.hid (HR.out w1 HB1.out))
          | (go_at_call 37; (with_reducible refine HRR.out.mono ?_); rintro e w2 ⟨rfl, hb2⟩; have HB2 := Lib.hid (below_step HB1.out hb2); have q0 := HC.out 0 _ (below_step hb1 hb2); simp at q0; have HPP := Lib.hid (HP.out w2 HB2.out))
          | (go_at_call 34; (with_reducible refine HPP.out.mono ?_); rintro e w3 ⟨rfl, hb3⟩))
        go_ret2
        exact ret_nil (below_step HB2.out hb3)
      | false =>
        rw [h3] at h HP
        simp only [Bool.false_eq_true, if_false, Option.some.injEq, Prod.mk.injEq] at h
        obtain ⟨rfl, rfl⟩ := h
        clear h3
        go_enter Try.func28, Try.ntmps28
        go_wp2_with (first
          | (go_at_call 26; (with_reducible refine HI.out.mono ?_); rintro e w1 ⟨rfl, hb1⟩; have HB1 := Lib.hid (HB.out.trans (hb1.mono (by simp))); have q0 := HC.out 0 _ hb1; have q1 := HC.out 1 _ hb1; have q2 := HC.out 2 _ hb1; have q3 := HC.out 3 _ hb1; simp at q0 q1 q2 q3; have HRR := Lib.hid (HR.out w1 HB1.out))
          | (go_at_call 37; (with_reducible refine HRR.out.mono ?_); rintro e w2 ⟨rfl, hb2⟩; have HB2 := Lib.hid (below_step HB1.out hb2); have hb12 := below_step hb1 hb2; have q0 := HC.out 0 _ hb12; simp at q0; have HPP := Lib.hid (HP.out w2 HB2.out))
          | (go_at_call 34; (with_reducible refine HPP.out.mono ?_); rintro e w3 ⟨rfl, hb3⟩))
        have hb3' := below_step hb12 hb3
        have q0 := HC.out 0 _ hb3'
        have q1 := HC.out 1 _ hb3'
        have q2 := HC.out 2 _ hb3'
        have q3 := HC.out 3 _ hb3'
        simp at q0 q1 q2 q3
        have HB3 := Lib.hid (below_step HB2.out hb3)
        have hp := posL_le x.f0 l0
        obtain ⟨p, hpe⟩ : ∃ p, p = posL x.f0 l0 := ⟨_, rfl⟩
        rw [← hpe] at hp ⊢
        have HPE := Lib.hid hpe
        obtain ⟨i0, hi33, hz0, hz1, hz2⟩ := info_parts info33
        have cut3 : ∀ W : World, (Instr.slice 30 (.slice A0 l0.length c0) none (some (.int .i64 (p : Int))) (some (.int .i64 (p : Int)))).run Try.prog W = .ok (.slice A0 p p) W := fun W => cut_three A0 l0.length c0 p hp hl0 W
        have c2 := cut_from (P := Try.prog) 30 33 .i64 Try.underlying30 hi33 4 hz1 A0 l0.length c0 (p : Int) (by omega) (by omega)
        simp only [Int.toNat_natCast] at c2
        clear hpe q0 q1 q2 q3 hb12
        refine start_ (n := 13) (S := fun w' => w'.cell? ⟨w.heap.size, 0, none⟩ = some (.int .i64 x.f0) ∧ w'.cell? ⟨w.heap.size, 1, none⟩ = some (.slice A1 x.f1.length c1) ∧ w'.cell? ⟨w.heap.size, 2, none⟩ = some (.int .i64 x.f2) ∧ w'.cell? ⟨w.heap.size, 3, none⟩ = some (.int .i64 x.f3)) (ds := []) #[false, false, false, false, false, false, false, false, false, false, false, false, false] (by kernel_rfl) rfl rfl (by
          have hb4 := below_drew1 hb3'
          have q0 := HC.out 0 _ hb4
          have q1 := HC.out 1 _ hb4
          have q2 := HC.out 2 _ hb4
          have q3 := HC.out 3 _ hb4
          simp at q0 q1 q2 q3
          exact ⟨q0, q1, q2, q3⟩) (fun hHeld => ?_); refine with_tabW add6_tab add6_bits (fun HT_ HW_ => ?_)
        generalize hwd : World.drew _ = wd at hHeld ⊢
        refine pure_ (i := 0) (N := (some 24)) (v := ?_) (a' := ?_) #[true, false, false, false, false, false, false, false, false, false, false, false, false] rfl rfl (any_of HT_.out (by kernel_rfl)) (fun _ _ _ h => h) (Or.inl ⟨by rfl, ?_⟩) ?_ ?_
        rotate_left
        · intro w'
          go_simp
          with_reducible rfl
        rotate_left
        · simp only [Act.put, List.setIfInBounds_toArray, List.set_cons_zero, List.set_cons_succ, i64_w, i32_w]
          rfl
        refine pure_ (i := 1) (N := (some 25)) (v := ?_) (a' := ?_) #[true, true, false, false, false, false, false, false, false, false, false, false, false] rfl rfl (any_of HT_.out (by kernel_rfl)) (fun _ _ _ h => h) (Or.inl ⟨by rfl, ?_⟩) ?_ ?_
        rotate_left
        · intro w'
          go_simp
          with_reducible rfl
        rotate_left
        · simp only [Act.put, List.setIfInBounds_toArray, List.set_cons_zero, List.set_cons_succ, i64_w, i32_w]
          rfl
        refine pure_ (i := 2) (N := (some 26)) (v := ?_) (a' := ?_) #[true, true, true, false, false, false, false, false, false, false, false, false, false] rfl rfl (any_of HT_.out (by kernel_rfl)) (fun _ _ _ h => h) (Or.inl ⟨by rfl, ?_⟩) ?_ ?_
        rotate_left
        · intro w'
          go_simp
          with_reducible rfl
        rotate_left
        · simp only [Act.put, List.setIfInBounds_toArray, List.set_cons_zero, List.set_cons_succ, i64_w, i32_w]
          rfl
        refine pure_ (i := 3) (N := (some 27)) (v := ?_) (a' := ?_) #[true, true, true, true, false, false, false, false, false, false, false, false, false] rfl rfl (any_of HT_.out (by kernel_rfl)) (fun _ _ _ h => h) (Or.inl ⟨by rfl, ?_⟩) ?_ ?_
        rotate_left
        · intro w'
          go_simp
          with_reducible rfl
        rotate_left
        · simp only [Act.put, List.setIfInBounds_toArray, List.set_cons_zero, List.set_cons_succ, i64_w, i32_w]
          rfl
        refine pure_ (i := 7) (N := (some 31)) (v := ?_) (a' := ?_) #[true, true, true, true, false, false, false, true, false, false, false, false, false] rfl rfl (any_of HT_.out (by kernel_rfl)) (fun _ _ _ h => h) (Or.inl ⟨by rfl, ?_⟩) ?_ ?_
        rotate_left
        · intro w'
          go_simp
          with_reducible rfl
        rotate_left
        · simp only [Act.put, List.setIfInBounds_toArray, List.set_cons_zero, List.set_cons_succ, i64_w, i32_w]
          rfl
        refine pure_ (i := 8) (N := (some 32)) (v := ?_) (a' := ?_) #[true, true, true, true, false, false, false, true, true, false, false, false, false] rfl rfl (any_of HT_.out (by kernel_rfl)) (fun _ _ _ h => h) (Or.inl ⟨by rfl, ?_⟩) ?_ ?_
        rotate_left
        · intro w'
          go_simp
          with_reducible rfl
        rotate_left
        · simp only [Act.put, List.setIfInBounds_toArray, List.set_cons_zero, List.set_cons_succ, i64_w, i32_w]
          rfl
        refine pure_ (i := 9) (N := (some 33)) (v := ?_) (a' := ?_) #[true, true, true, true, false, false, false, true, true, true, false, false, false] rfl rfl (any_of HT_.out (by kernel_rfl)) (fun _ _ _ h => h) (Or.inl ⟨by rfl, ?_⟩) ?_ ?_
        rotate_left
        · intro w'
          go_simp
          with_reducible rfl
        rotate_left
        · simp only [Act.put, List.setIfInBounds_toArray, List.set_cons_zero, List.set_cons_succ, i64_w, i32_w]
          rfl
        refine take_ (i := 4) (N := (some 28)) (v := ?_) (a' := ?_) #[true, true, true, true, true, false, false, true, true, true, false, false, false] rfl rfl (take_ofW HT_.out HW_.out (by kernel_rfl)) (fun _ _ _ h => h) (Or.inl ⟨by rfl, ?_⟩) hHeld ?_ ?_
        rotate_left
        · rintro w' ⟨s0, s1, s2, s3⟩
          go_simp
          with_reducible rfl
        rotate_left
        · simp only [Act.put, List.setIfInBounds_toArray, List.set_cons_zero, List.set_cons_succ, i64_w, i32_w]
          rfl
        have HB4 : Below w.heap.size w wd := by rw [← hwd]; exact below_drew1 HB3.out
        have hb4 := (by rw [← hwd]; exact below_drew1 hb3' : Below (w.alloc (.cells #[.int .i64 x.f0, .slice A1 x.f1.length c1, .int .i64 x.f2, .int .i64 x.f3] 33)).heap.size (w.alloc (.cells #[.int .i64 x.f0, .slice A1 x.f1.length c1, .int .i64 x.f2, .int .i64 x.f3] 33)) wd)
        refine one_ (i := 5) (N := some 29) #[true, true, true, true, true, true, false, true, true, true, false, false, false] rfl rfl (one_of HT_.out (by kernel_rfl)) (by decide) (fun K hK => ?_)
        rw [if_pos (by rfl)]
        unfold Oper.wp
        go_simp
        refine hK.out _ _ (by
          have h := below_alloc (Below.refl _ wd) (.cells #[.int .i64 x.f0, .slice A1 x.f1.length c1, .int .i64 x.f2, .int .i64 x.f3] 33)
          exact ⟨cell_below h hHeld.1, cell_below h hHeld.2.1, cell_below h hHeld.2.2.1, cell_below h hHeld.2.2.2⟩) (fun hHeld => ?_)
        clear hK K
        have hF0d : Kd.F k33 wd P0_ A0 l0.length l0 := Kd.F_below HF0.out HB4
        have hF1d : Kd.F (Kd.int .u8) wd P1_ A1 x.f1.length x.f1 := Kd.F_below HF1.out HB4
        have htl : (l0.take p).length = p := by rw [List.length_take]; omega
        obtain ⟨v1, w4, hrun, hN1, hbw4, hg4, hv1⟩ := first_append wd (fun k_ => ((P0_ k_ ∨ P1_ k_) ∨ w.heap.size ≤ k_)) w.heap.size HB4.size A0 (l0.take p) (Kd.F_mono (Kd.F_take hF0d hp) (fun k hk => .inl (.inl hk))) x [.int .i64 x.f0, .slice A1 x.f1.length c1, .int .i64 x.f2, .int .i64 x.f3] (k33_mkF wd _ x hl1 (Kd.F_mono hF1d (fun k hk => .inl (.inr hk)))) (fun k hk => .inr (Nat.le_trans HB4.size hk)) (by omega) 30 A0 (fun e => by
          rcases Nat.eq_zero_or_pos l0.length with h0 | h0
          · omega
          · obtain ⟨ad, ha, _⟩ := (Kd.F_now hF0d).2.2 h0
            rw [e] at ha
            cases ha)
        rw [htl] at hrun
        refine one_ (i := 6) (N := some 30) #[true, true, true, true, true, true, true, true, true, true, false, false, false] rfl rfl (one_of HT_.out (by kernel_rfl)) (by decide) (fun K hK => ?_)
        obtain ⟨A4, c4, rfl⟩ := Kd.N_slice hN1
        have ga := World.grownBy_alloc wd (.cells #[.int .i64 x.f0, .slice A1 x.f1.length c1, .int .i64 x.f2, .int .i64 x.f3] 33) none
        refine append_step (by rfl) (.tmp 27) (.tmp 29) 30 rfl (.slice A0 p p) (.slice (some ⟨wd.heap.size, 0, none⟩) 1 1) (by rfl) (by rfl) hrun ?_
        refine hK.out _ _ ⟨cell_grown hg4 hHeld.1, cell_grown hg4 hHeld.2.1, cell_grown hg4 hHeld.2.2.1, cell_grown hg4 hHeld.2.2.2⟩ (fun hHeld => ?_)
        clear hK K
        refine norm_ (a' := ?_) ?_ ?_
        rotate_left
        · show Act.put _ (some 30) _ = _
          simp only [Act.put, List.setIfInBounds_toArray, List.set_cons_zero, List.set_cons_succ, i64_w, i32_w]
          rfl
        refine one_ (i := 10) (N := some 34) #[true, true, true, true, true, true, true, true, true, true, true, false, false] rfl rfl (one_of HT_.out (by kernel_rfl)) (by decide) (fun K hK => ?_)
        have hF4 : Kd.F k33 w4 (fun k => P0_ k ∧ k < w.heap.size) A0 l0.length l0 := Kd.F_step (Kd.F_below (Kd.F_bound HF0.out) HB4) (fun k hk hlt => (hg4.block k (by simp; omega) (by simp)).trans (ga.block k hlt (by simp)))
        have hFd : Kd.F k33 w4 (fun k => P0_ k ∧ k < w.heap.size) (if c0 = p then A0 else A0.map (·.add (p * 4))) (l0.length - p) (l0.drop p) := by
          have h : Kd.F k33 w4 (fun k => P0_ k ∧ k < w.heap.size) (if c0 = p then A0 else A0.map (·.add (p * k33.sz))) (l0.drop p).length (l0.drop p) := fun W' hW => Kd.C_drop (hF4 W' hW) hp hl0
          rw [List.length_drop] at h
          exact h
        obtain ⟨b4, hvb, hbb⟩ := hv1
        refine Kd.N_append_rows_step k33 (w0 := w) w.heap.size (by rfl) (.tmp 30) (.tmp 33) 30 33 _ 48 rfl Try.underlying30 info33 rfl (by decide) (by omega) (.slice A4 (l0.take p ++ [x]).length c4) (l0.take p ++ [x]) (l0.drop p) (if c0 = p then A0 else A0.map (·.add (p * 4))) (l0.length - p) (c0 - p) (fun k_ => ((P0_ k_ ∨ P1_ k_) ∨ w.heap.size ≤ k_)) (fun k => P0_ k ∧ k < w.heap.size) (by rfl) (by rfl) hN1 hFd (fun k hk => ⟨.inl (.inl hk.1), fun e => by rw [hvb] at e; cases e; have := hk.2; have := HB4.size; omega⟩) (fun k hk => .inr (by have := hbw4.size; have := HB4.size; omega)) (HB4.trans hbw4) (by have := hbw4.size; have := HB4.size; omega) (by rw [List.length_append, htl, List.length_singleton]; omega) ?_
        intro v2 w5 hN2 hb5 hg5 hat5
        have hne : some w.heap.size ≠ (Value.slice A4 (l0.take p ++ [x]).length c4).ownBlock := fun e => by rw [hvb] at e; cases e; have := hb4.size; simp at this; omega
        refine hK.out _ _ ⟨cell_grown2 hg5 hne hHeld.1, cell_grown2 hg5 hne hHeld.2.1, cell_grown2 hg5 hne hHeld.2.2.1, cell_grown2 hg5 hne hHeld.2.2.2⟩ (fun hHeld => ?_)
        clear hK K
        obtain ⟨A5, c5, rfl⟩ := Kd.N_slice hN2
        generalize hm5 : (l0.take p ++ [x] ++ l0.drop p).length = m5 at hN2 ⊢
        clear hm5 hat5
        refine norm_ (a' := ?_) ?_ ?_
        rotate_left
        · show Act.put _ (some 34) _ = _
          simp only [Act.put, List.setIfInBounds_toArray, List.set_cons_zero, List.set_cons_succ, i64_w, i32_w]
          rfl
        refine pure_ (i := 11) (N := (some 4)) (v := ?_) (a' := ?_) #[true, true, true, true, true, true, true, true, true, true, true, true, false] rfl rfl (any_of HT_.out (by kernel_rfl)) (fun _ _ _ h => h) (Or.inl ⟨by rfl, ?_⟩) ?_ ?_
        rotate_left
        · intro w'
          go_simp
          with_reducible rfl
        rotate_left
        · simp only [Act.put, List.setIfInBounds_toArray, List.set_cons_zero, List.set_cons_succ, i64_w, i32_w]
          rfl
        refine pure_ (i := 12) (N := (some 5)) (v := ?_) (a' := ?_) #[true, true, true, true, true, true, true, true, true, true, true, true, true] rfl rfl (any_of HT_.out (by kernel_rfl)) (fun _ _ _ h => h) (Or.inl ⟨by rfl, ?_⟩) ?_ ?_
        rotate_left
        · intro w'
          go_simp
          with_reducible rfl
        rotate_left
        · simp only [Act.put, List.setIfInBounds_toArray, List.set_cons_zero, List.set_cons_succ, i64_w, i32_w]
          rfl
        refine done_ (done_of HT_.out (by kernel_rfl)) ?_
        have HN2 := Lib.hid hN2
        have HB5 := Lib.hid hb5
        clear hN2 hb5 hg5 hFd hF4 hN1 hbw4 hg4 hvb hbb hHeld hrun ga hF0d hF1d htl hb4 hb3' HB4 hwd cut3 c2 hne
        go_wp2
        all_goals
          go_ret2
          refine ⟨_, rfl, ?_, HB5.out⟩
          have := HN2.out
          rw [HPE.out] at this
          exact this
theorem ring_Add.calls (P0_ : Nat → Prop) (A0 : Option Addr) (c0 : Nat) (l0 : List (S33)) (a1_0 : Int) (P1_1_ : Nat → Prop) (A1_1 : Option Addr) (c1_1 : Nat) (l1_1 : List Int) (a1_2 : Int) (a1_3 : Int) (r1 : List (S33)) (r2 : Int) (w : World) (hs0 : Kd.V k33 33 w w.heap.size (fun k_ => P0_ k_) (.slice A0 l0.length c0) l0) (hs1_1 : Kd.V (Kd.int .u8) 5 w w.heap.size (fun k_ => P1_1_ k_) (.slice A1_1 l1_1.length c1_1) l1_1) (h : ring_Add.f l0 a1_0 l1_1 a1_2 a1_3 = some (r1, r2)) :
    Calls Try.prog 28 #[.slice A0 l0.length c0, .agg #[.int .i64 a1_0, .slice A1_1 l1_1.length c1_1, .int .i64 a1_2, .int .i64 a1_3]] w fun e w' => ∃ v0_ : Value, e = .returned (.tuple #[v0_, .int .i64 r2]) ∧ Kd.N k33 33 w' w.heap.size (fun k_ => ((P0_ k_ ∨ P1_1_ k_) ∨ w.heap.size ≤ k_)) v0_ r1 ∧ Below w.heap.size w w' := by
  unfold ring_Add.f at h
  obtain ⟨A, c, he, hlc, hF⟩ := hs0
  injection he with e1 e2 e3
  subst e1
  subst e3
  obtain ⟨A', c', he', hlc', hF'⟩ := hs1_1
  injection he' with e1 e2 e3
  subst e1
  subst e3
  exact add_walk P0_ A0 c0 l0 ⟨a1_0, l1_1, a1_2, a1_3⟩ P1_1_ A1_1 c1_1 w hlc hF hlc' hF' r1 r2 h
end Go.Proofs.Ytijpiaiklojafaa.S
