import Derived.Test.YtfmpeojlaibblaaBase1
import Derived.StillTailTactics
import Derived.Deep.QuietTactic
import Derived.BigQuiet
import Derived.IntWalk
import Derived.WalkLawsBesides
import Derived.WalkMore
import Derived.Tactics
import Derived.Tactics2
import Derived.Defers
import Derived.Recover
import Derived.Laws.Pointers
set_option linter.unusedVariables false
set_option linter.unusedSimpArgs false

/-
  track's reader: what its next value is, and that the Go code answers just this, or gives up.
-/
namespace Go.Proofs.Ytfmpeojlaibblaa.S
open Go.RowKit Go.Proofs.YtfmpeojlaibblaaW.PrintWords Go.Proofs.YtfmpeojlaibblaaW.PrintLast Go.Proofs.YtfmpeojlaibblaaW.PrintMore

/-- The reader, in block g: the bits lie in block gb, n of them; the place is i. -/
def ReaderAt (w : World) (g gb n c : Nat) (i : Int) : Prop := w.heap[g]? = some (.cells #[.slice (some ⟨gb, 0, none⟩) n c, .int .i64 i] 55 (0, 0))
def errnoPanic (n : Int) : List PanicEntry := [{ v := .iface 23 (.int .i64 n), recovered := false }]

theorem value_end (w : World) (g gb n c i : Nat) (hr : ReaderAt w g gb n c i) (hi : n < i + 5) (hn : n ≤ 1000000) (hi2 : i ≤ 1000000) :
    Calls Try.prog 56 #[.pointer (some ⟨g, 0, none⟩)] w fun e w' => e = .panicked (errnoPanic 5) ∧ Below w.heap.size w w' := by
  have c0 : w.cell? ⟨g, 0, none⟩ = some (.slice (some ⟨gb, 0, none⟩) n c) := cell_of_row w g 0 _ _ _ hr
  have c1 : w.cell? ⟨g, 1, none⟩ = some (.int .i64 i) := cell_of_row w g 1 _ _ _ hr
  have s5 : IntKind.i64.wrap ((i : Int) + 5) = (i : Int) + 5 := IntWalk.i64_in _ (by omega)
  have hd : decide ((n : Int) < (i : Int) + 5) = true := decide_eq_true (by omega)
  go_enter Try.func56, Try.ntmps56
  go_wp2
  go_quiet (fail)
  go_wp2
  exact ⟨rfl, rfl, pw_below_drewN (Below.refl _ _) _⟩

/-- The bits at a place, five of them. -/
def Five (w : World) (gb i : Nat) (b0 b1 b2 b3 b4 : Bool) : Prop :=
  w.cell? ⟨gb, i, none⟩ = some (.bool b0) ∧ w.cell? ⟨gb, i + 1, none⟩ = some (.bool b1) ∧ w.cell? ⟨gb, i + 2, none⟩ = some (.bool b2) ∧ w.cell? ⟨gb, i + 3, none⟩ = some (.bool b3) ∧ w.cell? ⟨gb, i + 4, none⟩ = some (.bool b4)

def ValOut (g i : Nat) (v er : Int) (w : World) (e : Ending) (w' : World) : Prop :=
  (er = 0 → e = .returned (.int .i64 v) ∧ ∃ w1, Below w.heap.size w w1 ∧ w' = w1.setCell ⟨g, 1, none⟩ (.int .i64 ((i : Int) + 5))) ∧ (er ≠ 0 → e = .panicked (errnoPanic er) ∧ Below w.heap.size w w')
theorem cell_below {w w' : World} (hb : Below w.heap.size w w') {a : Addr} {v : Value} (h : w.cell? a = some v) : w'.cell? a = some v := (hb.cell (World.block_lt_of_cell? w _ h)).trans h
theorem five_below {w w' : World} {g gb n c i : Nat} {b0 b1 b2 b3 b4 : Bool} (h : w.cell? ⟨g, 0, none⟩ = some (.slice (some ⟨gb, 0, none⟩) n c) ∧ w.cell? ⟨g, 1, none⟩ = some (.int .i64 i) ∧ w.cell? ⟨gb, i, none⟩ = some (.bool b0) ∧ w.cell? ⟨gb, i + 1, none⟩ = some (.bool b1) ∧ w.cell? ⟨gb, i + 2, none⟩ = some (.bool b2) ∧ w.cell? ⟨gb, i + 3, none⟩ = some (.bool b3) ∧ w.cell? ⟨gb, i + 4, none⟩ = some (.bool b4)) (hb : Below w.heap.size w w') :
    w'.cell? ⟨g, 0, none⟩ = some (.slice (some ⟨gb, 0, none⟩) n c) ∧ w'.cell? ⟨g, 1, none⟩ = some (.int .i64 i) ∧ w'.cell? ⟨gb, i, none⟩ = some (.bool b0) ∧ w'.cell? ⟨gb, i + 1, none⟩ = some (.bool b1) ∧ w'.cell? ⟨gb, i + 2, none⟩ = some (.bool b2) ∧ w'.cell? ⟨gb, i + 3, none⟩ = some (.bool b3) ∧ w'.cell? ⟨gb, i + 4, none⟩ = some (.bool b4) :=
  ⟨cell_below hb h.1, cell_below hb h.2.1, cell_below hb h.2.2.1, cell_below hb h.2.2.2.1, cell_below hb h.2.2.2.2.1, cell_below hb h.2.2.2.2.2.1, cell_below hb h.2.2.2.2.2.2⟩
def val3T : Bool × List (List Nat × List Nat) := (true, [([], []), ([0], [0]), ([1], [1]), ([2], [2]), ([], []), ([4], [4]), ([5], [5]), ([6], [6]), ([], []), ([8], [8]), ([9], [9]), ([10], [10]), ([11], [11]), ([3, 7, 12], [3, 7, 12]), ([13], [13]), ([14], [14]), ([15], [15]), ([16, 16], [16]), ([17], [17]), ([18], [18]), ([18], [18]), ([19, 17, 0, 1, 2, 3, 4, 5, 6, 7, 8, 9, 10, 11, 12, 13, 14, 15, 16, 17, 18, 19], [19]), ([20, 21, 0, 1, 2, 3, 4, 5, 6, 7, 8, 9, 10, 11, 12, 13, 14, 15, 16, 17, 18, 19, 20, 21], [20])])
def val3B : List Nat := [0, 1, 3, 7, 0, 16, 48, 112, 0, 256, 768, 1792, 3840, 8191, 16383, 32767, 65535, 131071, 262143, 524287, 524287, 1048575, 4194303]
theorem val3_tab : rtab .any (opsOf Try.f56 3) = val3T := by kernel_rfl
theorem val3_bits : waitsOk val3T.2 val3B = true := by kernel_rfl

set_option maxHeartbeats 4000000 in
set_option maxRecDepth 100000 in
theorem value_walk (w : World) (g gb n c i : Nat) (b0 b1 b2 b3 b4 : Bool) (v er : Int) (hr : ReaderAt w g gb n c i) (hf : Five w gb i b0 b1 b2 b3 b4) (hi : i + 5 ≤ n) (hc : n ≤ c) (hn : n ≤ 1000000) (hv : parity_Value.f (ofTo b0 b1 b2 b3 b4 5) = some (v, er)) :
    Calls Try.prog 56 #[.pointer (some ⟨g, 0, none⟩)] w (ValOut g i v er w) := by
  have c0 : w.cell? ⟨g, 0, none⟩ = some (.slice (some ⟨gb, 0, none⟩) n c) := cell_of_row w g 0 _ _ _ hr
  have c1 : w.cell? ⟨g, 1, none⟩ = some (.int .i64 i) := cell_of_row w g 1 _ _ _ hr
  obtain ⟨f0, f1, f2, f3, f4⟩ := hf
  have s5 : IntKind.i64.wrap ((i : Int) + 5) = (i : Int) + 5 := IntWalk.i64_in _ (by omega)
  have hd : decide ((n : Int) < (i : Int) + 5) = false := decide_eq_false (by omega)
  have q1 : (i : Int) + 5 ≤ (c : Int) := by omega
  have q2 : (i : Int) ≤ (i : Int) + 5 := by omega
  have q3 : 0 ≤ (i : Int) + 5 := by omega
  have harr : ∀ (W : World) (p : Addr) (c' : Nat), (Instr.arrayAt 36 (.slice (some p) 5 c')).run Try.prog W = .ok (.pointer (some p)) W := fun _ _ _ => by kernel_rfl
  have q4 : (c = i) = False := by simp; omega
  have q5 : ((i : Int) + 5).toNat - i = 5 := by omega
  go_enter Try.func56, Try.ntmps56
  go_wp2
  go_quiet (fail)
  go_wp2
  have hb1 : Below w.heap.size w (w.drewN nq).drew := below_drew1 (pw_below_drewN (Below.refl _ _) _)
  refine start_ (n := 23) (S := fun w' => w'.cell? ⟨g, 0, none⟩ = some (.slice (some ⟨gb, 0, none⟩) n c) ∧ w'.cell? ⟨g, 1, none⟩ = some (.int .i64 i) ∧ w'.cell? ⟨gb, i, none⟩ = some (.bool b0) ∧ w'.cell? ⟨gb, i + 1, none⟩ = some (.bool b1) ∧ w'.cell? ⟨gb, i + 2, none⟩ = some (.bool b2) ∧ w'.cell? ⟨gb, i + 3, none⟩ = some (.bool b3) ∧ w'.cell? ⟨gb, i + 4, none⟩ = some (.bool b4)) (ds := []) #[false, false, false, false, false, false, false, false, false, false, false, false, false, false, false, false, false, false, false, false, false, false, false] (by kernel_rfl) rfl rfl ⟨cell_below hb1 c0, cell_below hb1 c1, cell_below hb1 f0, cell_below hb1 f1, cell_below hb1 f2, cell_below hb1 f3, cell_below hb1 f4⟩ (fun hHeld => ?_); refine with_tabW val3_tab val3_bits (fun HT_ HW_ => ?_)
  generalize (w.drewN nq).drew = w1 at hb1 hHeld ⊢
  refine pure_ (i := 0) (N := (some 18)) (v := ?_) (a' := ?_) #[true, false, false, false, false, false, false, false, false, false, false, false, false, false, false, false, false, false, false, false, false, false, false] rfl rfl (any_of HT_.out (by kernel_rfl)) (fun _ _ _ h => h) (Or.inl ⟨by rfl, ?_⟩) ?_ ?_
  rotate_left
  · intro w'
    go_simp
    with_reducible rfl
  rotate_left
  · simp only [Act.put, List.setIfInBounds_toArray, List.set_cons_zero, List.set_cons_succ, i64_w, i32_w]
    rfl
  refine pure_ (i := 1) (N := (some 19)) (v := ?_) (a' := ?_) #[true, true, false, false, false, false, false, false, false, false, false, false, false, false, false, false, false, false, false, false, false, false, false] rfl rfl (any_of HT_.out (by kernel_rfl)) (fun _ _ _ h => h) (Or.inl ⟨by rfl, ?_⟩) ?_ ?_
  rotate_left
  · intro w'
    go_simp
    with_reducible rfl
  rotate_left
  · simp only [Act.put, List.setIfInBounds_toArray, List.set_cons_zero, List.set_cons_succ, i64_w, i32_w]
    rfl
  refine pure_ (i := 2) (N := (some 20)) (v := ?_) (a' := ?_) #[true, true, true, false, false, false, false, false, false, false, false, false, false, false, false, false, false, false, false, false, false, false, false] rfl rfl (any_of HT_.out (by kernel_rfl)) (fun _ _ _ h => h) (Or.inl ⟨by rfl, ?_⟩) ?_ ?_
  rotate_left
  · intro w'
    go_simp
    with_reducible rfl
  rotate_left
  · simp only [Act.put, List.setIfInBounds_toArray, List.set_cons_zero, List.set_cons_succ, i64_w, i32_w]
    rfl
  refine take_ (i := 3) (N := (some 21)) (v := ?_) (a' := ?_) #[true, true, true, true, false, false, false, false, false, false, false, false, false, false, false, false, false, false, false, false, false, false, false] rfl rfl (take_ofW HT_.out HW_.out (by kernel_rfl)) (fun _ _ _ h => h) (Or.inl ⟨by rfl, ?_⟩) hHeld ?_ ?_
  rotate_left
  · rintro w' ⟨s0, s1, s2, s3, s4, s5, s6⟩
    go_simp
    with_reducible rfl
  rotate_left
  · simp only [Act.put, List.setIfInBounds_toArray, List.set_cons_zero, List.set_cons_succ, i64_w, i32_w]
    rfl
  refine pure_ (i := 4) (N := (some 22)) (v := ?_) (a' := ?_) #[true, true, true, true, true, false, false, false, false, false, false, false, false, false, false, false, false, false, false, false, false, false, false] rfl rfl (any_of HT_.out (by kernel_rfl)) (fun _ _ _ h => h) (Or.inl ⟨by rfl, ?_⟩) ?_ ?_
  rotate_left
  · intro w'
    go_simp
    with_reducible rfl
  rotate_left
  · simp only [Act.put, List.setIfInBounds_toArray, List.set_cons_zero, List.set_cons_succ, i64_w, i32_w]
    rfl
  refine pure_ (i := 5) (N := (some 23)) (v := ?_) (a' := ?_) #[true, true, true, true, true, true, false, false, false, false, false, false, false, false, false, false, false, false, false, false, false, false, false] rfl rfl (any_of HT_.out (by kernel_rfl)) (fun _ _ _ h => h) (Or.inl ⟨by rfl, ?_⟩) ?_ ?_
  rotate_left
  · intro w'
    go_simp
    with_reducible rfl
  rotate_left
  · simp only [Act.put, List.setIfInBounds_toArray, List.set_cons_zero, List.set_cons_succ, i64_w, i32_w]
    rfl
  refine pure_ (i := 6) (N := (some 24)) (v := ?_) (a' := ?_) #[true, true, true, true, true, true, true, false, false, false, false, false, false, false, false, false, false, false, false, false, false, false, false] rfl rfl (any_of HT_.out (by kernel_rfl)) (fun _ _ _ h => h) (Or.inl ⟨by rfl, ?_⟩) ?_ ?_
  rotate_left
  · intro w'
    go_simp
    with_reducible rfl
  rotate_left
  · simp only [Act.put, List.setIfInBounds_toArray, List.set_cons_zero, List.set_cons_succ, i64_w, i32_w]
    rfl
  refine take_ (i := 7) (N := (some 25)) (v := ?_) (a' := ?_) #[true, true, true, true, true, true, true, true, false, false, false, false, false, false, false, false, false, false, false, false, false, false, false] rfl rfl (take_ofW HT_.out HW_.out (by kernel_rfl)) (fun _ _ _ h => h) (Or.inl ⟨by rfl, ?_⟩) hHeld ?_ ?_
  rotate_left
  · rintro w' ⟨s0, s1, s2, s3, s4, s5, s6⟩
    go_simp
    with_reducible rfl
  rotate_left
  · simp only [Act.put, List.setIfInBounds_toArray, List.set_cons_zero, List.set_cons_succ, i64_w, i32_w]
    rfl
  refine pure_ (i := 8) (N := (some 26)) (v := ?_) (a' := ?_) #[true, true, true, true, true, true, true, true, true, false, false, false, false, false, false, false, false, false, false, false, false, false, false] rfl rfl (any_of HT_.out (by kernel_rfl)) (fun _ _ _ h => h) (Or.inl ⟨by rfl, ?_⟩) ?_ ?_
  rotate_left
  · intro w'
    go_simp
    with_reducible rfl
  rotate_left
  · simp only [Act.put, List.setIfInBounds_toArray, List.set_cons_zero, List.set_cons_succ, i64_w, i32_w]
    rfl
  refine pure_ (i := 9) (N := (some 27)) (v := ?_) (a' := ?_) #[true, true, true, true, true, true, true, true, true, true, false, false, false, false, false, false, false, false, false, false, false, false, false] rfl rfl (any_of HT_.out (by kernel_rfl)) (fun _ _ _ h => h) (Or.inl ⟨by rfl, ?_⟩) ?_ ?_
  rotate_left
  · intro w'
    go_simp
    with_reducible rfl
  rotate_left
  · simp only [Act.put, List.setIfInBounds_toArray, List.set_cons_zero, List.set_cons_succ, i64_w, i32_w]
    rfl
  refine pure_ (i := 10) (N := (some 28)) (v := ?_) (a' := ?_) #[true, true, true, true, true, true, true, true, true, true, true, false, false, false, false, false, false, false, false, false, false, false, false] rfl rfl (any_of HT_.out (by kernel_rfl)) (fun _ _ _ h => h) (Or.inl ⟨by rfl, ?_⟩) ?_ ?_
  rotate_left
  · intro w'
    go_simp
    with_reducible rfl
  rotate_left
  · simp only [Act.put, List.setIfInBounds_toArray, List.set_cons_zero, List.set_cons_succ, i64_w, i32_w]
    rfl
  refine take_ (i := 11) (N := (some 29)) (v := ?_) (a' := ?_) #[true, true, true, true, true, true, true, true, true, true, true, true, false, false, false, false, false, false, false, false, false, false, false] rfl rfl (take_ofW HT_.out HW_.out (by kernel_rfl)) (fun _ _ _ h => h) (Or.inl ⟨by rfl, ?_⟩) hHeld ?_ ?_
  rotate_left
  · rintro w' ⟨s0, s1, s2, s3, s4, s5, s6⟩
    go_simp
    with_reducible rfl
  rotate_left
  · simp only [Act.put, List.setIfInBounds_toArray, List.set_cons_zero, List.set_cons_succ, i64_w, i32_w]
    rfl
  refine pure_ (i := 12) (N := (some 30)) (v := ?_) (a' := ?_) #[true, true, true, true, true, true, true, true, true, true, true, true, true, false, false, false, false, false, false, false, false, false, false] rfl rfl (any_of HT_.out (by kernel_rfl)) (fun _ _ _ h => h) (Or.inl ⟨by rfl, ?_⟩) ?_ ?_
  rotate_left
  · intro w'
    go_simp
    with_reducible rfl
  rotate_left
  · simp only [Act.put, List.setIfInBounds_toArray, List.set_cons_zero, List.set_cons_succ, i64_w, i32_w]
    rfl
  refine take_ (i := 13) (N := (some 31)) (v := ?_) (a' := ?_) #[true, true, true, true, true, true, true, true, true, true, true, true, true, true, false, false, false, false, false, false, false, false, false] rfl rfl (take_ofW HT_.out HW_.out (by kernel_rfl)) (fun _ _ _ h => h) (Or.inl ⟨by rfl, ?_⟩) hHeld ?_ ?_
  rotate_left
  · rintro w' ⟨s0, s1, s2, s3, s4, s5, s6⟩
    go_simp
    with_reducible rfl
  rotate_left
  · simp only [Act.put, List.setIfInBounds_toArray, List.set_cons_zero, List.set_cons_succ, i64_w, i32_w]
    rfl
  refine take_ (i := 14) (N := (some 32)) (v := ?_) (a' := ?_) #[true, true, true, true, true, true, true, true, true, true, true, true, true, true, true, false, false, false, false, false, false, false, false] rfl rfl (take_ofW HT_.out HW_.out (by kernel_rfl)) (fun _ _ _ h => h) (Or.inl ⟨by rfl, ?_⟩) hHeld ?_ ?_
  rotate_left
  · rintro w' ⟨s0, s1, s2, s3, s4, s5, s6⟩
    go_simp
    with_reducible rfl
  rotate_left
  · simp only [Act.put, List.setIfInBounds_toArray, List.set_cons_zero, List.set_cons_succ, i64_w, i32_w]
    rfl
  refine take_ (i := 15) (N := (some 33)) (v := ?_) (a' := ?_) #[true, true, true, true, true, true, true, true, true, true, true, true, true, true, true, true, false, false, false, false, false, false, false] rfl rfl (take_ofW HT_.out HW_.out (by kernel_rfl)) (fun _ _ _ h => h) (Or.inl ⟨by rfl, ?_⟩) hHeld ?_ ?_
  rotate_left
  · rintro w' ⟨s0, s1, s2, s3, s4, s5, s6⟩
    go_simp
    with_reducible rfl
  rotate_left
  · simp only [Act.put, List.setIfInBounds_toArray, List.set_cons_zero, List.set_cons_succ, i64_w, i32_w]
    rfl
  refine one_ (i := 16) (N := (some 34)) #[true, true, true, true, true, true, true, true, true, true, true, true, true, true, true, true, true, false, false, false, false, false, false] rfl rfl (one_of HT_.out (by kernel_rfl)) (by decide) (fun K hK => ?_)
  refine goes_ Try.func32 (by kernel_rfl) rfl #[.agg #[.bool b0, .bool b1, .bool b2, .bool b3, .bool b4]] (by rfl) rfl rfl (by (try simp only [List.map_toArray, List.map_cons, List.map_nil]); first | done | rfl) ?_
  with_reducible refine (of_walk b0 b1 b2 b3 b4 _).mono ?_
  rintro e w2 ⟨rfl, hb2⟩
  refine ⟨_, rfl, ?_⟩
  replace hb1 := below_step hb1 hb2
  refine hK.out _ _ (five_below hHeld hb2) (fun hHeld => ?_)
  clear hK K
  refine norm_ (a' := ?_) ?_ ?_
  rotate_left
  · show Act.put _ (some 34) _ = _
    simp only [Act.put, List.setIfInBounds_toArray, List.set_cons_zero, List.set_cons_succ, i64_w, i32_w]
    rfl
  refine one_ (i := 17) (N := (some 35)) #[true, true, true, true, true, true, true, true, true, true, true, true, true, true, true, true, true, true, false, false, false, false, false] rfl rfl (one_of HT_.out (by kernel_rfl)) (by decide) (fun K hK => ?_)
  refine goes_ Try.func25 (by kernel_rfl) rfl #[.int .i64 (ofTo b0 b1 b2 b3 b4 5)] (by rfl) rfl rfl (by (try simp only [List.map_toArray, List.map_cons, List.map_nil]); first | done | rfl) ?_
  with_reducible refine (parity_Value.calls _ _ _ _ hv).mono ?_
  rintro e w3 ⟨rfl, hb3⟩
  refine ⟨_, rfl, ?_⟩
  replace hb1 := below_step hb1 hb3.below
  refine hK.out _ _ (five_below hHeld hb3.below) (fun hHeld => ?_)
  clear hK K
  refine norm_ (a' := ?_) ?_ ?_
  rotate_left
  · show Act.put _ (some 35) _ = _
    simp only [Act.put, List.setIfInBounds_toArray, List.set_cons_zero, List.set_cons_succ, i64_w, i32_w]
    rfl
  refine pure_ (i := 18) (N := (some 17)) (v := ?_) (a' := ?_) #[true, true, true, true, true, true, true, true, true, true, true, true, true, true, true, true, true, true, true, false, false, false, false] rfl rfl (any_of HT_.out (by kernel_rfl)) (fun _ _ _ h => h) (Or.inl ⟨by rfl, ?_⟩) ?_ ?_
  rotate_left
  · intro w'
    go_simp
    with_reducible rfl
  rotate_left
  · simp only [Act.put, List.setIfInBounds_toArray, List.set_cons_zero, List.set_cons_succ, i64_w, i32_w]
    rfl
  refine pure_ (i := 19) (N := (some 36)) (v := ?_) (a' := ?_) #[true, true, true, true, true, true, true, true, true, true, true, true, true, true, true, true, true, true, true, true, false, false, false] rfl rfl (any_of HT_.out (by kernel_rfl)) (fun _ _ _ h => h) (Or.inl ⟨by rfl, ?_⟩) ?_ ?_
  rotate_left
  · intro w'
    go_simp
    with_reducible rfl
  rotate_left
  · simp only [Act.put, List.setIfInBounds_toArray, List.set_cons_zero, List.set_cons_succ, i64_w, i32_w]
    rfl
  refine pure_ (i := 20) (N := (some 37)) (v := ?_) (a' := ?_) #[true, true, true, true, true, true, true, true, true, true, true, true, true, true, true, true, true, true, true, true, true, false, false] rfl rfl (any_of HT_.out (by kernel_rfl)) (fun _ _ _ h => h) (Or.inl ⟨by rfl, ?_⟩) ?_ ?_
  rotate_left
  · intro w'
    go_simp
    with_reducible rfl
  rotate_left
  · simp only [Act.put, List.setIfInBounds_toArray, List.set_cons_zero, List.set_cons_succ, i64_w, i32_w]
    rfl
  refine pure_ (i := 21) (N := (some 3)) (v := ?_) (a' := ?_) #[true, true, true, true, true, true, true, true, true, true, true, true, true, true, true, true, true, true, true, true, true, true, false] rfl rfl (any_of HT_.out (by kernel_rfl)) (fun _ _ _ h => h) (Or.inl ⟨by rfl, ?_⟩) ?_ ?_
  rotate_left
  · intro w'
    go_simp
    with_reducible rfl
  rotate_left
  · simp only [Act.put, List.setIfInBounds_toArray, List.set_cons_zero, List.set_cons_succ, i64_w, i32_w]
    rfl
  refine pure_ (i := 22) (N := (some 4)) (v := ?_) (a' := ?_) #[true, true, true, true, true, true, true, true, true, true, true, true, true, true, true, true, true, true, true, true, true, true, true] rfl rfl (any_of HT_.out (by kernel_rfl)) (fun _ _ _ h => h) (Or.inl ⟨by rfl, ?_⟩) ?_ ?_
  rotate_left
  · intro w'
    go_simp
    with_reducible rfl
  rotate_left
  · simp only [Act.put, List.setIfInBounds_toArray, List.set_cons_zero, List.set_cons_succ, i64_w, i32_w]
    rfl
  refine done_ (done_of HT_.out (by kernel_rfl)) ?_
  obtain ⟨u0, u1, -⟩ := hHeld
  have hlt : g < w.heap.size := by
    have := (Array.getElem?_eq_some_iff.mp hr).1
    exact this
  have hG : w3.heap[g]? = some (.cells #[.slice (some ⟨gb, 0, none⟩) n c, .int .i64 i] 55 (0, 0)) := (hb1.block g hlt).trans hr
  have z1 : w3.frozen? ⟨g, 1, none⟩ = false := by simp [World.frozen?, hG]
  by_cases he : er = 0
  · have he0 : (er != 0) = false := bne_eq_false_iff_eq.mpr he
    have HB := Aside0.mk hb1
    have HE := Aside0.mk he
    clear hG hr he hb1 f0 f1 f2 f3 f4 c0 c1
    go_wp2
    go_ret
    exact ⟨fun _ => ⟨rfl, w3, HB.out, rfl⟩, fun h => absurd HE.out h⟩
  · have he0 : (er != 0) = true := bne_iff_ne.mpr he
    have HB := Aside0.mk hb1
    have HE := Aside0.mk he
    clear hG hr he hb1 f0 f1 f2 f3 f4 c0 c1
    go_wp2
    exact ⟨rfl, fun h => absurd h HE.out, fun _ => ⟨rfl, HB.out⟩⟩
end Go.Proofs.Ytfmpeojlaibblaa.S

/-
  track's reader: what its digits are, as a Lean function, and that the Go code answers just this, or gives up.
-/
namespace Go.Proofs.Ytfmpeojlaibblaa.S
open Go.RowKit Go.Proofs.YtfmpeojlaibblaaW.PrintWords Go.Proofs.YtfmpeojlaibblaaW.PrintLast Go.Proofs.YtfmpeojlaibblaaW.PrintMore
attribute [local go_sem] max2_int min2_int max_two min_two max_three min_three max_four min_four

def chunk (l : List Bool) (i : Nat) : Int := ofTo (bitAt l i) (bitAt l ((i + 1 : Nat) : Int)) (bitAt l ((i + 2 : Nat) : Int)) (bitAt l ((i + 3 : Nat) : Int)) (bitAt l ((i + 4 : Nat) : Int)) 5
def digEnd (l : List Bool) (i : Nat) (vals out : List Int) : Option (Int ⊕ (List Int × Nat)) :=
  (parity_Sum.f vals).bind fun s => if l.length < i + 5 then some (.inl 5) else (parity_Value.f (chunk l i)).bind fun t => if t.2 = 0 then (if t.1 = s.1 then (if 77 < (out.length : Int) then some (.inl 21) else some (.inr (out, i + 5))) else some (.inl 6)) else some (.inl t.2)
def digL (l : List Bool) : Nat → Nat → List Int → List Int → Option (Int ⊕ (List Int × Nat))
  | 0, _, _, _ => none
  | k + 1, i, vals, out => if l.length < i + 5 then some (.inl 5) else (parity_Value.f (chunk l i)).bind fun t => if t.2 = 0 then (if vals.length < 17592186044416 then (if t.1 = 15 then digEnd l (i + 5) (vals ++ [t.1]) out else if 9 < t.1 then some (.inl 7) else (if out.length < 140737488355328 then digL l k (i + 5) (vals ++ [t.1]) (out ++ [t.1 % 256]) else none)) else none) else some (.inl t.2)
def digF (l : List Bool) (k : Nat) : Option (Int ⊕ (List Int × Nat)) := if chunk l 0 = 11 then digL l k 5 [11] [] else some (.inl 4)

/-- A world in which the reader stands at a place; below B, all but the reader is as in W. -/
structure Rdr (g : Nat) (rv : Value) (i : Int) (B : Nat) (W wr : World) : Prop where
  os : wr.os = W.os
  tape : wr.tape = W.tape
  output : wr.output = W.output
  size : B ≤ wr.heap.size
  block : ∀ k, k < B → k ≠ g → wr.heap[k]? = W.heap[k]?
  rd : wr.heap[g]? = some (.cells #[rv, .int .i64 i] 55 (0, 0))
theorem Rdr.on {g : Nat} {rv : Value} {i : Int} {B : Nat} {W wr w1 : World} (h : Rdr g rv i B W wr) (hlt : g < B) (hb : Below B wr w1) : Rdr g rv i B W w1 :=
  ⟨hb.os.trans h.os, hb.tape.trans h.tape, hb.output.trans h.output, Nat.le_trans h.size hb.size, fun k hk hg => (hb.block k hk).trans (h.block k hk hg), (hb.block g hlt).trans h.rd⟩
theorem Rdr.call {g : Nat} {rv : Value} {i : Int} {B : Nat} {W wr w1 : World} (h : Rdr g rv i B W wr) (hlt : g < B) (hb : Below wr.heap.size wr w1) : Rdr g rv i B W w1 := h.on hlt (hb.mono h.size)
theorem Rdr.set {g : Nat} {rv : Value} {i : Int} {B : Nat} {W wr : World} (h : Rdr g rv i B W wr) (i' : Int) : Rdr g rv i' B W (wr.setCell ⟨g, 1, none⟩ (.int .i64 i')) := by
  refine ⟨h.os, h.tape, h.output, ?_, fun k hk hg => (Below.heap_setCell wr ⟨g, 1, none⟩ _ k hg).trans (h.block k hk hg), ?_⟩
  · simpa [World.setCell] using h.size
  · have hr := h.rd
    simp [World.setCell, Array.getElem?_modify, hr]
theorem Rdr.bit {g gb j : Nat} {rv : Value} {i : Int} {B : Nat} {W wr : World} {v : Value} (h : Rdr g rv i B W wr) (hgb : gb < B) (hne : gb ≠ g) (hc : W.cell? ⟨gb, j, none⟩ = some v) : wr.cell? ⟨gb, j, none⟩ = some v := by
  have := h.block gb hgb hne
  unfold World.cell? at hc ⊢
  simp only [this]
  exact hc
theorem R_set {α : Type} {d : Kd α} {e : Nat} {g B : Nat} {v : Value} {xs : List α} {wr : World} (h : d.R e wr B (fun _ => True) v xs) (hlt : g < B) (u : Value) : d.R e (wr.setCell ⟨g, 1, none⟩ u) B (fun _ => True) v xs :=
  Kd.R_mono (Kd.R_move (Kd.R_bound h) (fun k hk => Below.heap_setCell wr ⟨g, 1, none⟩ u k (by have := hk.2.1; simp; omega))) (fun _ hk => hk.1)

/-- What digits leaves behind. -/
def DigOut (g : Nat) (rv : Value) (W : World) (res : Int ⊕ (List Int × Nat)) (e : Ending) (w' : World) : Prop :=
  match res with
  | .inl er => e = .panicked (errnoPanic er) ∧ Below g W w'
  | .inr (out, i) => ∃ v, e = .returned v ∧ Kd.R (Kd.int .u8) 5 w' W.heap.size (fun _ => True) v out ∧ Rdr g rv i W.heap.size W w'
theorem dig_panic {g : Nat} {rv : Value} {W w' : World} {er : Int} {e : Ending} (he : e = .panicked (errnoPanic er)) (hb : Below g W w') : DigOut g rv W (.inl er) e w' := ⟨he, hb⟩
theorem dig_out {g : Nat} {rv : Value} {W w' : World} {out : List Int} {i : Nat} {v : Value} {e : Ending} (he : e = .returned v) (hv : Kd.R (Kd.int .u8) 5 w' W.heap.size (fun _ => True) v out) (hr : Rdr g rv i W.heap.size W w') : DigOut g rv W (.inr (out, i)) e w' := ⟨v, he, hv, hr⟩
theorem Rdr.below {g : Nat} {rv : Value} {i : Int} {W wr : World} (h : Rdr g rv i W.heap.size W wr) (hlt : g < W.heap.size) : Below g W wr := ⟨h.os, h.tape, h.output, h.size, fun k hk => h.block k (by omega) (by omega)⟩

theorem bits_five {l : List Bool} {g gb : Nat} {rv : Value} {i : Nat} {i' : Int} {B : Nat} {W wr : World} (h : Rdr g rv i' B W wr) (hgb : gb < B) (hne : gb ≠ g) (hbit : ∀ j : Nat, j < l.length → W.cell? ⟨gb, j, none⟩ = some (.bool (bitAt l (j : Int)))) (hi : i + 5 ≤ l.length) :
    Five wr gb i (bitAt l i) (bitAt l ((i + 1 : Nat) : Int)) (bitAt l ((i + 2 : Nat) : Int)) (bitAt l ((i + 3 : Nat) : Int)) (bitAt l ((i + 4 : Nat) : Int)) :=
  ⟨h.bit hgb hne (hbit i (by omega)), h.bit hgb hne (hbit (i + 1) (by omega)), h.bit hgb hne (hbit (i + 2) (by omega)), h.bit hgb hne (hbit (i + 3) (by omega)), h.bit hgb hne (hbit (i + 4) (by omega))⟩

set_option maxHeartbeats 4000000 in
set_option maxRecDepth 100000 in
theorem digits_walk (l : List Bool) (W : World) (g gb c : Nat) (i0 : Int) (K : Nat) (res : Int ⊕ (List Int × Nat)) (hr : W.heap[g]? = some (.cells #[.slice (some ⟨gb, 0, none⟩) l.length c, .int .i64 i0] 55 (0, 0))) (hgb : gb < W.heap.size) (hne : gb ≠ g)
    (hbit : ∀ j : Nat, j < l.length → W.cell? ⟨gb, j, none⟩ = some (.bool (bitAt l (j : Int)))) (h5 : 5 ≤ l.length) (hc : l.length ≤ c) (hmax : l.length ≤ 1000000) (h : digF l K = some res) :
    Calls Try.prog 48 #[.pointer (some ⟨g, 0, none⟩)] W (DigOut g (.slice (some ⟨gb, 0, none⟩) l.length c) W res) := by
  have hlt : g < W.heap.size := (Array.getElem?_eq_some_iff.mp hr).1
  have hR0 : Rdr g (.slice (some ⟨gb, 0, none⟩) l.length c) i0 W.heap.size W W := ⟨rfl, rfl, rfl, Nat.le_refl _, fun _ _ _ => rfl, hr⟩
  have HBIT := Lib.hid hbit
  have HF := Lib.hid (bits_five (i := 0) hR0 hgb hne hbit (by omega))
  obtain ⟨f0, f1, f2, f3, f4⟩ := HF.out
  have c0 : W.cell? ⟨g, 0, none⟩ = some (.slice (some ⟨gb, 0, none⟩) l.length c) := cell_of_row W g 0 _ _ _ hr
  have harr : ∀ (W : World) (p : Addr) (c' : Nat), (Instr.arrayAt 36 (.slice (some p) 5 c')).run Try.prog W = .ok (.pointer (some p)) W := fun _ _ _ => by kernel_rfl
  have q1 : (5 : Int) ≤ (c : Int) := by omega
  have HL := Lib.hid hlt
  have HR0 := Lib.hid hR0
  have HH := Lib.hid h
  clear h hlt hR0 hbit
  unfold digF at HH
  by_cases hs : chunk l 0 = 11
  · have hs0 : (ofTo (bitAt l 0) (bitAt l 1) (bitAt l 2) (bitAt l 3) (bitAt l 4) 5 != 11) = false := bne_eq_false_iff_eq.mpr hs
    rw [if_pos hs] at HH
    go_enter Try.func48, Try.ntmps48
    go_wp2
    go_step3
    go_wp2_with (first | (go_at_call 32; refine (of_walk _ _ _ _ _ _).mono ?_; rintro e w1 ⟨rfl, hb1⟩; have HR1 := Lib.hid (HR0.out.call HL.out hb1); have hG1 := HR1.out.rd; have z1 : w1.frozen? ⟨g, 1, none⟩ = false := (by simp [World.frozen?, hG1]); have c1 : w1.cell? ⟨g, 1, none⟩ = some (.int .i64 i0) := cell_of_row w1 g 1 _ _ _ hG1; clear hG1 hb1) | ((with_reducible refine gate_dst (N := 21) rfl ?_); (try (refine gate_guard (by rfl) ?_; dsimp only)); have HRS := Lib.hid (HR1.out.set 5); refine Kd.R_lit (Kd.int .i64) _ 3 ?hg (N := 21) ?hd (xs := ([11] : List Int)) (inner := [.int .i64 11]) (ok := fun _ => True) (okp := fun _ => True) ?hr ?hp (fun _ hk => hk) trivial (Below.refl _ _) (Nat.le_refl _) (by simp) ?_; (case hd => rfl); (case hg => rfl); (case hr => first | (go_simp; done) | (go_simp; rfl)); (case hp => exact (Reps.one (show Kd.M (Kd.int .i64) _ _ _ 11 [.int .i64 11] from rfl) (Reps.none _ _))); intro v2 w2 ho12 hb2 hg_ hnew_; clear hg_ hnew_; have HV0 := Aside0.mk (Kd.R_lower ho12 HRS.out.size); have HR2 := Aside0.mk (HRS.out.call HL.out hb2); clear ho12 hb2 HRS c1 z1))
    go_step3
    go_wp2
    clear c0 f0 f1 f2 f3 f4 hs0 q1 HF
    go_loopg [3, 4] K (fun kq v3 v4 w' => ∃ (i : Nat) (vals out : List Int), Aside0 (digL l kq i vals out = some res) ∧ Aside0 (kq ≤ K) ∧ Aside0 (Kd.R (Kd.int .i64) 3 w' W.heap.size (fun _ => True) v3 vals) ∧ Aside0 (Kd.R (Kd.int .u8) 5 w' W.heap.size (fun _ => True) v4 out) ∧ Aside0 (Rdr g (.slice (some ⟨gb, 0, none⟩) l.length c) i W.heap.size W w') ∧ Aside0 (i ≤ 1000000))
    case atStart => exact ⟨5, [11], [], ⟨HH.out⟩, ⟨Nat.le_refl _⟩, HV0, ⟨Kd.R_nil _ _ _ _ _⟩, HR2, ⟨by omega⟩⟩
    case round =>
      obtain ⟨i, vals, out, HA, HK, HV, HO, HR, HI⟩ := hrel
      cases gk with
      | zero => exact absurd HA.out (by simp [digL])
      | succ k1 =>
        have H := HA.out
        clear HA
        simp only [digL] at H
        by_cases hend : l.length < i + 5
        · rw [if_pos hend] at H
          obtain rfl := Option.some.inj H
          go_wp2_with (go_at_call 56; refine (value_end wr g gb l.length c i HR.out.rd hend hmax HI.out).mono ?_; rintro e w3 ⟨rfl, hb3⟩)
          exact ⟨rfl, dig_panic rfl ((HR.out.call HL.out hb3).below HL.out)⟩
        · rw [if_neg hend] at H
          replace H := Option.bind_eq_some_iff.mp H
          obtain ⟨⟨v, er⟩, hv, H⟩ := H
          have HF3 := Lib.hid (bits_five (i := i) HR.out hgb hne HBIT.out (by omega))
          by_cases her : er = 0
          · subst her
            rw [if_pos rfl] at H
            by_cases hvl : vals.length < 17592186044416
            · rw [if_pos hvl] at H
              have HVL := Aside0.mk hvl
              clear hvl
              by_cases h15 : v = 15
              · rw [if_pos h15] at H
                subst h15
                unfold digEnd at H
                replace H := Option.bind_eq_some_iff.mp H
                obtain ⟨⟨s, e2⟩, hsum, H⟩ := H
                go_wp2_with (first | (go_at_call 56; refine (value_walk wr g gb l.length c i _ _ _ _ _ 15 0 HR.out.rd HF3.out (by omega) hc hmax hv).mono ?_; rintro e w3 hval; obtain ⟨rfl, w3b, hb3, rfl⟩ := hval.1 rfl; clear hval; have HV3 := Aside0.mk (R_set (Kd.R_below HV.out hb3) HL.out (.int .i64 ((i : Nat) + 5 : Int))); have HO3 := Aside0.mk (R_set (Kd.R_below HO.out hb3) HL.out (.int .i64 ((i : Nat) + 5 : Int))); have HR3 := Aside0.mk ((HR.out.call HL.out hb3).set ((i : Nat) + 5 : Int)); clear hb3; generalize World.setCell w3b ⟨g, 1, none⟩ (.int .i64 ((i : Nat) + 5 : Int)) = w3c at HV3 HO3 HR3 ⊢) | ((with_reducible refine gate_builtin (b := .append) (xs := #[.tmp 24, .tmp 26]) rfl ?_); (try (refine gate_guard (by rfl) ?_; dsimp only)); at_builtin; refine Kd.R_append (Kd.int .i64) (w0 := w3c) W.heap.size rfl (.tmp 24) (.tmp 26) 35 3 (.int .i64 0) 8 rfl Try.underlying35 info3 rfl (by decide) (by omega) _ vals 15 [.int .i64 15] (fun _ => True) (fun _ => False) rfl rfl rfl (fun _ hk => hk.elim) (fun _ _ => trivial) HV3.out (Below.refl _ _) HR3.out.size (by have := HVL.out; omega) ?_; intro v4 w4 ho hb hg hat; have HV4 := Aside0.mk ho; have HO4 := Aside0.mk (Kd.R_over' HO3.out (Kd.R_typed HV3.out) (by decide) hg); have HR4 := Aside0.mk (HR3.out.on HL.out hb); clear ho hb hg hat HV3 HO3 HR3) | (go_at_call 28; obtain ⟨Av, cv, ev⟩ := Kd.R_slice HV4.out; subst ev; refine (parity_Sum.calls Av cv (vals ++ [15]) s e2 w4 (Kd.R_reads' HV4.out).2.2 (Kd.R_reads' HV4.out).2.1 hsum).mono ?_; rintro e w6 ⟨rfl, hb6⟩; have HO6 := Aside0.mk (Kd.R_below HO4.out hb6); have HR6 := Aside0.mk (HR4.out.call HL.out hb6); clear HV4 HO4 HR4 hb6))
                have HRd : ReaderAt w6 g gb l.length c ((i + 5 : Nat) : Int) := by have := HR6.out.rd; unfold ReaderAt; simpa using this
                by_cases hend2 : l.length < i + 5 + 5
                · rw [if_pos hend2] at H
                  obtain rfl := Option.some.inj H
                  go_wp2_with (go_at_call 56; refine (value_end w6 g gb l.length c (i + 5) HRd hend2 hmax (by omega)).mono ?_; rintro e w7 ⟨rfl, hb7⟩)
                  exact ⟨rfl, dig_panic rfl ((HR6.out.call HL.out hb7).below HL.out)⟩
                · rw [if_neg hend2] at H
                  replace H := Option.bind_eq_some_iff.mp H
                  obtain ⟨⟨v2, er2⟩, hv2, H⟩ := H
                  have HF6 := Lib.hid (bits_five (i := i + 5) HR6.out hgb hne HBIT.out (by omega))
                  by_cases her2 : er2 = 0
                  · subst her2
                    rw [if_pos rfl] at H
                    by_cases hvs : v2 = s
                    · rw [if_pos hvs] at H
                      subst hvs
                      by_cases h77 : 77 < (out.length : Int)
                      · rw [if_pos h77] at H
                        have e77 : decide (77 < (out.length : Int)) = true := decide_eq_true h77
                        clear h77
                        obtain rfl := Option.some.inj H
                        go_wp2_with (first | (go_at_call 56; refine (value_walk w6 g gb l.length c (i + 5) _ _ _ _ _ v2 0 HRd HF6.out (by omega) hc hmax hv2).mono ?_; rintro e w7 hval; obtain ⟨rfl, w7b, hb7, rfl⟩ := hval.1 rfl; clear hval; have HO7 := Aside0.mk (R_set (Kd.R_below HO6.out hb7) HL.out (.int .i64 (((i + 5 : Nat) : Int) + 5))); have HR7 := Aside0.mk ((HR6.out.call HL.out hb7).set (((i + 5 : Nat) : Int) + 5)); clear hb7; generalize World.setCell w7b ⟨g, 1, none⟩ (.int .i64 (((i + 5 : Nat) : Int) + 5)) = w7c at HO7 HR7 ⊢; obtain ⟨Ao, co, eo⟩ := Kd.R_slice HO7.out; subst eo))
                        exact ⟨rfl, dig_panic rfl (HR7.out.below HL.out)⟩
                      · rw [if_neg h77] at H
                        have e77 : decide (77 < (out.length : Int)) = false := decide_eq_false h77
                        clear h77
                        obtain rfl := Option.some.inj H
                        go_wp2_with (first | (go_at_call 56; refine (value_walk w6 g gb l.length c (i + 5) _ _ _ _ _ v2 0 HRd HF6.out (by omega) hc hmax hv2).mono ?_; rintro e w7 hval; obtain ⟨rfl, w7b, hb7, rfl⟩ := hval.1 rfl; clear hval; have HO7 := Aside0.mk (R_set (Kd.R_below HO6.out hb7) HL.out (.int .i64 (((i + 5 : Nat) : Int) + 5))); have HR7 := Aside0.mk ((HR6.out.call HL.out hb7).set (((i + 5 : Nat) : Int) + 5)); clear hb7; generalize World.setCell w7b ⟨g, 1, none⟩ (.int .i64 (((i + 5 : Nat) : Int) + 5)) = w7c at HO7 HR7 ⊢; obtain ⟨Ao, co, eo⟩ := Kd.R_slice HO7.out; subst eo))
                        rw [Exit.noGoto_ret]
                        go_ret
                        exact dig_out rfl HO7.out (by have := HR7.out; simpa using this)
                    · rw [if_neg hvs] at H
                      have evs : (v2 != s) = true := bne_iff_ne.mpr hvs
                      clear hvs
                      obtain rfl := Option.some.inj H
                      go_wp2_with (first | (go_at_call 56; refine (value_walk w6 g gb l.length c (i + 5) _ _ _ _ _ v2 0 HRd HF6.out (by omega) hc hmax hv2).mono ?_; rintro e w7 hval; obtain ⟨rfl, w7b, hb7, rfl⟩ := hval.1 rfl; clear hval; have HO7 := Aside0.mk (R_set (Kd.R_below HO6.out hb7) HL.out (.int .i64 (((i + 5 : Nat) : Int) + 5))); have HR7 := Aside0.mk ((HR6.out.call HL.out hb7).set (((i + 5 : Nat) : Int) + 5)); clear hb7; generalize World.setCell w7b ⟨g, 1, none⟩ (.int .i64 (((i + 5 : Nat) : Int) + 5)) = w7c at HO7 HR7 ⊢; obtain ⟨Ao, co, eo⟩ := Kd.R_slice HO7.out; subst eo))
                      exact ⟨rfl, dig_panic rfl (HR7.out.below HL.out)⟩
                  · rw [if_neg her2] at H
                    obtain rfl := Option.some.inj H
                    go_wp2_with (go_at_call 56; refine (value_walk w6 g gb l.length c (i + 5) _ _ _ _ _ v2 er2 HRd HF6.out (by omega) hc hmax hv2).mono ?_; rintro e w7 hval; obtain ⟨rfl, hb7⟩ := hval.2 her2; clear hval)
                    exact ⟨rfl, dig_panic rfl ((HR6.out.call HL.out hb7).below HL.out)⟩
              · rw [if_neg h15] at H
                have e15 : (v == 15) = false := beq_eq_false_iff_ne.mpr h15
                clear h15
                by_cases h9 : 9 < v
                · rw [if_pos h9] at H
                  have e9 : decide (9 < v) = true := decide_eq_true h9
                  clear h9
                  obtain rfl := Option.some.inj H
                  go_wp2_with (first | (go_at_call 56; refine (value_walk wr g gb l.length c i _ _ _ _ _ v 0 HR.out.rd HF3.out (by omega) hc hmax hv).mono ?_; rintro e w3 hval; obtain ⟨rfl, w3b, hb3, rfl⟩ := hval.1 rfl; clear hval; have HV3 := Aside0.mk (R_set (Kd.R_below HV.out hb3) HL.out (.int .i64 ((i : Nat) + 5 : Int))); have HO3 := Aside0.mk (R_set (Kd.R_below HO.out hb3) HL.out (.int .i64 ((i : Nat) + 5 : Int))); have HR3 := Aside0.mk ((HR.out.call HL.out hb3).set ((i : Nat) + 5 : Int)); clear hb3; generalize World.setCell w3b ⟨g, 1, none⟩ (.int .i64 ((i : Nat) + 5 : Int)) = w3c at HV3 HO3 HR3 ⊢) | ((with_reducible refine gate_builtin (b := .append) (xs := #[.tmp 24, .tmp 26]) rfl ?_); (try (refine gate_guard (by rfl) ?_; dsimp only)); at_builtin; refine Kd.R_append (Kd.int .i64) (w0 := w3c) W.heap.size rfl (.tmp 24) (.tmp 26) 35 3 (.int .i64 0) 8 rfl Try.underlying35 info3 rfl (by decide) (by omega) _ vals v [.int .i64 v] (fun _ => True) (fun _ => False) rfl rfl rfl (fun _ hk => hk.elim) (fun _ _ => trivial) HV3.out (Below.refl _ _) HR3.out.size (by have := HVL.out; omega) ?_; intro v4 w4 ho hb hg hat; have HV4 := Aside0.mk ho; have HO4 := Aside0.mk (Kd.R_over' HO3.out (Kd.R_typed HV3.out) (by decide) hg); have HR4 := Aside0.mk (HR3.out.on HL.out hb); clear ho hb hg hat HV3 HO3 HR3))
                  exact ⟨rfl, dig_panic rfl (HR4.out.below HL.out)⟩
                · rw [if_neg h9] at H
                  have e9 : decide (9 < v) = false := decide_eq_false h9
                  clear h9
                  by_cases hol : out.length < 140737488355328
                  · rw [if_pos hol] at H
                    have HOL := Aside0.mk hol
                    have H' := Aside0.mk H
                    clear hol H
                    go_wp2_with (first | (go_at_call 56; refine (value_walk wr g gb l.length c i _ _ _ _ _ v 0 HR.out.rd HF3.out (by omega) hc hmax hv).mono ?_; rintro e w3 hval; obtain ⟨rfl, w3b, hb3, rfl⟩ := hval.1 rfl; clear hval; have HV3 := Aside0.mk (R_set (Kd.R_below HV.out hb3) HL.out (.int .i64 ((i : Nat) + 5 : Int))); have HO3 := Aside0.mk (R_set (Kd.R_below HO.out hb3) HL.out (.int .i64 ((i : Nat) + 5 : Int))); have HR3 := Aside0.mk ((HR.out.call HL.out hb3).set ((i : Nat) + 5 : Int)); clear hb3; generalize World.setCell w3b ⟨g, 1, none⟩ (.int .i64 ((i : Nat) + 5 : Int)) = w3c at HV3 HO3 HR3 ⊢) | ((with_reducible refine gate_builtin (b := .append) (xs := #[.tmp 24, .tmp 26]) rfl ?_); (try (refine gate_guard (by rfl) ?_; dsimp only)); at_builtin; refine Kd.R_append (Kd.int .i64) (w0 := w3c) W.heap.size rfl (.tmp 24) (.tmp 26) 35 3 (.int .i64 0) 8 rfl Try.underlying35 info3 rfl (by decide) (by omega) _ vals v [.int .i64 v] (fun _ => True) (fun _ => False) rfl rfl rfl (fun _ hk => hk.elim) (fun _ _ => trivial) HV3.out (Below.refl _ _) HR3.out.size (by have := HVL.out; omega) ?_; intro v4 w4 ho hb hg hat; have HV4 := Aside0.mk ho; have HO4 := Aside0.mk (Kd.R_over' HO3.out (Kd.R_typed HV3.out) (by decide) hg); have HR4 := Aside0.mk (HR3.out.on HL.out hb); clear ho hb hg hat HV3 HO3 HR3) | ((with_reducible refine gate_builtin (b := .append) (xs := #[.tmp 35, .tmp 38]) rfl ?_); (try (refine gate_guard (by rfl) ?_; dsimp only)); at_builtin; refine Kd.R_append (Kd.int .u8) (w0 := w4) W.heap.size rfl (.tmp 35) (.tmp 38) 22 5 (.int .u8 0) 1 rfl Try.underlying22 info5 rfl (by decide) (by omega) _ out (v % 256) [.int .u8 (v % 256)] (fun _ => True) (fun _ => False) rfl rfl rfl (fun _ hk => hk.elim) (fun _ _ => trivial) HO4.out (Below.refl _ _) HR4.out.size (by have := HOL.out; omega) ?_; intro v5 w5 ho hb hg hat; have HO5 := Aside0.mk ho; have HV5 := Aside0.mk (Kd.R_over' HV4.out (Kd.R_typed HO4.out) (by decide) hg); have HR5 := Aside0.mk (HR4.out.on HL.out hb); clear ho hb hg hat HV4 HO4 HR4))
                    go_roundg k1
                    case measure => have := HK.out; omega
                    case rel => exact ⟨i + 5, vals ++ [v], out ++ [v % 256], H', ⟨by have := HK.out; omega⟩, HV5, HO5, ⟨by have := HR5.out; simpa using this⟩, ⟨by omega⟩⟩
                  · rw [if_neg hol] at H
                    exact absurd H (by simp)
            · rw [if_neg hvl] at H
              exact absurd H (by simp)
          · rw [if_neg her] at H
            obtain rfl := Option.some.inj H
            go_wp2_with (go_at_call 56; refine (value_walk wr g gb l.length c i _ _ _ _ _ v er HR.out.rd HF3.out (by omega) hc hmax hv).mono ?_; rintro e w3 hval; obtain ⟨rfl, hb3⟩ := hval.2 her; clear hval)
            exact ⟨rfl, dig_panic rfl ((HR.out.call HL.out hb3).below HL.out)⟩
  · have hs0 : (ofTo (bitAt l 0) (bitAt l 1) (bitAt l 2) (bitAt l 3) (bitAt l 4) 5 != 11) = true := bne_iff_ne.mpr hs
    rw [if_neg hs] at HH
    have H := HH.out
    obtain rfl := Option.some.inj H
    go_enter Try.func48, Try.ntmps48
    go_wp2
    go_step3
    go_wp2_with (first | (go_at_call 32; refine (of_walk _ _ _ _ _ _).mono ?_; rintro e w1 ⟨rfl, hb1⟩; have HR1 := Lib.hid (HR0.out.call HL.out hb1); have hG1 := HR1.out.rd; have z1 : w1.frozen? ⟨g, 1, none⟩ = false := (by simp [World.frozen?, hG1]); have c1 : w1.cell? ⟨g, 1, none⟩ = some (.int .i64 i0) := cell_of_row w1 g 1 _ _ _ hG1; clear hG1 hb1))
    exact ⟨rfl, dig_panic rfl (HR1.out.below HL.out)⟩
end Go.Proofs.Ytfmpeojlaibblaa.S

/-
  track.Get's deferred closure: what it does to a call that panics with an errno, and to one that returns.
-/
namespace Go.Proofs.Ytfmpeojlaibblaa.S
open Go.RowKit Go.Proofs.YtfmpeojlaibblaaW.PrintWords Go.Proofs.YtfmpeojlaibblaaW.PrintLast Go.Proofs.YtfmpeojlaibblaaW.PrintMore

theorem wp_norm {P : Program} {c : Code} {Q : Exit → Act → World → Prop} {a a' : Act} {w : World} (h : a = a') (hk : c.wp P Q a' w) : c.wp P Q a w := h ▸ hk
theorem catch_panic (p q : Nat) (er : Int) (x y : Value) (w : World) (hpq : p ≠ q) (hp : w.cell? ⟨p, 0, none⟩ = some x) (hq : w.cell? ⟨q, 0, none⟩ = some y) (zp : w.frozen? ⟨p, 0, none⟩ = false) (zq : w.frozen? ⟨q, 0, none⟩ = false) :
    CallsD Try.prog 47 #[.pointer (some ⟨p, 0, none⟩), .pointer (some ⟨q, 0, none⟩)] (.panicking (errnoPanic er)) w fun e u' w' =>
      e = .returned (.tuple #[]) ∧ u' = .panicking [{ v := .iface 23 (.int .i64 er), recovered := true }] ∧ w' = ((w.setCell ⟨p, 0, none⟩ (.slice none 0 0)).setCell ⟨q, 0, none⟩ (.int .i64 2)).setCell ⟨q, 0, none⟩ (.int .i64 er) := by
  unfold errnoPanic
  have hta : ∀ W : World, (Instr.typeAssert (.iface 23 (.int .i64 er)) 20 23 true).run Try.prog W = .ok (.tuple #[.int .i64 er, .bool true]) W := fun _ => by kernel_rfl
  refine callsD_of_wpS Try.func47 rfl fun c₀ cs hu => ?_
  apply wpS_seq
  apply wpS_region
  simp [wpOpsS, go_sem, recoverD, hu, Try.ntmps47, Exit.thenS]
  refine wpS_of_wp (wp_norm (a' := ⟨#[.pointer (some ⟨p, 0, none⟩), .pointer (some ⟨q, 0, none⟩), .iface 23 (.int .i64 er), undef, undef, .iface 23 (.int .i64 er), undef, undef, undef, undef, undef, undef, undef, undef, undef], []⟩) (by rfl) ?_)
  go_wp2
  trace_state
  cases c₀
  simp_all [bodyPostS, results, Try.results47]
theorem catch_idle (p q : Nat) (w : World) :
    CallsD Try.prog 47 #[.pointer (some ⟨p, 0, none⟩), .pointer (some ⟨q, 0, none⟩)] .returning w fun e u' w' => e = .returned (.tuple #[]) ∧ u' = .returning ∧ w' = w := by
  refine callsD_of_wpS Try.func47 rfl fun c₀ cs hu => ?_
  apply wpS_seq
  apply wpS_region
  simp [wpOpsS, go_sem, recoverD, hu, Try.ntmps47, Exit.thenS]
  refine wpS_of_wp ?_
  go_wp2
  cases c₀
  simp_all [bodyPostS, results, Try.results47]
end Go.Proofs.Ytfmpeojlaibblaa.S

/- Written for this claim by a program of this session (handprint.py, over the kit's print). Lean checks it. -/
namespace Go.Proofs.Ytfmpeojlaibblaa.S
open Go.RowKit Go.Proofs.YtfmpeojlaibblaaW.PrintWords Go.Proofs.YtfmpeojlaibblaaW.PrintLast Go.Proofs.YtfmpeojlaibblaaW.PrintMore
attribute [local go_sem] max2_int min2_int max_two min_two max_three min_three max_four min_four   -- for this text's walks alone
set_option linter.unusedVariables false
set_option linter.unusedSimpArgs false

/-! ### slices_Equal_byte_byte: function 49 -/
def slices_Equal_byte_byte.l0 : Nat → List Int → List Int → Int → Int → Option (Bool)
  | 0, _, _, _, _ => none
  | k + 1, x0, x1, x12, x13 => if x13 < x12 then (if 0 ≤ x13 then (if x13 < (x0.length : Int) then (if x13 < (x1.length : Int) then (if (rd x0 x13) = (rd x1 x13) then (slices_Equal_byte_byte.l0 k x0 x1 x12 (wrap64 (x13 + 1))) else (some false)) else (none)) else (none)) else (none)) else (some true)
def slices_Equal_byte_byte.f (k : Nat) (l0 : List Int) (l1 : List Int) : Option (Bool) := if (l0.length : Int) = (l1.length : Int) then (slices_Equal_byte_byte.l0 k l0 l1 (l0.length : Int) 0) else (some false)
theorem slices_Equal_byte_byte.mono_l : ∀ k, (∀ y0 y1 y2 y3, LeO (slices_Equal_byte_byte.l0 k y0 y1 y2 y3) (slices_Equal_byte_byte.l0 (k + 1) y0 y1 y2 y3))
  | 0 => fun _ _ _ _ r h => by simp [slices_Equal_byte_byte.l0] at h
  | k + 1 => by
    have ih0 := slices_Equal_byte_byte.mono_l k
    · intro y0 y1 y2 y3
      unfold slices_Equal_byte_byte.l0
      repeat' first
      | (with_reducible exact ih0 _ _ _ _)
      | (with_reducible exact LeO.refl _)
      | (with_reducible exact LeO.none _)
      | (with_reducible refine LeO.ite ?_ ?_)
      | (with_reducible refine LeO.bind ?_ (fun _ => ?_))
      | exact ih0 _ _ _ _
      | exact LeO.none _
      | refine LeO.ite ?_ ?_
      | refine LeO.bind ?_ (fun _ => ?_)
theorem slices_Equal_byte_byte.mono : ∀ a0 a1 k, LeO (slices_Equal_byte_byte.f k a0 a1) (slices_Equal_byte_byte.f (k + 1) a0 a1) := by
  intro a0 a1 k
  have ih0 := slices_Equal_byte_byte.mono_l k
  unfold slices_Equal_byte_byte.f
  repeat' first
      | (with_reducible exact ih0 _ _ _ _)
      | (with_reducible exact LeO.refl _)
      | (with_reducible exact LeO.none _)
      | (with_reducible refine LeO.ite ?_ ?_)
      | (with_reducible refine LeO.bind ?_ (fun _ => ?_))
      | exact ih0 _ _ _ _
      | exact LeO.none _
      | refine LeO.ite ?_ ?_
      | refine LeO.bind ?_ (fun _ => ?_)
set_option maxHeartbeats 8000000 in
set_option maxRecDepth 100000 in
theorem slices_Equal_byte_byte.calls (k : Nat) (A0 : Option Addr) (c0 : Nat) (l0 : List Int) (A1 : Option Addr) (c1 : Nat) (l1 : List Int) (r : Bool) (w : World) (hr0 : Kd.C (Kd.int .u8) w A0 l0.length l0) (hc0 : l0.length ≤ c0) (hr1 : Kd.C (Kd.int .u8) w A1 l1.length l1) (hc1 : l1.length ≤ c1) (h : slices_Equal_byte_byte.f k l0 l1 = some r) :
    Calls Try.prog 49 #[.slice A0 l0.length c0, .slice A1 l1.length c1] w fun e w' => e = .returned (.bool r) ∧ Drawn0 w w' := by
  have HR0 := Aside0.mk hr0
  have HC0 := Aside0.mk hc0
  clear hr0 hc0
  have HR1 := Aside0.mk hr1
  have HC1 := Aside0.mk hc1
  clear hr1 hc1
  have H : (if (l0.length : Int) = (l1.length : Int) then (slices_Equal_byte_byte.l0 k l0 l1 (l0.length : Int) 0) else (some false)) = some r := h
  clear h
  by_cases c3 : (l0.length : Int) = (l1.length : Int)
  · rw [if_pos c3] at H
    have c3b0 : ((l0.length : Int) == (l1.length : Int)) = true := beq_iff_eq.mpr c3
    have c3b1 : ((l0.length : Int) != (l1.length : Int)) = false := bne_eq_false_iff_eq.mpr c3
    have c3b2 : (l0.length == l1.length) = true := by first | simpa using c3 | (simp at c3 ⊢; omega)
    clear c3
    have H' := Aside0.mk H
    clear H
    go_enter Try.func49, Try.ntmps49
    go_wp2
    repeat (go_quiet (fail); try go_wp2)
    go_loopg [13] k (fun kq v13 w' => ∃ (x13_1 : Int), v13 = .int .i64 x13_1 ∧ Aside0 (slices_Equal_byte_byte.l0 kq l0 l1 (l0.length : Int) x13_1 = some r) ∧ Aside0 (kq ≤ k) ∧ Drawn0 w w')
    case atStart => exact ⟨(0), (by first | rfl | (simp; done) | (simp [*]; done)), H', ⟨Nat.le_refl _⟩, by repeat (first | exact Drawn0.refl _ | apply Drawn0.step)⟩
    case round =>
      clear H'
      try clear c1
      try clear p2
      try clear c3
      try clear c3b0
      try clear c3b1
      try clear c3b2
      obtain ⟨x13_1, rfl, HA, HK1, ⟨m1, rfl⟩⟩ := hrel
      cases gk with
      | zero => exact absurd HA.out (by simp [slices_Equal_byte_byte.l0])
      | succ k1 =>
        have H := HA.out
        clear HA
        simp only [slices_Equal_byte_byte.l0] at H
        by_cases c4 : x13_1 < (l0.length : Int)
        · rw [if_pos c4] at H
          have c4b0 : decide (x13_1 < (l0.length : Int)) = true := decide_eq_true c4
          clear c4
          by_cases c5 : 0 ≤ x13_1
          · rw [if_pos c5] at H
            have c5b0 : decide (0 ≤ x13_1) = true := decide_eq_true c5
            clear c5
            by_cases c6 : x13_1 < (l0.length : Int)
            · rw [if_pos c6] at H
              have c6b0 : decide (x13_1 < (l0.length : Int)) = true := decide_eq_true c6
              clear c6
              by_cases c7 : x13_1 < (l1.length : Int)
              · rw [if_pos c7] at H
                have c7b0 : decide (x13_1 < (l1.length : Int)) = true := decide_eq_true c7
                clear c7
                by_cases c8 : (rd l0 x13_1) = (rd l1 x13_1)
                · rw [if_pos c8] at H
                  have c8b0 : ((rd l0 x13_1) == (rd l1 x13_1)) = true := beq_iff_eq.mpr c8
                  have c8b1 : ((rd l0 x13_1) != (rd l1 x13_1)) = false := bne_eq_false_iff_eq.mpr c8
                  clear c8
                  have H' := Aside0.mk H
                  clear H
                  have p255 : 0 ≤ (x13_1 : Int) := of_decide_eq_true (by first | (with_reducible assumption) | assumption)
                  have q255 : x13_1 < (l0.length : Int) := of_decide_eq_true (by first | (with_reducible assumption) | assumption)
                  obtain ⟨ad255, e255, hx255_0⟩ := Kd.at_int HR0.out x13_1 p255 q255
                  cases e255
                  replace p255 := eq_true p255
                  replace q255 := eq_true q255
                  have p256 : 0 ≤ (x13_1 : Int) := of_decide_eq_true (by first | (with_reducible assumption) | assumption)
                  have q256 : x13_1 < (l1.length : Int) := of_decide_eq_true (by first | (with_reducible assumption) | assumption)
                  obtain ⟨ad256, e256, hx256_0⟩ := Kd.at_int HR1.out x13_1 p256 q256
                  cases e256
                  replace p256 := eq_true p256
                  replace q256 := eq_true q256
                  go_wp2
                  repeat (go_quiet (fail); try go_wp2)
                  go_roundg k1
                  case measure => have := HK1.out; omega
                  case rel => exact ⟨(wrap64 (x13_1 + 1)), (by first | rfl | (simp; done) | (simp [*]; done)), H', ⟨by have := HK1.out; omega⟩, by repeat (first | exact Drawn0.refl _ | apply Drawn0.step)⟩
                · rw [if_neg c8] at H
                  have c8b0 : ((rd l0 x13_1) == (rd l1 x13_1)) = false := beq_eq_false_iff_ne.mpr c8
                  have c8b1 : ((rd l0 x13_1) != (rd l1 x13_1)) = true := bne_iff_ne.mpr c8
                  obtain rfl := Option.some.inj H
                  have p255 : 0 ≤ (x13_1 : Int) := of_decide_eq_true (by first | (with_reducible assumption) | assumption)
                  have q255 : x13_1 < (l0.length : Int) := of_decide_eq_true (by first | (with_reducible assumption) | assumption)
                  obtain ⟨ad255, e255, hx255_0⟩ := Kd.at_int HR0.out x13_1 p255 q255
                  cases e255
                  replace p255 := eq_true p255
                  replace q255 := eq_true q255
                  have p256 : 0 ≤ (x13_1 : Int) := of_decide_eq_true (by first | (with_reducible assumption) | assumption)
                  have q256 : x13_1 < (l1.length : Int) := of_decide_eq_true (by first | (with_reducible assumption) | assumption)
                  obtain ⟨ad256, e256, hx256_0⟩ := Kd.at_int HR1.out x13_1 p256 q256
                  cases e256
                  replace p256 := eq_true p256
                  replace q256 := eq_true q256
                  go_wp2
                  repeat (go_quiet (fail); try go_wp2)
                  go_ret
                  exact ⟨by first | rfl | (simp; done) | (simp [*]; done), by repeat (first | exact Drawn0.refl _ | apply Drawn0.step)⟩
              · rw [if_neg c7] at H
                exact absurd H (by simp)
            · rw [if_neg c6] at H
              exact absurd H (by simp)
          · rw [if_neg c5] at H
            exact absurd H (by simp)
        · rw [if_neg c4] at H
          have c4b0 : decide (x13_1 < (l0.length : Int)) = false := decide_eq_false c4
          clear c4
          obtain rfl := Option.some.inj H
          go_wp2
          repeat (go_quiet (fail); try go_wp2)
          go_ret
          exact ⟨by first | rfl | (simp; done) | (simp [*]; done), by repeat (first | exact Drawn0.refl _ | apply Drawn0.step)⟩
  · rw [if_neg c3] at H
    have c3b0 : ((l0.length : Int) == (l1.length : Int)) = false := beq_eq_false_iff_ne.mpr c3
    have c3b1 : ((l0.length : Int) != (l1.length : Int)) = true := bne_iff_ne.mpr c3
    have c3b2 : (l0.length == l1.length) = false := by first | simpa using c3 | (simp at c3 ⊢; omega)
    obtain rfl := Option.some.inj H
    go_enter Try.func49, Try.ntmps49
    go_wp2
    repeat (go_quiet (fail); try go_wp2)
    go_ret
    exact ⟨by first | rfl | (simp; done) | (simp [*]; done), by repeat (first | exact Drawn0.refl _ | apply Drawn0.step)⟩

end Go.Proofs.Ytfmpeojlaibblaa.S

/-
  track.Get: what it answers, as a Lean function, and that the Go code answers just this (a panic of the reader's is recovered in the deferred closure).
-/
namespace Go.Proofs.Ytfmpeojlaibblaa.S
open Go.RowKit Go.Proofs.YtfmpeojlaibblaaW.PrintWords Go.Proofs.YtfmpeojlaibblaaW.PrintLast Go.Proofs.YtfmpeojlaibblaaW.PrintMore
attribute [local go_sem] max2_int min2_int max_two min_two max_three min_three max_four min_four

def getOut (k : Nat) (b : List Int) (l : List Bool) : Int ⊕ (List Int × Nat) → Option (List Int × Int)
  | .inl er => some ([], er)
  | .inr (out, i) => (track_Pack.f k (l.take i)).bind fun t => (slices_Equal_byte_byte.f k t b).bind fun e => if e = true then some (out, 0) else some ([], 14)
def track_Get.f (k : Nat) (l0 : List Int) : Option (List Int × Int) :=
  if l0.length < 2 ∨ 50 < l0.length then some ([], 14) else (track_Unpack.f k l0).bind fun l => if 5 ≤ l.length ∧ l.length ≤ 1000000 then (digF l k).bind fun res => getOut k l0 l res else none

theorem digL.mono (l : List Bool) : ∀ k i vals out, LeO (digL l k i vals out) (digL l (k + 1) i vals out)
  | 0, _, _, _ => fun _ h => by simp [digL] at h
  | k + 1, i, vals, out => by
    rw [digL, digL.eq_def l (k + 1 + 1)]
    simp only
    refine LeO.ite (LeO.refl _) (LeO.bind (LeO.refl _) (fun t => LeO.ite (LeO.ite (LeO.ite (LeO.refl _) (LeO.ite (LeO.refl _) (LeO.ite (digL.mono l k _ _ _) (LeO.refl _)))) (LeO.refl _)) (LeO.refl _)))
theorem getOut.mono (k : Nat) (b : List Int) (l : List Bool) (r) : LeO (getOut k b l r) (getOut (k + 1) b l r) := by
  cases r with
  | inl er => exact LeO.refl _
  | inr r => exact LeO.bind (track_Pack.mono _ _) (fun t => LeO.bind (slices_Equal_byte_byte.mono _ _ _) (fun e => LeO.refl _))
theorem track_Get.mono : ∀ k y0, LeO (track_Get.f k y0) (track_Get.f (k + 1) y0) := by
  intro k b
  unfold track_Get.f digF
  exact LeO.ite (LeO.refl _) (LeO.bind (track_Unpack.mono _ _) (fun l => LeO.ite (LeO.bind (LeO.ite (digL.mono l k _ _ _) (LeO.refl _)) (fun r => getOut.mono k b l r)) (LeO.refl _)))

def get6T : Bool × List (List Nat × List Nat) := (true, [([], []), ([0], [0]), ([1], [1]), ([2], [2]), ([], []), ([4], [4]), ([5], [5]), ([6], [6]), ([3, 7], [3, 7]), ([8], [8]), ([], []), ([9, 10, 9], [9, 10]), ([11], [11])])
def get6B : List Nat := [0, 1, 3, 7, 0, 16, 48, 112, 255, 511, 0, 2047, 4095]
theorem get6_tab : rtab .any (opsOf Try.f22 6) = get6T := by kernel_rfl
theorem get6_bits : waitsOk get6T.2 get6B = true := by kernel_rfl

theorem leaves_congr {P : Program} {fn : Func} {t t' : Array Value} {R : Ending → World → Prop} (h : results fn t = results fn t') : ∀ (ds : List Deferred) (u : FrameMode) (w : World), Leaves P fn t R ds u w = Leaves P fn t' R ds u w
  | [], .returning, w => by simp only [Leaves, h]
  | [], .panicking chain, w => by simp only [Leaves]
  | [], .run, w => by simp only [Leaves]
  | d :: ds, u, w => by simp only [Leaves, leaves_congr h ds]
theorem results22 (t : Array Value) (N : Nat) (v : Value) (h2 : N ≠ 2) (h3 : N ≠ 3) : results Try.f22 (t.setIfInBounds N v) = results Try.f22 t := by
  simp [results, Try.results22, Array.getElem?_setIfInBounds_ne h2, Array.getElem?_setIfInBounds_ne h3]
theorem hQ22 {R : Ending → World → Prop} {oi : Oper} {N : Nat} {v : Value} (hN : oi.dst = some N) (h2 : N ≠ 2) (h3 : N ≠ 3) (c : List PanicEntry) (a : Act) (w : World) (h : bodyPostD Try.prog Try.f22 R (.panic c) (a.put oi.dst v) w) : bodyPostD Try.prog Try.f22 R (.panic c) a w := by
  rw [hN] at h
  show Leaves _ _ _ _ _ _ _
  have h' : Leaves Try.prog Try.f22 (a.tmps.setIfInBounds N v) R a.defers (.panicking c) w := h
  rw [leaves_congr (results22 a.tmps N v h2 h3)] at h'
  exact h'
theorem R_set2 {e : Nat} {p q B : Nat} {v : Value} {xs : List Int} {wr : World} (h : Kd.R (Kd.int .u8) e wr (B + 2) (fun _ => True) v xs) (hp : p < B + 2) (hq : q < B + 2) (u u' : Value) : Kd.R (Kd.int .u8) e ((wr.setCell ⟨p, 0, none⟩ u).setCell ⟨q, 0, none⟩ u') B (fun _ => True) v xs :=
  Kd.R_lower (Kd.R_mono (Kd.R_move (Kd.R_bound h) (fun k hk => (Below.heap_setCell _ ⟨q, 0, none⟩ u' k (by have := hk.2.1; simp; omega)).trans (Below.heap_setCell wr ⟨p, 0, none⟩ u k (by have := hk.2.1; simp; omega)))) (fun _ hk => hk.1)) (by omega)
theorem C_take {w : World} {A : Option Addr} {l : List Bool} {i : Nat} (h : Kd.C Kd.bool w A l.length l) : Kd.C Kd.bool w A (l.take i).length (l.take i) := by
  have hl : (l.take i).length ≤ l.length := by rw [List.length_take]; omega
  refine ⟨rfl, Nat.le_trans hl h.2.1, fun hp => ?_⟩
  obtain ⟨ad, e, hc⟩ := h.2.2 (Nat.lt_of_lt_of_le hp hl)
  refine ⟨ad, e, fun j p hj => hc j p ?_⟩
  rw [List.getElem?_take] at hj
  split at hj
  · exact hj
  · cases hj
theorem digEnd_le {l : List Bool} {i : Nat} {vals out o : List Int} {j : Nat} (h : digEnd l i vals out = some (.inr (o, j))) : j ≤ l.length := by
  unfold digEnd at h
  obtain ⟨s, -, h⟩ := Option.bind_eq_some_iff.mp h
  split at h
  · simp at h
  · obtain ⟨t, -, h⟩ := Option.bind_eq_some_iff.mp h
    repeat' split at h
    all_goals simp at h
    omega
theorem digL_le {l : List Bool} : ∀ (k i : Nat) (vals out o : List Int) (j : Nat), digL l k i vals out = some (.inr (o, j)) → j ≤ l.length
  | 0, _, _, _, _, _, h => by simp [digL] at h
  | k + 1, i, vals, out, o, j, h => by
    simp only [digL] at h
    split at h
    · simp at h
    · obtain ⟨t, -, h⟩ := Option.bind_eq_some_iff.mp h
      repeat' split at h
      all_goals first
        | (simp at h; done)
        | exact digEnd_le h
        | exact digL_le k _ _ _ _ _ h
theorem digF_le {l : List Bool} {k : Nat} {o : List Int} {j : Nat} (h : digF l k = some (.inr (o, j))) : j ≤ l.length := by
  unfold digF at h
  split at h
  · exact digL_le _ _ _ _ _ _ h
  · simp at h

theorem get_len (A0 : Option Addr) (c0 : Nat) (l0 : List Int) (w : World) (h : l0.length < 2 ∨ 50 < l0.length) :
    Calls Try.prog 22 #[.slice A0 l0.length c0] w fun e w' => e = .returned (.tuple #[.slice none 0 0, .int .i64 14]) ∧ Below w.heap.size w w' := by
  by_cases h2 : (l0.length : Int) < 2
  · have e2 : decide ((l0.length : Int) < 2) = true := decide_eq_true h2
    go_enter_defers Try.func22, Try.ntmps22
    go_wp2
    have hB : Below w.heap.size w ((w.alloc (Obj.cells #[Value.slice none 0 0] 22)).alloc (Obj.cells #[Value.int IntKind.i64 14] 23)) := ((Below.refl _ _).alloc (Nat.le_refl _) _).alloc (by simp) _
    simp [bodyPostD, Leaves, settle, results, Try.results22, go_sem, hB]
  · have e2 : decide ((l0.length : Int) < 2) = false := decide_eq_false h2
    have e5 : decide (50 < (l0.length : Int)) = true := decide_eq_true (by omega)
    go_enter_defers Try.func22, Try.ntmps22
    go_wp2
    have hB : Below w.heap.size w ((w.alloc (Obj.cells #[Value.slice none 0 0] 22)).alloc (Obj.cells #[Value.int IntKind.i64 14] 23)) := ((Below.refl _ _).alloc (Nat.le_refl _) _).alloc (by simp) _
    simp [bodyPostD, Leaves, settle, results, Try.results22, go_sem, hB]

set_option maxHeartbeats 4000000 in
set_option maxRecDepth 100000 in
theorem get_walk (k : Nat) (A0 : Option Addr) (c0 : Nat) (b : List Int) (l : List Bool) (res : Int ⊕ (List Int × Nat)) (r1 : List Int) (r2 : Int) (w : World) (hr0 : Kd.C (Kd.int .u8) w A0 b.length b) (hc0 : b.length ≤ c0) (hl2 : 2 ≤ b.length) (hl50 : b.length ≤ 50)
    (hU : track_Unpack.f k b = some l) (h5 : 5 ≤ l.length) (hmax : l.length ≤ 1000000) (hd : digF l k = some res) (hg : getOut k b l res = some (r1, r2)) :
    Calls Try.prog 22 #[.slice A0 b.length c0] w fun e w' => ∃ v0_ : Value, e = .returned (.tuple #[v0_, .int .i64 r2]) ∧ Kd.R (Kd.int .u8) 5 w' w.heap.size (fun _ => True) v0_ r1 ∧ Below w.heap.size w w' := by
  have e2 : decide ((b.length : Int) < 2) = false := decide_eq_false (by omega)
  have e5 : decide (50 < (b.length : Int)) = false := decide_eq_false (by omega)
  have hmf : ∀ (fn : Fn) (first cap : Array Value) (w : World), (Instr.makeFunc fn first cap).run Try.prog w = .ok (.func fn first cap) w := fun _ _ _ _ => rfl
  have HC := Lib.hid hr0
  have HU := Lib.hid hU
  have HD := Lib.hid hd
  have HG := Lib.hid hg
  clear hr0 hU hd hg
  go_enter_defers Try.func22, Try.ntmps22
  go_wp2_with (first
    | (go_at_call 38; refine (track_Unpack.calls k A0 c0 b l _ (Kd.C_alloc (Kd.C_alloc HC.out _) _) hc0 HU.out).mono ?_; rintro e w4 ⟨v4, rfl, ho, hb4⟩; obtain ⟨gb, cb, eb, hgb, hglt, -⟩ := Kd.R_form ho (by omega); subst eb; have HO := Lib.hid ho; have HB4 := Lib.hid hb4; have HGB := Lib.hid hgb; have HGL := Lib.hid hglt; clear ho hb4 hgb hglt))
  have hrd := heap_alloc_new w4 (.cells #[.slice (some ⟨gb, 0, none⟩) l.length cb, .int .i64 0] 55)
  have hbit : ∀ j : Nat, j < l.length → (w4.alloc (.cells #[.slice (some ⟨gb, 0, none⟩) l.length cb, .int .i64 0] 55)).cell? ⟨gb, j, none⟩ = some (.bool (bitAt l (j : Int))) := by
    intro j hj
    have := (Kd.R_celln false (Kd.R_alloc HO.out (.cells #[.slice (some ⟨gb, 0, none⟩) l.length cb, .int .i64 0] 55)) (j : Int) (by omega) (by omega)).1
    rw [Int.toNat_natCast] at this
    exact this
  have hp : w4.heap[w.heap.size]? = some (.cells #[.slice none 0 0] 22 (0, 0)) := (HB4.out.block w.heap.size (by simp; omega)).trans (blk_alloc (heap_alloc_new w _) _)
  have hq : w4.heap[w.heap.size + 1]? = some (.cells #[.int .i64 0] 23 (0, 0)) := (HB4.out.block (w.heap.size + 1) (by simp)).trans (by have := heap_alloc_new (w.alloc (.cells #[.slice none 0 0] 22)) (.cells #[.int .i64 0] 23); simpa using this)
  have hz4 : w.heap.size + 2 ≤ w4.heap.size := by have := HB4.out.size; simpa using this
  have hb4 : Below w.heap.size w w4 := (((Below.refl w.heap.size w).alloc (Nat.le_refl _) (.cells #[.slice none 0 0] 22)).alloc (by simp) (.cells #[.int .i64 0] 23)).trans (HB4.out.mono (by simp; omega))
  have hcap := (Kd.R_reads' HO.out).2.1
  have hne : gb ≠ w4.heap.size := by have := HGL.out; omega
  have hgl : gb < (w4.alloc (.cells #[.slice (some ⟨gb, 0, none⟩) l.length cb, .int .i64 0] 55)).heap.size := by have := HGL.out; simp; omega
  have HDIG := Lib.hid (digits_walk l _ w4.heap.size gb cb 0 k res hrd hgl hne hbit h5 hcap hmax HD.out)
  have HP := Lib.hid hp
  have HQ := Lib.hid hq
  have HB := Lib.hid hb4
  have HZ := Lib.hid hz4
  clear hrd hbit hp hq hb4 hz4 hgl hne
  cases res with
  | inl er =>
    have H := HG.out
    simp only [getOut, Option.some.injEq, Prod.mk.injEq] at H
    obtain ⟨rfl, rfl⟩ := H
    go_wp2_with (go_at_call 48; refine (HDIG.out).mono ?_; rintro e w5 ⟨rfl, hb5⟩)
    have hz := HZ.out
    have hp5 : w5.heap[w.heap.size]? = some (.cells #[.slice none 0 0] 22 (0, 0)) := (hb5.block _ (by omega)).trans (blk_alloc HP.out _)
    have hq5 : w5.heap[w.heap.size + 1]? = some (.cells #[.int .i64 0] 23 (0, 0)) := (hb5.block _ (by omega)).trans (blk_alloc HQ.out _)
    have hB5 : Below w.heap.size w w5 := (HB.out.alloc (by omega) _).trans (hb5.mono (by omega))
    have cp := cell_of_row w5 _ 0 _ _ _ hp5
    have cq := cell_of_row w5 _ 0 _ _ _ hq5
    have zp : w5.frozen? ⟨w.heap.size, 0, none⟩ = false := by simp [World.frozen?, hp5]
    have zq : w5.frozen? ⟨w.heap.size + 1, 0, none⟩ = false := by simp [World.frozen?, hq5]
    have hBf := below_set (g := w.heap.size + 1) (j := 0) (v := .int .i64 er) (below_set (g := w.heap.size + 1) (j := 0) (v := .int .i64 2) (below_set (g := w.heap.size) (j := 0) (v := .slice none 0 0) hB5 (Nat.le_refl _)) (Nat.le_succ _)) (Nat.le_succ _)
    refine leaves_cons (f := 47) (args := #[.pointer (some ⟨w.heap.size, 0, none⟩), .pointer (some ⟨w.heap.size + 1, 0, none⟩)]) (by simp) (by simp [go_sem]) ?_
    refine (catch_panic w.heap.size (w.heap.size + 1) er _ _ _ (by omega) cp cq zp zq).mono ?_
    rintro e u' w'' ⟨rfl, rfl, rfl⟩
    have g1 : (((w5.setCell ⟨w.heap.size, 0, none⟩ (.slice none 0 0)).setCell ⟨w.heap.size + 1, 0, none⟩ (.int .i64 2)).setCell ⟨w.heap.size + 1, 0, none⟩ (.int .i64 er)).cell? ⟨w.heap.size, 0, none⟩ = some (.slice none 0 0) := by simp [go_sem, cp]
    have g2 : (((w5.setCell ⟨w.heap.size, 0, none⟩ (.slice none 0 0)).setCell ⟨w.heap.size + 1, 0, none⟩ (.int .i64 2)).setCell ⟨w.heap.size + 1, 0, none⟩ (.int .i64 er)).cell? ⟨w.heap.size + 1, 0, none⟩ = some (.int .i64 er) := by
      have a1 : (w5.setCell ⟨w.heap.size, 0, none⟩ (.slice none 0 0)).cell? ⟨w.heap.size + 1, 0, none⟩ = some (.int .i64 0) := by simp [go_sem, cq]
      have a2 : ((w5.setCell ⟨w.heap.size, 0, none⟩ (.slice none 0 0)).setCell ⟨w.heap.size + 1, 0, none⟩ (.int .i64 2)).cell? ⟨w.heap.size + 1, 0, none⟩ = some (.int .i64 2) := by
        apply World.cell?_setCell_same
        exact a1
      apply World.cell?_setCell_same
      exact a2
    generalize ((w5.setCell ⟨w.heap.size, 0, none⟩ (.slice none 0 0)).setCell ⟨w.heap.size + 1, 0, none⟩ (.int .i64 2)).setCell ⟨w.heap.size + 1, 0, none⟩ (.int .i64 er) = w9 at hBf g1 g2 ⊢
    have hR : Kd.R (Kd.int .u8) 5 w9 w.heap.size (fun _ => True) (.slice none 0 0) [] := Kd.R_nil _ _ _ _ _
    simp [Leaves, settle, results, Try.results22, go_sem, g1, g2, hBf]
    exact hR
  | inr t =>
    obtain ⟨out, i⟩ := t
    have hi := digF_le HD.out
    have H := HG.out
    simp only [getOut] at H
    replace H := Option.bind_eq_some_iff.mp H
    obtain ⟨t, hT, H⟩ := H
    replace H := Option.bind_eq_some_iff.mp H
    obtain ⟨eq, hE, H⟩ := H
    have HT := Lib.hid hT
    have HE := Lib.hid hE
    clear hT hE
    have htake : (l.take i).length = i := by rw [List.length_take]; omega
    go_wp2_with (go_at_call 48; refine (HDIG.out).mono ?_; rintro e w5 ⟨v5, rfl, ho5, hr5⟩; obtain ⟨A5, c5, ev5⟩ := Kd.R_slice ho5; subst ev5)
    have hz := HZ.out
    have hk5 : KeepBut w4 w5 w4.heap.size none := ⟨Nat.le_trans (by simp) hr5.size, fun k hk hg _ => (hr5.block k (by simp; omega) hg).trans (((Below.refl w4.heap.size w4).alloc (Nat.le_refl _) _).block k hk)⟩
    have hC5 : Kd.C Kd.bool w5 (some ⟨gb, 0, none⟩) l.length l := Kd.C_foot_own (Kd.R_bound HO.out) (fun k hk => Nat.ne_of_lt hk.2.2.1) w5 hk5
    have hg5 := hr5.below (by simp)
    have hB5 : Below w.heap.size w w5 := (HB.out.alloc (by omega) _).trans (hg5.mono (by omega))
    have hCb : Kd.C (Kd.int .u8) w5 A0 b.length b := Kd.C_below HC.out hB5
    have cr0 : w5.cell? ⟨w4.heap.size, 0, none⟩ = some (.slice (some ⟨gb, 0, none⟩) l.length cb) := cell_of_row w5 _ 0 _ _ _ hr5.rd
    have cr1 : w5.cell? ⟨w4.heap.size, 1, none⟩ = some (.int .i64 (i : Int)) := cell_of_row w5 _ 1 _ _ _ hr5.rd
    have hp5 : w5.heap[w.heap.size]? = some (.cells #[.slice none 0 0] 22 (0, 0)) := (hg5.block _ (by omega)).trans (blk_alloc HP.out _)
    have hq5 : w5.heap[w.heap.size + 1]? = some (.cells #[.int .i64 0] 23 (0, 0)) := (hg5.block _ (by omega)).trans (blk_alloc HQ.out _)
    have hz5 : w.heap.size + 2 ≤ w5.heap.size := by have := hg5.size; simp at this; omega
    have q1 : (i : Int) ≤ (cb : Int) := by omega
    have hb1 : Below w5.heap.size w5 w5.drew := below_drew1 (Below.refl _ _)
    refine start_ (n := 13) (S := fun w' => w'.cell? ⟨w4.heap.size, 0, none⟩ = some (.slice (some ⟨gb, 0, none⟩) l.length cb) ∧ w'.cell? ⟨w4.heap.size, 1, none⟩ = some (.int .i64 (i : Int))) (ds := []) #[false, false, false, false, false, false, false, false, false, false, false, false, false] (by kernel_rfl) rfl rfl ⟨cell_below hb1 cr0, cell_below hb1 cr1⟩ (fun hHeld => ?_); refine with_tabW get6_tab get6_bits (fun HT_ HW_ => ?_)
    generalize World.drew _ = w1 at hb1 hHeld ⊢
    refine pure_ (i := 0) (N := (some 21)) (v := ?_) (a' := ?_) #[true, false, false, false, false, false, false, false, false, false, false, false, false] rfl rfl (any_of HT_.out (by kernel_rfl)) (fun c a w h => hQ22 rfl (by decide) (by decide) c a w h) (Or.inl ⟨by rfl, ?_⟩) ?_ ?_
    rotate_left
    · intro w'
      go_simp
      with_reducible rfl
    rotate_left
    · simp only [Act.put, List.setIfInBounds_toArray, List.set_cons_zero, List.set_cons_succ, i64_w, i32_w]
      rfl
    refine pure_ (i := 1) (N := (some 22)) (v := ?_) (a' := ?_) #[true, true, false, false, false, false, false, false, false, false, false, false, false] rfl rfl (any_of HT_.out (by kernel_rfl)) (fun c a w h => hQ22 rfl (by decide) (by decide) c a w h) (Or.inl ⟨by rfl, ?_⟩) ?_ ?_
    rotate_left
    · intro w'
      go_simp
      with_reducible rfl
    rotate_left
    · simp only [Act.put, List.setIfInBounds_toArray, List.set_cons_zero, List.set_cons_succ, i64_w, i32_w]
      rfl
    refine pure_ (i := 2) (N := (some 23)) (v := ?_) (a' := ?_) #[true, true, true, false, false, false, false, false, false, false, false, false, false] rfl rfl (any_of HT_.out (by kernel_rfl)) (fun c a w h => hQ22 rfl (by decide) (by decide) c a w h) (Or.inl ⟨by rfl, ?_⟩) ?_ ?_
    rotate_left
    · intro w'
      go_simp
      with_reducible rfl
    rotate_left
    · simp only [Act.put, List.setIfInBounds_toArray, List.set_cons_zero, List.set_cons_succ, i64_w, i32_w]
      rfl
    refine take_ (i := 3) (N := (some 24)) (v := ?_) (a' := ?_) #[true, true, true, true, false, false, false, false, false, false, false, false, false] rfl rfl (take_ofW HT_.out HW_.out (by kernel_rfl)) (fun c a w h => hQ22 rfl (by decide) (by decide) c a w h) (Or.inl ⟨by rfl, ?_⟩) hHeld ?_ ?_
    rotate_left
    · rintro w' ⟨s0, s1⟩
      go_simp
      with_reducible rfl
    rotate_left
    · simp only [Act.put, List.setIfInBounds_toArray, List.set_cons_zero, List.set_cons_succ, i64_w, i32_w]
      rfl
    refine pure_ (i := 4) (N := (some 25)) (v := ?_) (a' := ?_) #[true, true, true, true, true, false, false, false, false, false, false, false, false] rfl rfl (any_of HT_.out (by kernel_rfl)) (fun c a w h => hQ22 rfl (by decide) (by decide) c a w h) (Or.inl ⟨by rfl, ?_⟩) ?_ ?_
    rotate_left
    · intro w'
      go_simp
      with_reducible rfl
    rotate_left
    · simp only [Act.put, List.setIfInBounds_toArray, List.set_cons_zero, List.set_cons_succ, i64_w, i32_w]
      rfl
    refine pure_ (i := 5) (N := (some 26)) (v := ?_) (a' := ?_) #[true, true, true, true, true, true, false, false, false, false, false, false, false] rfl rfl (any_of HT_.out (by kernel_rfl)) (fun c a w h => hQ22 rfl (by decide) (by decide) c a w h) (Or.inl ⟨by rfl, ?_⟩) ?_ ?_
    rotate_left
    · intro w'
      go_simp
      with_reducible rfl
    rotate_left
    · simp only [Act.put, List.setIfInBounds_toArray, List.set_cons_zero, List.set_cons_succ, i64_w, i32_w]
      rfl
    refine pure_ (i := 6) (N := (some 27)) (v := ?_) (a' := ?_) #[true, true, true, true, true, true, true, false, false, false, false, false, false] rfl rfl (any_of HT_.out (by kernel_rfl)) (fun c a w h => hQ22 rfl (by decide) (by decide) c a w h) (Or.inl ⟨by rfl, ?_⟩) ?_ ?_
    rotate_left
    · intro w'
      go_simp
      with_reducible rfl
    rotate_left
    · simp only [Act.put, List.setIfInBounds_toArray, List.set_cons_zero, List.set_cons_succ, i64_w, i32_w]
      rfl
    refine take_ (i := 7) (N := (some 28)) (v := ?_) (a' := ?_) #[true, true, true, true, true, true, true, true, false, false, false, false, false] rfl rfl (take_ofW HT_.out HW_.out (by kernel_rfl)) (fun c a w h => hQ22 rfl (by decide) (by decide) c a w h) (Or.inl ⟨by rfl, ?_⟩) hHeld ?_ ?_
    rotate_left
    · rintro w' ⟨s0, s1⟩
      go_simp
      with_reducible rfl
    rotate_left
    · simp only [Act.put, List.setIfInBounds_toArray, List.set_cons_zero, List.set_cons_succ, i64_w, i32_w]
      rfl
    refine take_ (i := 8) (N := (some 29)) (v := ?_) (a' := ?_) #[true, true, true, true, true, true, true, true, true, false, false, false, false] rfl rfl (take_ofW HT_.out HW_.out (by kernel_rfl)) (fun c a w h => hQ22 rfl (by decide) (by decide) c a w h) (Or.inl ⟨by rfl, ?_⟩) hHeld ?_ ?_
    rotate_left
    · rintro w' ⟨s0, s1⟩
      go_simp
      with_reducible rfl
    rotate_left
    · simp only [Act.put, List.setIfInBounds_toArray, List.set_cons_zero, List.set_cons_succ, i64_w, i32_w]
      rfl
    refine pure_ (i := 10) (N := (some 31)) (v := ?_) (a' := ?_) #[true, true, true, true, true, true, true, true, true, false, true, false, false] rfl rfl (any_of HT_.out (by kernel_rfl)) (fun c a w h => hQ22 rfl (by decide) (by decide) c a w h) (Or.inl ⟨by rfl, ?_⟩) ?_ ?_
    rotate_left
    · intro w'
      go_simp
      with_reducible rfl
    rotate_left
    · simp only [Act.put, List.setIfInBounds_toArray, List.set_cons_zero, List.set_cons_succ, i64_w, i32_w]
      rfl
    refine one_ (i := 9) (N := (some 30)) #[true, true, true, true, true, true, true, true, true, true, true, false, false] rfl rfl (one_of HT_.out (by kernel_rfl)) (by decide) (fun K hK => ?_)
    refine goes_ Try.func35 (by kernel_rfl) rfl #[.slice (some ⟨gb, 0, none⟩) (l.take i).length cb] (by rfl) rfl rfl (by (try simp only [List.map_toArray, List.map_cons, List.map_nil]); rw [htake]; rfl) ?_
    with_reducible refine (track_Pack.calls k (some ⟨gb, 0, none⟩) cb (l.take i) t _ (C_take (Kd.C_below hC5 hb1)) (by rw [htake]; omega) HT.out).mono ?_
    rintro e w6 ⟨vt, rfl, hot, hb6⟩
    obtain ⟨At, ct, et⟩ := Kd.R_slice hot
    subst et
    refine ⟨_, rfl, ?_⟩
    replace hb1 := below_step hb1 hb6
    have hrt := Kd.R_reads' hot
    refine hK.out _ _ ⟨cell_below hb6 hHeld.1, cell_below hb6 hHeld.2⟩ (fun hHeld => ?_)
    clear hK K
    refine norm_ (a' := ?_) ?_ ?_
    rotate_left
    · show Act.put _ (some 30) _ = _
      simp only [Act.put, List.setIfInBounds_toArray, List.set_cons_zero, List.set_cons_succ, i64_w, i32_w]
      rfl
    refine one_ (i := 11) (N := (some 32)) #[true, true, true, true, true, true, true, true, true, true, true, true, false] rfl rfl (one_of HT_.out (by kernel_rfl)) (by decide) (fun K hK => ?_)
    refine goes_ Try.func49 (by kernel_rfl) rfl #[.slice At t.length ct, .slice A0 b.length c0] (by rfl) rfl rfl (by (try simp only [List.map_toArray, List.map_cons, List.map_nil]); first | done | rfl) ?_
    with_reducible refine (slices_Equal_byte_byte.calls k At ct t A0 c0 b eq _ hrt.2.2 hrt.2.1 (Kd.C_below hCb hb1) hc0 HE.out).mono ?_
    rintro e w7 ⟨rfl, hb7⟩
    refine ⟨_, rfl, ?_⟩
    replace hb1 := below_step hb1 hb7.below
    refine hK.out _ _ ⟨cell_below hb7.below hHeld.1, cell_below hb7.below hHeld.2⟩ (fun hHeld => ?_)
    clear hK K
    refine norm_ (a' := ?_) ?_ ?_
    rotate_left
    · show Act.put _ (some 32) _ = _
      simp only [Act.put, List.setIfInBounds_toArray, List.set_cons_zero, List.set_cons_succ, i64_w, i32_w]
      rfl
    refine pure_ (i := 12) (N := (some 33)) (v := ?_) (a' := ?_) #[true, true, true, true, true, true, true, true, true, true, true, true, true] rfl rfl (any_of HT_.out (by kernel_rfl)) (fun c a w h => hQ22 rfl (by decide) (by decide) c a w h) (Or.inl ⟨by rfl, ?_⟩) ?_ ?_
    rotate_left
    · intro w'
      go_simp
      with_reducible rfl
    rotate_left
    · simp only [Act.put, List.setIfInBounds_toArray, List.set_cons_zero, List.set_cons_succ, i64_w, i32_w]
      rfl
    refine done_ (done_of HT_.out (by kernel_rfl)) ?_
    have hp7 : w7.heap[w.heap.size]? = some (.cells #[.slice none 0 0] 22 (0, 0)) := (hb1.block _ (by omega)).trans hp5
    have hq7 : w7.heap[w.heap.size + 1]? = some (.cells #[.int .i64 0] 23 (0, 0)) := (hb1.block _ (by omega)).trans hq5
    have hB7 : Below w.heap.size w w7 := hB5.trans (hb1.mono (by omega))
    have cp := cell_of_row w7 _ 0 _ _ _ hp7
    have cq := cell_of_row w7 _ 0 _ _ _ hq7
    have zp : w7.frozen? ⟨w.heap.size, 0, none⟩ = false := by simp [World.frozen?, hp7]
    have zq : w7.frozen? ⟨w.heap.size + 1, 0, none⟩ = false := by simp [World.frozen?, hq7]
    have ho7 : Kd.R (Kd.int .u8) 5 w7 (w.heap.size + 2) (fun _ => True) (.slice A5 out.length c5) out := Kd.R_lower (Kd.R_below ho5 hb1) (by simp; omega)
    cases eq
    · have H1 := H
      simp only [Bool.false_eq_true, if_false, Option.some.injEq, Prod.mk.injEq] at H1
      obtain ⟨rfl, rfl⟩ := H1
      have HB7 := Lib.hid hB7
      have HO7 := Lib.hid ho7
      clear hb1 hHeld hB7 ho7 hp7 hq7 hB5 hb6 hb7 hrt hot hr5 ho5 hk5 hC5 hg5 hCb cr0 cr1 hp5 hq5 H
      go_wp2
      have hBf := below_set (g := w.heap.size + 1) (j := 0) (v := .int .i64 14) (below_set (g := w.heap.size) (j := 0) (v := .slice none 0 0) HB7.out (Nat.le_refl _)) (Nat.le_succ _)
      have g1 : ((w7.setCell ⟨w.heap.size, 0, none⟩ (.slice none 0 0)).setCell ⟨w.heap.size + 1, 0, none⟩ (.int .i64 14)).cell? ⟨w.heap.size, 0, none⟩ = some (.slice none 0 0) := by simp [go_sem, cp]
      have g2 : ((w7.setCell ⟨w.heap.size, 0, none⟩ (.slice none 0 0)).setCell ⟨w.heap.size + 1, 0, none⟩ (.int .i64 14)).cell? ⟨w.heap.size + 1, 0, none⟩ = some (.int .i64 14) := by
        have a1 : (w7.setCell ⟨w.heap.size, 0, none⟩ (.slice none 0 0)).cell? ⟨w.heap.size + 1, 0, none⟩ = some (.int .i64 0) := by simp [go_sem, cq]
        apply World.cell?_setCell_same
        exact a1
      have hR : Kd.R (Kd.int .u8) 5 ((w7.setCell ⟨w.heap.size, 0, none⟩ (.slice none 0 0)).setCell ⟨w.heap.size + 1, 0, none⟩ (.int .i64 14)) w.heap.size (fun _ => True) (.slice none 0 0) [] := Kd.R_nil _ _ _ _ _
      refine leaves_cons (f := 47) (args := #[.pointer (some ⟨w.heap.size, 0, none⟩), .pointer (some ⟨w.heap.size + 1, 0, none⟩)]) (by simp) (by simp [go_sem]) ?_
      refine (catch_idle w.heap.size (w.heap.size + 1) _).mono ?_
      rintro e u' w'' ⟨rfl, rfl, rfl⟩
      generalize (w7.setCell ⟨w.heap.size, 0, none⟩ (.slice none 0 0)).setCell ⟨w.heap.size + 1, 0, none⟩ (.int .i64 14) = w9 at hBf g1 g2 hR ⊢
      simp [Leaves, settle, results, Try.results22, go_sem, g1, g2, hBf]
      exact hR
    · have H1 := H
      simp only [if_true, Option.some.injEq, Prod.mk.injEq] at H1
      obtain ⟨rfl, rfl⟩ := H1
      have HB7 := Lib.hid hB7
      have HO7 := Lib.hid ho7
      clear hb1 hHeld hB7 ho7 hp7 hq7 hB5 hb6 hb7 hrt hot hr5 ho5 hk5 hC5 hg5 hCb cr0 cr1 hp5 hq5 H
      go_wp2
      have hBf := below_set (g := w.heap.size + 1) (j := 0) (v := .int .i64 0) (below_set (g := w.heap.size) (j := 0) (v := .slice A5 out.length c5) HB7.out (Nat.le_refl _)) (Nat.le_succ _)
      have g1 : ((w7.setCell ⟨w.heap.size, 0, none⟩ (.slice A5 out.length c5)).setCell ⟨w.heap.size + 1, 0, none⟩ (.int .i64 0)).cell? ⟨w.heap.size, 0, none⟩ = some (.slice A5 out.length c5) := by simp [go_sem, cp]
      have g2 : ((w7.setCell ⟨w.heap.size, 0, none⟩ (.slice A5 out.length c5)).setCell ⟨w.heap.size + 1, 0, none⟩ (.int .i64 0)).cell? ⟨w.heap.size + 1, 0, none⟩ = some (.int .i64 0) := by
        have a1 : (w7.setCell ⟨w.heap.size, 0, none⟩ (.slice A5 out.length c5)).cell? ⟨w.heap.size + 1, 0, none⟩ = some (.int .i64 0) := by simp [go_sem, cq]
        apply World.cell?_setCell_same
        exact a1
      have hR : Kd.R (Kd.int .u8) 5 ((w7.setCell ⟨w.heap.size, 0, none⟩ (.slice A5 out.length c5)).setCell ⟨w.heap.size + 1, 0, none⟩ (.int .i64 0)) w.heap.size (fun _ => True) (.slice A5 out.length c5) out := R_set2 HO7.out (by omega) (by omega) _ _
      refine leaves_cons (f := 47) (args := #[.pointer (some ⟨w.heap.size, 0, none⟩), .pointer (some ⟨w.heap.size + 1, 0, none⟩)]) (by simp) (by simp [go_sem]) ?_
      refine (catch_idle w.heap.size (w.heap.size + 1) _).mono ?_
      rintro e u' w'' ⟨rfl, rfl, rfl⟩
      generalize (w7.setCell ⟨w.heap.size, 0, none⟩ (.slice A5 out.length c5)).setCell ⟨w.heap.size + 1, 0, none⟩ (.int .i64 0) = w9 at hBf g1 g2 hR ⊢
      simp [Leaves, settle, results, Try.results22, go_sem, g1, g2, hBf]
      exact hR

theorem track_Get.calls (k : Nat) (A0 : Option Addr) (c0 : Nat) (l0 : List Int) (r1 : List Int) (r2 : Int) (w : World) (hr0 : Kd.C (Kd.int .u8) w A0 l0.length l0) (hc0 : l0.length ≤ c0) (h : track_Get.f k l0 = some (r1, r2)) :
    Calls Try.prog 22 #[.slice A0 l0.length c0] w fun e w' => ∃ v0_ : Value, e = .returned (.tuple #[v0_, .int .i64 r2]) ∧ Kd.R (Kd.int .u8) 5 w' w.heap.size (fun _ => True) v0_ r1 ∧ Below w.heap.size w w' := by
  unfold track_Get.f at h
  by_cases hl : l0.length < 2 ∨ 50 < l0.length
  · rw [if_pos hl] at h
    simp only [Option.some.injEq, Prod.mk.injEq] at h
    obtain ⟨rfl, rfl⟩ := h
    refine (get_len A0 c0 l0 w hl).mono ?_
    rintro e w' ⟨rfl, hb⟩
    exact ⟨_, rfl, Kd.R_nil _ _ _ _ _, hb⟩
  · rw [if_neg hl] at h
    obtain ⟨l, hU, h⟩ := Option.bind_eq_some_iff.mp h
    split at h
    case isFalse => cases h
    rename_i h5
    obtain ⟨res, hd, h⟩ := Option.bind_eq_some_iff.mp h
    exact get_walk k A0 c0 l0 l res r1 r2 w hr0 hc0 (by omega) (by omega) hU h5.1 h5.2 hd h
end Go.Proofs.Ytfmpeojlaibblaa.S

/- Written for this claim by a program of this session (handprint.py, over the kit's print). Lean checks it. -/
namespace Go.Proofs.Ytfmpeojlaibblaa.S
open Go.RowKit Go.Proofs.YtfmpeojlaibblaaW.PrintWords Go.Proofs.YtfmpeojlaibblaaW.PrintLast Go.Proofs.YtfmpeojlaibblaaW.PrintMore
attribute [local go_sem] max2_int min2_int max_two min_two max_three min_three max_four min_four   -- for this text's walks alone
set_option linter.unusedVariables false
set_option linter.unusedSimpArgs false

/-! ### gatelinelaw11_tracked: function 34 -/
def gatelinelaw11_tracked.f (k : Nat)  : Option (Bool) := (track_Put.f k (([1, 9] : List Int))).bind fun bt262 => ((track_Get.f k bt262.1).bind fun bt266 => ((track_Put.f k (([10] : List Int))).bind fun bt273 => ((track_Get.f k (([0, 0] : List Int))).bind fun bt280 => ((track_Get.f k (([208] : List Int))).bind fun bt287 => ((track_Get.f k (([208, 0, 0] : List Int))).bind fun bt294 => (if bt262.2 = 0 then ((gatelineref01_Same.f k bt262.1 (([212, 39, 243, 128] : List Int))).bind fun t301 => (if t301 = true then (if bt266.2 = bt262.2 then ((gatelineref01_Same.f k bt266.1 (([1, 9] : List Int))).bind fun t305 => (if t305 = true then (if bt273.2 = 7 then (if bt280.2 = 4 then (if bt287.2 = 14 then (if bt294.2 = 3 then ((track_Pack.f k (([true, false, true] : List Bool))).bind fun t309 => ((gatelineref01_Same.f k t309 (([160] : List Int))).bind fun t315 => (if t315 = true then ((track_Unpack.f k (([3] : List Int))).bind fun t319 => ((gatelineref11_SameBits.f k t319 (([false, false, false, false, false, false, true, true] : List Bool))).bind fun t325 => (some t325))) else (none)))) else (none)) else (none)) else (none)) else (none)) else (none))) else (none)) else (none))) else (none)))))))
theorem gatelinelaw11_tracked.mono : ∀ k, LeO (gatelinelaw11_tracked.f k ) (gatelinelaw11_tracked.f (k + 1) ) := by
  intro  k
  unfold gatelinelaw11_tracked.f
  repeat' first
      | (with_reducible exact gatelineref01_Same.mono _ _ _)
      | (with_reducible exact gatelineref11_SameBits.mono _ _ _)
      | (with_reducible exact track_Get.mono _ _)
      | (with_reducible exact track_Pack.mono _ _)
      | (with_reducible exact track_Put.mono _ _)
      | (with_reducible exact track_Unpack.mono _ _)
      | (with_reducible exact LeO.refl _)
      | (with_reducible exact LeO.none _)
      | (with_reducible refine LeO.ite ?_ ?_)
      | (with_reducible refine LeO.bind ?_ (fun _ => ?_))
      | exact gatelineref01_Same.mono _ _ _
      | exact gatelineref11_SameBits.mono _ _ _
      | exact track_Get.mono _ _
      | exact track_Pack.mono _ _
      | exact track_Put.mono _ _
      | exact track_Unpack.mono _ _
      | exact LeO.none _
      | refine LeO.ite ?_ ?_
      | refine LeO.bind ?_ (fun _ => ?_)
set_option maxHeartbeats 8000000 in
set_option maxRecDepth 100000 in
theorem gatelinelaw11_tracked.calls (k : Nat)  (r : Bool) (w : World) (h : gatelinelaw11_tracked.f k  = some r) :
    Calls Try.prog 34 #[] w fun e w' => e = .returned (.bool r) ∧ Below w.heap.size w w' := by
  have HB := Aside0.mk (Below.refl w.heap.size w)
  have H : ((track_Put.f k (([1, 9] : List Int))).bind fun bt262 => ((track_Get.f k bt262.1).bind fun bt266 => ((track_Put.f k (([10] : List Int))).bind fun bt273 => ((track_Get.f k (([0, 0] : List Int))).bind fun bt280 => ((track_Get.f k (([208] : List Int))).bind fun bt287 => ((track_Get.f k (([208, 0, 0] : List Int))).bind fun bt294 => (if bt262.2 = 0 then ((gatelineref01_Same.f k bt262.1 (([212, 39, 243, 128] : List Int))).bind fun t301 => (if t301 = true then (if bt266.2 = bt262.2 then ((gatelineref01_Same.f k bt266.1 (([1, 9] : List Int))).bind fun t305 => (if t305 = true then (if bt273.2 = 7 then (if bt280.2 = 4 then (if bt287.2 = 14 then (if bt294.2 = 3 then ((track_Pack.f k (([true, false, true] : List Bool))).bind fun t309 => ((gatelineref01_Same.f k t309 (([160] : List Int))).bind fun t315 => (if t315 = true then ((track_Unpack.f k (([3] : List Int))).bind fun t319 => ((gatelineref11_SameBits.f k t319 (([false, false, false, false, false, false, true, true] : List Bool))).bind fun t325 => (some t325))) else (none)))) else (none)) else (none)) else (none)) else (none)) else (none))) else (none)) else (none))) else (none)))))))) = some r := h
  clear h
  obtain ⟨y259, hy259⟩ : ∃ y_ : List Int, y_ = (([1, 9] : List Int)) := ⟨_, rfl⟩
  replace H : ((track_Put.f k y259).bind fun bt262 => ((track_Get.f k bt262.1).bind fun bt266 => ((track_Put.f k (([10] : List Int))).bind fun bt273 => ((track_Get.f k (([0, 0] : List Int))).bind fun bt280 => ((track_Get.f k (([208] : List Int))).bind fun bt287 => ((track_Get.f k (([208, 0, 0] : List Int))).bind fun bt294 => (if bt262.2 = 0 then ((gatelineref01_Same.f k bt262.1 (([212, 39, 243, 128] : List Int))).bind fun t301 => (if t301 = true then (if bt266.2 = bt262.2 then ((gatelineref01_Same.f k bt266.1 (([1, 9] : List Int))).bind fun t305 => (if t305 = true then (if bt273.2 = 7 then (if bt280.2 = 4 then (if bt287.2 = 14 then (if bt294.2 = 3 then ((track_Pack.f k (([true, false, true] : List Bool))).bind fun t309 => ((gatelineref01_Same.f k t309 (([160] : List Int))).bind fun t315 => (if t315 = true then ((track_Unpack.f k (([3] : List Int))).bind fun t319 => ((gatelineref11_SameBits.f k t319 (([false, false, false, false, false, false, true, true] : List Bool))).bind fun t325 => (some t325))) else (none)))) else (none)) else (none)) else (none)) else (none)) else (none))) else (none)) else (none))) else (none)))))))) = some r := by first | (rw [hy259]; with_reducible exact H) | (have H2_ := (Option.bind_some _ _).symm.trans H; rw [hy259]; with_reducible exact H2_) | (have H2_ := (Option.bind_some _ _).symm.trans H; with_reducible exact H2_) | with_reducible exact H | (rw [hy259]; exact H) | exact H
  have Ny259 := Aside0.mk hy259
  clear hy259
  replace H := Option.bind_eq_some_iff.mp H
  obtain ⟨⟨t262, t263⟩, A10, H⟩ := H
  replace H : ((track_Get.f k t262).bind fun bt266 => ((track_Put.f k (([10] : List Int))).bind fun bt273 => ((track_Get.f k (([0, 0] : List Int))).bind fun bt280 => ((track_Get.f k (([208] : List Int))).bind fun bt287 => ((track_Get.f k (([208, 0, 0] : List Int))).bind fun bt294 => (if t263 = 0 then ((gatelineref01_Same.f k t262 (([212, 39, 243, 128] : List Int))).bind fun t301 => (if t301 = true then (if bt266.2 = t263 then ((gatelineref01_Same.f k bt266.1 (([1, 9] : List Int))).bind fun t305 => (if t305 = true then (if bt273.2 = 7 then (if bt280.2 = 4 then (if bt287.2 = 14 then (if bt294.2 = 3 then ((track_Pack.f k (([true, false, true] : List Bool))).bind fun t309 => ((gatelineref01_Same.f k t309 (([160] : List Int))).bind fun t315 => (if t315 = true then ((track_Unpack.f k (([3] : List Int))).bind fun t319 => ((gatelineref11_SameBits.f k t319 (([false, false, false, false, false, false, true, true] : List Bool))).bind fun t325 => (some t325))) else (none)))) else (none)) else (none)) else (none)) else (none)) else (none))) else (none)) else (none))) else (none))))))) = some r := H
  have A1 := Aside0.mk A10
  clear A10
  replace H := Option.bind_eq_some_iff.mp H
  obtain ⟨⟨t266, t267⟩, A20, H⟩ := H
  replace H : ((track_Put.f k (([10] : List Int))).bind fun bt273 => ((track_Get.f k (([0, 0] : List Int))).bind fun bt280 => ((track_Get.f k (([208] : List Int))).bind fun bt287 => ((track_Get.f k (([208, 0, 0] : List Int))).bind fun bt294 => (if t263 = 0 then ((gatelineref01_Same.f k t262 (([212, 39, 243, 128] : List Int))).bind fun t301 => (if t301 = true then (if t267 = t263 then ((gatelineref01_Same.f k t266 (([1, 9] : List Int))).bind fun t305 => (if t305 = true then (if bt273.2 = 7 then (if bt280.2 = 4 then (if bt287.2 = 14 then (if bt294.2 = 3 then ((track_Pack.f k (([true, false, true] : List Bool))).bind fun t309 => ((gatelineref01_Same.f k t309 (([160] : List Int))).bind fun t315 => (if t315 = true then ((track_Unpack.f k (([3] : List Int))).bind fun t319 => ((gatelineref11_SameBits.f k t319 (([false, false, false, false, false, false, true, true] : List Bool))).bind fun t325 => (some t325))) else (none)))) else (none)) else (none)) else (none)) else (none)) else (none))) else (none)) else (none))) else (none)))))) = some r := H
  have A2 := Aside0.mk A20
  clear A20
  obtain ⟨y270, hy270⟩ : ∃ y_ : List Int, y_ = (([10] : List Int)) := ⟨_, rfl⟩
  replace H : ((track_Put.f k y270).bind fun bt273 => ((track_Get.f k (([0, 0] : List Int))).bind fun bt280 => ((track_Get.f k (([208] : List Int))).bind fun bt287 => ((track_Get.f k (([208, 0, 0] : List Int))).bind fun bt294 => (if t263 = 0 then ((gatelineref01_Same.f k t262 (([212, 39, 243, 128] : List Int))).bind fun t301 => (if t301 = true then (if t267 = t263 then ((gatelineref01_Same.f k t266 (([1, 9] : List Int))).bind fun t305 => (if t305 = true then (if bt273.2 = 7 then (if bt280.2 = 4 then (if bt287.2 = 14 then (if bt294.2 = 3 then ((track_Pack.f k (([true, false, true] : List Bool))).bind fun t309 => ((gatelineref01_Same.f k t309 (([160] : List Int))).bind fun t315 => (if t315 = true then ((track_Unpack.f k (([3] : List Int))).bind fun t319 => ((gatelineref11_SameBits.f k t319 (([false, false, false, false, false, false, true, true] : List Bool))).bind fun t325 => (some t325))) else (none)))) else (none)) else (none)) else (none)) else (none)) else (none))) else (none)) else (none))) else (none)))))) = some r := by first | (rw [hy270]; with_reducible exact H) | (have H2_ := (Option.bind_some _ _).symm.trans H; rw [hy270]; with_reducible exact H2_) | (have H2_ := (Option.bind_some _ _).symm.trans H; with_reducible exact H2_) | with_reducible exact H | (rw [hy270]; exact H) | exact H
  have Ny270 := Aside0.mk hy270
  clear hy270
  replace H := Option.bind_eq_some_iff.mp H
  obtain ⟨⟨t273, t274⟩, A30, H⟩ := H
  replace H : ((track_Get.f k (([0, 0] : List Int))).bind fun bt280 => ((track_Get.f k (([208] : List Int))).bind fun bt287 => ((track_Get.f k (([208, 0, 0] : List Int))).bind fun bt294 => (if t263 = 0 then ((gatelineref01_Same.f k t262 (([212, 39, 243, 128] : List Int))).bind fun t301 => (if t301 = true then (if t267 = t263 then ((gatelineref01_Same.f k t266 (([1, 9] : List Int))).bind fun t305 => (if t305 = true then (if t274 = 7 then (if bt280.2 = 4 then (if bt287.2 = 14 then (if bt294.2 = 3 then ((track_Pack.f k (([true, false, true] : List Bool))).bind fun t309 => ((gatelineref01_Same.f k t309 (([160] : List Int))).bind fun t315 => (if t315 = true then ((track_Unpack.f k (([3] : List Int))).bind fun t319 => ((gatelineref11_SameBits.f k t319 (([false, false, false, false, false, false, true, true] : List Bool))).bind fun t325 => (some t325))) else (none)))) else (none)) else (none)) else (none)) else (none)) else (none))) else (none)) else (none))) else (none))))) = some r := H
  have A3 := Aside0.mk A30
  clear A30
  obtain ⟨y277, hy277⟩ : ∃ y_ : List Int, y_ = (([0, 0] : List Int)) := ⟨_, rfl⟩
  replace H : ((track_Get.f k y277).bind fun bt280 => ((track_Get.f k (([208] : List Int))).bind fun bt287 => ((track_Get.f k (([208, 0, 0] : List Int))).bind fun bt294 => (if t263 = 0 then ((gatelineref01_Same.f k t262 (([212, 39, 243, 128] : List Int))).bind fun t301 => (if t301 = true then (if t267 = t263 then ((gatelineref01_Same.f k t266 (([1, 9] : List Int))).bind fun t305 => (if t305 = true then (if t274 = 7 then (if bt280.2 = 4 then (if bt287.2 = 14 then (if bt294.2 = 3 then ((track_Pack.f k (([true, false, true] : List Bool))).bind fun t309 => ((gatelineref01_Same.f k t309 (([160] : List Int))).bind fun t315 => (if t315 = true then ((track_Unpack.f k (([3] : List Int))).bind fun t319 => ((gatelineref11_SameBits.f k t319 (([false, false, false, false, false, false, true, true] : List Bool))).bind fun t325 => (some t325))) else (none)))) else (none)) else (none)) else (none)) else (none)) else (none))) else (none)) else (none))) else (none))))) = some r := by first | (rw [hy277]; with_reducible exact H) | (have H2_ := (Option.bind_some _ _).symm.trans H; rw [hy277]; with_reducible exact H2_) | (have H2_ := (Option.bind_some _ _).symm.trans H; with_reducible exact H2_) | with_reducible exact H | (rw [hy277]; exact H) | exact H
  have Ny277 := Aside0.mk hy277
  clear hy277
  replace H := Option.bind_eq_some_iff.mp H
  obtain ⟨⟨t280, t281⟩, A40, H⟩ := H
  replace H : ((track_Get.f k (([208] : List Int))).bind fun bt287 => ((track_Get.f k (([208, 0, 0] : List Int))).bind fun bt294 => (if t263 = 0 then ((gatelineref01_Same.f k t262 (([212, 39, 243, 128] : List Int))).bind fun t301 => (if t301 = true then (if t267 = t263 then ((gatelineref01_Same.f k t266 (([1, 9] : List Int))).bind fun t305 => (if t305 = true then (if t274 = 7 then (if t281 = 4 then (if bt287.2 = 14 then (if bt294.2 = 3 then ((track_Pack.f k (([true, false, true] : List Bool))).bind fun t309 => ((gatelineref01_Same.f k t309 (([160] : List Int))).bind fun t315 => (if t315 = true then ((track_Unpack.f k (([3] : List Int))).bind fun t319 => ((gatelineref11_SameBits.f k t319 (([false, false, false, false, false, false, true, true] : List Bool))).bind fun t325 => (some t325))) else (none)))) else (none)) else (none)) else (none)) else (none)) else (none))) else (none)) else (none))) else (none)))) = some r := H
  have A4 := Aside0.mk A40
  clear A40
  obtain ⟨y284, hy284⟩ : ∃ y_ : List Int, y_ = (([208] : List Int)) := ⟨_, rfl⟩
  replace H : ((track_Get.f k y284).bind fun bt287 => ((track_Get.f k (([208, 0, 0] : List Int))).bind fun bt294 => (if t263 = 0 then ((gatelineref01_Same.f k t262 (([212, 39, 243, 128] : List Int))).bind fun t301 => (if t301 = true then (if t267 = t263 then ((gatelineref01_Same.f k t266 (([1, 9] : List Int))).bind fun t305 => (if t305 = true then (if t274 = 7 then (if t281 = 4 then (if bt287.2 = 14 then (if bt294.2 = 3 then ((track_Pack.f k (([true, false, true] : List Bool))).bind fun t309 => ((gatelineref01_Same.f k t309 (([160] : List Int))).bind fun t315 => (if t315 = true then ((track_Unpack.f k (([3] : List Int))).bind fun t319 => ((gatelineref11_SameBits.f k t319 (([false, false, false, false, false, false, true, true] : List Bool))).bind fun t325 => (some t325))) else (none)))) else (none)) else (none)) else (none)) else (none)) else (none))) else (none)) else (none))) else (none)))) = some r := by first | (rw [hy284]; with_reducible exact H) | (have H2_ := (Option.bind_some _ _).symm.trans H; rw [hy284]; with_reducible exact H2_) | (have H2_ := (Option.bind_some _ _).symm.trans H; with_reducible exact H2_) | with_reducible exact H | (rw [hy284]; exact H) | exact H
  have Ny284 := Aside0.mk hy284
  clear hy284
  replace H := Option.bind_eq_some_iff.mp H
  obtain ⟨⟨t287, t288⟩, A50, H⟩ := H
  replace H : ((track_Get.f k (([208, 0, 0] : List Int))).bind fun bt294 => (if t263 = 0 then ((gatelineref01_Same.f k t262 (([212, 39, 243, 128] : List Int))).bind fun t301 => (if t301 = true then (if t267 = t263 then ((gatelineref01_Same.f k t266 (([1, 9] : List Int))).bind fun t305 => (if t305 = true then (if t274 = 7 then (if t281 = 4 then (if t288 = 14 then (if bt294.2 = 3 then ((track_Pack.f k (([true, false, true] : List Bool))).bind fun t309 => ((gatelineref01_Same.f k t309 (([160] : List Int))).bind fun t315 => (if t315 = true then ((track_Unpack.f k (([3] : List Int))).bind fun t319 => ((gatelineref11_SameBits.f k t319 (([false, false, false, false, false, false, true, true] : List Bool))).bind fun t325 => (some t325))) else (none)))) else (none)) else (none)) else (none)) else (none)) else (none))) else (none)) else (none))) else (none))) = some r := H
  have A5 := Aside0.mk A50
  clear A50
  obtain ⟨y291, hy291⟩ : ∃ y_ : List Int, y_ = (([208, 0, 0] : List Int)) := ⟨_, rfl⟩
  replace H : ((track_Get.f k y291).bind fun bt294 => (if t263 = 0 then ((gatelineref01_Same.f k t262 (([212, 39, 243, 128] : List Int))).bind fun t301 => (if t301 = true then (if t267 = t263 then ((gatelineref01_Same.f k t266 (([1, 9] : List Int))).bind fun t305 => (if t305 = true then (if t274 = 7 then (if t281 = 4 then (if t288 = 14 then (if bt294.2 = 3 then ((track_Pack.f k (([true, false, true] : List Bool))).bind fun t309 => ((gatelineref01_Same.f k t309 (([160] : List Int))).bind fun t315 => (if t315 = true then ((track_Unpack.f k (([3] : List Int))).bind fun t319 => ((gatelineref11_SameBits.f k t319 (([false, false, false, false, false, false, true, true] : List Bool))).bind fun t325 => (some t325))) else (none)))) else (none)) else (none)) else (none)) else (none)) else (none))) else (none)) else (none))) else (none))) = some r := by first | (rw [hy291]; with_reducible exact H) | (have H2_ := (Option.bind_some _ _).symm.trans H; rw [hy291]; with_reducible exact H2_) | (have H2_ := (Option.bind_some _ _).symm.trans H; with_reducible exact H2_) | with_reducible exact H | (rw [hy291]; exact H) | exact H
  have Ny291 := Aside0.mk hy291
  clear hy291
  replace H := Option.bind_eq_some_iff.mp H
  obtain ⟨⟨t294, t295⟩, A60, H⟩ := H
  replace H : (if t263 = 0 then ((gatelineref01_Same.f k t262 (([212, 39, 243, 128] : List Int))).bind fun t301 => (if t301 = true then (if t267 = t263 then ((gatelineref01_Same.f k t266 (([1, 9] : List Int))).bind fun t305 => (if t305 = true then (if t274 = 7 then (if t281 = 4 then (if t288 = 14 then (if t295 = 3 then ((track_Pack.f k (([true, false, true] : List Bool))).bind fun t309 => ((gatelineref01_Same.f k t309 (([160] : List Int))).bind fun t315 => (if t315 = true then ((track_Unpack.f k (([3] : List Int))).bind fun t319 => ((gatelineref11_SameBits.f k t319 (([false, false, false, false, false, false, true, true] : List Bool))).bind fun t325 => (some t325))) else (none)))) else (none)) else (none)) else (none)) else (none)) else (none))) else (none)) else (none))) else (none)) = some r := H
  have A6 := Aside0.mk A60
  clear A60
  by_cases c7 : t263 = 0
  · rw [if_pos c7] at H
    have c7b0 : (t263 == 0) = true := beq_iff_eq.mpr c7
    have c7b1 : (t263 != 0) = false := bne_eq_false_iff_eq.mpr c7
    clear c7
    obtain ⟨y298, hy298⟩ : ∃ y_ : List Int, y_ = (([212, 39, 243, 128] : List Int)) := ⟨_, rfl⟩
    replace H : ((gatelineref01_Same.f k t262 y298).bind fun t301 => (if t301 = true then (if t267 = t263 then ((gatelineref01_Same.f k t266 (([1, 9] : List Int))).bind fun t305 => (if t305 = true then (if t274 = 7 then (if t281 = 4 then (if t288 = 14 then (if t295 = 3 then ((track_Pack.f k (([true, false, true] : List Bool))).bind fun t309 => ((gatelineref01_Same.f k t309 (([160] : List Int))).bind fun t315 => (if t315 = true then ((track_Unpack.f k (([3] : List Int))).bind fun t319 => ((gatelineref11_SameBits.f k t319 (([false, false, false, false, false, false, true, true] : List Bool))).bind fun t325 => (some t325))) else (none)))) else (none)) else (none)) else (none)) else (none)) else (none))) else (none)) else (none))) = some r := by first | (rw [hy298]; with_reducible exact H) | (have H2_ := (Option.bind_some _ _).symm.trans H; rw [hy298]; with_reducible exact H2_) | (have H2_ := (Option.bind_some _ _).symm.trans H; with_reducible exact H2_) | with_reducible exact H | (rw [hy298]; exact H) | exact H
    have Ny298 := Aside0.mk hy298
    clear hy298
    replace H := Option.bind_eq_some_iff.mp H
    obtain ⟨t301, A80, H⟩ := H
    replace H : (if t301 = true then (if t267 = t263 then ((gatelineref01_Same.f k t266 (([1, 9] : List Int))).bind fun t305 => (if t305 = true then (if t274 = 7 then (if t281 = 4 then (if t288 = 14 then (if t295 = 3 then ((track_Pack.f k (([true, false, true] : List Bool))).bind fun t309 => ((gatelineref01_Same.f k t309 (([160] : List Int))).bind fun t315 => (if t315 = true then ((track_Unpack.f k (([3] : List Int))).bind fun t319 => ((gatelineref11_SameBits.f k t319 (([false, false, false, false, false, false, true, true] : List Bool))).bind fun t325 => (some t325))) else (none)))) else (none)) else (none)) else (none)) else (none)) else (none))) else (none)) else (none)) = some r := H
    have A8 := Aside0.mk A80
    clear A80
    by_cases c9 : t301 = true
    · subst c9
      have H1 : (if t267 = t263 then ((gatelineref01_Same.f k t266 (([1, 9] : List Int))).bind fun t305 => (if t305 = true then (if t274 = 7 then (if t281 = 4 then (if t288 = 14 then (if t295 = 3 then ((track_Pack.f k (([true, false, true] : List Bool))).bind fun t309 => ((gatelineref01_Same.f k t309 (([160] : List Int))).bind fun t315 => (if t315 = true then ((track_Unpack.f k (([3] : List Int))).bind fun t319 => ((gatelineref11_SameBits.f k t319 (([false, false, false, false, false, false, true, true] : List Bool))).bind fun t325 => (some t325))) else (none)))) else (none)) else (none)) else (none)) else (none)) else (none))) else (none)) = some r := by rw [if_pos rfl] at H; exact H
      clear H
      have H := H1
      clear H1
      by_cases c10 : t267 = t263
      · rw [if_pos c10] at H
        have c10b0 : (t267 == t263) = true := beq_iff_eq.mpr c10
        have c10b1 : (t267 != t263) = false := bne_eq_false_iff_eq.mpr c10
        clear c10
        obtain ⟨y302, hy302⟩ : ∃ y_ : List Int, y_ = (([1, 9] : List Int)) := ⟨_, rfl⟩
        replace H : ((gatelineref01_Same.f k t266 y302).bind fun t305 => (if t305 = true then (if t274 = 7 then (if t281 = 4 then (if t288 = 14 then (if t295 = 3 then ((track_Pack.f k (([true, false, true] : List Bool))).bind fun t309 => ((gatelineref01_Same.f k t309 (([160] : List Int))).bind fun t315 => (if t315 = true then ((track_Unpack.f k (([3] : List Int))).bind fun t319 => ((gatelineref11_SameBits.f k t319 (([false, false, false, false, false, false, true, true] : List Bool))).bind fun t325 => (some t325))) else (none)))) else (none)) else (none)) else (none)) else (none)) else (none))) = some r := by first | (rw [hy302]; with_reducible exact H) | (have H2_ := (Option.bind_some _ _).symm.trans H; rw [hy302]; with_reducible exact H2_) | (have H2_ := (Option.bind_some _ _).symm.trans H; with_reducible exact H2_) | with_reducible exact H | (rw [hy302]; exact H) | exact H
        have Ny302 := Aside0.mk hy302
        clear hy302
        replace H := Option.bind_eq_some_iff.mp H
        obtain ⟨t305, A110, H⟩ := H
        replace H : (if t305 = true then (if t274 = 7 then (if t281 = 4 then (if t288 = 14 then (if t295 = 3 then ((track_Pack.f k (([true, false, true] : List Bool))).bind fun t309 => ((gatelineref01_Same.f k t309 (([160] : List Int))).bind fun t315 => (if t315 = true then ((track_Unpack.f k (([3] : List Int))).bind fun t319 => ((gatelineref11_SameBits.f k t319 (([false, false, false, false, false, false, true, true] : List Bool))).bind fun t325 => (some t325))) else (none)))) else (none)) else (none)) else (none)) else (none)) else (none)) = some r := H
        have A11 := Aside0.mk A110
        clear A110
        by_cases c12 : t305 = true
        · subst c12
          have H1 : (if t274 = 7 then (if t281 = 4 then (if t288 = 14 then (if t295 = 3 then ((track_Pack.f k (([true, false, true] : List Bool))).bind fun t309 => ((gatelineref01_Same.f k t309 (([160] : List Int))).bind fun t315 => (if t315 = true then ((track_Unpack.f k (([3] : List Int))).bind fun t319 => ((gatelineref11_SameBits.f k t319 (([false, false, false, false, false, false, true, true] : List Bool))).bind fun t325 => (some t325))) else (none)))) else (none)) else (none)) else (none)) else (none)) = some r := by rw [if_pos rfl] at H; exact H
          clear H
          have H := H1
          clear H1
          by_cases c13 : t274 = 7
          · rw [if_pos c13] at H
            have c13b0 : (t274 == 7) = true := beq_iff_eq.mpr c13
            have c13b1 : (t274 != 7) = false := bne_eq_false_iff_eq.mpr c13
            clear c13
            by_cases c14 : t281 = 4
            · rw [if_pos c14] at H
              have c14b0 : (t281 == 4) = true := beq_iff_eq.mpr c14
              have c14b1 : (t281 != 4) = false := bne_eq_false_iff_eq.mpr c14
              clear c14
              by_cases c15 : t288 = 14
              · rw [if_pos c15] at H
                have c15b0 : (t288 == 14) = true := beq_iff_eq.mpr c15
                have c15b1 : (t288 != 14) = false := bne_eq_false_iff_eq.mpr c15
                clear c15
                by_cases c16 : t295 = 3
                · rw [if_pos c16] at H
                  have c16b0 : (t295 == 3) = true := beq_iff_eq.mpr c16
                  have c16b1 : (t295 != 3) = false := bne_eq_false_iff_eq.mpr c16
                  clear c16
                  obtain ⟨y306, hy306⟩ : ∃ y_ : List Bool, y_ = (([true, false, true] : List Bool)) := ⟨_, rfl⟩
                  replace H : ((track_Pack.f k y306).bind fun t309 => ((gatelineref01_Same.f k t309 (([160] : List Int))).bind fun t315 => (if t315 = true then ((track_Unpack.f k (([3] : List Int))).bind fun t319 => ((gatelineref11_SameBits.f k t319 (([false, false, false, false, false, false, true, true] : List Bool))).bind fun t325 => (some t325))) else (none)))) = some r := by first | (rw [hy306]; with_reducible exact H) | (have H2_ := (Option.bind_some _ _).symm.trans H; rw [hy306]; with_reducible exact H2_) | (have H2_ := (Option.bind_some _ _).symm.trans H; with_reducible exact H2_) | with_reducible exact H | (rw [hy306]; exact H) | exact H
                  have Ny306 := Aside0.mk hy306
                  clear hy306
                  replace H := Option.bind_eq_some_iff.mp H
                  obtain ⟨t309, A170, H⟩ := H
                  replace H : ((gatelineref01_Same.f k t309 (([160] : List Int))).bind fun t315 => (if t315 = true then ((track_Unpack.f k (([3] : List Int))).bind fun t319 => ((gatelineref11_SameBits.f k t319 (([false, false, false, false, false, false, true, true] : List Bool))).bind fun t325 => (some t325))) else (none))) = some r := H
                  have A17 := Aside0.mk A170
                  clear A170
                  obtain ⟨y312, hy312⟩ : ∃ y_ : List Int, y_ = (([160] : List Int)) := ⟨_, rfl⟩
                  replace H : ((gatelineref01_Same.f k t309 y312).bind fun t315 => (if t315 = true then ((track_Unpack.f k (([3] : List Int))).bind fun t319 => ((gatelineref11_SameBits.f k t319 (([false, false, false, false, false, false, true, true] : List Bool))).bind fun t325 => (some t325))) else (none))) = some r := by first | (rw [hy312]; with_reducible exact H) | (have H2_ := (Option.bind_some _ _).symm.trans H; rw [hy312]; with_reducible exact H2_) | (have H2_ := (Option.bind_some _ _).symm.trans H; with_reducible exact H2_) | with_reducible exact H | (rw [hy312]; exact H) | exact H
                  have Ny312 := Aside0.mk hy312
                  clear hy312
                  replace H := Option.bind_eq_some_iff.mp H
                  obtain ⟨t315, A180, H⟩ := H
                  replace H : (if t315 = true then ((track_Unpack.f k (([3] : List Int))).bind fun t319 => ((gatelineref11_SameBits.f k t319 (([false, false, false, false, false, false, true, true] : List Bool))).bind fun t325 => (some t325))) else (none)) = some r := H
                  have A18 := Aside0.mk A180
                  clear A180
                  by_cases c19 : t315 = true
                  · subst c19
                    have H1 : ((track_Unpack.f k (([3] : List Int))).bind fun t319 => ((gatelineref11_SameBits.f k t319 (([false, false, false, false, false, false, true, true] : List Bool))).bind fun t325 => (some t325))) = some r := by rw [if_pos rfl] at H; exact H
                    clear H
                    have H := H1
                    clear H1
                    obtain ⟨y316, hy316⟩ : ∃ y_ : List Int, y_ = (([3] : List Int)) := ⟨_, rfl⟩
                    replace H : ((track_Unpack.f k y316).bind fun t319 => ((gatelineref11_SameBits.f k t319 (([false, false, false, false, false, false, true, true] : List Bool))).bind fun t325 => (some t325))) = some r := by first | (rw [hy316]; with_reducible exact H) | (have H2_ := (Option.bind_some _ _).symm.trans H; rw [hy316]; with_reducible exact H2_) | (have H2_ := (Option.bind_some _ _).symm.trans H; with_reducible exact H2_) | with_reducible exact H | (rw [hy316]; exact H) | exact H
                    have Ny316 := Aside0.mk hy316
                    clear hy316
                    replace H := Option.bind_eq_some_iff.mp H
                    obtain ⟨t319, A200, H⟩ := H
                    replace H : ((gatelineref11_SameBits.f k t319 (([false, false, false, false, false, false, true, true] : List Bool))).bind fun t325 => (some t325)) = some r := H
                    have A20 := Aside0.mk A200
                    clear A200
                    obtain ⟨y322, hy322⟩ : ∃ y_ : List Bool, y_ = (([false, false, false, false, false, false, true, true] : List Bool)) := ⟨_, rfl⟩
                    replace H : ((gatelineref11_SameBits.f k t319 y322).bind fun t325 => (some t325)) = some r := by first | (rw [hy322]; with_reducible exact H) | (have H2_ := (Option.bind_some _ _).symm.trans H; rw [hy322]; with_reducible exact H2_) | (have H2_ := (Option.bind_some _ _).symm.trans H; with_reducible exact H2_) | with_reducible exact H | (rw [hy322]; exact H) | exact H
                    have Ny322 := Aside0.mk hy322
                    clear hy322
                    replace H := Option.bind_eq_some_iff.mp H
                    obtain ⟨t325, A210, H⟩ := H
                    replace H : (some t325) = some r := H
                    have A21 := Aside0.mk A210
                    clear A210
                    obtain rfl := Option.some.inj H
                    go_enter Try.func34, Try.ntmps34
                    go_wp2_with (first | ((with_reducible refine gate_dst (N := 14) rfl ?_); (try (refine gate_guard (by rfl) ?_; dsimp only)); refine Kd.R_lit (Kd.int .u8) _ 5 ?hg (N := 14) ?hd (xs := ([1, 9] : List Int)) (inner := [.int .u8 1, .int .u8 9]) (ok := fun _ => True) (okp := fun _ => True) ?hr ?hp (fun _ hk => hk) trivial (Below.refl _ _) (Nat.le_refl _) (by simp) ?_; (case hd => rfl); (case hg => rfl); (case hr => first | (go_simp; done) | (go_simp; rfl)); (case hp => exact (Reps.one (show Kd.M (Kd.int .u8) _ _ _ 1 [.int .u8 1] from rfl) (Reps.one (show Kd.M (Kd.int .u8) _ _ _ 9 [.int .u8 9] from rfl) (Reps.none _ _)))); intro v260 w22 ho23 hb hg_ hnew_; clear hg_ hnew_; (first | rw [← Ny259.out] at ho23 | (simp only [Int.reduceToNat] at ho23; rw [← Ny259.out] at ho23)); have n0_ := Aside0.mk (Kd.R_lower ho23 (below_size (by repeat (first | (with_reducible first | exact HB.out | apply below_alloc | apply pw_below_drewN | apply below_drew1) | exact HB.out)))); have n1_ := Aside0.mk (below_step (by repeat (first | (with_reducible first | exact HB.out | apply below_alloc | apply pw_below_drewN | apply below_drew1) | exact HB.out)) hb); clear HB; have HO261 := n0_; have HB := n1_; clear n0_ n1_; clear hb ho23; obtain ⟨Ao24, co24, eo24⟩ := Kd.R_slice HO261.out; subst eo24) | ((with_reducible refine gate_callee (f := 17) rfl ?_); refine goesL_ (some 15) rfl rfl Try.func17 (by kernel_rfl) rfl #[.slice Ao24 y259.length co24] rfl (by (try simp only [List.map_toArray, List.map_cons, List.map_nil]); first | done | rfl | (simp only [List.length_drop, List.length_take]; rfl)) ?_; (with_reducible refine (track_Put.calls k _ _ y259 t262 t263 _ ?side1 ?side2 A1.out).mono ?_); (case side1 => repeat (first | exact (Kd.R_reads' HO261.out).2.2 | (with_reducible refine Kd.C_alloc ?_ _) | (with_reducible refine Kd.C_drewN ?_ _) | (with_reducible refine Kd.C_drew ?_))); (case side2 => exact (Kd.R_reads' HO261.out).2.1); rintro e w25 ⟨v264, rfl, ho0, hb⟩; refine ⟨_, rfl, ?_⟩; have n0_ := Aside0.mk (Kd.R_elder' (by (with_reducible repeat (first | apply Kd.R_alloc | apply Kd.R_drewN | apply Kd.R_drew)); exact HO261.out) (Kd.R_base ho0) hb); have n1_ := Aside0.mk (Kd.R_lower (Kd.R_new' ho0 (Kd.R_lt (by (with_reducible repeat (first | apply Kd.R_alloc | apply Kd.R_drewN | apply Kd.R_drew)); exact HO261.out))) (below_size (by repeat (first | (with_reducible first | exact HB.out | apply below_alloc | apply pw_below_drewN | apply below_drew1) | exact HB.out)))); have n2_ := Aside0.mk (below_step (by repeat (first | (with_reducible first | exact HB.out | apply below_alloc | apply pw_below_drewN | apply below_drew1) | exact HB.out)) hb); clear HO261; clear HB; have HO261 := n0_; have HO265 := n1_; have HB := n2_; clear n0_ n1_ n2_; (try clear hb); (try clear hb2); (try clear hk); (try clear hi); (try clear ho0); obtain ⟨Ao26, co26, eo26⟩ := Kd.R_slice HO265.out; subst eo26) | ((with_reducible refine gate_callee (f := 22) rfl ?_); refine goesL_ (some 20) rfl rfl Try.func22 (by kernel_rfl) rfl #[.slice Ao26 t262.length co26] rfl (by (try simp only [List.map_toArray, List.map_cons, List.map_nil]); first | done | rfl | (simp only [List.length_drop, List.length_take]; rfl)) ?_; (with_reducible refine (track_Get.calls k _ _ t262 t266 t267 _ ?side1 ?side2 A2.out).mono ?_); (case side1 => repeat (first | exact (Kd.R_reads' HO265.out).2.2 | (with_reducible refine Kd.C_alloc ?_ _) | (with_reducible refine Kd.C_drewN ?_ _) | (with_reducible refine Kd.C_drew ?_))); (case side2 => exact (Kd.R_reads' HO265.out).2.1); rintro e w27 ⟨v268, rfl, ho0, hb⟩; refine ⟨_, rfl, ?_⟩; have n0_ := Aside0.mk (Kd.R_elder' (by (with_reducible repeat (first | apply Kd.R_alloc | apply Kd.R_drewN | apply Kd.R_drew)); exact HO261.out) (Kd.R_base ho0) hb); have n1_ := Aside0.mk (Kd.R_elder' (by (with_reducible repeat (first | apply Kd.R_alloc | apply Kd.R_drewN | apply Kd.R_drew)); exact HO265.out) (Kd.R_base ho0) hb); have n2_ := Aside0.mk (Kd.R_lower (Kd.R_new' (Kd.R_new' ho0 (Kd.R_lt (by (with_reducible repeat (first | apply Kd.R_alloc | apply Kd.R_drewN | apply Kd.R_drew)); exact HO261.out))) (Kd.R_lt (by (with_reducible repeat (first | apply Kd.R_alloc | apply Kd.R_drewN | apply Kd.R_drew)); exact HO265.out))) (below_size (by repeat (first | (with_reducible first | exact HB.out | apply below_alloc | apply pw_below_drewN | apply below_drew1) | exact HB.out)))); have n3_ := Aside0.mk (below_step (by repeat (first | (with_reducible first | exact HB.out | apply below_alloc | apply pw_below_drewN | apply below_drew1) | exact HB.out)) hb); clear HO261; clear HO265; clear HB; have HO261 := n0_; have HO265 := n1_; have HO269 := n2_; have HB := n3_; clear n0_ n1_ n2_ n3_; (try clear hb); (try clear hb2); (try clear hk); (try clear hi); (try clear ho0)) | ((with_reducible refine gate_dst (N := 24) rfl ?_); (try (refine gate_guard (by rfl) ?_; dsimp only)); refine Kd.R_lit (Kd.int .u8) _ 5 ?hg (N := 24) ?hd (xs := ([10] : List Int)) (inner := [.int .u8 10]) (ok := fun _ => True) (okp := fun _ => True) ?hr ?hp (fun _ hk => hk) trivial (Below.refl _ _) (Nat.le_refl _) (by simp) ?_; (case hd => rfl); (case hg => rfl); (case hr => first | (go_simp; done) | (go_simp; rfl)); (case hp => exact (Reps.one (show Kd.M (Kd.int .u8) _ _ _ 10 [.int .u8 10] from rfl) (Reps.none _ _))); intro v271 w28 ho29 hb hg_ hnew_; clear hg_ hnew_; (first | rw [← Ny270.out] at ho29 | (simp only [Int.reduceToNat] at ho29; rw [← Ny270.out] at ho29)); have n0_ := Aside0.mk (Kd.R_elder' (by (with_reducible repeat (first | apply Kd.R_alloc | apply Kd.R_drewN | apply Kd.R_drew)); exact HO261.out) (Kd.R_base ho29) hb); have n1_ := Aside0.mk (Kd.R_elder' (by (with_reducible repeat (first | apply Kd.R_alloc | apply Kd.R_drewN | apply Kd.R_drew)); exact HO265.out) (Kd.R_base ho29) hb); have n2_ := Aside0.mk (Kd.R_elder' (by (with_reducible repeat (first | apply Kd.R_alloc | apply Kd.R_drewN | apply Kd.R_drew)); exact HO269.out) (Kd.R_base ho29) hb); have n3_ := Aside0.mk (Kd.R_lower (Kd.R_new' (Kd.R_new' (Kd.R_new' ho29 (Kd.R_lt (by (with_reducible repeat (first | apply Kd.R_alloc | apply Kd.R_drewN | apply Kd.R_drew)); exact HO261.out))) (Kd.R_lt (by (with_reducible repeat (first | apply Kd.R_alloc | apply Kd.R_drewN | apply Kd.R_drew)); exact HO265.out))) (Kd.R_lt (by (with_reducible repeat (first | apply Kd.R_alloc | apply Kd.R_drewN | apply Kd.R_drew)); exact HO269.out))) (below_size (by repeat (first | (with_reducible first | exact HB.out | apply below_alloc | apply pw_below_drewN | apply below_drew1) | exact HB.out)))); have n4_ := Aside0.mk (below_step (by repeat (first | (with_reducible first | exact HB.out | apply below_alloc | apply pw_below_drewN | apply below_drew1) | exact HB.out)) hb); clear HO261; clear HO265; clear HO269; clear HB; have HO261 := n0_; have HO265 := n1_; have HO269 := n2_; have HO272 := n3_; have HB := n4_; clear n0_ n1_ n2_ n3_ n4_; clear hb ho29; obtain ⟨Ao30, co30, eo30⟩ := Kd.R_slice HO272.out; subst eo30) | ((with_reducible refine gate_callee (f := 17) rfl ?_); refine goesL_ (some 25) rfl rfl Try.func17 (by kernel_rfl) rfl #[.slice Ao30 y270.length co30] rfl (by (try simp only [List.map_toArray, List.map_cons, List.map_nil]); first | done | rfl | (simp only [List.length_drop, List.length_take]; rfl)) ?_; (with_reducible refine (track_Put.calls k _ _ y270 t273 t274 _ ?side1 ?side2 A3.out).mono ?_); (case side1 => repeat (first | exact (Kd.R_reads' HO272.out).2.2 | (with_reducible refine Kd.C_alloc ?_ _) | (with_reducible refine Kd.C_drewN ?_ _) | (with_reducible refine Kd.C_drew ?_))); (case side2 => exact (Kd.R_reads' HO272.out).2.1); rintro e w31 ⟨v275, rfl, ho0, hb⟩; refine ⟨_, rfl, ?_⟩; have n0_ := Aside0.mk (Kd.R_elder' (by (with_reducible repeat (first | apply Kd.R_alloc | apply Kd.R_drewN | apply Kd.R_drew)); exact HO261.out) (Kd.R_base ho0) hb); have n1_ := Aside0.mk (Kd.R_elder' (by (with_reducible repeat (first | apply Kd.R_alloc | apply Kd.R_drewN | apply Kd.R_drew)); exact HO265.out) (Kd.R_base ho0) hb); have n2_ := Aside0.mk (Kd.R_elder' (by (with_reducible repeat (first | apply Kd.R_alloc | apply Kd.R_drewN | apply Kd.R_drew)); exact HO269.out) (Kd.R_base ho0) hb); have n3_ := Aside0.mk (Kd.R_elder' (by (with_reducible repeat (first | apply Kd.R_alloc | apply Kd.R_drewN | apply Kd.R_drew)); exact HO272.out) (Kd.R_base ho0) hb); have n4_ := Aside0.mk (Kd.R_lower (Kd.R_new' (Kd.R_new' (Kd.R_new' (Kd.R_new' ho0 (Kd.R_lt (by (with_reducible repeat (first | apply Kd.R_alloc | apply Kd.R_drewN | apply Kd.R_drew)); exact HO261.out))) (Kd.R_lt (by (with_reducible repeat (first | apply Kd.R_alloc | apply Kd.R_drewN | apply Kd.R_drew)); exact HO265.out))) (Kd.R_lt (by (with_reducible repeat (first | apply Kd.R_alloc | apply Kd.R_drewN | apply Kd.R_drew)); exact HO269.out))) (Kd.R_lt (by (with_reducible repeat (first | apply Kd.R_alloc | apply Kd.R_drewN | apply Kd.R_drew)); exact HO272.out))) (below_size (by repeat (first | (with_reducible first | exact HB.out | apply below_alloc | apply pw_below_drewN | apply below_drew1) | exact HB.out)))); have n5_ := Aside0.mk (below_step (by repeat (first | (with_reducible first | exact HB.out | apply below_alloc | apply pw_below_drewN | apply below_drew1) | exact HB.out)) hb); clear HO261; clear HO265; clear HO269; clear HO272; clear HB; have HO261 := n0_; have HO265 := n1_; have HO269 := n2_; have HO272 := n3_; have HO276 := n4_; have HB := n5_; clear n0_ n1_ n2_ n3_ n4_ n5_; (try clear hb); (try clear hb2); (try clear hk); (try clear hi); (try clear ho0)) | ((with_reducible refine gate_dst (N := 29) rfl ?_); (try (refine gate_guard (by rfl) ?_; dsimp only)); refine Kd.R_lit (Kd.int .u8) _ 5 ?hg (N := 29) ?hd (xs := ([0, 0] : List Int)) (inner := [.int .u8 0, .int .u8 0]) (ok := fun _ => True) (okp := fun _ => True) ?hr ?hp (fun _ hk => hk) trivial (Below.refl _ _) (Nat.le_refl _) (by simp) ?_; (case hd => rfl); (case hg => rfl); (case hr => first | (go_simp; done) | (go_simp; rfl)); (case hp => exact (Reps.one (show Kd.M (Kd.int .u8) _ _ _ 0 [.int .u8 0] from rfl) (Reps.one (show Kd.M (Kd.int .u8) _ _ _ 0 [.int .u8 0] from rfl) (Reps.none _ _)))); intro v278 w32 ho33 hb hg_ hnew_; clear hg_ hnew_; (first | rw [← Ny277.out] at ho33 | (simp only [Int.reduceToNat] at ho33; rw [← Ny277.out] at ho33)); have n0_ := Aside0.mk (Kd.R_elder' (by (with_reducible repeat (first | apply Kd.R_alloc | apply Kd.R_drewN | apply Kd.R_drew)); exact HO261.out) (Kd.R_base ho33) hb); have n1_ := Aside0.mk (Kd.R_elder' (by (with_reducible repeat (first | apply Kd.R_alloc | apply Kd.R_drewN | apply Kd.R_drew)); exact HO265.out) (Kd.R_base ho33) hb); have n2_ := Aside0.mk (Kd.R_elder' (by (with_reducible repeat (first | apply Kd.R_alloc | apply Kd.R_drewN | apply Kd.R_drew)); exact HO269.out) (Kd.R_base ho33) hb); have n3_ := Aside0.mk (Kd.R_elder' (by (with_reducible repeat (first | apply Kd.R_alloc | apply Kd.R_drewN | apply Kd.R_drew)); exact HO272.out) (Kd.R_base ho33) hb); have n4_ := Aside0.mk (Kd.R_elder' (by (with_reducible repeat (first | apply Kd.R_alloc | apply Kd.R_drewN | apply Kd.R_drew)); exact HO276.out) (Kd.R_base ho33) hb); have n5_ := Aside0.mk (Kd.R_lower (Kd.R_new' (Kd.R_new' (Kd.R_new' (Kd.R_new' (Kd.R_new' ho33 (Kd.R_lt (by (with_reducible repeat (first | apply Kd.R_alloc | apply Kd.R_drewN | apply Kd.R_drew)); exact HO261.out))) (Kd.R_lt (by (with_reducible repeat (first | apply Kd.R_alloc | apply Kd.R_drewN | apply Kd.R_drew)); exact HO265.out))) (Kd.R_lt (by (with_reducible repeat (first | apply Kd.R_alloc | apply Kd.R_drewN | apply Kd.R_drew)); exact HO269.out))) (Kd.R_lt (by (with_reducible repeat (first | apply Kd.R_alloc | apply Kd.R_drewN | apply Kd.R_drew)); exact HO272.out))) (Kd.R_lt (by (with_reducible repeat (first | apply Kd.R_alloc | apply Kd.R_drewN | apply Kd.R_drew)); exact HO276.out))) (below_size (by repeat (first | (with_reducible first | exact HB.out | apply below_alloc | apply pw_below_drewN | apply below_drew1) | exact HB.out)))); have n6_ := Aside0.mk (below_step (by repeat (first | (with_reducible first | exact HB.out | apply below_alloc | apply pw_below_drewN | apply below_drew1) | exact HB.out)) hb); clear HO261; clear HO265; clear HO269; clear HO272; clear HO276; clear HB; have HO261 := n0_; have HO265 := n1_; have HO269 := n2_; have HO272 := n3_; have HO276 := n4_; have HO279 := n5_; have HB := n6_; clear n0_ n1_ n2_ n3_ n4_ n5_ n6_; clear hb ho33; obtain ⟨Ao34, co34, eo34⟩ := Kd.R_slice HO279.out; subst eo34) | ((with_reducible refine gate_callee (f := 22) rfl ?_); refine goesL_ (some 30) rfl rfl Try.func22 (by kernel_rfl) rfl #[.slice Ao34 y277.length co34] rfl (by (try simp only [List.map_toArray, List.map_cons, List.map_nil]); first | done | rfl | (simp only [List.length_drop, List.length_take]; rfl)) ?_; (with_reducible refine (track_Get.calls k _ _ y277 t280 t281 _ ?side1 ?side2 A4.out).mono ?_); (case side1 => repeat (first | exact (Kd.R_reads' HO279.out).2.2 | (with_reducible refine Kd.C_alloc ?_ _) | (with_reducible refine Kd.C_drewN ?_ _) | (with_reducible refine Kd.C_drew ?_))); (case side2 => exact (Kd.R_reads' HO279.out).2.1); rintro e w35 ⟨v282, rfl, ho0, hb⟩; refine ⟨_, rfl, ?_⟩; have n0_ := Aside0.mk (Kd.R_elder' (by (with_reducible repeat (first | apply Kd.R_alloc | apply Kd.R_drewN | apply Kd.R_drew)); exact HO261.out) (Kd.R_base ho0) hb); have n1_ := Aside0.mk (Kd.R_elder' (by (with_reducible repeat (first | apply Kd.R_alloc | apply Kd.R_drewN | apply Kd.R_drew)); exact HO265.out) (Kd.R_base ho0) hb); have n2_ := Aside0.mk (Kd.R_elder' (by (with_reducible repeat (first | apply Kd.R_alloc | apply Kd.R_drewN | apply Kd.R_drew)); exact HO269.out) (Kd.R_base ho0) hb); have n3_ := Aside0.mk (Kd.R_elder' (by (with_reducible repeat (first | apply Kd.R_alloc | apply Kd.R_drewN | apply Kd.R_drew)); exact HO272.out) (Kd.R_base ho0) hb); have n4_ := Aside0.mk (Kd.R_elder' (by (with_reducible repeat (first | apply Kd.R_alloc | apply Kd.R_drewN | apply Kd.R_drew)); exact HO276.out) (Kd.R_base ho0) hb); have n5_ := Aside0.mk (Kd.R_elder' (by (with_reducible repeat (first | apply Kd.R_alloc | apply Kd.R_drewN | apply Kd.R_drew)); exact HO279.out) (Kd.R_base ho0) hb); have n6_ := Aside0.mk (Kd.R_lower (Kd.R_new' (Kd.R_new' (Kd.R_new' (Kd.R_new' (Kd.R_new' (Kd.R_new' ho0 (Kd.R_lt (by (with_reducible repeat (first | apply Kd.R_alloc | apply Kd.R_drewN | apply Kd.R_drew)); exact HO261.out))) (Kd.R_lt (by (with_reducible repeat (first | apply Kd.R_alloc | apply Kd.R_drewN | apply Kd.R_drew)); exact HO265.out))) (Kd.R_lt (by (with_reducible repeat (first | apply Kd.R_alloc | apply Kd.R_drewN | apply Kd.R_drew)); exact HO269.out))) (Kd.R_lt (by (with_reducible repeat (first | apply Kd.R_alloc | apply Kd.R_drewN | apply Kd.R_drew)); exact HO272.out))) (Kd.R_lt (by (with_reducible repeat (first | apply Kd.R_alloc | apply Kd.R_drewN | apply Kd.R_drew)); exact HO276.out))) (Kd.R_lt (by (with_reducible repeat (first | apply Kd.R_alloc | apply Kd.R_drewN | apply Kd.R_drew)); exact HO279.out))) (below_size (by repeat (first | (with_reducible first | exact HB.out | apply below_alloc | apply pw_below_drewN | apply below_drew1) | exact HB.out)))); have n7_ := Aside0.mk (below_step (by repeat (first | (with_reducible first | exact HB.out | apply below_alloc | apply pw_below_drewN | apply below_drew1) | exact HB.out)) hb); clear HO261; clear HO265; clear HO269; clear HO272; clear HO276; clear HO279; clear HB; have HO261 := n0_; have HO265 := n1_; have HO269 := n2_; have HO272 := n3_; have HO276 := n4_; have HO279 := n5_; have HO283 := n6_; have HB := n7_; clear n0_ n1_ n2_ n3_ n4_ n5_ n6_ n7_; (try clear hb); (try clear hb2); (try clear hk); (try clear hi); (try clear ho0)) | ((with_reducible refine gate_dst (N := 34) rfl ?_); (try (refine gate_guard (by rfl) ?_; dsimp only)); refine Kd.R_lit (Kd.int .u8) _ 5 ?hg (N := 34) ?hd (xs := ([208] : List Int)) (inner := [.int .u8 208]) (ok := fun _ => True) (okp := fun _ => True) ?hr ?hp (fun _ hk => hk) trivial (Below.refl _ _) (Nat.le_refl _) (by simp) ?_; (case hd => rfl); (case hg => rfl); (case hr => first | (go_simp; done) | (go_simp; rfl)); (case hp => exact (Reps.one (show Kd.M (Kd.int .u8) _ _ _ 208 [.int .u8 208] from rfl) (Reps.none _ _))); intro v285 w36 ho37 hb hg_ hnew_; clear hg_ hnew_; (first | rw [← Ny284.out] at ho37 | (simp only [Int.reduceToNat] at ho37; rw [← Ny284.out] at ho37)); have n0_ := Aside0.mk (Kd.R_elder' (by (with_reducible repeat (first | apply Kd.R_alloc | apply Kd.R_drewN | apply Kd.R_drew)); exact HO261.out) (Kd.R_base ho37) hb); have n1_ := Aside0.mk (Kd.R_elder' (by (with_reducible repeat (first | apply Kd.R_alloc | apply Kd.R_drewN | apply Kd.R_drew)); exact HO265.out) (Kd.R_base ho37) hb); have n2_ := Aside0.mk (Kd.R_elder' (by (with_reducible repeat (first | apply Kd.R_alloc | apply Kd.R_drewN | apply Kd.R_drew)); exact HO269.out) (Kd.R_base ho37) hb); have n3_ := Aside0.mk (Kd.R_elder' (by (with_reducible repeat (first | apply Kd.R_alloc | apply Kd.R_drewN | apply Kd.R_drew)); exact HO272.out) (Kd.R_base ho37) hb); have n4_ := Aside0.mk (Kd.R_elder' (by (with_reducible repeat (first | apply Kd.R_alloc | apply Kd.R_drewN | apply Kd.R_drew)); exact HO276.out) (Kd.R_base ho37) hb); have n5_ := Aside0.mk (Kd.R_elder' (by (with_reducible repeat (first | apply Kd.R_alloc | apply Kd.R_drewN | apply Kd.R_drew)); exact HO279.out) (Kd.R_base ho37) hb); have n6_ := Aside0.mk (Kd.R_elder' (by (with_reducible repeat (first | apply Kd.R_alloc | apply Kd.R_drewN | apply Kd.R_drew)); exact HO283.out) (Kd.R_base ho37) hb); have n7_ := Aside0.mk (Kd.R_lower (Kd.R_new' (Kd.R_new' (Kd.R_new' (Kd.R_new' (Kd.R_new' (Kd.R_new' (Kd.R_new' ho37 (Kd.R_lt (by (with_reducible repeat (first | apply Kd.R_alloc | apply Kd.R_drewN | apply Kd.R_drew)); exact HO261.out))) (Kd.R_lt (by (with_reducible repeat (first | apply Kd.R_alloc | apply Kd.R_drewN | apply Kd.R_drew)); exact HO265.out))) (Kd.R_lt (by (with_reducible repeat (first | apply Kd.R_alloc | apply Kd.R_drewN | apply Kd.R_drew)); exact HO269.out))) (Kd.R_lt (by (with_reducible repeat (first | apply Kd.R_alloc | apply Kd.R_drewN | apply Kd.R_drew)); exact HO272.out))) (Kd.R_lt (by (with_reducible repeat (first | apply Kd.R_alloc | apply Kd.R_drewN | apply Kd.R_drew)); exact HO276.out))) (Kd.R_lt (by (with_reducible repeat (first | apply Kd.R_alloc | apply Kd.R_drewN | apply Kd.R_drew)); exact HO279.out))) (Kd.R_lt (by (with_reducible repeat (first | apply Kd.R_alloc | apply Kd.R_drewN | apply Kd.R_drew)); exact HO283.out))) (below_size (by repeat (first | (with_reducible first | exact HB.out | apply below_alloc | apply pw_below_drewN | apply below_drew1) | exact HB.out)))); have n8_ := Aside0.mk (below_step (by repeat (first | (with_reducible first | exact HB.out | apply below_alloc | apply pw_below_drewN | apply below_drew1) | exact HB.out)) hb); clear HO261; clear HO265; clear HO269; clear HO272; clear HO276; clear HO279; clear HO283; clear HB; have HO261 := n0_; have HO265 := n1_; have HO269 := n2_; have HO272 := n3_; have HO276 := n4_; have HO279 := n5_; have HO283 := n6_; have HO286 := n7_; have HB := n8_; clear n0_ n1_ n2_ n3_ n4_ n5_ n6_ n7_ n8_; clear hb ho37; obtain ⟨Ao38, co38, eo38⟩ := Kd.R_slice HO286.out; subst eo38) | ((with_reducible refine gate_callee (f := 22) rfl ?_); refine goesL_ (some 35) rfl rfl Try.func22 (by kernel_rfl) rfl #[.slice Ao38 y284.length co38] rfl (by (try simp only [List.map_toArray, List.map_cons, List.map_nil]); first | done | rfl | (simp only [List.length_drop, List.length_take]; rfl)) ?_; (with_reducible refine (track_Get.calls k _ _ y284 t287 t288 _ ?side1 ?side2 A5.out).mono ?_); (case side1 => repeat (first | exact (Kd.R_reads' HO286.out).2.2 | (with_reducible refine Kd.C_alloc ?_ _) | (with_reducible refine Kd.C_drewN ?_ _) | (with_reducible refine Kd.C_drew ?_))); (case side2 => exact (Kd.R_reads' HO286.out).2.1); rintro e w39 ⟨v289, rfl, ho0, hb⟩; refine ⟨_, rfl, ?_⟩; have n0_ := Aside0.mk (Kd.R_elder' (by (with_reducible repeat (first | apply Kd.R_alloc | apply Kd.R_drewN | apply Kd.R_drew)); exact HO261.out) (Kd.R_base ho0) hb); have n1_ := Aside0.mk (Kd.R_elder' (by (with_reducible repeat (first | apply Kd.R_alloc | apply Kd.R_drewN | apply Kd.R_drew)); exact HO265.out) (Kd.R_base ho0) hb); have n2_ := Aside0.mk (Kd.R_elder' (by (with_reducible repeat (first | apply Kd.R_alloc | apply Kd.R_drewN | apply Kd.R_drew)); exact HO269.out) (Kd.R_base ho0) hb); have n3_ := Aside0.mk (Kd.R_elder' (by (with_reducible repeat (first | apply Kd.R_alloc | apply Kd.R_drewN | apply Kd.R_drew)); exact HO272.out) (Kd.R_base ho0) hb); have n4_ := Aside0.mk (Kd.R_elder' (by (with_reducible repeat (first | apply Kd.R_alloc | apply Kd.R_drewN | apply Kd.R_drew)); exact HO276.out) (Kd.R_base ho0) hb); have n5_ := Aside0.mk (Kd.R_elder' (by (with_reducible repeat (first | apply Kd.R_alloc | apply Kd.R_drewN | apply Kd.R_drew)); exact HO279.out) (Kd.R_base ho0) hb); have n6_ := Aside0.mk (Kd.R_elder' (by (with_reducible repeat (first | apply Kd.R_alloc | apply Kd.R_drewN | apply Kd.R_drew)); exact HO283.out) (Kd.R_base ho0) hb); have n7_ := Aside0.mk (Kd.R_elder' (by (with_reducible repeat (first | apply Kd.R_alloc | apply Kd.R_drewN | apply Kd.R_drew)); exact HO286.out) (Kd.R_base ho0) hb); have n8_ := Aside0.mk (Kd.R_lower (Kd.R_new' (Kd.R_new' (Kd.R_new' (Kd.R_new' (Kd.R_new' (Kd.R_new' (Kd.R_new' (Kd.R_new' ho0 (Kd.R_lt (by (with_reducible repeat (first | apply Kd.R_alloc | apply Kd.R_drewN | apply Kd.R_drew)); exact HO261.out))) (Kd.R_lt (by (with_reducible repeat (first | apply Kd.R_alloc | apply Kd.R_drewN | apply Kd.R_drew)); exact HO265.out))) (Kd.R_lt (by (with_reducible repeat (first | apply Kd.R_alloc | apply Kd.R_drewN | apply Kd.R_drew)); exact HO269.out))) (Kd.R_lt (by (with_reducible repeat (first | apply Kd.R_alloc | apply Kd.R_drewN | apply Kd.R_drew)); exact HO272.out))) (Kd.R_lt (by (with_reducible repeat (first | apply Kd.R_alloc | apply Kd.R_drewN | apply Kd.R_drew)); exact HO276.out))) (Kd.R_lt (by (with_reducible repeat (first | apply Kd.R_alloc | apply Kd.R_drewN | apply Kd.R_drew)); exact HO279.out))) (Kd.R_lt (by (with_reducible repeat (first | apply Kd.R_alloc | apply Kd.R_drewN | apply Kd.R_drew)); exact HO283.out))) (Kd.R_lt (by (with_reducible repeat (first | apply Kd.R_alloc | apply Kd.R_drewN | apply Kd.R_drew)); exact HO286.out))) (below_size (by repeat (first | (with_reducible first | exact HB.out | apply below_alloc | apply pw_below_drewN | apply below_drew1) | exact HB.out)))); have n9_ := Aside0.mk (below_step (by repeat (first | (with_reducible first | exact HB.out | apply below_alloc | apply pw_below_drewN | apply below_drew1) | exact HB.out)) hb); clear HO261; clear HO265; clear HO269; clear HO272; clear HO276; clear HO279; clear HO283; clear HO286; clear HB; have HO261 := n0_; have HO265 := n1_; have HO269 := n2_; have HO272 := n3_; have HO276 := n4_; have HO279 := n5_; have HO283 := n6_; have HO286 := n7_; have HO290 := n8_; have HB := n9_; clear n0_ n1_ n2_ n3_ n4_ n5_ n6_ n7_ n8_ n9_; (try clear hb); (try clear hb2); (try clear hk); (try clear hi); (try clear ho0)) | ((with_reducible refine gate_dst (N := 39) rfl ?_); (try (refine gate_guard (by rfl) ?_; dsimp only)); refine Kd.R_lit (Kd.int .u8) _ 5 ?hg (N := 39) ?hd (xs := ([208, 0, 0] : List Int)) (inner := [.int .u8 208, .int .u8 0, .int .u8 0]) (ok := fun _ => True) (okp := fun _ => True) ?hr ?hp (fun _ hk => hk) trivial (Below.refl _ _) (Nat.le_refl _) (by simp) ?_; (case hd => rfl); (case hg => rfl); (case hr => first | (go_simp; done) | (go_simp; rfl)); (case hp => exact (Reps.one (show Kd.M (Kd.int .u8) _ _ _ 208 [.int .u8 208] from rfl) (Reps.one (show Kd.M (Kd.int .u8) _ _ _ 0 [.int .u8 0] from rfl) (Reps.one (show Kd.M (Kd.int .u8) _ _ _ 0 [.int .u8 0] from rfl) (Reps.none _ _))))); intro v292 w40 ho41 hb hg_ hnew_; clear hg_ hnew_; (first | rw [← Ny291.out] at ho41 | (simp only [Int.reduceToNat] at ho41; rw [← Ny291.out] at ho41)); have n0_ := Aside0.mk (Kd.R_elder' (by (with_reducible repeat (first | apply Kd.R_alloc | apply Kd.R_drewN | apply Kd.R_drew)); exact HO261.out) (Kd.R_base ho41) hb); have n1_ := Aside0.mk (Kd.R_elder' (by (with_reducible repeat (first | apply Kd.R_alloc | apply Kd.R_drewN | apply Kd.R_drew)); exact HO265.out) (Kd.R_base ho41) hb); have n2_ := Aside0.mk (Kd.R_elder' (by (with_reducible repeat (first | apply Kd.R_alloc | apply Kd.R_drewN | apply Kd.R_drew)); exact HO269.out) (Kd.R_base ho41) hb); have n3_ := Aside0.mk (Kd.R_elder' (by (with_reducible repeat (first | apply Kd.R_alloc | apply Kd.R_drewN | apply Kd.R_drew)); exact HO272.out) (Kd.R_base ho41) hb); have n4_ := Aside0.mk (Kd.R_elder' (by (with_reducible repeat (first | apply Kd.R_alloc | apply Kd.R_drewN | apply Kd.R_drew)); exact HO276.out) (Kd.R_base ho41) hb); have n5_ := Aside0.mk (Kd.R_elder' (by (with_reducible repeat (first | apply Kd.R_alloc | apply Kd.R_drewN | apply Kd.R_drew)); exact HO279.out) (Kd.R_base ho41) hb); have n6_ := Aside0.mk (Kd.R_elder' (by (with_reducible repeat (first | apply Kd.R_alloc | apply Kd.R_drewN | apply Kd.R_drew)); exact HO283.out) (Kd.R_base ho41) hb); have n7_ := Aside0.mk (Kd.R_elder' (by (with_reducible repeat (first | apply Kd.R_alloc | apply Kd.R_drewN | apply Kd.R_drew)); exact HO286.out) (Kd.R_base ho41) hb); have n8_ := Aside0.mk (Kd.R_elder' (by (with_reducible repeat (first | apply Kd.R_alloc | apply Kd.R_drewN | apply Kd.R_drew)); exact HO290.out) (Kd.R_base ho41) hb); have n9_ := Aside0.mk (Kd.R_lower (Kd.R_new' (Kd.R_new' (Kd.R_new' (Kd.R_new' (Kd.R_new' (Kd.R_new' (Kd.R_new' (Kd.R_new' (Kd.R_new' ho41 (Kd.R_lt (by (with_reducible repeat (first | apply Kd.R_alloc | apply Kd.R_drewN | apply Kd.R_drew)); exact HO261.out))) (Kd.R_lt (by (with_reducible repeat (first | apply Kd.R_alloc | apply Kd.R_drewN | apply Kd.R_drew)); exact HO265.out))) (Kd.R_lt (by (with_reducible repeat (first | apply Kd.R_alloc | apply Kd.R_drewN | apply Kd.R_drew)); exact HO269.out))) (Kd.R_lt (by (with_reducible repeat (first | apply Kd.R_alloc | apply Kd.R_drewN | apply Kd.R_drew)); exact HO272.out))) (Kd.R_lt (by (with_reducible repeat (first | apply Kd.R_alloc | apply Kd.R_drewN | apply Kd.R_drew)); exact HO276.out))) (Kd.R_lt (by (with_reducible repeat (first | apply Kd.R_alloc | apply Kd.R_drewN | apply Kd.R_drew)); exact HO279.out))) (Kd.R_lt (by (with_reducible repeat (first | apply Kd.R_alloc | apply Kd.R_drewN | apply Kd.R_drew)); exact HO283.out))) (Kd.R_lt (by (with_reducible repeat (first | apply Kd.R_alloc | apply Kd.R_drewN | apply Kd.R_drew)); exact HO286.out))) (Kd.R_lt (by (with_reducible repeat (first | apply Kd.R_alloc | apply Kd.R_drewN | apply Kd.R_drew)); exact HO290.out))) (below_size (by repeat (first | (with_reducible first | exact HB.out | apply below_alloc | apply pw_below_drewN | apply below_drew1) | exact HB.out)))); have n10_ := Aside0.mk (below_step (by repeat (first | (with_reducible first | exact HB.out | apply below_alloc | apply pw_below_drewN | apply below_drew1) | exact HB.out)) hb); clear HO261; clear HO265; clear HO269; clear HO272; clear HO276; clear HO279; clear HO283; clear HO286; clear HO290; clear HB; have HO261 := n0_; have HO265 := n1_; have HO269 := n2_; have HO272 := n3_; have HO276 := n4_; have HO279 := n5_; have HO283 := n6_; have HO286 := n7_; have HO290 := n8_; have HO293 := n9_; have HB := n10_; clear n0_ n1_ n2_ n3_ n4_ n5_ n6_ n7_ n8_ n9_ n10_; clear hb ho41; obtain ⟨Ao42, co42, eo42⟩ := Kd.R_slice HO293.out; subst eo42) | ((with_reducible refine gate_callee (f := 22) rfl ?_); refine goesL_ (some 40) rfl rfl Try.func22 (by kernel_rfl) rfl #[.slice Ao42 y291.length co42] rfl (by (try simp only [List.map_toArray, List.map_cons, List.map_nil]); first | done | rfl | (simp only [List.length_drop, List.length_take]; rfl)) ?_; (with_reducible refine (track_Get.calls k _ _ y291 t294 t295 _ ?side1 ?side2 A6.out).mono ?_); (case side1 => repeat (first | exact (Kd.R_reads' HO293.out).2.2 | (with_reducible refine Kd.C_alloc ?_ _) | (with_reducible refine Kd.C_drewN ?_ _) | (with_reducible refine Kd.C_drew ?_))); (case side2 => exact (Kd.R_reads' HO293.out).2.1); rintro e w43 ⟨v296, rfl, ho0, hb⟩; refine ⟨_, rfl, ?_⟩; have n0_ := Aside0.mk (Kd.R_elder' (by (with_reducible repeat (first | apply Kd.R_alloc | apply Kd.R_drewN | apply Kd.R_drew)); exact HO261.out) (Kd.R_base ho0) hb); have n1_ := Aside0.mk (Kd.R_elder' (by (with_reducible repeat (first | apply Kd.R_alloc | apply Kd.R_drewN | apply Kd.R_drew)); exact HO265.out) (Kd.R_base ho0) hb); have n2_ := Aside0.mk (Kd.R_elder' (by (with_reducible repeat (first | apply Kd.R_alloc | apply Kd.R_drewN | apply Kd.R_drew)); exact HO269.out) (Kd.R_base ho0) hb); have n3_ := Aside0.mk (Kd.R_elder' (by (with_reducible repeat (first | apply Kd.R_alloc | apply Kd.R_drewN | apply Kd.R_drew)); exact HO272.out) (Kd.R_base ho0) hb); have n4_ := Aside0.mk (Kd.R_elder' (by (with_reducible repeat (first | apply Kd.R_alloc | apply Kd.R_drewN | apply Kd.R_drew)); exact HO276.out) (Kd.R_base ho0) hb); have n5_ := Aside0.mk (Kd.R_elder' (by (with_reducible repeat (first | apply Kd.R_alloc | apply Kd.R_drewN | apply Kd.R_drew)); exact HO279.out) (Kd.R_base ho0) hb); have n6_ := Aside0.mk (Kd.R_elder' (by (with_reducible repeat (first | apply Kd.R_alloc | apply Kd.R_drewN | apply Kd.R_drew)); exact HO283.out) (Kd.R_base ho0) hb); have n7_ := Aside0.mk (Kd.R_elder' (by (with_reducible repeat (first | apply Kd.R_alloc | apply Kd.R_drewN | apply Kd.R_drew)); exact HO286.out) (Kd.R_base ho0) hb); have n8_ := Aside0.mk (Kd.R_elder' (by (with_reducible repeat (first | apply Kd.R_alloc | apply Kd.R_drewN | apply Kd.R_drew)); exact HO290.out) (Kd.R_base ho0) hb); have n9_ := Aside0.mk (Kd.R_elder' (by (with_reducible repeat (first | apply Kd.R_alloc | apply Kd.R_drewN | apply Kd.R_drew)); exact HO293.out) (Kd.R_base ho0) hb); have n10_ := Aside0.mk (Kd.R_lower (Kd.R_new' (Kd.R_new' (Kd.R_new' (Kd.R_new' (Kd.R_new' (Kd.R_new' (Kd.R_new' (Kd.R_new' (Kd.R_new' (Kd.R_new' ho0 (Kd.R_lt (by (with_reducible repeat (first | apply Kd.R_alloc | apply Kd.R_drewN | apply Kd.R_drew)); exact HO261.out))) (Kd.R_lt (by (with_reducible repeat (first | apply Kd.R_alloc | apply Kd.R_drewN | apply Kd.R_drew)); exact HO265.out))) (Kd.R_lt (by (with_reducible repeat (first | apply Kd.R_alloc | apply Kd.R_drewN | apply Kd.R_drew)); exact HO269.out))) (Kd.R_lt (by (with_reducible repeat (first | apply Kd.R_alloc | apply Kd.R_drewN | apply Kd.R_drew)); exact HO272.out))) (Kd.R_lt (by (with_reducible repeat (first | apply Kd.R_alloc | apply Kd.R_drewN | apply Kd.R_drew)); exact HO276.out))) (Kd.R_lt (by (with_reducible repeat (first | apply Kd.R_alloc | apply Kd.R_drewN | apply Kd.R_drew)); exact HO279.out))) (Kd.R_lt (by (with_reducible repeat (first | apply Kd.R_alloc | apply Kd.R_drewN | apply Kd.R_drew)); exact HO283.out))) (Kd.R_lt (by (with_reducible repeat (first | apply Kd.R_alloc | apply Kd.R_drewN | apply Kd.R_drew)); exact HO286.out))) (Kd.R_lt (by (with_reducible repeat (first | apply Kd.R_alloc | apply Kd.R_drewN | apply Kd.R_drew)); exact HO290.out))) (Kd.R_lt (by (with_reducible repeat (first | apply Kd.R_alloc | apply Kd.R_drewN | apply Kd.R_drew)); exact HO293.out))) (below_size (by repeat (first | (with_reducible first | exact HB.out | apply below_alloc | apply pw_below_drewN | apply below_drew1) | exact HB.out)))); have n11_ := Aside0.mk (below_step (by repeat (first | (with_reducible first | exact HB.out | apply below_alloc | apply pw_below_drewN | apply below_drew1) | exact HB.out)) hb); clear HO261; clear HO265; clear HO269; clear HO272; clear HO276; clear HO279; clear HO283; clear HO286; clear HO290; clear HO293; clear HB; have HO261 := n0_; have HO265 := n1_; have HO269 := n2_; have HO272 := n3_; have HO276 := n4_; have HO279 := n5_; have HO283 := n6_; have HO286 := n7_; have HO290 := n8_; have HO293 := n9_; have HO297 := n10_; have HB := n11_; clear n0_ n1_ n2_ n3_ n4_ n5_ n6_ n7_ n8_ n9_ n10_ n11_; (try clear hb); (try clear hb2); (try clear hk); (try clear hi); (try clear ho0)) | ((with_reducible refine gate_dst (N := 47) rfl ?_); (try (refine gate_guard (by rfl) ?_; dsimp only)); refine Kd.R_lit (Kd.int .u8) _ 5 ?hg (N := 47) ?hd (xs := ([212, 39, 243, 128] : List Int)) (inner := [.int .u8 212, .int .u8 39, .int .u8 243, .int .u8 128]) (ok := fun _ => True) (okp := fun _ => True) ?hr ?hp (fun _ hk => hk) trivial (Below.refl _ _) (Nat.le_refl _) (by simp) ?_; (case hd => rfl); (case hg => rfl); (case hr => first | (go_simp; done) | (go_simp; rfl)); (case hp => exact (Reps.one (show Kd.M (Kd.int .u8) _ _ _ 212 [.int .u8 212] from rfl) (Reps.one (show Kd.M (Kd.int .u8) _ _ _ 39 [.int .u8 39] from rfl) (Reps.one (show Kd.M (Kd.int .u8) _ _ _ 243 [.int .u8 243] from rfl) (Reps.one (show Kd.M (Kd.int .u8) _ _ _ 128 [.int .u8 128] from rfl) (Reps.none _ _)))))); intro v299 w44 ho45 hb hg_ hnew_; clear hg_ hnew_; (first | rw [← Ny298.out] at ho45 | (simp only [Int.reduceToNat] at ho45; rw [← Ny298.out] at ho45)); have n0_ := Aside0.mk (Kd.R_elder' (by (with_reducible repeat (first | apply Kd.R_alloc | apply Kd.R_drewN | apply Kd.R_drew)); exact HO261.out) (Kd.R_base ho45) hb); have n1_ := Aside0.mk (Kd.R_elder' (by (with_reducible repeat (first | apply Kd.R_alloc | apply Kd.R_drewN | apply Kd.R_drew)); exact HO265.out) (Kd.R_base ho45) hb); have n2_ := Aside0.mk (Kd.R_elder' (by (with_reducible repeat (first | apply Kd.R_alloc | apply Kd.R_drewN | apply Kd.R_drew)); exact HO269.out) (Kd.R_base ho45) hb); have n3_ := Aside0.mk (Kd.R_elder' (by (with_reducible repeat (first | apply Kd.R_alloc | apply Kd.R_drewN | apply Kd.R_drew)); exact HO272.out) (Kd.R_base ho45) hb); have n4_ := Aside0.mk (Kd.R_elder' (by (with_reducible repeat (first | apply Kd.R_alloc | apply Kd.R_drewN | apply Kd.R_drew)); exact HO276.out) (Kd.R_base ho45) hb); have n5_ := Aside0.mk (Kd.R_elder' (by (with_reducible repeat (first | apply Kd.R_alloc | apply Kd.R_drewN | apply Kd.R_drew)); exact HO279.out) (Kd.R_base ho45) hb); have n6_ := Aside0.mk (Kd.R_elder' (by (with_reducible repeat (first | apply Kd.R_alloc | apply Kd.R_drewN | apply Kd.R_drew)); exact HO283.out) (Kd.R_base ho45) hb); have n7_ := Aside0.mk (Kd.R_elder' (by (with_reducible repeat (first | apply Kd.R_alloc | apply Kd.R_drewN | apply Kd.R_drew)); exact HO286.out) (Kd.R_base ho45) hb); have n8_ := Aside0.mk (Kd.R_elder' (by (with_reducible repeat (first | apply Kd.R_alloc | apply Kd.R_drewN | apply Kd.R_drew)); exact HO290.out) (Kd.R_base ho45) hb); have n9_ := Aside0.mk (Kd.R_elder' (by (with_reducible repeat (first | apply Kd.R_alloc | apply Kd.R_drewN | apply Kd.R_drew)); exact HO293.out) (Kd.R_base ho45) hb); have n10_ := Aside0.mk (Kd.R_elder' (by (with_reducible repeat (first | apply Kd.R_alloc | apply Kd.R_drewN | apply Kd.R_drew)); exact HO297.out) (Kd.R_base ho45) hb); have n11_ := Aside0.mk (Kd.R_lower (Kd.R_new' (Kd.R_new' (Kd.R_new' (Kd.R_new' (Kd.R_new' (Kd.R_new' (Kd.R_new' (Kd.R_new' (Kd.R_new' (Kd.R_new' (Kd.R_new' ho45 (Kd.R_lt (by (with_reducible repeat (first | apply Kd.R_alloc | apply Kd.R_drewN | apply Kd.R_drew)); exact HO261.out))) (Kd.R_lt (by (with_reducible repeat (first | apply Kd.R_alloc | apply Kd.R_drewN | apply Kd.R_drew)); exact HO265.out))) (Kd.R_lt (by (with_reducible repeat (first | apply Kd.R_alloc | apply Kd.R_drewN | apply Kd.R_drew)); exact HO269.out))) (Kd.R_lt (by (with_reducible repeat (first | apply Kd.R_alloc | apply Kd.R_drewN | apply Kd.R_drew)); exact HO272.out))) (Kd.R_lt (by (with_reducible repeat (first | apply Kd.R_alloc | apply Kd.R_drewN | apply Kd.R_drew)); exact HO276.out))) (Kd.R_lt (by (with_reducible repeat (first | apply Kd.R_alloc | apply Kd.R_drewN | apply Kd.R_drew)); exact HO279.out))) (Kd.R_lt (by (with_reducible repeat (first | apply Kd.R_alloc | apply Kd.R_drewN | apply Kd.R_drew)); exact HO283.out))) (Kd.R_lt (by (with_reducible repeat (first | apply Kd.R_alloc | apply Kd.R_drewN | apply Kd.R_drew)); exact HO286.out))) (Kd.R_lt (by (with_reducible repeat (first | apply Kd.R_alloc | apply Kd.R_drewN | apply Kd.R_drew)); exact HO290.out))) (Kd.R_lt (by (with_reducible repeat (first | apply Kd.R_alloc | apply Kd.R_drewN | apply Kd.R_drew)); exact HO293.out))) (Kd.R_lt (by (with_reducible repeat (first | apply Kd.R_alloc | apply Kd.R_drewN | apply Kd.R_drew)); exact HO297.out))) (below_size (by repeat (first | (with_reducible first | exact HB.out | apply below_alloc | apply pw_below_drewN | apply below_drew1) | exact HB.out)))); have n12_ := Aside0.mk (below_step (by repeat (first | (with_reducible first | exact HB.out | apply below_alloc | apply pw_below_drewN | apply below_drew1) | exact HB.out)) hb); clear HO261; clear HO265; clear HO269; clear HO272; clear HO276; clear HO279; clear HO283; clear HO286; clear HO290; clear HO293; clear HO297; clear HB; have HO261 := n0_; have HO265 := n1_; have HO269 := n2_; have HO272 := n3_; have HO276 := n4_; have HO279 := n5_; have HO283 := n6_; have HO286 := n7_; have HO290 := n8_; have HO293 := n9_; have HO297 := n10_; have HO300 := n11_; have HB := n12_; clear n0_ n1_ n2_ n3_ n4_ n5_ n6_ n7_ n8_ n9_ n10_ n11_ n12_; clear hb ho45; obtain ⟨Ao46, co46, eo46⟩ := Kd.R_slice HO300.out; subst eo46) | (go_at_call 20; (with_reducible refine (gatelineref01_Same.calls k _ _ t262 _ _ y298 true _ ?side1 ?side2 ?side3 ?side4 A8.out).mono ?_); (case side1 => repeat (first | exact (Kd.R_reads' HO265.out).2.2 | (with_reducible refine Kd.C_alloc ?_ _) | (with_reducible refine Kd.C_drewN ?_ _) | (with_reducible refine Kd.C_drew ?_))); (case side2 => exact (Kd.R_reads' HO265.out).2.1); (case side3 => repeat (first | exact (Kd.R_reads' HO300.out).2.2 | (with_reducible refine Kd.C_alloc ?_ _) | (with_reducible refine Kd.C_drewN ?_ _) | (with_reducible refine Kd.C_drew ?_))); (case side4 => exact (Kd.R_reads' HO300.out).2.1); rintro e w' ⟨rfl, ⟨nd, rfl⟩⟩) | ((with_reducible refine gate_dst (N := 57) rfl ?_); (try (refine gate_guard (by rfl) ?_; dsimp only)); refine Kd.R_lit (Kd.int .u8) _ 5 ?hg (N := 57) ?hd (xs := ([1, 9] : List Int)) (inner := [.int .u8 1, .int .u8 9]) (ok := fun _ => True) (okp := fun _ => True) ?hr ?hp (fun _ hk => hk) trivial (Below.refl _ _) (Nat.le_refl _) (by simp) ?_; (case hd => rfl); (case hg => rfl); (case hr => first | (go_simp; done) | (go_simp; rfl)); (case hp => exact (Reps.one (show Kd.M (Kd.int .u8) _ _ _ 1 [.int .u8 1] from rfl) (Reps.one (show Kd.M (Kd.int .u8) _ _ _ 9 [.int .u8 9] from rfl) (Reps.none _ _)))); intro v303 w47 ho48 hb hg_ hnew_; clear hg_ hnew_; (first | rw [← Ny302.out] at ho48 | (simp only [Int.reduceToNat] at ho48; rw [← Ny302.out] at ho48)); have n0_ := Aside0.mk (Kd.R_elder' (by (with_reducible repeat (first | apply Kd.R_alloc | apply Kd.R_drewN | apply Kd.R_drew)); exact HO261.out) (Kd.R_base ho48) hb); have n1_ := Aside0.mk (Kd.R_elder' (by (with_reducible repeat (first | apply Kd.R_alloc | apply Kd.R_drewN | apply Kd.R_drew)); exact HO265.out) (Kd.R_base ho48) hb); have n2_ := Aside0.mk (Kd.R_elder' (by (with_reducible repeat (first | apply Kd.R_alloc | apply Kd.R_drewN | apply Kd.R_drew)); exact HO269.out) (Kd.R_base ho48) hb); have n3_ := Aside0.mk (Kd.R_elder' (by (with_reducible repeat (first | apply Kd.R_alloc | apply Kd.R_drewN | apply Kd.R_drew)); exact HO272.out) (Kd.R_base ho48) hb); have n4_ := Aside0.mk (Kd.R_elder' (by (with_reducible repeat (first | apply Kd.R_alloc | apply Kd.R_drewN | apply Kd.R_drew)); exact HO276.out) (Kd.R_base ho48) hb); have n5_ := Aside0.mk (Kd.R_elder' (by (with_reducible repeat (first | apply Kd.R_alloc | apply Kd.R_drewN | apply Kd.R_drew)); exact HO279.out) (Kd.R_base ho48) hb); have n6_ := Aside0.mk (Kd.R_elder' (by (with_reducible repeat (first | apply Kd.R_alloc | apply Kd.R_drewN | apply Kd.R_drew)); exact HO283.out) (Kd.R_base ho48) hb); have n7_ := Aside0.mk (Kd.R_elder' (by (with_reducible repeat (first | apply Kd.R_alloc | apply Kd.R_drewN | apply Kd.R_drew)); exact HO286.out) (Kd.R_base ho48) hb); have n8_ := Aside0.mk (Kd.R_elder' (by (with_reducible repeat (first | apply Kd.R_alloc | apply Kd.R_drewN | apply Kd.R_drew)); exact HO290.out) (Kd.R_base ho48) hb); have n9_ := Aside0.mk (Kd.R_elder' (by (with_reducible repeat (first | apply Kd.R_alloc | apply Kd.R_drewN | apply Kd.R_drew)); exact HO293.out) (Kd.R_base ho48) hb); have n10_ := Aside0.mk (Kd.R_elder' (by (with_reducible repeat (first | apply Kd.R_alloc | apply Kd.R_drewN | apply Kd.R_drew)); exact HO297.out) (Kd.R_base ho48) hb); have n11_ := Aside0.mk (Kd.R_elder' (by (with_reducible repeat (first | apply Kd.R_alloc | apply Kd.R_drewN | apply Kd.R_drew)); exact HO300.out) (Kd.R_base ho48) hb); have n12_ := Aside0.mk (Kd.R_lower (Kd.R_new' (Kd.R_new' (Kd.R_new' (Kd.R_new' (Kd.R_new' (Kd.R_new' (Kd.R_new' (Kd.R_new' (Kd.R_new' (Kd.R_new' (Kd.R_new' (Kd.R_new' ho48 (Kd.R_lt (by (with_reducible repeat (first | apply Kd.R_alloc | apply Kd.R_drewN | apply Kd.R_drew)); exact HO261.out))) (Kd.R_lt (by (with_reducible repeat (first | apply Kd.R_alloc | apply Kd.R_drewN | apply Kd.R_drew)); exact HO265.out))) (Kd.R_lt (by (with_reducible repeat (first | apply Kd.R_alloc | apply Kd.R_drewN | apply Kd.R_drew)); exact HO269.out))) (Kd.R_lt (by (with_reducible repeat (first | apply Kd.R_alloc | apply Kd.R_drewN | apply Kd.R_drew)); exact HO272.out))) (Kd.R_lt (by (with_reducible repeat (first | apply Kd.R_alloc | apply Kd.R_drewN | apply Kd.R_drew)); exact HO276.out))) (Kd.R_lt (by (with_reducible repeat (first | apply Kd.R_alloc | apply Kd.R_drewN | apply Kd.R_drew)); exact HO279.out))) (Kd.R_lt (by (with_reducible repeat (first | apply Kd.R_alloc | apply Kd.R_drewN | apply Kd.R_drew)); exact HO283.out))) (Kd.R_lt (by (with_reducible repeat (first | apply Kd.R_alloc | apply Kd.R_drewN | apply Kd.R_drew)); exact HO286.out))) (Kd.R_lt (by (with_reducible repeat (first | apply Kd.R_alloc | apply Kd.R_drewN | apply Kd.R_drew)); exact HO290.out))) (Kd.R_lt (by (with_reducible repeat (first | apply Kd.R_alloc | apply Kd.R_drewN | apply Kd.R_drew)); exact HO293.out))) (Kd.R_lt (by (with_reducible repeat (first | apply Kd.R_alloc | apply Kd.R_drewN | apply Kd.R_drew)); exact HO297.out))) (Kd.R_lt (by (with_reducible repeat (first | apply Kd.R_alloc | apply Kd.R_drewN | apply Kd.R_drew)); exact HO300.out))) (below_size (by repeat (first | (with_reducible first | exact HB.out | apply below_alloc | apply pw_below_drewN | apply below_drew1) | exact HB.out)))); have n13_ := Aside0.mk (below_step (by repeat (first | (with_reducible first | exact HB.out | apply below_alloc | apply pw_below_drewN | apply below_drew1) | exact HB.out)) hb); clear HO261; clear HO265; clear HO269; clear HO272; clear HO276; clear HO279; clear HO283; clear HO286; clear HO290; clear HO293; clear HO297; clear HO300; clear HB; have HO261 := n0_; have HO265 := n1_; have HO269 := n2_; have HO272 := n3_; have HO276 := n4_; have HO279 := n5_; have HO283 := n6_; have HO286 := n7_; have HO290 := n8_; have HO293 := n9_; have HO297 := n10_; have HO300 := n11_; have HO304 := n12_; have HB := n13_; clear n0_ n1_ n2_ n3_ n4_ n5_ n6_ n7_ n8_ n9_ n10_ n11_ n12_ n13_; clear hb ho48; obtain ⟨Ao49, co49, eo49⟩ := Kd.R_slice HO269.out; subst eo49; obtain ⟨Ao50, co50, eo50⟩ := Kd.R_slice HO304.out; subst eo50) | (go_at_call 20; (with_reducible refine (gatelineref01_Same.calls k _ _ t266 _ _ y302 true _ ?side1 ?side2 ?side3 ?side4 A11.out).mono ?_); (case side1 => repeat (first | exact (Kd.R_reads' HO269.out).2.2 | (with_reducible refine Kd.C_alloc ?_ _) | (with_reducible refine Kd.C_drewN ?_ _) | (with_reducible refine Kd.C_drew ?_))); (case side2 => exact (Kd.R_reads' HO269.out).2.1); (case side3 => repeat (first | exact (Kd.R_reads' HO304.out).2.2 | (with_reducible refine Kd.C_alloc ?_ _) | (with_reducible refine Kd.C_drewN ?_ _) | (with_reducible refine Kd.C_drew ?_))); (case side4 => exact (Kd.R_reads' HO304.out).2.1); rintro e w' ⟨rfl, ⟨nd, rfl⟩⟩) | ((with_reducible refine gate_dst (N := 77) rfl ?_); (try (refine gate_guard (by rfl) ?_; dsimp only)); refine Kd.R_lit Kd.bool _ 4 ?hg (N := 77) ?hd (xs := ([true, false, true] : List Bool)) (inner := [.bool true, .bool false, .bool true]) (ok := fun _ => True) (okp := fun _ => True) ?hr ?hp (fun _ hk => hk) trivial (Below.refl _ _) (Nat.le_refl _) (by simp) ?_; (case hd => rfl); (case hg => rfl); (case hr => first | (go_simp; done) | (go_simp; rfl)); (case hp => exact (Reps.one (show Kd.M Kd.bool _ _ _ true [.bool true] from rfl) (Reps.one (show Kd.M Kd.bool _ _ _ false [.bool false] from rfl) (Reps.one (show Kd.M Kd.bool _ _ _ true [.bool true] from rfl) (Reps.none _ _))))); intro v307 w51 ho52 hb hg_ hnew_; clear hg_ hnew_; (first | rw [← Ny306.out] at ho52 | (simp only [Int.reduceToNat] at ho52; rw [← Ny306.out] at ho52)); have n0_ := Aside0.mk (Kd.R_below (by (with_reducible repeat (first | apply Kd.R_alloc | apply Kd.R_drewN | apply Kd.R_drew)); exact HO261.out) hb); have n1_ := Aside0.mk (Kd.R_below (by (with_reducible repeat (first | apply Kd.R_alloc | apply Kd.R_drewN | apply Kd.R_drew)); exact HO265.out) hb); have n2_ := Aside0.mk (Kd.R_below (by (with_reducible repeat (first | apply Kd.R_alloc | apply Kd.R_drewN | apply Kd.R_drew)); exact HO269.out) hb); have n3_ := Aside0.mk (Kd.R_below (by (with_reducible repeat (first | apply Kd.R_alloc | apply Kd.R_drewN | apply Kd.R_drew)); exact HO272.out) hb); have n4_ := Aside0.mk (Kd.R_below (by (with_reducible repeat (first | apply Kd.R_alloc | apply Kd.R_drewN | apply Kd.R_drew)); exact HO276.out) hb); have n5_ := Aside0.mk (Kd.R_below (by (with_reducible repeat (first | apply Kd.R_alloc | apply Kd.R_drewN | apply Kd.R_drew)); exact HO279.out) hb); have n6_ := Aside0.mk (Kd.R_below (by (with_reducible repeat (first | apply Kd.R_alloc | apply Kd.R_drewN | apply Kd.R_drew)); exact HO283.out) hb); have n7_ := Aside0.mk (Kd.R_below (by (with_reducible repeat (first | apply Kd.R_alloc | apply Kd.R_drewN | apply Kd.R_drew)); exact HO286.out) hb); have n8_ := Aside0.mk (Kd.R_below (by (with_reducible repeat (first | apply Kd.R_alloc | apply Kd.R_drewN | apply Kd.R_drew)); exact HO290.out) hb); have n9_ := Aside0.mk (Kd.R_below (by (with_reducible repeat (first | apply Kd.R_alloc | apply Kd.R_drewN | apply Kd.R_drew)); exact HO293.out) hb); have n10_ := Aside0.mk (Kd.R_below (by (with_reducible repeat (first | apply Kd.R_alloc | apply Kd.R_drewN | apply Kd.R_drew)); exact HO297.out) hb); have n11_ := Aside0.mk (Kd.R_below (by (with_reducible repeat (first | apply Kd.R_alloc | apply Kd.R_drewN | apply Kd.R_drew)); exact HO300.out) hb); have n12_ := Aside0.mk (Kd.R_below (by (with_reducible repeat (first | apply Kd.R_alloc | apply Kd.R_drewN | apply Kd.R_drew)); exact HO304.out) hb); have n13_ := Aside0.mk (Kd.R_lower ho52 (below_size (by repeat (first | (with_reducible first | exact HB.out | apply below_alloc | apply pw_below_drewN | apply below_drew1) | exact HB.out)))); have n14_ := Aside0.mk (below_step (by repeat (first | (with_reducible first | exact HB.out | apply below_alloc | apply pw_below_drewN | apply below_drew1) | exact HB.out)) hb); clear HO261; clear HO265; clear HO269; clear HO272; clear HO276; clear HO279; clear HO283; clear HO286; clear HO290; clear HO293; clear HO297; clear HO300; clear HO304; clear HB; have HO261 := n0_; have HO265 := n1_; have HO269 := n2_; have HO272 := n3_; have HO276 := n4_; have HO279 := n5_; have HO283 := n6_; have HO286 := n7_; have HO290 := n8_; have HO293 := n9_; have HO297 := n10_; have HO300 := n11_; have HO304 := n12_; have HO308 := n13_; have HB := n14_; clear n0_ n1_ n2_ n3_ n4_ n5_ n6_ n7_ n8_ n9_ n10_ n11_ n12_ n13_ n14_; clear hb ho52; obtain ⟨Ao53, co53, eo53⟩ := Kd.R_slice HO308.out; subst eo53) | (go_at_call 35; (with_reducible refine (track_Pack.calls k _ _ y306 t309 _ ?side1 ?side2 A17.out).mono ?_); (case side1 => repeat (first | exact (Kd.R_reads' HO308.out).2.2 | (with_reducible refine Kd.C_alloc ?_ _) | (with_reducible refine Kd.C_drewN ?_ _) | (with_reducible refine Kd.C_drew ?_))); (case side2 => exact (Kd.R_reads' HO308.out).2.1); rintro e w54 ⟨v310, rfl, ho0, hb⟩; have n0_ := Aside0.mk (Kd.R_elder' (by (with_reducible repeat (first | apply Kd.R_alloc | apply Kd.R_drewN | apply Kd.R_drew)); exact HO261.out) (Kd.R_base ho0) hb); have n1_ := Aside0.mk (Kd.R_elder' (by (with_reducible repeat (first | apply Kd.R_alloc | apply Kd.R_drewN | apply Kd.R_drew)); exact HO265.out) (Kd.R_base ho0) hb); have n2_ := Aside0.mk (Kd.R_elder' (by (with_reducible repeat (first | apply Kd.R_alloc | apply Kd.R_drewN | apply Kd.R_drew)); exact HO269.out) (Kd.R_base ho0) hb); have n3_ := Aside0.mk (Kd.R_elder' (by (with_reducible repeat (first | apply Kd.R_alloc | apply Kd.R_drewN | apply Kd.R_drew)); exact HO272.out) (Kd.R_base ho0) hb); have n4_ := Aside0.mk (Kd.R_elder' (by (with_reducible repeat (first | apply Kd.R_alloc | apply Kd.R_drewN | apply Kd.R_drew)); exact HO276.out) (Kd.R_base ho0) hb); have n5_ := Aside0.mk (Kd.R_elder' (by (with_reducible repeat (first | apply Kd.R_alloc | apply Kd.R_drewN | apply Kd.R_drew)); exact HO279.out) (Kd.R_base ho0) hb); have n6_ := Aside0.mk (Kd.R_elder' (by (with_reducible repeat (first | apply Kd.R_alloc | apply Kd.R_drewN | apply Kd.R_drew)); exact HO283.out) (Kd.R_base ho0) hb); have n7_ := Aside0.mk (Kd.R_elder' (by (with_reducible repeat (first | apply Kd.R_alloc | apply Kd.R_drewN | apply Kd.R_drew)); exact HO286.out) (Kd.R_base ho0) hb); have n8_ := Aside0.mk (Kd.R_elder' (by (with_reducible repeat (first | apply Kd.R_alloc | apply Kd.R_drewN | apply Kd.R_drew)); exact HO290.out) (Kd.R_base ho0) hb); have n9_ := Aside0.mk (Kd.R_elder' (by (with_reducible repeat (first | apply Kd.R_alloc | apply Kd.R_drewN | apply Kd.R_drew)); exact HO293.out) (Kd.R_base ho0) hb); have n10_ := Aside0.mk (Kd.R_elder' (by (with_reducible repeat (first | apply Kd.R_alloc | apply Kd.R_drewN | apply Kd.R_drew)); exact HO297.out) (Kd.R_base ho0) hb); have n11_ := Aside0.mk (Kd.R_elder' (by (with_reducible repeat (first | apply Kd.R_alloc | apply Kd.R_drewN | apply Kd.R_drew)); exact HO300.out) (Kd.R_base ho0) hb); have n12_ := Aside0.mk (Kd.R_elder' (by (with_reducible repeat (first | apply Kd.R_alloc | apply Kd.R_drewN | apply Kd.R_drew)); exact HO304.out) (Kd.R_base ho0) hb); have n13_ := Aside0.mk (Kd.R_below (by (with_reducible repeat (first | apply Kd.R_alloc | apply Kd.R_drewN | apply Kd.R_drew)); exact HO308.out) hb); have n14_ := Aside0.mk (Kd.R_lower (Kd.R_new' (Kd.R_new' (Kd.R_new' (Kd.R_new' (Kd.R_new' (Kd.R_new' (Kd.R_new' (Kd.R_new' (Kd.R_new' (Kd.R_new' (Kd.R_new' (Kd.R_new' (Kd.R_new' ho0 (Kd.R_lt (by (with_reducible repeat (first | apply Kd.R_alloc | apply Kd.R_drewN | apply Kd.R_drew)); exact HO261.out))) (Kd.R_lt (by (with_reducible repeat (first | apply Kd.R_alloc | apply Kd.R_drewN | apply Kd.R_drew)); exact HO265.out))) (Kd.R_lt (by (with_reducible repeat (first | apply Kd.R_alloc | apply Kd.R_drewN | apply Kd.R_drew)); exact HO269.out))) (Kd.R_lt (by (with_reducible repeat (first | apply Kd.R_alloc | apply Kd.R_drewN | apply Kd.R_drew)); exact HO272.out))) (Kd.R_lt (by (with_reducible repeat (first | apply Kd.R_alloc | apply Kd.R_drewN | apply Kd.R_drew)); exact HO276.out))) (Kd.R_lt (by (with_reducible repeat (first | apply Kd.R_alloc | apply Kd.R_drewN | apply Kd.R_drew)); exact HO279.out))) (Kd.R_lt (by (with_reducible repeat (first | apply Kd.R_alloc | apply Kd.R_drewN | apply Kd.R_drew)); exact HO283.out))) (Kd.R_lt (by (with_reducible repeat (first | apply Kd.R_alloc | apply Kd.R_drewN | apply Kd.R_drew)); exact HO286.out))) (Kd.R_lt (by (with_reducible repeat (first | apply Kd.R_alloc | apply Kd.R_drewN | apply Kd.R_drew)); exact HO290.out))) (Kd.R_lt (by (with_reducible repeat (first | apply Kd.R_alloc | apply Kd.R_drewN | apply Kd.R_drew)); exact HO293.out))) (Kd.R_lt (by (with_reducible repeat (first | apply Kd.R_alloc | apply Kd.R_drewN | apply Kd.R_drew)); exact HO297.out))) (Kd.R_lt (by (with_reducible repeat (first | apply Kd.R_alloc | apply Kd.R_drewN | apply Kd.R_drew)); exact HO300.out))) (Kd.R_lt (by (with_reducible repeat (first | apply Kd.R_alloc | apply Kd.R_drewN | apply Kd.R_drew)); exact HO304.out))) (below_size (by repeat (first | (with_reducible first | exact HB.out | apply below_alloc | apply pw_below_drewN | apply below_drew1) | exact HB.out)))); have n15_ := Aside0.mk (below_step (by repeat (first | (with_reducible first | exact HB.out | apply below_alloc | apply pw_below_drewN | apply below_drew1) | exact HB.out)) hb); clear HO261; clear HO265; clear HO269; clear HO272; clear HO276; clear HO279; clear HO283; clear HO286; clear HO290; clear HO293; clear HO297; clear HO300; clear HO304; clear HO308; clear HB; have HO261 := n0_; have HO265 := n1_; have HO269 := n2_; have HO272 := n3_; have HO276 := n4_; have HO279 := n5_; have HO283 := n6_; have HO286 := n7_; have HO290 := n8_; have HO293 := n9_; have HO297 := n10_; have HO300 := n11_; have HO304 := n12_; have HO308 := n13_; have HO311 := n14_; have HB := n15_; clear n0_ n1_ n2_ n3_ n4_ n5_ n6_ n7_ n8_ n9_ n10_ n11_ n12_ n13_ n14_ n15_; (try clear hb); (try clear hb2); (try clear hk); (try clear hi); (try clear ho0)) | ((with_reducible refine gate_dst (N := 79) rfl ?_); (try (refine gate_guard (by rfl) ?_; dsimp only)); refine Kd.R_lit (Kd.int .u8) _ 5 ?hg (N := 79) ?hd (xs := ([160] : List Int)) (inner := [.int .u8 160]) (ok := fun _ => True) (okp := fun _ => True) ?hr ?hp (fun _ hk => hk) trivial (Below.refl _ _) (Nat.le_refl _) (by simp) ?_; (case hd => rfl); (case hg => rfl); (case hr => first | (go_simp; done) | (go_simp; rfl)); (case hp => exact (Reps.one (show Kd.M (Kd.int .u8) _ _ _ 160 [.int .u8 160] from rfl) (Reps.none _ _))); intro v313 w55 ho56 hb hg_ hnew_; clear hg_ hnew_; (first | rw [← Ny312.out] at ho56 | (simp only [Int.reduceToNat] at ho56; rw [← Ny312.out] at ho56)); have n0_ := Aside0.mk (Kd.R_elder' (by (with_reducible repeat (first | apply Kd.R_alloc | apply Kd.R_drewN | apply Kd.R_drew)); exact HO261.out) (Kd.R_base ho56) hb); have n1_ := Aside0.mk (Kd.R_elder' (by (with_reducible repeat (first | apply Kd.R_alloc | apply Kd.R_drewN | apply Kd.R_drew)); exact HO265.out) (Kd.R_base ho56) hb); have n2_ := Aside0.mk (Kd.R_elder' (by (with_reducible repeat (first | apply Kd.R_alloc | apply Kd.R_drewN | apply Kd.R_drew)); exact HO269.out) (Kd.R_base ho56) hb); have n3_ := Aside0.mk (Kd.R_elder' (by (with_reducible repeat (first | apply Kd.R_alloc | apply Kd.R_drewN | apply Kd.R_drew)); exact HO272.out) (Kd.R_base ho56) hb); have n4_ := Aside0.mk (Kd.R_elder' (by (with_reducible repeat (first | apply Kd.R_alloc | apply Kd.R_drewN | apply Kd.R_drew)); exact HO276.out) (Kd.R_base ho56) hb); have n5_ := Aside0.mk (Kd.R_elder' (by (with_reducible repeat (first | apply Kd.R_alloc | apply Kd.R_drewN | apply Kd.R_drew)); exact HO279.out) (Kd.R_base ho56) hb); have n6_ := Aside0.mk (Kd.R_elder' (by (with_reducible repeat (first | apply Kd.R_alloc | apply Kd.R_drewN | apply Kd.R_drew)); exact HO283.out) (Kd.R_base ho56) hb); have n7_ := Aside0.mk (Kd.R_elder' (by (with_reducible repeat (first | apply Kd.R_alloc | apply Kd.R_drewN | apply Kd.R_drew)); exact HO286.out) (Kd.R_base ho56) hb); have n8_ := Aside0.mk (Kd.R_elder' (by (with_reducible repeat (first | apply Kd.R_alloc | apply Kd.R_drewN | apply Kd.R_drew)); exact HO290.out) (Kd.R_base ho56) hb); have n9_ := Aside0.mk (Kd.R_elder' (by (with_reducible repeat (first | apply Kd.R_alloc | apply Kd.R_drewN | apply Kd.R_drew)); exact HO293.out) (Kd.R_base ho56) hb); have n10_ := Aside0.mk (Kd.R_elder' (by (with_reducible repeat (first | apply Kd.R_alloc | apply Kd.R_drewN | apply Kd.R_drew)); exact HO297.out) (Kd.R_base ho56) hb); have n11_ := Aside0.mk (Kd.R_elder' (by (with_reducible repeat (first | apply Kd.R_alloc | apply Kd.R_drewN | apply Kd.R_drew)); exact HO300.out) (Kd.R_base ho56) hb); have n12_ := Aside0.mk (Kd.R_elder' (by (with_reducible repeat (first | apply Kd.R_alloc | apply Kd.R_drewN | apply Kd.R_drew)); exact HO304.out) (Kd.R_base ho56) hb); have n13_ := Aside0.mk (Kd.R_below (by (with_reducible repeat (first | apply Kd.R_alloc | apply Kd.R_drewN | apply Kd.R_drew)); exact HO308.out) hb); have n14_ := Aside0.mk (Kd.R_elder' (by (with_reducible repeat (first | apply Kd.R_alloc | apply Kd.R_drewN | apply Kd.R_drew)); exact HO311.out) (Kd.R_base ho56) hb); have n15_ := Aside0.mk (Kd.R_lower (Kd.R_new' (Kd.R_new' (Kd.R_new' (Kd.R_new' (Kd.R_new' (Kd.R_new' (Kd.R_new' (Kd.R_new' (Kd.R_new' (Kd.R_new' (Kd.R_new' (Kd.R_new' (Kd.R_new' (Kd.R_new' ho56 (Kd.R_lt (by (with_reducible repeat (first | apply Kd.R_alloc | apply Kd.R_drewN | apply Kd.R_drew)); exact HO261.out))) (Kd.R_lt (by (with_reducible repeat (first | apply Kd.R_alloc | apply Kd.R_drewN | apply Kd.R_drew)); exact HO265.out))) (Kd.R_lt (by (with_reducible repeat (first | apply Kd.R_alloc | apply Kd.R_drewN | apply Kd.R_drew)); exact HO269.out))) (Kd.R_lt (by (with_reducible repeat (first | apply Kd.R_alloc | apply Kd.R_drewN | apply Kd.R_drew)); exact HO272.out))) (Kd.R_lt (by (with_reducible repeat (first | apply Kd.R_alloc | apply Kd.R_drewN | apply Kd.R_drew)); exact HO276.out))) (Kd.R_lt (by (with_reducible repeat (first | apply Kd.R_alloc | apply Kd.R_drewN | apply Kd.R_drew)); exact HO279.out))) (Kd.R_lt (by (with_reducible repeat (first | apply Kd.R_alloc | apply Kd.R_drewN | apply Kd.R_drew)); exact HO283.out))) (Kd.R_lt (by (with_reducible repeat (first | apply Kd.R_alloc | apply Kd.R_drewN | apply Kd.R_drew)); exact HO286.out))) (Kd.R_lt (by (with_reducible repeat (first | apply Kd.R_alloc | apply Kd.R_drewN | apply Kd.R_drew)); exact HO290.out))) (Kd.R_lt (by (with_reducible repeat (first | apply Kd.R_alloc | apply Kd.R_drewN | apply Kd.R_drew)); exact HO293.out))) (Kd.R_lt (by (with_reducible repeat (first | apply Kd.R_alloc | apply Kd.R_drewN | apply Kd.R_drew)); exact HO297.out))) (Kd.R_lt (by (with_reducible repeat (first | apply Kd.R_alloc | apply Kd.R_drewN | apply Kd.R_drew)); exact HO300.out))) (Kd.R_lt (by (with_reducible repeat (first | apply Kd.R_alloc | apply Kd.R_drewN | apply Kd.R_drew)); exact HO304.out))) (Kd.R_lt (by (with_reducible repeat (first | apply Kd.R_alloc | apply Kd.R_drewN | apply Kd.R_drew)); exact HO311.out))) (below_size (by repeat (first | (with_reducible first | exact HB.out | apply below_alloc | apply pw_below_drewN | apply below_drew1) | exact HB.out)))); have n16_ := Aside0.mk (below_step (by repeat (first | (with_reducible first | exact HB.out | apply below_alloc | apply pw_below_drewN | apply below_drew1) | exact HB.out)) hb); clear HO261; clear HO265; clear HO269; clear HO272; clear HO276; clear HO279; clear HO283; clear HO286; clear HO290; clear HO293; clear HO297; clear HO300; clear HO304; clear HO308; clear HO311; clear HB; have HO261 := n0_; have HO265 := n1_; have HO269 := n2_; have HO272 := n3_; have HO276 := n4_; have HO279 := n5_; have HO283 := n6_; have HO286 := n7_; have HO290 := n8_; have HO293 := n9_; have HO297 := n10_; have HO300 := n11_; have HO304 := n12_; have HO308 := n13_; have HO311 := n14_; have HO314 := n15_; have HB := n16_; clear n0_ n1_ n2_ n3_ n4_ n5_ n6_ n7_ n8_ n9_ n10_ n11_ n12_ n13_ n14_ n15_ n16_; clear hb ho56; obtain ⟨Ao57, co57, eo57⟩ := Kd.R_slice HO311.out; subst eo57; obtain ⟨Ao58, co58, eo58⟩ := Kd.R_slice HO314.out; subst eo58) | (go_at_call 20; (with_reducible refine (gatelineref01_Same.calls k _ _ t309 _ _ y312 true _ ?side1 ?side2 ?side3 ?side4 A18.out).mono ?_); (case side1 => repeat (first | exact (Kd.R_reads' HO311.out).2.2 | (with_reducible refine Kd.C_alloc ?_ _) | (with_reducible refine Kd.C_drewN ?_ _) | (with_reducible refine Kd.C_drew ?_))); (case side2 => exact (Kd.R_reads' HO311.out).2.1); (case side3 => repeat (first | exact (Kd.R_reads' HO314.out).2.2 | (with_reducible refine Kd.C_alloc ?_ _) | (with_reducible refine Kd.C_drewN ?_ _) | (with_reducible refine Kd.C_drew ?_))); (case side4 => exact (Kd.R_reads' HO314.out).2.1); rintro e w' ⟨rfl, ⟨nd, rfl⟩⟩) | ((with_reducible refine gate_dst (N := 83) rfl ?_); (try (refine gate_guard (by rfl) ?_; dsimp only)); refine Kd.R_lit (Kd.int .u8) _ 5 ?hg (N := 83) ?hd (xs := ([3] : List Int)) (inner := [.int .u8 3]) (ok := fun _ => True) (okp := fun _ => True) ?hr ?hp (fun _ hk => hk) trivial (Below.refl _ _) (Nat.le_refl _) (by simp) ?_; (case hd => rfl); (case hg => rfl); (case hr => first | (go_simp; done) | (go_simp; rfl)); (case hp => exact (Reps.one (show Kd.M (Kd.int .u8) _ _ _ 3 [.int .u8 3] from rfl) (Reps.none _ _))); intro v317 w59 ho60 hb hg_ hnew_; clear hg_ hnew_; (first | rw [← Ny316.out] at ho60 | (simp only [Int.reduceToNat] at ho60; rw [← Ny316.out] at ho60)); have n0_ := Aside0.mk (Kd.R_elder' (by (with_reducible repeat (first | apply Kd.R_alloc | apply Kd.R_drewN | apply Kd.R_drew)); exact HO261.out) (Kd.R_base ho60) hb); have n1_ := Aside0.mk (Kd.R_elder' (by (with_reducible repeat (first | apply Kd.R_alloc | apply Kd.R_drewN | apply Kd.R_drew)); exact HO265.out) (Kd.R_base ho60) hb); have n2_ := Aside0.mk (Kd.R_elder' (by (with_reducible repeat (first | apply Kd.R_alloc | apply Kd.R_drewN | apply Kd.R_drew)); exact HO269.out) (Kd.R_base ho60) hb); have n3_ := Aside0.mk (Kd.R_elder' (by (with_reducible repeat (first | apply Kd.R_alloc | apply Kd.R_drewN | apply Kd.R_drew)); exact HO272.out) (Kd.R_base ho60) hb); have n4_ := Aside0.mk (Kd.R_elder' (by (with_reducible repeat (first | apply Kd.R_alloc | apply Kd.R_drewN | apply Kd.R_drew)); exact HO276.out) (Kd.R_base ho60) hb); have n5_ := Aside0.mk (Kd.R_elder' (by (with_reducible repeat (first | apply Kd.R_alloc | apply Kd.R_drewN | apply Kd.R_drew)); exact HO279.out) (Kd.R_base ho60) hb); have n6_ := Aside0.mk (Kd.R_elder' (by (with_reducible repeat (first | apply Kd.R_alloc | apply Kd.R_drewN | apply Kd.R_drew)); exact HO283.out) (Kd.R_base ho60) hb); have n7_ := Aside0.mk (Kd.R_elder' (by (with_reducible repeat (first | apply Kd.R_alloc | apply Kd.R_drewN | apply Kd.R_drew)); exact HO286.out) (Kd.R_base ho60) hb); have n8_ := Aside0.mk (Kd.R_elder' (by (with_reducible repeat (first | apply Kd.R_alloc | apply Kd.R_drewN | apply Kd.R_drew)); exact HO290.out) (Kd.R_base ho60) hb); have n9_ := Aside0.mk (Kd.R_elder' (by (with_reducible repeat (first | apply Kd.R_alloc | apply Kd.R_drewN | apply Kd.R_drew)); exact HO293.out) (Kd.R_base ho60) hb); have n10_ := Aside0.mk (Kd.R_elder' (by (with_reducible repeat (first | apply Kd.R_alloc | apply Kd.R_drewN | apply Kd.R_drew)); exact HO297.out) (Kd.R_base ho60) hb); have n11_ := Aside0.mk (Kd.R_elder' (by (with_reducible repeat (first | apply Kd.R_alloc | apply Kd.R_drewN | apply Kd.R_drew)); exact HO300.out) (Kd.R_base ho60) hb); have n12_ := Aside0.mk (Kd.R_elder' (by (with_reducible repeat (first | apply Kd.R_alloc | apply Kd.R_drewN | apply Kd.R_drew)); exact HO304.out) (Kd.R_base ho60) hb); have n13_ := Aside0.mk (Kd.R_below (by (with_reducible repeat (first | apply Kd.R_alloc | apply Kd.R_drewN | apply Kd.R_drew)); exact HO308.out) hb); have n14_ := Aside0.mk (Kd.R_elder' (by (with_reducible repeat (first | apply Kd.R_alloc | apply Kd.R_drewN | apply Kd.R_drew)); exact HO311.out) (Kd.R_base ho60) hb); have n15_ := Aside0.mk (Kd.R_elder' (by (with_reducible repeat (first | apply Kd.R_alloc | apply Kd.R_drewN | apply Kd.R_drew)); exact HO314.out) (Kd.R_base ho60) hb); have n16_ := Aside0.mk (Kd.R_lower (Kd.R_new' (Kd.R_new' (Kd.R_new' (Kd.R_new' (Kd.R_new' (Kd.R_new' (Kd.R_new' (Kd.R_new' (Kd.R_new' (Kd.R_new' (Kd.R_new' (Kd.R_new' (Kd.R_new' (Kd.R_new' (Kd.R_new' ho60 (Kd.R_lt (by (with_reducible repeat (first | apply Kd.R_alloc | apply Kd.R_drewN | apply Kd.R_drew)); exact HO261.out))) (Kd.R_lt (by (with_reducible repeat (first | apply Kd.R_alloc | apply Kd.R_drewN | apply Kd.R_drew)); exact HO265.out))) (Kd.R_lt (by (with_reducible repeat (first | apply Kd.R_alloc | apply Kd.R_drewN | apply Kd.R_drew)); exact HO269.out))) (Kd.R_lt (by (with_reducible repeat (first | apply Kd.R_alloc | apply Kd.R_drewN | apply Kd.R_drew)); exact HO272.out))) (Kd.R_lt (by (with_reducible repeat (first | apply Kd.R_alloc | apply Kd.R_drewN | apply Kd.R_drew)); exact HO276.out))) (Kd.R_lt (by (with_reducible repeat (first | apply Kd.R_alloc | apply Kd.R_drewN | apply Kd.R_drew)); exact HO279.out))) (Kd.R_lt (by (with_reducible repeat (first | apply Kd.R_alloc | apply Kd.R_drewN | apply Kd.R_drew)); exact HO283.out))) (Kd.R_lt (by (with_reducible repeat (first | apply Kd.R_alloc | apply Kd.R_drewN | apply Kd.R_drew)); exact HO286.out))) (Kd.R_lt (by (with_reducible repeat (first | apply Kd.R_alloc | apply Kd.R_drewN | apply Kd.R_drew)); exact HO290.out))) (Kd.R_lt (by (with_reducible repeat (first | apply Kd.R_alloc | apply Kd.R_drewN | apply Kd.R_drew)); exact HO293.out))) (Kd.R_lt (by (with_reducible repeat (first | apply Kd.R_alloc | apply Kd.R_drewN | apply Kd.R_drew)); exact HO297.out))) (Kd.R_lt (by (with_reducible repeat (first | apply Kd.R_alloc | apply Kd.R_drewN | apply Kd.R_drew)); exact HO300.out))) (Kd.R_lt (by (with_reducible repeat (first | apply Kd.R_alloc | apply Kd.R_drewN | apply Kd.R_drew)); exact HO304.out))) (Kd.R_lt (by (with_reducible repeat (first | apply Kd.R_alloc | apply Kd.R_drewN | apply Kd.R_drew)); exact HO311.out))) (Kd.R_lt (by (with_reducible repeat (first | apply Kd.R_alloc | apply Kd.R_drewN | apply Kd.R_drew)); exact HO314.out))) (below_size (by repeat (first | (with_reducible first | exact HB.out | apply below_alloc | apply pw_below_drewN | apply below_drew1) | exact HB.out)))); have n17_ := Aside0.mk (below_step (by repeat (first | (with_reducible first | exact HB.out | apply below_alloc | apply pw_below_drewN | apply below_drew1) | exact HB.out)) hb); clear HO261; clear HO265; clear HO269; clear HO272; clear HO276; clear HO279; clear HO283; clear HO286; clear HO290; clear HO293; clear HO297; clear HO300; clear HO304; clear HO308; clear HO311; clear HO314; clear HB; have HO261 := n0_; have HO265 := n1_; have HO269 := n2_; have HO272 := n3_; have HO276 := n4_; have HO279 := n5_; have HO283 := n6_; have HO286 := n7_; have HO290 := n8_; have HO293 := n9_; have HO297 := n10_; have HO300 := n11_; have HO304 := n12_; have HO308 := n13_; have HO311 := n14_; have HO314 := n15_; have HO318 := n16_; have HB := n17_; clear n0_ n1_ n2_ n3_ n4_ n5_ n6_ n7_ n8_ n9_ n10_ n11_ n12_ n13_ n14_ n15_ n16_ n17_; clear hb ho60; obtain ⟨Ao61, co61, eo61⟩ := Kd.R_slice HO318.out; subst eo61) | (go_at_call 38; (with_reducible refine (track_Unpack.calls k _ _ y316 t319 _ ?side1 ?side2 A20.out).mono ?_); (case side1 => repeat (first | exact (Kd.R_reads' HO318.out).2.2 | (with_reducible refine Kd.C_alloc ?_ _) | (with_reducible refine Kd.C_drewN ?_ _) | (with_reducible refine Kd.C_drew ?_))); (case side2 => exact (Kd.R_reads' HO318.out).2.1); rintro e w62 ⟨v320, rfl, ho0, hb⟩; have n0_ := Aside0.mk (Kd.R_below (by (with_reducible repeat (first | apply Kd.R_alloc | apply Kd.R_drewN | apply Kd.R_drew)); exact HO261.out) hb); have n1_ := Aside0.mk (Kd.R_below (by (with_reducible repeat (first | apply Kd.R_alloc | apply Kd.R_drewN | apply Kd.R_drew)); exact HO265.out) hb); have n2_ := Aside0.mk (Kd.R_below (by (with_reducible repeat (first | apply Kd.R_alloc | apply Kd.R_drewN | apply Kd.R_drew)); exact HO269.out) hb); have n3_ := Aside0.mk (Kd.R_below (by (with_reducible repeat (first | apply Kd.R_alloc | apply Kd.R_drewN | apply Kd.R_drew)); exact HO272.out) hb); have n4_ := Aside0.mk (Kd.R_below (by (with_reducible repeat (first | apply Kd.R_alloc | apply Kd.R_drewN | apply Kd.R_drew)); exact HO276.out) hb); have n5_ := Aside0.mk (Kd.R_below (by (with_reducible repeat (first | apply Kd.R_alloc | apply Kd.R_drewN | apply Kd.R_drew)); exact HO279.out) hb); have n6_ := Aside0.mk (Kd.R_below (by (with_reducible repeat (first | apply Kd.R_alloc | apply Kd.R_drewN | apply Kd.R_drew)); exact HO283.out) hb); have n7_ := Aside0.mk (Kd.R_below (by (with_reducible repeat (first | apply Kd.R_alloc | apply Kd.R_drewN | apply Kd.R_drew)); exact HO286.out) hb); have n8_ := Aside0.mk (Kd.R_below (by (with_reducible repeat (first | apply Kd.R_alloc | apply Kd.R_drewN | apply Kd.R_drew)); exact HO290.out) hb); have n9_ := Aside0.mk (Kd.R_below (by (with_reducible repeat (first | apply Kd.R_alloc | apply Kd.R_drewN | apply Kd.R_drew)); exact HO293.out) hb); have n10_ := Aside0.mk (Kd.R_below (by (with_reducible repeat (first | apply Kd.R_alloc | apply Kd.R_drewN | apply Kd.R_drew)); exact HO297.out) hb); have n11_ := Aside0.mk (Kd.R_below (by (with_reducible repeat (first | apply Kd.R_alloc | apply Kd.R_drewN | apply Kd.R_drew)); exact HO300.out) hb); have n12_ := Aside0.mk (Kd.R_below (by (with_reducible repeat (first | apply Kd.R_alloc | apply Kd.R_drewN | apply Kd.R_drew)); exact HO304.out) hb); have n13_ := Aside0.mk (Kd.R_elder' (by (with_reducible repeat (first | apply Kd.R_alloc | apply Kd.R_drewN | apply Kd.R_drew)); exact HO308.out) (Kd.R_base ho0) hb); have n14_ := Aside0.mk (Kd.R_below (by (with_reducible repeat (first | apply Kd.R_alloc | apply Kd.R_drewN | apply Kd.R_drew)); exact HO311.out) hb); have n15_ := Aside0.mk (Kd.R_below (by (with_reducible repeat (first | apply Kd.R_alloc | apply Kd.R_drewN | apply Kd.R_drew)); exact HO314.out) hb); have n16_ := Aside0.mk (Kd.R_below (by (with_reducible repeat (first | apply Kd.R_alloc | apply Kd.R_drewN | apply Kd.R_drew)); exact HO318.out) hb); have n17_ := Aside0.mk (Kd.R_lower (Kd.R_new' ho0 (Kd.R_lt (by (with_reducible repeat (first | apply Kd.R_alloc | apply Kd.R_drewN | apply Kd.R_drew)); exact HO308.out))) (below_size (by repeat (first | (with_reducible first | exact HB.out | apply below_alloc | apply pw_below_drewN | apply below_drew1) | exact HB.out)))); have n18_ := Aside0.mk (below_step (by repeat (first | (with_reducible first | exact HB.out | apply below_alloc | apply pw_below_drewN | apply below_drew1) | exact HB.out)) hb); clear HO261; clear HO265; clear HO269; clear HO272; clear HO276; clear HO279; clear HO283; clear HO286; clear HO290; clear HO293; clear HO297; clear HO300; clear HO304; clear HO308; clear HO311; clear HO314; clear HO318; clear HB; have HO261 := n0_; have HO265 := n1_; have HO269 := n2_; have HO272 := n3_; have HO276 := n4_; have HO279 := n5_; have HO283 := n6_; have HO286 := n7_; have HO290 := n8_; have HO293 := n9_; have HO297 := n10_; have HO300 := n11_; have HO304 := n12_; have HO308 := n13_; have HO311 := n14_; have HO314 := n15_; have HO318 := n16_; have HO321 := n17_; have HB := n18_; clear n0_ n1_ n2_ n3_ n4_ n5_ n6_ n7_ n8_ n9_ n10_ n11_ n12_ n13_ n14_ n15_ n16_ n17_ n18_; (try clear hb); (try clear hb2); (try clear hk); (try clear hi); (try clear ho0)) | ((with_reducible refine gate_dst (N := 85) rfl ?_); (try (refine gate_guard (by rfl) ?_; dsimp only)); refine Kd.R_lit Kd.bool _ 4 ?hg (N := 85) ?hd (xs := ([false, false, false, false, false, false, true, true] : List Bool)) (inner := [.bool false, .bool false, .bool false, .bool false, .bool false, .bool false, .bool true, .bool true]) (ok := fun _ => True) (okp := fun _ => True) ?hr ?hp (fun _ hk => hk) trivial (Below.refl _ _) (Nat.le_refl _) (by simp) ?_; (case hd => rfl); (case hg => rfl); (case hr => first | (go_simp; done) | (go_simp; rfl)); (case hp => exact (Reps.one (show Kd.M Kd.bool _ _ _ false [.bool false] from rfl) (Reps.one (show Kd.M Kd.bool _ _ _ false [.bool false] from rfl) (Reps.one (show Kd.M Kd.bool _ _ _ false [.bool false] from rfl) (Reps.one (show Kd.M Kd.bool _ _ _ false [.bool false] from rfl) (Reps.one (show Kd.M Kd.bool _ _ _ false [.bool false] from rfl) (Reps.one (show Kd.M Kd.bool _ _ _ false [.bool false] from rfl) (Reps.one (show Kd.M Kd.bool _ _ _ true [.bool true] from rfl) (Reps.one (show Kd.M Kd.bool _ _ _ true [.bool true] from rfl) (Reps.none _ _)))))))))); intro v323 w63 ho64 hb hg_ hnew_; clear hg_ hnew_; (first | rw [← Ny322.out] at ho64 | (simp only [Int.reduceToNat] at ho64; rw [← Ny322.out] at ho64)); have n0_ := Aside0.mk (Kd.R_below (by (with_reducible repeat (first | apply Kd.R_alloc | apply Kd.R_drewN | apply Kd.R_drew)); exact HO261.out) hb); have n1_ := Aside0.mk (Kd.R_below (by (with_reducible repeat (first | apply Kd.R_alloc | apply Kd.R_drewN | apply Kd.R_drew)); exact HO265.out) hb); have n2_ := Aside0.mk (Kd.R_below (by (with_reducible repeat (first | apply Kd.R_alloc | apply Kd.R_drewN | apply Kd.R_drew)); exact HO269.out) hb); have n3_ := Aside0.mk (Kd.R_below (by (with_reducible repeat (first | apply Kd.R_alloc | apply Kd.R_drewN | apply Kd.R_drew)); exact HO272.out) hb); have n4_ := Aside0.mk (Kd.R_below (by (with_reducible repeat (first | apply Kd.R_alloc | apply Kd.R_drewN | apply Kd.R_drew)); exact HO276.out) hb); have n5_ := Aside0.mk (Kd.R_below (by (with_reducible repeat (first | apply Kd.R_alloc | apply Kd.R_drewN | apply Kd.R_drew)); exact HO279.out) hb); have n6_ := Aside0.mk (Kd.R_below (by (with_reducible repeat (first | apply Kd.R_alloc | apply Kd.R_drewN | apply Kd.R_drew)); exact HO283.out) hb); have n7_ := Aside0.mk (Kd.R_below (by (with_reducible repeat (first | apply Kd.R_alloc | apply Kd.R_drewN | apply Kd.R_drew)); exact HO286.out) hb); have n8_ := Aside0.mk (Kd.R_below (by (with_reducible repeat (first | apply Kd.R_alloc | apply Kd.R_drewN | apply Kd.R_drew)); exact HO290.out) hb); have n9_ := Aside0.mk (Kd.R_below (by (with_reducible repeat (first | apply Kd.R_alloc | apply Kd.R_drewN | apply Kd.R_drew)); exact HO293.out) hb); have n10_ := Aside0.mk (Kd.R_below (by (with_reducible repeat (first | apply Kd.R_alloc | apply Kd.R_drewN | apply Kd.R_drew)); exact HO297.out) hb); have n11_ := Aside0.mk (Kd.R_below (by (with_reducible repeat (first | apply Kd.R_alloc | apply Kd.R_drewN | apply Kd.R_drew)); exact HO300.out) hb); have n12_ := Aside0.mk (Kd.R_below (by (with_reducible repeat (first | apply Kd.R_alloc | apply Kd.R_drewN | apply Kd.R_drew)); exact HO304.out) hb); have n13_ := Aside0.mk (Kd.R_elder' (by (with_reducible repeat (first | apply Kd.R_alloc | apply Kd.R_drewN | apply Kd.R_drew)); exact HO308.out) (Kd.R_base ho64) hb); have n14_ := Aside0.mk (Kd.R_below (by (with_reducible repeat (first | apply Kd.R_alloc | apply Kd.R_drewN | apply Kd.R_drew)); exact HO311.out) hb); have n15_ := Aside0.mk (Kd.R_below (by (with_reducible repeat (first | apply Kd.R_alloc | apply Kd.R_drewN | apply Kd.R_drew)); exact HO314.out) hb); have n16_ := Aside0.mk (Kd.R_below (by (with_reducible repeat (first | apply Kd.R_alloc | apply Kd.R_drewN | apply Kd.R_drew)); exact HO318.out) hb); have n17_ := Aside0.mk (Kd.R_elder' (by (with_reducible repeat (first | apply Kd.R_alloc | apply Kd.R_drewN | apply Kd.R_drew)); exact HO321.out) (Kd.R_base ho64) hb); have n18_ := Aside0.mk (Kd.R_lower (Kd.R_new' (Kd.R_new' ho64 (Kd.R_lt (by (with_reducible repeat (first | apply Kd.R_alloc | apply Kd.R_drewN | apply Kd.R_drew)); exact HO308.out))) (Kd.R_lt (by (with_reducible repeat (first | apply Kd.R_alloc | apply Kd.R_drewN | apply Kd.R_drew)); exact HO321.out))) (below_size (by repeat (first | (with_reducible first | exact HB.out | apply below_alloc | apply pw_below_drewN | apply below_drew1) | exact HB.out)))); have n19_ := Aside0.mk (below_step (by repeat (first | (with_reducible first | exact HB.out | apply below_alloc | apply pw_below_drewN | apply below_drew1) | exact HB.out)) hb); clear HO261; clear HO265; clear HO269; clear HO272; clear HO276; clear HO279; clear HO283; clear HO286; clear HO290; clear HO293; clear HO297; clear HO300; clear HO304; clear HO308; clear HO311; clear HO314; clear HO318; clear HO321; clear HB; have HO261 := n0_; have HO265 := n1_; have HO269 := n2_; have HO272 := n3_; have HO276 := n4_; have HO279 := n5_; have HO283 := n6_; have HO286 := n7_; have HO290 := n8_; have HO293 := n9_; have HO297 := n10_; have HO300 := n11_; have HO304 := n12_; have HO308 := n13_; have HO311 := n14_; have HO314 := n15_; have HO318 := n16_; have HO321 := n17_; have HO324 := n18_; have HB := n19_; clear n0_ n1_ n2_ n3_ n4_ n5_ n6_ n7_ n8_ n9_ n10_ n11_ n12_ n13_ n14_ n15_ n16_ n17_ n18_ n19_; clear hb ho64; obtain ⟨Ao65, co65, eo65⟩ := Kd.R_slice HO321.out; subst eo65; obtain ⟨Ao66, co66, eo66⟩ := Kd.R_slice HO324.out; subst eo66) | (go_at_call 37; (with_reducible refine (gatelineref11_SameBits.calls k _ _ t319 _ _ y322 t325 _ ?side1 ?side2 ?side3 ?side4 A21.out).mono ?_); (case side1 => repeat (first | exact (Kd.R_reads' HO321.out).2.2 | (with_reducible refine Kd.C_alloc ?_ _) | (with_reducible refine Kd.C_drewN ?_ _) | (with_reducible refine Kd.C_drew ?_))); (case side2 => exact (Kd.R_reads' HO321.out).2.1); (case side3 => repeat (first | exact (Kd.R_reads' HO324.out).2.2 | (with_reducible refine Kd.C_alloc ?_ _) | (with_reducible refine Kd.C_drewN ?_ _) | (with_reducible refine Kd.C_drew ?_))); (case side4 => exact (Kd.R_reads' HO324.out).2.1); rintro e w' ⟨rfl, ⟨nd, rfl⟩⟩))
                    go_ret
                    exact ⟨by first | rfl | (simp [errW_none, errW_some] <;> rfl) | (simp [*, errW_none, errW_some] <;> rfl), by repeat (first | (with_reducible first | exact HB.out | apply below_alloc | apply pw_below_drewN | apply below_drew1) | exact HB.out)⟩
                  · replace c19 := Bool.eq_false_iff.mpr c19
                    subst c19
                    have H1 : (none) = some r := by rw [if_neg (show ¬ (false = true) by decide)] at H; exact H
                    clear H
                    have H := H1
                    clear H1
                    exact absurd H (by simp)
                · rw [if_neg c16] at H
                  exact absurd H (by simp)
              · rw [if_neg c15] at H
                exact absurd H (by simp)
            · rw [if_neg c14] at H
              exact absurd H (by simp)
          · rw [if_neg c13] at H
            exact absurd H (by simp)
        · replace c12 := Bool.eq_false_iff.mpr c12
          subst c12
          have H1 : (none) = some r := by rw [if_neg (show ¬ (false = true) by decide)] at H; exact H
          clear H
          have H := H1
          clear H1
          exact absurd H (by simp)
      · rw [if_neg c10] at H
        exact absurd H (by simp)
    · replace c9 := Bool.eq_false_iff.mpr c9
      subst c9
      have H1 : (none) = some r := by rw [if_neg (show ¬ (false = true) by decide)] at H; exact H
      clear H
      have H := H1
      clear H1
      exact absurd H (by simp)
  · rw [if_neg c7] at H
    exact absurd H (by simp)

end Go.Proofs.Ytfmpeojlaibblaa.S

/-
  Plain lemmas on the printed functions of this seat: no Go, no memory.
-/
namespace Go.Proofs.Ytfmpeojlaibblaa.Pure
open Go.RowKit Go.Proofs.Ytfmpeojlaibblaa.S Go.Proofs.YtfmpeojlaibblaaW.PrintWords Go.Proofs.YtfmpeojlaibblaaW.PrintLast

theorem wrap_in {n : Int} (h0 : -9223372036854775808 ≤ n) (h1 : n ≤ 9223372036854775807) : wrap64 n = n := by unfold wrap64; omega
theorem rd_get {l : List Int} {i : Nat} (h : i < l.length) : rd l (i : Int) = l[i] := by simp [rd, h]
theorem get_rd {l : List Int} {i : Nat} (h : i < l.length) : l[i] = rd l (i : Int) := (rd_get h).symm
theorem drop_rd {l : List Int} {i : Nat} (h : i < l.length) : l.drop i = rd l (i : Int) :: l.drop (i + 1) := by rw [rd_get h, List.drop_eq_getElem_cons h]

/-- ref01.Same tells whether two rows are one. -/
theorem same_l (a b : List Int) (hl : a.length = b.length) (hm : a.length ≤ 140737488355328) : ∀ (d i k : Nat), a.length - i = d → i ≤ a.length → d < k →
    gatelineref01_Same.l0 k a b (i : Int) = some (decide (a.drop i = b.drop i)) := by
  intro d
  induction d with
  | zero =>
    intro i k hd hi hk
    obtain ⟨k, rfl⟩ : ∃ m, k = m + 1 := ⟨k - 1, by omega⟩
    simp only [gatelineref01_Same.l0]
    rw [if_neg (by omega), List.drop_eq_nil_of_le (by omega), List.drop_eq_nil_of_le (by omega)]
    simp
  | succ d ih =>
    intro i k hd hi hk
    obtain ⟨k, rfl⟩ : ∃ m, k = m + 1 := ⟨k - 1, by omega⟩
    simp only [gatelineref01_Same.l0]
    rw [if_pos (by omega), if_pos (by omega), if_pos (by omega), drop_rd (l := a) (by omega), drop_rd (l := b) (by omega)]
    by_cases h : rd a i = rd b i
    · rw [if_pos h, wrap_in (by omega) (by omega), show ((i : Int) + 1) = ((i + 1 : Nat) : Int) by omega, ih (i + 1) k (by omega) (by omega) (by omega), h]
      simp
    · rw [if_neg h]
      simp [h]
theorem same_ev (a b : List Int) (hm : a.length ≤ 140737488355328) : Ev (fun k => gatelineref01_Same.f k a b) (decide (a = b)) := by
  refine ⟨a.length + 1, fun k hk => ?_⟩
  show gatelineref01_Same.f k a b = _
  unfold gatelineref01_Same.f
  by_cases h : a.length = b.length
  · rw [if_pos (by omega)]
    have := same_l a b h hm a.length 0 k (by omega) (by omega) (by omega)
    simpa using this
  · rw [if_neg (by omega)]
    have : a ≠ b := fun e => h (by rw [e])
    simp [this]
/-! ### bytes -/
def IsB (x : Int) : Prop := 0 ≤ x ∧ x < 256
def AllB (l : List Int) : Prop := ∀ x ∈ l, IsB x
theorem isB_of_wf {x : Int} (h : (Lit.int .u8 x).wf = true) : IsB x := by
  simp [Lit.wf, IntKind.min, IntKind.max, IntKind.signed, IntKind.bits] at h
  exact ⟨by omega, by omega⟩
theorem allB_of_wf {l : List Int} (h : ∀ x ∈ l, (Lit.int .u8 x).wf = true) : AllB l := fun x hx => isB_of_wf (h x hx)
theorem isB_rd {l : List Int} (h : AllB l) (i : Int) : IsB (rd l i) := by
  unfold rd
  by_cases hi : i.toNat < l.length
  · rw [List.getD_eq_getElem?_getD, List.getElem?_eq_getElem hi]
    exact h _ (List.getElem_mem hi)
  · rw [List.getD_eq_getElem?_getD, List.getElem?_eq_none (by omega)]
    exact ⟨by decide, by decide⟩
theorem eq_of_rd {a b : List Int} (hl : a.length = b.length) (h : ∀ j : Nat, j < a.length → rd a (j : Int) = rd b (j : Int)) : a = b := by
  refine List.ext_getElem hl fun i h1 h2 => ?_
  rw [get_rd h1, get_rd h2]
  exact h i h1
end Go.Proofs.Ytfmpeojlaibblaa.Pure

/- Written for this claim by a program of this session (handprint.py, over the kit's print). Lean checks it. -/
namespace Go.Proofs.Ytfmpeojlaibblaa.S
open Go.RowKit Go.Proofs.YtfmpeojlaibblaaW.PrintWords Go.Proofs.YtfmpeojlaibblaaW.PrintLast Go.Proofs.YtfmpeojlaibblaaW.PrintMore
attribute [local go_sem] max2_int min2_int max_two min_two max_three min_three max_four min_four   -- for this text's walks alone
set_option linter.unusedVariables false
set_option linter.unusedSimpArgs false

theorem eqA36_at (b0 b1 b2 b3 b4 : Bool) (w : World) : (part 4 #[.bool b0, .bool b1, .bool b2, .bool b3, .bool b4] 0).run Try.prog w = .ok (.bool b0) w ∧ (part 4 #[.bool b0, .bool b1, .bool b2, .bool b3, .bool b4] 1).run Try.prog w = .ok (.bool b1) w ∧
    (part 4 #[.bool b0, .bool b1, .bool b2, .bool b3, .bool b4] 2).run Try.prog w = .ok (.bool b2) w ∧ (part 4 #[.bool b0, .bool b1, .bool b2, .bool b3, .bool b4] 3).run Try.prog w = .ok (.bool b3) w ∧ (part 4 #[.bool b0, .bool b1, .bool b2, .bool b3, .bool b4] 4).run Try.prog w = .ok (.bool b4) w :=
  ⟨by kernel_rfl, by kernel_rfl, by kernel_rfl, by kernel_rfl, by kernel_rfl⟩
theorem eqA36_one (d : Nat) (w : World) (a b : Bool) : (Op.equalIn (d + 1) 4 (.bool a) (.bool b)).run Try.prog w = .ok (a == b) w := by
  simp [Op.equalIn, run_underlying Try.underlying4]
theorem eqA36 (d : Nat) (w : World) (x0 x1 x2 x3 x4 y0 y1 y2 y3 y4 : Bool) : (Op.equalIn (d + 2) 36 (.agg #[.bool x0, .bool x1, .bool x2, .bool x3, .bool x4]) (.agg #[.bool y0, .bool y1, .bool y2, .bool y3, .bool y4])).run Try.prog w = .ok (x0 == y0 && (x1 == y1 && (x2 == y2 && (x3 == y3 && (x4 == y4))))) w := by
  rw [Op.equalIn]
  simp only [Sem.run_bind, run_underlying Try.underlying36, Result.andThen_ok]
  simp [Std.Legacy.Range.forIn_eq_forIn_range', List.range', eqA36_at, eqA36_one]
  by_cases h0 : x0 = y0 <;> by_cases h1 : x1 = y1 <;> by_cases h2 : x2 = y2 <;> by_cases h3 : x3 = y3 <;> by_cases h4 : x4 = y4 <;> simp [h0, h1, h2, h3, h4]

end Go.Proofs.Ytfmpeojlaibblaa.S

/- Written for this claim by a program of this session (handprint.py, over the kit's print). Lean checks it. -/
namespace Go.Proofs.Ytfmpeojlaibblaa.S
open Go.RowKit Go.Proofs.YtfmpeojlaibblaaW.PrintWords Go.Proofs.YtfmpeojlaibblaaW.PrintLast Go.Proofs.YtfmpeojlaibblaaW.PrintMore
attribute [local go_sem] max2_int min2_int max_two min_two max_three min_three max_four min_four   -- for this text's walks alone
set_option linter.unusedVariables false
set_option linter.unusedSimpArgs false

attribute [local go_sem high] eqA36
/-! ### gatelinelaw10_odd: function 27 -/
def gatelinelaw10_odd.f  : Option (Bool) := (parity_Char.f 11).bind fun bt108 => ((parity_Char.f 15).bind fun bt110 => ((parity_Value.f 31).bind fun bt112 => ((parity_Value.f 15).bind fun bt114 => ((parity_Value.f 32).bind fun bt116 => ((parity_Sum.f (([11, 3, 15] : List Int))).bind fun bt121 => ((parity_Sum.f (([1, 16] : List Int))).bind fun bt126 => ((parity_Bits.f 11).bind fun bt128 => (if bt108.2 = 0 then (if bt108.1 = 11 then (if bt110.2 = bt108.2 then (if bt110.1 = 31 then (if bt112.2 = bt108.2 then (if bt112.1 = 15 then (if bt114.2 = 3 then (if bt116.2 = 1 then (if bt121.2 = bt108.2 then (if bt121.1 = 7 then (if bt126.2 = bt116.2 then (if bt128.2.2.2.2.2 = bt108.2 then (if (bt128.1 && (bt128.2.1 && (!bt128.2.2.1 && (bt128.2.2.2.1 && (!bt128.2.2.2.2.1))))) = true then ((parity_Of.f bt128.1 bt128.2.1 bt128.2.2.1 bt128.2.2.2.1 bt128.2.2.2.2.1).bind fun t135 => (some (t135 == 11))) else (none)) else (none)) else (none)) else (none)) else (none)) else (none)) else (none)) else (none)) else (none)) else (none)) else (none)) else (none)) else (none)))))))))
set_option maxHeartbeats 8000000 in
set_option maxRecDepth 100000 in
theorem gatelinelaw10_odd.calls  (r : Bool) (w : World) (h : gatelinelaw10_odd.f  = some r) :
    Calls Try.prog 27 #[] w fun e w' => e = .returned (.bool r) ∧ Below w.heap.size w w' := by
  have hu36 := Try.underlying36
  have HB := Aside0.mk (Below.refl w.heap.size w)
  have H : ((parity_Char.f 11).bind fun bt108 => ((parity_Char.f 15).bind fun bt110 => ((parity_Value.f 31).bind fun bt112 => ((parity_Value.f 15).bind fun bt114 => ((parity_Value.f 32).bind fun bt116 => ((parity_Sum.f (([11, 3, 15] : List Int))).bind fun bt121 => ((parity_Sum.f (([1, 16] : List Int))).bind fun bt126 => ((parity_Bits.f 11).bind fun bt128 => (if bt108.2 = 0 then (if bt108.1 = 11 then (if bt110.2 = bt108.2 then (if bt110.1 = 31 then (if bt112.2 = bt108.2 then (if bt112.1 = 15 then (if bt114.2 = 3 then (if bt116.2 = 1 then (if bt121.2 = bt108.2 then (if bt121.1 = 7 then (if bt126.2 = bt116.2 then (if bt128.2.2.2.2.2 = bt108.2 then (if (bt128.1 && (bt128.2.1 && (!bt128.2.2.1 && (bt128.2.2.2.1 && (!bt128.2.2.2.2.1))))) = true then ((parity_Of.f bt128.1 bt128.2.1 bt128.2.2.1 bt128.2.2.2.1 bt128.2.2.2.2.1).bind fun t135 => (some (t135 == 11))) else (none)) else (none)) else (none)) else (none)) else (none)) else (none)) else (none)) else (none)) else (none)) else (none)) else (none)) else (none)) else (none)))))))))) = some r := h
  clear h
  replace H := Option.bind_eq_some_iff.mp H
  obtain ⟨⟨t108, t109⟩, A10, H⟩ := H
  replace H : ((parity_Char.f 15).bind fun bt110 => ((parity_Value.f 31).bind fun bt112 => ((parity_Value.f 15).bind fun bt114 => ((parity_Value.f 32).bind fun bt116 => ((parity_Sum.f (([11, 3, 15] : List Int))).bind fun bt121 => ((parity_Sum.f (([1, 16] : List Int))).bind fun bt126 => ((parity_Bits.f 11).bind fun bt128 => (if t109 = 0 then (if t108 = 11 then (if bt110.2 = t109 then (if bt110.1 = 31 then (if bt112.2 = t109 then (if bt112.1 = 15 then (if bt114.2 = 3 then (if bt116.2 = 1 then (if bt121.2 = t109 then (if bt121.1 = 7 then (if bt126.2 = bt116.2 then (if bt128.2.2.2.2.2 = t109 then (if (bt128.1 && (bt128.2.1 && (!bt128.2.2.1 && (bt128.2.2.2.1 && (!bt128.2.2.2.2.1))))) = true then ((parity_Of.f bt128.1 bt128.2.1 bt128.2.2.1 bt128.2.2.2.1 bt128.2.2.2.2.1).bind fun t135 => (some (t135 == 11))) else (none)) else (none)) else (none)) else (none)) else (none)) else (none)) else (none)) else (none)) else (none)) else (none)) else (none)) else (none)) else (none))))))))) = some r := H
  have A1 := Aside0.mk A10
  clear A10
  replace H := Option.bind_eq_some_iff.mp H
  obtain ⟨⟨t110, t111⟩, A20, H⟩ := H
  replace H : ((parity_Value.f 31).bind fun bt112 => ((parity_Value.f 15).bind fun bt114 => ((parity_Value.f 32).bind fun bt116 => ((parity_Sum.f (([11, 3, 15] : List Int))).bind fun bt121 => ((parity_Sum.f (([1, 16] : List Int))).bind fun bt126 => ((parity_Bits.f 11).bind fun bt128 => (if t109 = 0 then (if t108 = 11 then (if t111 = t109 then (if t110 = 31 then (if bt112.2 = t109 then (if bt112.1 = 15 then (if bt114.2 = 3 then (if bt116.2 = 1 then (if bt121.2 = t109 then (if bt121.1 = 7 then (if bt126.2 = bt116.2 then (if bt128.2.2.2.2.2 = t109 then (if (bt128.1 && (bt128.2.1 && (!bt128.2.2.1 && (bt128.2.2.2.1 && (!bt128.2.2.2.2.1))))) = true then ((parity_Of.f bt128.1 bt128.2.1 bt128.2.2.1 bt128.2.2.2.1 bt128.2.2.2.2.1).bind fun t135 => (some (t135 == 11))) else (none)) else (none)) else (none)) else (none)) else (none)) else (none)) else (none)) else (none)) else (none)) else (none)) else (none)) else (none)) else (none)))))))) = some r := H
  have A2 := Aside0.mk A20
  clear A20
  replace H := Option.bind_eq_some_iff.mp H
  obtain ⟨⟨t112, t113⟩, A30, H⟩ := H
  replace H : ((parity_Value.f 15).bind fun bt114 => ((parity_Value.f 32).bind fun bt116 => ((parity_Sum.f (([11, 3, 15] : List Int))).bind fun bt121 => ((parity_Sum.f (([1, 16] : List Int))).bind fun bt126 => ((parity_Bits.f 11).bind fun bt128 => (if t109 = 0 then (if t108 = 11 then (if t111 = t109 then (if t110 = 31 then (if t113 = t109 then (if t112 = 15 then (if bt114.2 = 3 then (if bt116.2 = 1 then (if bt121.2 = t109 then (if bt121.1 = 7 then (if bt126.2 = bt116.2 then (if bt128.2.2.2.2.2 = t109 then (if (bt128.1 && (bt128.2.1 && (!bt128.2.2.1 && (bt128.2.2.2.1 && (!bt128.2.2.2.2.1))))) = true then ((parity_Of.f bt128.1 bt128.2.1 bt128.2.2.1 bt128.2.2.2.1 bt128.2.2.2.2.1).bind fun t135 => (some (t135 == 11))) else (none)) else (none)) else (none)) else (none)) else (none)) else (none)) else (none)) else (none)) else (none)) else (none)) else (none)) else (none)) else (none))))))) = some r := H
  have A3 := Aside0.mk A30
  clear A30
  replace H := Option.bind_eq_some_iff.mp H
  obtain ⟨⟨t114, t115⟩, A40, H⟩ := H
  replace H : ((parity_Value.f 32).bind fun bt116 => ((parity_Sum.f (([11, 3, 15] : List Int))).bind fun bt121 => ((parity_Sum.f (([1, 16] : List Int))).bind fun bt126 => ((parity_Bits.f 11).bind fun bt128 => (if t109 = 0 then (if t108 = 11 then (if t111 = t109 then (if t110 = 31 then (if t113 = t109 then (if t112 = 15 then (if t115 = 3 then (if bt116.2 = 1 then (if bt121.2 = t109 then (if bt121.1 = 7 then (if bt126.2 = bt116.2 then (if bt128.2.2.2.2.2 = t109 then (if (bt128.1 && (bt128.2.1 && (!bt128.2.2.1 && (bt128.2.2.2.1 && (!bt128.2.2.2.2.1))))) = true then ((parity_Of.f bt128.1 bt128.2.1 bt128.2.2.1 bt128.2.2.2.1 bt128.2.2.2.2.1).bind fun t135 => (some (t135 == 11))) else (none)) else (none)) else (none)) else (none)) else (none)) else (none)) else (none)) else (none)) else (none)) else (none)) else (none)) else (none)) else (none)))))) = some r := H
  have A4 := Aside0.mk A40
  clear A40
  replace H := Option.bind_eq_some_iff.mp H
  obtain ⟨⟨t116, t117⟩, A50, H⟩ := H
  replace H : ((parity_Sum.f (([11, 3, 15] : List Int))).bind fun bt121 => ((parity_Sum.f (([1, 16] : List Int))).bind fun bt126 => ((parity_Bits.f 11).bind fun bt128 => (if t109 = 0 then (if t108 = 11 then (if t111 = t109 then (if t110 = 31 then (if t113 = t109 then (if t112 = 15 then (if t115 = 3 then (if t117 = 1 then (if bt121.2 = t109 then (if bt121.1 = 7 then (if bt126.2 = t117 then (if bt128.2.2.2.2.2 = t109 then (if (bt128.1 && (bt128.2.1 && (!bt128.2.2.1 && (bt128.2.2.2.1 && (!bt128.2.2.2.2.1))))) = true then ((parity_Of.f bt128.1 bt128.2.1 bt128.2.2.1 bt128.2.2.2.1 bt128.2.2.2.2.1).bind fun t135 => (some (t135 == 11))) else (none)) else (none)) else (none)) else (none)) else (none)) else (none)) else (none)) else (none)) else (none)) else (none)) else (none)) else (none)) else (none))))) = some r := H
  have A5 := Aside0.mk A50
  clear A50
  obtain ⟨y118, hy118⟩ : ∃ y_ : List Int, y_ = (([11, 3, 15] : List Int)) := ⟨_, rfl⟩
  replace H : ((parity_Sum.f y118).bind fun bt121 => ((parity_Sum.f (([1, 16] : List Int))).bind fun bt126 => ((parity_Bits.f 11).bind fun bt128 => (if t109 = 0 then (if t108 = 11 then (if t111 = t109 then (if t110 = 31 then (if t113 = t109 then (if t112 = 15 then (if t115 = 3 then (if t117 = 1 then (if bt121.2 = t109 then (if bt121.1 = 7 then (if bt126.2 = t117 then (if bt128.2.2.2.2.2 = t109 then (if (bt128.1 && (bt128.2.1 && (!bt128.2.2.1 && (bt128.2.2.2.1 && (!bt128.2.2.2.2.1))))) = true then ((parity_Of.f bt128.1 bt128.2.1 bt128.2.2.1 bt128.2.2.2.1 bt128.2.2.2.2.1).bind fun t135 => (some (t135 == 11))) else (none)) else (none)) else (none)) else (none)) else (none)) else (none)) else (none)) else (none)) else (none)) else (none)) else (none)) else (none)) else (none))))) = some r := by first | (rw [hy118]; with_reducible exact H) | (have H2_ := (Option.bind_some _ _).symm.trans H; rw [hy118]; with_reducible exact H2_) | (have H2_ := (Option.bind_some _ _).symm.trans H; with_reducible exact H2_) | with_reducible exact H | (rw [hy118]; exact H) | exact H
  have Ny118 := Aside0.mk hy118
  clear hy118
  replace H := Option.bind_eq_some_iff.mp H
  obtain ⟨⟨t121, t122⟩, A60, H⟩ := H
  replace H : ((parity_Sum.f (([1, 16] : List Int))).bind fun bt126 => ((parity_Bits.f 11).bind fun bt128 => (if t109 = 0 then (if t108 = 11 then (if t111 = t109 then (if t110 = 31 then (if t113 = t109 then (if t112 = 15 then (if t115 = 3 then (if t117 = 1 then (if t122 = t109 then (if t121 = 7 then (if bt126.2 = t117 then (if bt128.2.2.2.2.2 = t109 then (if (bt128.1 && (bt128.2.1 && (!bt128.2.2.1 && (bt128.2.2.2.1 && (!bt128.2.2.2.2.1))))) = true then ((parity_Of.f bt128.1 bt128.2.1 bt128.2.2.1 bt128.2.2.2.1 bt128.2.2.2.2.1).bind fun t135 => (some (t135 == 11))) else (none)) else (none)) else (none)) else (none)) else (none)) else (none)) else (none)) else (none)) else (none)) else (none)) else (none)) else (none)) else (none)))) = some r := H
  have A6 := Aside0.mk A60
  clear A60
  obtain ⟨y123, hy123⟩ : ∃ y_ : List Int, y_ = (([1, 16] : List Int)) := ⟨_, rfl⟩
  replace H : ((parity_Sum.f y123).bind fun bt126 => ((parity_Bits.f 11).bind fun bt128 => (if t109 = 0 then (if t108 = 11 then (if t111 = t109 then (if t110 = 31 then (if t113 = t109 then (if t112 = 15 then (if t115 = 3 then (if t117 = 1 then (if t122 = t109 then (if t121 = 7 then (if bt126.2 = t117 then (if bt128.2.2.2.2.2 = t109 then (if (bt128.1 && (bt128.2.1 && (!bt128.2.2.1 && (bt128.2.2.2.1 && (!bt128.2.2.2.2.1))))) = true then ((parity_Of.f bt128.1 bt128.2.1 bt128.2.2.1 bt128.2.2.2.1 bt128.2.2.2.2.1).bind fun t135 => (some (t135 == 11))) else (none)) else (none)) else (none)) else (none)) else (none)) else (none)) else (none)) else (none)) else (none)) else (none)) else (none)) else (none)) else (none)))) = some r := by first | (rw [hy123]; with_reducible exact H) | (have H2_ := (Option.bind_some _ _).symm.trans H; rw [hy123]; with_reducible exact H2_) | (have H2_ := (Option.bind_some _ _).symm.trans H; with_reducible exact H2_) | with_reducible exact H | (rw [hy123]; exact H) | exact H
  have Ny123 := Aside0.mk hy123
  clear hy123
  replace H := Option.bind_eq_some_iff.mp H
  obtain ⟨⟨t126, t127⟩, A70, H⟩ := H
  replace H : ((parity_Bits.f 11).bind fun bt128 => (if t109 = 0 then (if t108 = 11 then (if t111 = t109 then (if t110 = 31 then (if t113 = t109 then (if t112 = 15 then (if t115 = 3 then (if t117 = 1 then (if t122 = t109 then (if t121 = 7 then (if t127 = t117 then (if bt128.2.2.2.2.2 = t109 then (if (bt128.1 && (bt128.2.1 && (!bt128.2.2.1 && (bt128.2.2.2.1 && (!bt128.2.2.2.2.1))))) = true then ((parity_Of.f bt128.1 bt128.2.1 bt128.2.2.1 bt128.2.2.2.1 bt128.2.2.2.2.1).bind fun t135 => (some (t135 == 11))) else (none)) else (none)) else (none)) else (none)) else (none)) else (none)) else (none)) else (none)) else (none)) else (none)) else (none)) else (none)) else (none))) = some r := H
  have A7 := Aside0.mk A70
  clear A70
  replace H := Option.bind_eq_some_iff.mp H
  obtain ⟨⟨t128, t129, t130, t131, t132, t133⟩, A80, H⟩ := H
  replace H : (if t109 = 0 then (if t108 = 11 then (if t111 = t109 then (if t110 = 31 then (if t113 = t109 then (if t112 = 15 then (if t115 = 3 then (if t117 = 1 then (if t122 = t109 then (if t121 = 7 then (if t127 = t117 then (if t133 = t109 then (if (t128 && (t129 && (!t130 && (t131 && (!t132))))) = true then ((parity_Of.f t128 t129 t130 t131 t132).bind fun t135 => (some (t135 == 11))) else (none)) else (none)) else (none)) else (none)) else (none)) else (none)) else (none)) else (none)) else (none)) else (none)) else (none)) else (none)) else (none)) = some r := H
  have A8 := Aside0.mk A80
  clear A80
  by_cases c9 : t109 = 0
  · rw [if_pos c9] at H
    have c9b0 : (t109 == 0) = true := beq_iff_eq.mpr c9
    have c9b1 : (t109 != 0) = false := bne_eq_false_iff_eq.mpr c9
    clear c9
    by_cases c10 : t108 = 11
    · rw [if_pos c10] at H
      have c10b0 : (t108 == 11) = true := beq_iff_eq.mpr c10
      have c10b1 : (t108 != 11) = false := bne_eq_false_iff_eq.mpr c10
      clear c10
      by_cases c11 : t111 = t109
      · rw [if_pos c11] at H
        have c11b0 : (t111 == t109) = true := beq_iff_eq.mpr c11
        have c11b1 : (t111 != t109) = false := bne_eq_false_iff_eq.mpr c11
        clear c11
        by_cases c12 : t110 = 31
        · rw [if_pos c12] at H
          have c12b0 : (t110 == 31) = true := beq_iff_eq.mpr c12
          have c12b1 : (t110 != 31) = false := bne_eq_false_iff_eq.mpr c12
          clear c12
          by_cases c13 : t113 = t109
          · rw [if_pos c13] at H
            have c13b0 : (t113 == t109) = true := beq_iff_eq.mpr c13
            have c13b1 : (t113 != t109) = false := bne_eq_false_iff_eq.mpr c13
            clear c13
            by_cases c14 : t112 = 15
            · rw [if_pos c14] at H
              have c14b0 : (t112 == 15) = true := beq_iff_eq.mpr c14
              have c14b1 : (t112 != 15) = false := bne_eq_false_iff_eq.mpr c14
              clear c14
              by_cases c15 : t115 = 3
              · rw [if_pos c15] at H
                have c15b0 : (t115 == 3) = true := beq_iff_eq.mpr c15
                have c15b1 : (t115 != 3) = false := bne_eq_false_iff_eq.mpr c15
                clear c15
                by_cases c16 : t117 = 1
                · rw [if_pos c16] at H
                  have c16b0 : (t117 == 1) = true := beq_iff_eq.mpr c16
                  have c16b1 : (t117 != 1) = false := bne_eq_false_iff_eq.mpr c16
                  clear c16
                  by_cases c17 : t122 = t109
                  · rw [if_pos c17] at H
                    have c17b0 : (t122 == t109) = true := beq_iff_eq.mpr c17
                    have c17b1 : (t122 != t109) = false := bne_eq_false_iff_eq.mpr c17
                    clear c17
                    by_cases c18 : t121 = 7
                    · rw [if_pos c18] at H
                      have c18b0 : (t121 == 7) = true := beq_iff_eq.mpr c18
                      have c18b1 : (t121 != 7) = false := bne_eq_false_iff_eq.mpr c18
                      clear c18
                      by_cases c19 : t127 = t117
                      · rw [if_pos c19] at H
                        have c19b0 : (t127 == t117) = true := beq_iff_eq.mpr c19
                        have c19b1 : (t127 != t117) = false := bne_eq_false_iff_eq.mpr c19
                        clear c19
                        by_cases c20 : t133 = t109
                        · rw [if_pos c20] at H
                          have c20b0 : (t133 == t109) = true := beq_iff_eq.mpr c20
                          have c20b1 : (t133 != t109) = false := bne_eq_false_iff_eq.mpr c20
                          clear c20
                          by_cases c21 : (t128 && (t129 && (!t130 && (t131 && (!t132))))) = true
                          · rw [if_pos c21] at H
                            have c21b0 : (t128 && (t129 && (!t130 && (t131 && (!t132))))) = true := c21
                            clear c21
                            replace H := Option.bind_eq_some_iff.mp H
                            obtain ⟨t135, A220, H⟩ := H
                            replace H : (some (t135 == 11)) = some r := H
                            have A22 := Aside0.mk A220
                            clear A220
                            obtain rfl := Option.some.inj H
                            go_enter Try.func27, Try.ntmps27
                            go_wp2_with (first | ((with_reducible refine gate_callee (f := 23) rfl ?_); refine goesL_ (some 18) rfl rfl Try.func23 (by kernel_rfl) rfl #[.int .i64 11] rfl (by (try simp only [List.map_toArray, List.map_cons, List.map_nil]); first | done | rfl | (simp only [List.length_drop, List.length_take]; rfl)) ?_; (with_reducible refine (parity_Char.calls 11 t108 t109 _ A1.out).mono ?_); rintro e w' ⟨rfl, ⟨nd, rfl⟩⟩; refine ⟨_, rfl, ?_⟩) | ((with_reducible refine gate_callee (f := 23) rfl ?_); refine goesL_ (some 22) rfl rfl Try.func23 (by kernel_rfl) rfl #[.int .i64 15] rfl (by (try simp only [List.map_toArray, List.map_cons, List.map_nil]); first | done | rfl | (simp only [List.length_drop, List.length_take]; rfl)) ?_; (with_reducible refine (parity_Char.calls 15 t110 t111 _ A2.out).mono ?_); rintro e w' ⟨rfl, ⟨nd, rfl⟩⟩; refine ⟨_, rfl, ?_⟩) | ((with_reducible refine gate_callee (f := 25) rfl ?_); refine goesL_ (some 26) rfl rfl Try.func25 (by kernel_rfl) rfl #[.int .i64 31] rfl (by (try simp only [List.map_toArray, List.map_cons, List.map_nil]); first | done | rfl | (simp only [List.length_drop, List.length_take]; rfl)) ?_; (with_reducible refine (parity_Value.calls 31 t112 t113 _ A3.out).mono ?_); rintro e w' ⟨rfl, ⟨nd, rfl⟩⟩; refine ⟨_, rfl, ?_⟩) | ((with_reducible refine gate_callee (f := 25) rfl ?_); refine goesL_ (some 30) rfl rfl Try.func25 (by kernel_rfl) rfl #[.int .i64 15] rfl (by (try simp only [List.map_toArray, List.map_cons, List.map_nil]); first | done | rfl | (simp only [List.length_drop, List.length_take]; rfl)) ?_; (with_reducible refine (parity_Value.calls 15 t114 t115 _ A4.out).mono ?_); rintro e w' ⟨rfl, ⟨nd, rfl⟩⟩; refine ⟨_, rfl, ?_⟩) | ((with_reducible refine gate_callee (f := 25) rfl ?_); refine goesL_ (some 34) rfl rfl Try.func25 (by kernel_rfl) rfl #[.int .i64 32] rfl (by (try simp only [List.map_toArray, List.map_cons, List.map_nil]); first | done | rfl | (simp only [List.length_drop, List.length_take]; rfl)) ?_; (with_reducible refine (parity_Value.calls 32 t116 t117 _ A5.out).mono ?_); rintro e w' ⟨rfl, ⟨nd, rfl⟩⟩; refine ⟨_, rfl, ?_⟩) | ((with_reducible refine gate_dst (N := 38) rfl ?_); refine Kd.R_lit (Kd.int .i64) _ 3 ?hg (N := 38) ?hd (xs := ([11, 3, 15] : List Int)) (inner := [.int .i64 11, .int .i64 3, .int .i64 15]) (ok := fun _ => True) (okp := fun _ => True) ?hr ?hp (fun _ hk => hk) trivial (Below.refl _ _) (Nat.le_refl _) (by simp) ?_; (case hd => rfl); (case hg => rfl); (case hr => first | (go_simp; done) | (go_simp; rfl)); (case hp => exact (Reps.one (show Kd.M (Kd.int .i64) _ _ _ 11 [.int .i64 11] from rfl) (Reps.one (show Kd.M (Kd.int .i64) _ _ _ 3 [.int .i64 3] from rfl) (Reps.one (show Kd.M (Kd.int .i64) _ _ _ 15 [.int .i64 15] from rfl) (Reps.none _ _))))); intro v119 w23 ho24 hb hg_ hnew_; clear hg_ hnew_; (first | rw [← Ny118.out] at ho24 | (simp only [Int.reduceToNat] at ho24; rw [← Ny118.out] at ho24)); have n0_ := Aside0.mk (Kd.R_lower ho24 (below_size (by repeat (first | (with_reducible first | exact HB.out | apply below_alloc | apply pw_below_drewN | apply below_drew1) | exact HB.out)))); have n1_ := Aside0.mk (below_step (by repeat (first | (with_reducible first | exact HB.out | apply below_alloc | apply pw_below_drewN | apply below_drew1) | exact HB.out)) hb); clear HB; have HO120 := n0_; have HB := n1_; clear n0_ n1_; clear hb ho24; obtain ⟨Ao25, co25, eo25⟩ := Kd.R_slice HO120.out; subst eo25) | ((with_reducible refine gate_callee (f := 28) rfl ?_); refine goesL_ (some 39) rfl rfl Try.func28 (by kernel_rfl) rfl #[.slice Ao25 y118.length co25] rfl (by (try simp only [List.map_toArray, List.map_cons, List.map_nil]); first | done | rfl | (simp only [List.length_drop, List.length_take]; rfl)) ?_; (with_reducible refine (parity_Sum.calls _ _ y118 t121 t122 _ ?side1 ?side2 A6.out).mono ?_); (case side1 => repeat (first | exact (Kd.R_reads' HO120.out).2.2 | (with_reducible refine Kd.C_alloc ?_ _) | (with_reducible refine Kd.C_drewN ?_ _) | (with_reducible refine Kd.C_drew ?_))); (case side2 => exact (Kd.R_reads' HO120.out).2.1); rintro e w26 ⟨rfl, hb⟩; refine ⟨_, rfl, ?_⟩; have n0_ := Aside0.mk (Kd.R_below (by (with_reducible repeat (first | apply Kd.R_alloc | apply Kd.R_drewN | apply Kd.R_drew)); exact HO120.out) hb); have n1_ := Aside0.mk (below_step (by repeat (first | (with_reducible first | exact HB.out | apply below_alloc | apply pw_below_drewN | apply below_drew1) | exact HB.out)) hb); clear HO120; clear HB; have HO120 := n0_; have HB := n1_; clear n0_ n1_; (try clear hb); (try clear hb2); (try clear hk); (try clear hi)) | ((with_reducible refine gate_dst (N := 43) rfl ?_); refine Kd.R_lit (Kd.int .i64) _ 3 ?hg (N := 43) ?hd (xs := ([1, 16] : List Int)) (inner := [.int .i64 1, .int .i64 16]) (ok := fun _ => True) (okp := fun _ => True) ?hr ?hp (fun _ hk => hk) trivial (Below.refl _ _) (Nat.le_refl _) (by simp) ?_; (case hd => rfl); (case hg => rfl); (case hr => first | (go_simp; done) | (go_simp; rfl)); (case hp => exact (Reps.one (show Kd.M (Kd.int .i64) _ _ _ 1 [.int .i64 1] from rfl) (Reps.one (show Kd.M (Kd.int .i64) _ _ _ 16 [.int .i64 16] from rfl) (Reps.none _ _)))); intro v124 w27 ho28 hb hg_ hnew_; clear hg_ hnew_; (first | rw [← Ny123.out] at ho28 | (simp only [Int.reduceToNat] at ho28; rw [← Ny123.out] at ho28)); have n0_ := Aside0.mk (Kd.R_elder' (by (with_reducible repeat (first | apply Kd.R_alloc | apply Kd.R_drewN | apply Kd.R_drew)); exact HO120.out) (Kd.R_base ho28) hb); have n1_ := Aside0.mk (Kd.R_lower (Kd.R_new' ho28 (Kd.R_lt (by (with_reducible repeat (first | apply Kd.R_alloc | apply Kd.R_drewN | apply Kd.R_drew)); exact HO120.out))) (below_size (by repeat (first | (with_reducible first | exact HB.out | apply below_alloc | apply pw_below_drewN | apply below_drew1) | exact HB.out)))); have n2_ := Aside0.mk (below_step (by repeat (first | (with_reducible first | exact HB.out | apply below_alloc | apply pw_below_drewN | apply below_drew1) | exact HB.out)) hb); clear HO120; clear HB; have HO120 := n0_; have HO125 := n1_; have HB := n2_; clear n0_ n1_ n2_; clear hb ho28; obtain ⟨Ao29, co29, eo29⟩ := Kd.R_slice HO125.out; subst eo29) | ((with_reducible refine gate_callee (f := 28) rfl ?_); refine goesL_ (some 44) rfl rfl Try.func28 (by kernel_rfl) rfl #[.slice Ao29 y123.length co29] rfl (by (try simp only [List.map_toArray, List.map_cons, List.map_nil]); first | done | rfl | (simp only [List.length_drop, List.length_take]; rfl)) ?_; (with_reducible refine (parity_Sum.calls _ _ y123 t126 t127 _ ?side1 ?side2 A7.out).mono ?_); (case side1 => repeat (first | exact (Kd.R_reads' HO125.out).2.2 | (with_reducible refine Kd.C_alloc ?_ _) | (with_reducible refine Kd.C_drewN ?_ _) | (with_reducible refine Kd.C_drew ?_))); (case side2 => exact (Kd.R_reads' HO125.out).2.1); rintro e w30 ⟨rfl, hb⟩; refine ⟨_, rfl, ?_⟩; have n0_ := Aside0.mk (Kd.R_below (by (with_reducible repeat (first | apply Kd.R_alloc | apply Kd.R_drewN | apply Kd.R_drew)); exact HO120.out) hb); have n1_ := Aside0.mk (Kd.R_below (by (with_reducible repeat (first | apply Kd.R_alloc | apply Kd.R_drewN | apply Kd.R_drew)); exact HO125.out) hb); have n2_ := Aside0.mk (below_step (by repeat (first | (with_reducible first | exact HB.out | apply below_alloc | apply pw_below_drewN | apply below_drew1) | exact HB.out)) hb); clear HO120; clear HO125; clear HB; have HO120 := n0_; have HO125 := n1_; have HB := n2_; clear n0_ n1_ n2_; (try clear hb); (try clear hb2); (try clear hk); (try clear hi)) | ((with_reducible refine gate_callee (f := 30) rfl ?_); refine goesL_ (some 48) rfl rfl Try.func30 (by kernel_rfl) rfl #[.int .i64 11] rfl (by (try simp only [List.map_toArray, List.map_cons, List.map_nil]); first | done | rfl | (simp only [List.length_drop, List.length_take]; rfl)) ?_; (with_reducible refine (parity_Bits.calls 11 t128 t129 t130 t131 t132 t133 _ A8.out).mono ?_); rintro e w31 ⟨rfl, hb⟩; refine ⟨_, rfl, ?_⟩; have n0_ := Aside0.mk (Kd.R_below (by (with_reducible repeat (first | apply Kd.R_alloc | apply Kd.R_drewN | apply Kd.R_drew)); exact HO120.out) hb); have n1_ := Aside0.mk (Kd.R_below (by (with_reducible repeat (first | apply Kd.R_alloc | apply Kd.R_drewN | apply Kd.R_drew)); exact HO125.out) hb); have n2_ := Aside0.mk (below_step (by repeat (first | (with_reducible first | exact HB.out | apply below_alloc | apply pw_below_drewN | apply below_drew1) | exact HB.out)) hb); clear HO120; clear HO125; clear HB; have HO120 := n0_; have HO125 := n1_; have HB := n2_; clear n0_ n1_ n2_; (try clear hb); (try clear hb2); (try clear hk); (try clear hi)) | ((with_reducible refine gate_dst (N := 15) rfl ?_); refine box_event ?hg (N := 15) ?hd (cs := #[.bool false, .bool false, .bool false, .bool false, .bool false]) (t := 36) ?hr ?_; (case hd => rfl); (case hg => rfl); (case hr => first | (go_simp; done) | (go_simp; rfl)); intro gb134 hg w32 hbox hb; have n0_ := Aside0.mk (Kd.R_below (by (with_reducible repeat (first | apply Kd.R_alloc | apply Kd.R_drewN | apply Kd.R_drew)); exact HO120.out) hb); have n1_ := Aside0.mk (Kd.R_below (by (with_reducible repeat (first | apply Kd.R_alloc | apply Kd.R_drewN | apply Kd.R_drew)); exact HO125.out) hb); have n2_ := Aside0.mk (below_step (by repeat (first | (with_reducible first | exact HB.out | apply below_alloc | apply pw_below_drewN | apply below_drew1) | exact HB.out)) hb); have n3_ := Aside0.mk (hbox); have n4_ := Aside0.mk ((by rw [hg]; exact (below_size (by repeat (first | (with_reducible first | exact HB.out | apply below_alloc | apply pw_below_drewN | apply below_drew1) | exact HB.out))) : w.heap.size ≤ gb134)); have n5_ := Aside0.mk ((by rw [hg]; exact (below_size (by repeat (first | (with_reducible first | exact HB.out | apply below_alloc | apply pw_below_drewN | apply below_drew1) | exact HB.out))) : w.heap.size ≤ gb134)); clear HO120; clear HO125; clear HB; have HO120 := n0_; have HO125 := n1_; have HB := n2_; have BK134 := n3_; have GW134 := n4_; have GE134 := n5_; clear n0_ n1_ n2_ n3_ n4_ n5_; clear hb hbox hg; have hcz33_0 : w32.cell? ⟨gb134, 0, none⟩ = some (.bool false) := (blk_cell BK134.out 0).trans rfl; have hcz33_1 : w32.cell? ⟨gb134, 1, none⟩ = some (.bool false) := (blk_cell BK134.out 1).trans rfl; have hcz33_2 : w32.cell? ⟨gb134, 2, none⟩ = some (.bool false) := (blk_cell BK134.out 2).trans rfl; have hcz33_3 : w32.cell? ⟨gb134, 3, none⟩ = some (.bool false) := (blk_cell BK134.out 3).trans rfl; have hcz33_4 : w32.cell? ⟨gb134, 4, none⟩ = some (.bool false) := (blk_cell BK134.out 4).trans rfl; have hfz33_0 := blk_frozen BK134.out 0; have hfz33_1 := blk_frozen BK134.out 1; have hfz33_2 := blk_frozen BK134.out 2; have hfz33_3 := blk_frozen BK134.out 3; have hfz33_4 := blk_frozen BK134.out 4) | (go_at_call 32; (with_reducible refine (parity_Of.calls t128 t129 t130 t131 t132 t135 _ A22.out).mono ?_); rintro e w34 ⟨rfl, hb⟩; have n0_ := Aside0.mk (Kd.R_below (by (with_reducible repeat (first | apply Kd.R_alloc | apply Kd.R_drewN | apply Kd.R_drew)); exact (Kd.R_mono (Kd.R_far (p := ⟨gb134, 4, none⟩) (Kd.R_far (p := ⟨gb134, 3, none⟩) (Kd.R_far (p := ⟨gb134, 2, none⟩) (Kd.R_far (p := ⟨gb134, 1, none⟩) (Kd.R_far (p := ⟨gb134, 0, none⟩) (Kd.R_types HO120.out BK134.out (by decide)) (fun _ hk => hk.2) (.bool t128)) (fun _ hk => hk.2) (.bool t129)) (fun _ hk => hk.2) (.bool t130)) (fun _ hk => hk.2) (.bool t131)) (fun _ hk => hk.2) (.bool t132)) (fun _ h_ => h_.1))) hb); have n1_ := Aside0.mk (Kd.R_below (by (with_reducible repeat (first | apply Kd.R_alloc | apply Kd.R_drewN | apply Kd.R_drew)); exact (Kd.R_mono (Kd.R_far (p := ⟨gb134, 4, none⟩) (Kd.R_far (p := ⟨gb134, 3, none⟩) (Kd.R_far (p := ⟨gb134, 2, none⟩) (Kd.R_far (p := ⟨gb134, 1, none⟩) (Kd.R_far (p := ⟨gb134, 0, none⟩) (Kd.R_types HO125.out BK134.out (by decide)) (fun _ hk => hk.2) (.bool t128)) (fun _ hk => hk.2) (.bool t129)) (fun _ hk => hk.2) (.bool t130)) (fun _ hk => hk.2) (.bool t131)) (fun _ hk => hk.2) (.bool t132)) (fun _ h_ => h_.1))) hb); have n2_ := Aside0.mk (blk_below (g := gb134) (o := .cells #[.bool t128, .bool t129, .bool t130, .bool t131, .bool t132] 36 (0, 0)) (by (with_reducible repeat (first | refine blk_drewN ?_ _ | refine blk_drew ?_ | refine blk_alloc ?_ _)); refine blk_put (cs := #[.bool t128, .bool t129, .bool t130, .bool t131, .bool false]) ?_ 4 _ rfl; (with_reducible repeat (first | refine blk_drewN ?_ _ | refine blk_drew ?_ | refine blk_alloc ?_ _)); refine blk_put (cs := #[.bool t128, .bool t129, .bool t130, .bool false, .bool false]) ?_ 3 _ rfl; (with_reducible repeat (first | refine blk_drewN ?_ _ | refine blk_drew ?_ | refine blk_alloc ?_ _)); refine blk_put (cs := #[.bool t128, .bool t129, .bool false, .bool false, .bool false]) ?_ 2 _ rfl; (with_reducible repeat (first | refine blk_drewN ?_ _ | refine blk_drew ?_ | refine blk_alloc ?_ _)); refine blk_put (cs := #[.bool t128, .bool false, .bool false, .bool false, .bool false]) ?_ 1 _ rfl; (with_reducible repeat (first | refine blk_drewN ?_ _ | refine blk_drew ?_ | refine blk_alloc ?_ _)); refine blk_put (cs := #[.bool false, .bool false, .bool false, .bool false, .bool false]) ?_ 0 _ rfl; (with_reducible repeat (first | refine blk_drewN ?_ _ | refine blk_drew ?_ | refine blk_alloc ?_ _)); exact BK134.out) hb); have n3_ := Aside0.mk (below_step (by repeat (first | (with_reducible first | exact HB.out | apply below_alloc | apply pw_below_drewN | apply below_drew1 | refine below_set ?_ GE134.out) | exact HB.out)) hb); clear HO120; clear HO125; clear BK134; clear HB; have HO120 := n0_; have HO125 := n1_; have BK134 := n2_; have HB := n3_; clear n0_ n1_ n2_ n3_; (try clear hb); (try clear hb2); (try clear hk); (try clear hi)))
                            go_ret
                            exact ⟨by first | rfl | (simp [errW_none, errW_some] <;> rfl) | (simp [*, errW_none, errW_some] <;> rfl), by repeat (first | (with_reducible first | exact HB.out | apply below_alloc | apply pw_below_drewN | apply below_drew1 | refine below_set ?_ GE134.out) | exact HB.out)⟩
                          · rw [if_neg c21] at H
                            exact absurd H (by simp)
                        · rw [if_neg c20] at H
                          exact absurd H (by simp)
                      · rw [if_neg c19] at H
                        exact absurd H (by simp)
                    · rw [if_neg c18] at H
                      exact absurd H (by simp)
                  · rw [if_neg c17] at H
                    exact absurd H (by simp)
                · rw [if_neg c16] at H
                  exact absurd H (by simp)
              · rw [if_neg c15] at H
                exact absurd H (by simp)
            · rw [if_neg c14] at H
              exact absurd H (by simp)
          · rw [if_neg c13] at H
            exact absurd H (by simp)
        · rw [if_neg c12] at H
          exact absurd H (by simp)
      · rw [if_neg c11] at H
        exact absurd H (by simp)
    · rw [if_neg c10] at H
      exact absurd H (by simp)
  · rw [if_neg c9] at H
    exact absurd H (by simp)

end Go.Proofs.Ytfmpeojlaibblaa.S
