/-
  forty.Put: what it answers, as a Lean function, and that the Go code answers just this (a range over forty.groups).
-/
import Derived.Test.YtijpiaiklojafaaHLoop
import Derived.IntWalk
namespace Go.Proofs.Ytijpiaiklojafaa.S
set_option linter.unusedSimpArgs false
set_option linter.unusedVariables false
open Go.RowKit Go.Proofs.YtijpiaiklojafaaW.PrintWords Go.Proofs.YtijpiaiklojafaaW.PrintLast Go.Proofs.YtijpiaiklojafaaW.PrintMore
attribute [local go_sem] Oper.semAt_some
attribute [local go_sem] max2_int min2_int max_two min_two max_three min_three max_four min_four

/-- The signs, as a string's bytes. -/
def signBytes : ByteArray := { data := #[48, 49, 50, 51, 52, 53, 54, 55, 56, 57, 65, 66, 67, 68, 69, 70, 71, 72, 73, 74, 75, 76, 77, 78, 79, 80, 81, 82, 83, 84, 85, 86, 87, 88, 89, 90, 32, 36, 37, 42, 43, 45, 46, 47, 58] }
def sg (n : Int) : Int := bt signBytes n
/-- So many signs of a number, the least place first. -/
def digs (n : Int) : Nat → List Int
  | 0 => []
  | j + 1 => sg (n % 45) :: digs (n / 45) j
def putL : List Int → List Int
  | [] => []
  | [x] => digs x 2
  | x :: y :: r => digs (256 * x + y) 3 ++ putL r
def AllB (l : List Int) : Prop := ∀ x ∈ l, 0 ≤ x ∧ x ≤ 255
instance (l : List Int) : Decidable (AllB l) := inferInstanceAs (Decidable (∀ x ∈ l, _))
def forty_Put.f (l0 : List Int) : Option (List Int) := if AllB l0 ∧ l0.length ≤ 100000 then some (putL l0) else none

theorem info5' : (Try.prog.info? 5).map (fun i => (i.zero, i.size, i.bytes)) = some (some (.int .u8 0), 1, 1) := by kernel_rfl
def PutI (n0 BO : Nat) (w : World) (all : List Int) (rest : List Int) (W : World) : Prop :=
  ∃ (v : Value) (out : List Int), Boxed W BO 22 v ∧ Kd.R (Kd.int .u8) 5 W n0 (fun _ => True) v out ∧ Below n0 w W ∧ out ++ putL rest = putL all ∧ out.length + 3 * rest.length ≤ 3 * all.length ∧ AllB rest

theorem sign_at (r : Int) (h0 : 0 ≤ r) (h1 : r < 45) (W : World) : (Instr.index 9 (.string signBytes) (.int .i64 r)).run Try.prog W = .ok (.int .u8 (sg r)) W := by
  have hs : signBytes.size = 45 := rfl
  have h2 : r.toNat < signBytes.size := by omega
  unfold sg
  rw [← bt_at _ _ h2]
  generalize signBytes = s at *
  go_simp
/-- A byte put behind a number. -/
theorem or_int (a x : Int) (h0 : 0 ≤ x) (h : x ≤ 255) (ha : 0 ≤ a) (ha2 : a ≤ 100000) : bits BinOp.or IntKind.i64 (a * 256) x = 256 * a + x := by
  obtain ⟨m, rfl⟩ := Int.eq_ofNat_of_zero_le h0
  obtain ⟨b, rfl⟩ := Int.eq_ofNat_of_zero_le ha
  have e : (BitVec.ofInt IntKind.i64.bits ((b : Int) * 256) ||| BitVec.ofInt IntKind.i64.bits (m : Int)).toNat = 256 * b + m := by
    rw [BitVec.toNat_or, show ((b : Int) * 256) = ((b * 256 : Nat) : Int) by omega, BitVec.ofInt_natCast, BitVec.ofInt_natCast, BitVec.toNat_ofNat, BitVec.toNat_ofNat]
    rw [show IntKind.i64.bits = 64 from rfl, Nat.mod_eq_of_lt (by omega), Nat.mod_eq_of_lt (by omega)]
    have h := Nat.shiftLeft_add_eq_or_of_lt (i := 8) (b := m) (by omega) b
    rw [Nat.shiftLeft_eq, show 2 ^ 8 = 256 from rfl] at h
    omega
  simp only [bits]
  rw [e]
  exact IntWalk.i64_in _ ⟨by omega, by omega⟩

/-! What a row of the call's own, and 'Below', bear. -/
theorem R_put {W : World} {n L : Nat} {v : Value} {xs : List Int} {o : Obj} (o' : Obj) (h : Kd.R (Kd.int .u8) 5 W n (fun _ => True) v xs) (hl : W.heap[L]? = some o) (ho : o.isCells = false) : Kd.R (Kd.int .u8) 5 (W.putObj L o') n (fun _ => True) v xs :=
  Kd.R_mono (Kd.R_grown (Kd.R_bound h) (grownBy_putObj' W L o') (fun k hk e => by
    cases e
    obtain ⟨_, _, _, q, _, cells, hc⟩ := hk
    rw [hc] at hl
    cases hl
    cases ho)) (fun _ _ => trivial)
theorem R_box {W : World} {n B : Nat} {u v : Value} {xs : List Int} (u' : Value) (h : Kd.R (Kd.int .u8) 5 W n (fun _ => True) v xs) (hb : Boxed W B 22 u) : Kd.R (Kd.int .u8) 5 (W.setCell ⟨B, 0, none⟩ u') n (fun _ => True) v xs :=
  Kd.R_mono (Kd.R_far (Kd.R_types h hb (fun q hq => by
    have : q = 5 := by simpa [Kd.int, Kd.scalar] using hq
    omega)) (p := ⟨B, 0, none⟩) (fun k hk => hk.2) u') (fun _ _ => trivial)
theorem below_put {n0 L : Nat} {w W : World} {o : Obj} (o' : Obj) (h : Below n0 w W) (hL : n0 ≤ L) (hl : W.heap[L]? = some o) : Below n0 w (W.putObj L o') :=
  h.trans ((Below.refl n0 W).grown (grownBy_putObj' W L o') (by have := (Array.getElem?_eq_some_iff.1 hl).1; omega) (fun k e => by cases e; omega))
/-- Behind 'out = append(out, ..)': the box, the row, and what lies as it lay. -/
theorem box_append {W w1 : World} {n0 B : Nat} {v v' : Value} {xs ys : List Int} (hv : Boxed W B 22 v) (hO : Kd.R (Kd.int .u8) 5 W n0 (fun _ => True) v xs) (hO' : Kd.R (Kd.int .u8) 5 w1 n0 (fun _ => True) v' ys) (hg : W.grownBy w1 v.ownBlock) :
    Boxed w1 B 22 v ∧ Boxed (w1.setCell ⟨B, 0, none⟩ v') B 22 v' ∧ Kd.R (Kd.int .u8) 5 (w1.setCell ⟨B, 0, none⟩ v') n0 (fun _ => True) v' ys ∧ KeepsOthers W (w1.setCell ⟨B, 0, none⟩ v') ∧ (∀ B' t u, Boxed W B' t u → B' ≠ B → t ≠ 5 → Boxed (w1.setCell ⟨B, 0, none⟩ v') B' t u) := by
  obtain ⟨inner, hrow, _⟩ := hO.2
  have hne : ∀ B' t u, Boxed W B' t u → t ≠ 5 → some B' ≠ v.ownBlock := fun B' t u hb ht e => by
    obtain ⟨cells, hc⟩ := own_typed hrow B' e.symm
    simp only [Boxed] at hb
    rw [hc] at hb
    injection hb with hb
    injection hb with _ hb
    exact ht hb.symm
  have hv1 : Boxed w1 B 22 v := hv.kept hg (hne B 22 v hv (by decide))
  refine ⟨hv1, hv1.set v', R_box v' hO' hv1, ?_, fun B' t u hb hB ht => (hb.kept hg (hne B' t u hb ht)).other hB _⟩
  refine (KeepsOthers.of_grownBy hg fun j o ej hj => ?_).trans (KeepsOthers.setCell _ _ _)
  obtain ⟨cells, hc⟩ := own_typed hrow j ej
  rw [hc] at hj
  cases hj
  rfl

def put12T : Bool × List (List Nat × List Nat) := (true, [([], []), ([], []), ([1], [1]), ([2], [2]), ([3], [3]), ([0, 4], [0, 4]), ([5, 5, 0, 1, 2, 3, 4, 5], [5])])
def put12B : List Nat := [0, 0, 2, 6, 14, 31, 63]
theorem put12_tab : rtab .any (opsOf Try.f15 12) = put12T := by kernel_rfl
theorem put12_bits : waitsOk put12T.2 put12B = true := by kernel_rfl

set_option maxRecDepth 100000 in
set_option maxHeartbeats 4000000 in
theorem put_walk (A0 : Option Addr) (c0 : Nat) (l0 : List Int) (w : World) (hr0 : Kd.C (Kd.int .u8) w A0 l0.length l0) (hc0 : l0.length ≤ c0) (hb : AllB l0) (hl : l0.length ≤ 100000) :
    Calls Try.prog 15 #[.slice A0 l0.length c0] w fun e w' => ∃ v0_ : Value, e = .returned (v0_) ∧ Kd.R (Kd.int .u8) 5 w' w.heap.size (fun _ => True) v0_ (putL l0) ∧ Below w.heap.size w w' := by
  refine (callsIn_wide (n := 6)).1 ?_
  refine callsIn_of_wp_marks Try.func15 rfl trivial ?_ rfl
  simp only [Try.ntmps15, List.size_toArray, List.length_cons, List.length_nil, Nat.reduceAdd, Nat.reduceSub, Array.replicate_succ, Array.replicate_zero, List.push_toArray, List.append_toArray, List.nil_append, List.cons_append]
  gi_wp2_with (refine ⟨trivial, ?_⟩; gi_at_call 31; refine (groups_in Fence.wide 5 trivial rfl _ _ _ _ _).mono ?_; rintro e w' ⟨rfl, rfl⟩)
  have bO := Boxed.new w 22 (.slice none 0 0)
  have b0 := Boxed.new (w.alloc (.cells #[.slice none 0 0] 22)) 22 (.slice A0 l0.length c0)
  have b1 := Boxed.new ((w.alloc (.cells #[.slice none 0 0] 22)).alloc (.cells #[.slice A0 l0.length c0] 22)) 3 (.int .i64 2)
  simp only [World.size_alloc] at b0 b1
  have hB0 : Below w.heap.size w (((w.alloc (.cells #[.slice none 0 0] 22)).alloc (.cells #[.slice A0 l0.length c0] 22)).alloc (.cells #[.int .i64 2] 3)) := (((Below.refl _ w).alloc (Nat.le_refl _) _).alloc (by simp) _).alloc (by simp; omega) _
  refine wpIn_groups (n := 6) (w0 := w) (B0 := w.heap.size + 1) (B1 := w.heap.size + 1 + 1) (m := 2) (by omega) rfl (by omega) (by omega) rfl (by omega) l0 A0 c0 (by omega) hr0 hc0 (b0.alloc _) b1
    (PutI w.heap.size w.heap.size w l0) (fun _ => False) ?ha ?hp (fun _ _ _ _ _ _ _ h => h) ?hs ?h0
    (fun x => { tmps := #[.slice A0 l0.length c0, undef, .slice none 0 0, .pointer (some ⟨w.heap.size, 0, none⟩), x, undef, undef, undef, .slice A0 l0.length c0, .func (.func 39) #[] #[.pointer (some ⟨w.heap.size + 1, 0, none⟩), .pointer (some ⟨w.heap.size + 1 + 1, 0, none⟩)], x, undef, undef, undef, undef, undef, undef, undef, undef, undef, undef, undef, undef, undef, undef, undef, undef, undef, undef, undef, undef, undef, undef, undef, undef, undef, undef, undef], defers := [] }) ?assign ?body ?done (fun _ _ _ h => h.elim)
  case ha =>
    rintro rest W o ⟨v, out, h1, h2, h3, h4⟩
    exact ⟨v, out, h1.alloc _, Kd.R_alloc h2 _, below_alloc h3 _, h4⟩
  case hp =>
    rintro rest W L o o' hL hl ho ⟨v, out, h1, h2, h3, h4⟩
    exact ⟨v, out, kept_put _ h1 hl ho, R_put _ h2 hl ho, below_put _ h3 (by simp at hL; omega) hl, h4⟩
  case hs =>
    rintro rest W u v ⟨v', out, h1, h2, h3, h4⟩ hb
    exact ⟨v', out, h1.other (by omega) _, R_box _ h2 hb, h3.setCell (p := ⟨w.heap.size + 1, 0, none⟩) (by simp) _, h4⟩
  case h0 =>
    exact ⟨_, [], (bO.alloc _).alloc _, Kd.R_nil _ _ _ _ _, hB0, rfl, by simp, hb⟩
  case assign =>
    intro lp x W K hK
    gi_wp2
    exact hK
  case body =>
    rintro lp rest A c k W hk hpos hle ⟨v, out, hv, hO, hB, ho, hol, hab⟩ hC hc hb0 hb1 hsz
    have HO := Lib.hid hO
    have HB := Lib.hid hB
    have HE := Lib.hid ho
    have HC := Lib.hid hC
    have H0 := Lib.hid hb0
    have H1 := Lib.hid hb1
    have HV := Lib.hid hv
    clear hO hB ho hC hb0 hb1 hv
    match rest, hpos with
    | [x], _ =>
      obtain rfl : k = 1 := by simpa using hk
      have hx := hab x (by simp)
      have habr : AllB (([x] : List Int).drop 2) := by intro z hz; simp at hz
      clear hk hab
      obtain ⟨ad, rfl, e0⟩ := Kd.at_int HC.out 0 (by omega) (by simp)
      have e0 : W.cell? ad = some (.int .u8 x) := (HB.out.cell (World.block_lt_of_cell? w _ e0)).trans e0
      have z1 : bits BinOp.or IntKind.i64 0 x = x := by
        have := or_int 0 x (by omega) (by omega) (by omega) (by omega)
        simpa using this
      gi_wp2
      refine wpIn_loop_rounds 2 ?_
      rw [roundsIn_succ]
      gi_wp2
      rw [roundsIn_succ]
      gi_wp2
      clear e0 z1
      obtain ⟨N, hN⟩ : ∃ N, N = x := ⟨_, rfl⟩
      rw [← hN]
      have HE' := Lib.hid (show out ++ (digs N 2 ++ putL ([] : List Int)) = putL l0 by rw [hN]; simpa [putL] using HE.out)
      clear HE
      replace hN : 0 ≤ N ∧ N ≤ 70000 := by omega
      gi_loopw [5, 26] (fun s5 s26 wr => ∃ (n : Int) (j : Nat) (v : Value) (o : List Int), j ≤ 2 ∧ 0 ≤ n ∧ n ≤ 70000 ∧ s5 = .int .i64 n ∧ s26 = .int .i64 (j : Int) ∧ Hid (Boxed wr w.heap.size 22 v) ∧ Hid (Kd.R (Kd.int .u8) 5 wr w.heap.size (fun _ => True) v o) ∧ Hid (o ++ (digs n (2 - j) ++ putL ([] : List Int)) = putL l0) ∧ o.length ≤ out.length + j ∧ Hid (Below w.heap.size w wr) ∧ Hid (KeepsOthers W wr) ∧ Hid (Boxed wr (w.heap.size + 1) 22 (.slice (some ad) 1 c)) ∧ Hid (Boxed wr (w.heap.size + 1 + 1) 3 (.int .i64 2)))
        (fun _ s26 _ => 2 - (intOf s26).toNat)
      case atStart => exact ⟨N, 0, v, out, by omega, hN.1, hN.2, rfl, rfl, HV, HO, HE', by omega, HB, Lib.hid (KeepsOthers.refl _), H0, H1⟩
      case round =>
        clear HE' HO HB HV H0 H1
        obtain ⟨n, j, v, o, hj, hn0, hn1, rfl, rfl, HV, HO, HE, hol', HB, HK, H0, H1⟩ := hrel
        by_cases hlt : j < 2
        · have hc := HV.out.cell
          gi_wp2
          obtain ⟨r, hr⟩ : ∃ r, n.tmod 45 = r := ⟨_, rfl⟩
          have hr' : n % 45 = r := by rw [← hr]; exact (Int.tmod_eq_emod_of_nonneg hn0).symm
          have m0 : 0 ≤ r := by omega
          have m1 : r < 45 := by omega
          have HR := Lib.hid hr'
          clear hr'
          have hidx := sign_at r m0 m1
          unfold signBytes at hidx
          have HVd : Boxed wr.drew w.heap.size 22 v := HV.out
          refine startIn_ (n := 7) (S := fun w' => w'.cell? ⟨w.heap.size, 0, none⟩ = some v) (ds := [6]) #[false, false, false, false, false, false, false] (by kernel_rfl) (by rintro ⟨a, w, h⟩; exact h) (by kernel_rfl) rfl rfl HVd.cell (fun hHeld => ?_); refine with_tabW put12_tab put12_bits (fun HT_ HW_ => ?_)
          generalize hwd : World.drew _ = wd at HVd hHeld ⊢
          refine pure_ (i := 1) (N := (some 29)) (v := ?_) (a' := ?_) #[false, true, false, false, false, false, false] rfl rfl (any_of HT_.out (by kernel_rfl)) (fun _ _ _ h => h) (Or.inl ⟨by rfl, ?_⟩) ?_ ?_
          rotate_left
          · intro w'
            go_simp
            with_reducible rfl
          rotate_left
          · simp only [Act.put, List.setIfInBounds_toArray, List.set_cons_zero, List.set_cons_succ, i64_w, i32_w]
            rfl
          refine pure_ (i := 2) (N := (some 30)) (v := ?_) (a' := ?_) #[false, true, true, false, false, false, false] rfl rfl (any_of HT_.out (by kernel_rfl)) (fun _ _ _ h => h) (Or.inl ⟨by rfl, ?_⟩) ?_ ?_
          rotate_left
          · intro w'
            go_simp
            with_reducible rfl
          rotate_left
          · simp only [Act.put, List.setIfInBounds_toArray, List.set_cons_zero, List.set_cons_succ, i64_w, i32_w]
            rfl
          refine pure_ (i := 3) (N := (some 31)) (v := ?_) (a' := ?_) #[false, true, true, true, false, false, false] rfl rfl (any_of HT_.out (by kernel_rfl)) (fun _ _ _ h => h) (Or.inl ⟨by rfl, ?_⟩) ?_ ?_
          rotate_left
          · intro w'
            go_simp
            with_reducible rfl
          rotate_left
          · simp only [Act.put, List.setIfInBounds_toArray, List.set_cons_zero, List.set_cons_succ, i64_w, i32_w]
            rfl
          refine take_ (i := 0) (N := (some 28)) (v := ?_) (a' := ?_) #[true, true, true, true, false, false, false] rfl rfl (take_ofW HT_.out HW_.out (by kernel_rfl)) (fun _ _ _ h => h) (Or.inl ⟨by rfl, ?_⟩) hHeld ?_ ?_
          rotate_left
          · rintro w' s0
            go_simp
            with_reducible rfl
          rotate_left
          · simp only [Act.put, List.setIfInBounds_toArray, List.set_cons_zero, List.set_cons_succ, i64_w, i32_w]
            rfl
          refine one_ (i := 4) (N := (some 32)) #[true, true, true, true, true, false, false] rfl rfl (one_of HT_.out (by kernel_rfl)) (by decide) (fun K hK => ?_)
          rw [if_pos (by rfl)]
          unfold Oper.wp
          go_simp
          have HVa := HVd.alloc (.cells #[.int .u8 (sg r)] 5)
          refine hK.out _ _ HVa.cell (fun hHeld => ?_)
          clear hK K
          refine one_ (i := 5) (N := (some 33)) #[true, true, true, true, true, true, false] rfl rfl (one_of HT_.out (by kernel_rfl)) (by decide) (fun K hK => ?_)
          have hOd : Kd.R (Kd.int .u8) 5 wd w.heap.size (fun _ => True) v o := by rw [← hwd]; exact Kd.R_drew HO.out
          have hBd : Below w.heap.size w wd := by rw [← hwd]; exact below_drew1 HB.out
          refine Kd.R_append_step (Kd.int .u8) (w0 := w) w.heap.size (by rfl) (.tmp 28) (.tmp 32) 22 5 (.int .u8 0) 1 rfl Try.underlying22 info5 rfl (by decide) (by omega) v o (sg r) [.int .u8 (sg r)] (fun _ => True) (fun _ => False) rfl rfl (show Kd.M (Kd.int .u8) _ _ _ (sg r) [.int .u8 (sg r)] from rfl) (fun _ h => h.elim) (fun _ _ => trivial) hOd hBd (below_size hBd) (by omega) ?_
          intro v1 w1 ho1 hb1 hg1 hat1
          obtain ⟨A1, c1, rfl⟩ := Kd.R_slice ho1
          obtain ⟨q1, q2, q3, q4, q5⟩ := box_append HVd hOd ho1 hg1
          refine hK.out _ _ q1.cell (fun hHeld => ?_)
          clear hK K
          refine norm_ (a' := ?_) ?_ ?_
          rotate_left
          · show Act.put _ (some 33) _ = _
            simp only [Act.put, List.setIfInBounds_toArray, List.set_cons_zero, List.set_cons_succ, i64_w, i32_w]
            rfl
          refine last_ (i := 6) (N := none) #[true, true, true, true, true, true, true] rfl rfl (one_of HT_.out (by kernel_rfl)) (by decide) (fun K hK => ?_)
          have q1c := q1.cell
          have q1f := q1.frozen
          rw [if_pos (by rfl)]
          unfold Oper.wp
          go_simp
          refine hK.out _ _ ?_
          clear hK K
          refine done_ (done_of HT_.out (by kernel_rfl)) ?_
          have e9 : (o ++ [sg r]).length = o.length + 1 := by simp
          have K1 : KeepsOthers wr wd := by rw [← hwd]; exact KeepsOthers.drew _
          have B0d : Boxed wd (w.heap.size + 1) 22 (.slice (some ad) 1 c) := by rw [← hwd]; exact H0.out
          have B1d : Boxed wd (w.heap.size + 1 + 1) 3 (.int .i64 2) := by rw [← hwd]; exact H1.out
          have G0 := Lib.hid (q5 _ _ _ B0d (by omega) (by decide))
          have G1 := Lib.hid (q5 _ _ _ B1d (by omega) (by decide))
          have GK := Lib.hid ((HK.out.trans K1).trans q4)
          have GB := Lib.hid (hb1.setCell (p := ⟨w.heap.size, 0, none⟩) (Nat.le_refl _) (.slice A1 (o ++ [sg r]).length c1))
          have GV := Lib.hid q2
          have GO := Lib.hid q3
          have GE := Lib.hid (show (o ++ [sg r]) ++ (digs (n / 45) (2 - (j + 1)) ++ putL ([] : List Int)) = putL l0 by
            rw [← HE.out, show 2 - j = (2 - (j + 1)) + 1 by omega, digs, HR.out]
            simp)
          rw [e9] at G0 G1 GK GB GV GO
          clear q2 q3 q4 q5 e9 hb1 ho1 hg1 hat1 K1 B0d B1d hOd hBd HVd HVa hidx HT_ HW_ HE H0 H1 HK HB HO HV hr HR
          gi_wp2
          refine ⟨⟨n / 45, j + 1, _, o ++ [sg r], by omega, by omega, by omega, rfl, by go_num, GV, GO, GE, by simp; omega, GB, GK, G0, G1⟩, by simp [intOf]; omega⟩
        · obtain rfl : j = 2 := by omega
          gi_wp2
          exact ⟨HK.out.from _, H0.out, H1.out, v, o, HV.out, HO.out, HB.out, by have := HE.out; simpa [digs] using this, by simp at hle hol; simp; omega, habr⟩
    | x :: y :: rest, _ =>
      obtain rfl : k = 2 := by simpa using hk
      have hx := hab x (by simp)
      have hy := hab y (by simp)
      have habr : AllB rest := fun z hz => hab z (by simp [hz])
      clear hk hab
      obtain ⟨ad, rfl, e0⟩ := Kd.at_int HC.out 0 (by omega) (by simp; omega)
      obtain ⟨ad', he', e1⟩ := Kd.at_int HC.out 1 (by omega) (by simp; omega)
      cases he'
      have e0 : W.cell? ad = some (.int .u8 x) := (HB.out.cell (World.block_lt_of_cell? w _ e0)).trans e0
      have e1 : W.cell? (ad.add 1) = some (.int .u8 y) := (HB.out.cell (World.block_lt_of_cell? w _ e1)).trans e1
      simp [Addr.add] at e1
      have z1 : bits BinOp.or IntKind.i64 0 x = x := by
        have := or_int 0 x (by omega) (by omega) (by omega) (by omega)
        simpa using this
      have z2 : bits BinOp.or IntKind.i64 (x * 256) y = 256 * x + y := or_int x y (by omega) (by omega) (by omega) (by omega)
      gi_wp2
      refine wpIn_loop_rounds 3 ?_
      rw [roundsIn_succ]
      gi_wp2
      rw [roundsIn_succ]
      gi_wp2
      rw [roundsIn_succ]
      gi_wp2
      clear e0 e1 z1 z2
      obtain ⟨N, hN⟩ : ∃ N, N = 256 * x + y := ⟨_, rfl⟩
      rw [← hN]
      have HE' := Lib.hid (show out ++ (digs N 3 ++ putL rest) = putL l0 by rw [hN]; simpa [putL] using HE.out)
      clear HE
      replace hN : 0 ≤ N ∧ N ≤ 70000 := by omega
      gi_loopw [5, 26] (fun s5 s26 wr => ∃ (n : Int) (j : Nat) (v : Value) (o : List Int), j ≤ 3 ∧ 0 ≤ n ∧ n ≤ 70000 ∧ s5 = .int .i64 n ∧ s26 = .int .i64 (j : Int) ∧ Hid (Boxed wr w.heap.size 22 v) ∧ Hid (Kd.R (Kd.int .u8) 5 wr w.heap.size (fun _ => True) v o) ∧ Hid (o ++ (digs n (3 - j) ++ putL rest) = putL l0) ∧ o.length ≤ out.length + j ∧ Hid (Below w.heap.size w wr) ∧ Hid (KeepsOthers W wr) ∧ Hid (Boxed wr (w.heap.size + 1) 22 (.slice (some ad) (x :: y :: rest).length c)) ∧ Hid (Boxed wr (w.heap.size + 1 + 1) 3 (.int .i64 2)))
        (fun _ s26 _ => 3 - (intOf s26).toNat)
      case atStart => exact ⟨N, 0, v, out, by omega, hN.1, hN.2, rfl, rfl, HV, HO, HE', by omega, HB, Lib.hid (KeepsOthers.refl _), H0, H1⟩
      case round =>
        clear HE' HO HB HV H0 H1
        obtain ⟨n, j, v, o, hj, hn0, hn1, rfl, rfl, HV, HO, HE, hol', HB, HK, H0, H1⟩ := hrel
        by_cases hlt : j < 3
        · have hc := HV.out.cell
          gi_wp2
          obtain ⟨r, hr⟩ : ∃ r, n.tmod 45 = r := ⟨_, rfl⟩
          have hr' : n % 45 = r := by rw [← hr]; exact (Int.tmod_eq_emod_of_nonneg hn0).symm
          have m0 : 0 ≤ r := by omega
          have m1 : r < 45 := by omega
          have HR := Lib.hid hr'
          clear hr'
          have hidx := sign_at r m0 m1
          unfold signBytes at hidx
          have HVd : Boxed wr.drew w.heap.size 22 v := HV.out
          refine startIn_ (n := 7) (S := fun w' => w'.cell? ⟨w.heap.size, 0, none⟩ = some v) (ds := [6]) #[false, false, false, false, false, false, false] (by kernel_rfl) (by rintro ⟨a, w, h⟩; exact h) (by kernel_rfl) rfl rfl HVd.cell (fun hHeld => ?_); refine with_tabW put12_tab put12_bits (fun HT_ HW_ => ?_)
          generalize hwd : World.drew _ = wd at HVd hHeld ⊢
          refine pure_ (i := 1) (N := (some 29)) (v := ?_) (a' := ?_) #[false, true, false, false, false, false, false] rfl rfl (any_of HT_.out (by kernel_rfl)) (fun _ _ _ h => h) (Or.inl ⟨by rfl, ?_⟩) ?_ ?_
          rotate_left
          · intro w'
            go_simp
            with_reducible rfl
          rotate_left
          · simp only [Act.put, List.setIfInBounds_toArray, List.set_cons_zero, List.set_cons_succ, i64_w, i32_w]
            rfl
          refine pure_ (i := 2) (N := (some 30)) (v := ?_) (a' := ?_) #[false, true, true, false, false, false, false] rfl rfl (any_of HT_.out (by kernel_rfl)) (fun _ _ _ h => h) (Or.inl ⟨by rfl, ?_⟩) ?_ ?_
          rotate_left
          · intro w'
            go_simp
            with_reducible rfl
          rotate_left
          · simp only [Act.put, List.setIfInBounds_toArray, List.set_cons_zero, List.set_cons_succ, i64_w, i32_w]
            rfl
          refine pure_ (i := 3) (N := (some 31)) (v := ?_) (a' := ?_) #[false, true, true, true, false, false, false] rfl rfl (any_of HT_.out (by kernel_rfl)) (fun _ _ _ h => h) (Or.inl ⟨by rfl, ?_⟩) ?_ ?_
          rotate_left
          · intro w'
            go_simp
            with_reducible rfl
          rotate_left
          · simp only [Act.put, List.setIfInBounds_toArray, List.set_cons_zero, List.set_cons_succ, i64_w, i32_w]
            rfl
          refine take_ (i := 0) (N := (some 28)) (v := ?_) (a' := ?_) #[true, true, true, true, false, false, false] rfl rfl (take_ofW HT_.out HW_.out (by kernel_rfl)) (fun _ _ _ h => h) (Or.inl ⟨by rfl, ?_⟩) hHeld ?_ ?_
          rotate_left
          · rintro w' s0
            go_simp
            with_reducible rfl
          rotate_left
          · simp only [Act.put, List.setIfInBounds_toArray, List.set_cons_zero, List.set_cons_succ, i64_w, i32_w]
            rfl
          refine one_ (i := 4) (N := (some 32)) #[true, true, true, true, true, false, false] rfl rfl (one_of HT_.out (by kernel_rfl)) (by decide) (fun K hK => ?_)
          rw [if_pos (by rfl)]
          unfold Oper.wp
          go_simp
          have HVa := HVd.alloc (.cells #[.int .u8 (sg r)] 5)
          refine hK.out _ _ HVa.cell (fun hHeld => ?_)
          clear hK K
          refine one_ (i := 5) (N := (some 33)) #[true, true, true, true, true, true, false] rfl rfl (one_of HT_.out (by kernel_rfl)) (by decide) (fun K hK => ?_)
          have hOd : Kd.R (Kd.int .u8) 5 wd w.heap.size (fun _ => True) v o := by rw [← hwd]; exact Kd.R_drew HO.out
          have hBd : Below w.heap.size w wd := by rw [← hwd]; exact below_drew1 HB.out
          refine Kd.R_append_step (Kd.int .u8) (w0 := w) w.heap.size (by rfl) (.tmp 28) (.tmp 32) 22 5 (.int .u8 0) 1 rfl Try.underlying22 info5 rfl (by decide) (by omega) v o (sg r) [.int .u8 (sg r)] (fun _ => True) (fun _ => False) rfl rfl (show Kd.M (Kd.int .u8) _ _ _ (sg r) [.int .u8 (sg r)] from rfl) (fun _ h => h.elim) (fun _ _ => trivial) hOd hBd (below_size hBd) (by omega) ?_
          intro v1 w1 ho1 hb1 hg1 hat1
          obtain ⟨A1, c1, rfl⟩ := Kd.R_slice ho1
          obtain ⟨q1, q2, q3, q4, q5⟩ := box_append HVd hOd ho1 hg1
          refine hK.out _ _ q1.cell (fun hHeld => ?_)
          clear hK K
          refine norm_ (a' := ?_) ?_ ?_
          rotate_left
          · show Act.put _ (some 33) _ = _
            simp only [Act.put, List.setIfInBounds_toArray, List.set_cons_zero, List.set_cons_succ, i64_w, i32_w]
            rfl
          refine last_ (i := 6) (N := none) #[true, true, true, true, true, true, true] rfl rfl (one_of HT_.out (by kernel_rfl)) (by decide) (fun K hK => ?_)
          have q1c := q1.cell
          have q1f := q1.frozen
          rw [if_pos (by rfl)]
          unfold Oper.wp
          go_simp
          refine hK.out _ _ ?_
          clear hK K
          refine done_ (done_of HT_.out (by kernel_rfl)) ?_
          have e9 : (o ++ [sg r]).length = o.length + 1 := by simp
          have K1 : KeepsOthers wr wd := by rw [← hwd]; exact KeepsOthers.drew _
          have B0d : Boxed wd (w.heap.size + 1) 22 (.slice (some ad) (x :: y :: rest).length c) := by rw [← hwd]; exact H0.out
          have B1d : Boxed wd (w.heap.size + 1 + 1) 3 (.int .i64 2) := by rw [← hwd]; exact H1.out
          have G0 := Lib.hid (q5 _ _ _ B0d (by omega) (by decide))
          have G1 := Lib.hid (q5 _ _ _ B1d (by omega) (by decide))
          have GK := Lib.hid ((HK.out.trans K1).trans q4)
          have GB := Lib.hid (hb1.setCell (p := ⟨w.heap.size, 0, none⟩) (Nat.le_refl _) (.slice A1 (o ++ [sg r]).length c1))
          have GV := Lib.hid q2
          have GO := Lib.hid q3
          have GE := Lib.hid (show (o ++ [sg r]) ++ (digs (n / 45) (3 - (j + 1)) ++ putL rest) = putL l0 by
            rw [← HE.out, show 3 - j = (3 - (j + 1)) + 1 by omega, digs, HR.out]
            simp)
          rw [e9] at G0 G1 GK GB GV GO
          clear q2 q3 q4 q5 e9 hb1 ho1 hg1 hat1 K1 B0d B1d hOd hBd HVd HVa hidx HT_ HW_ HE H0 H1 HK HB HO HV hr HR
          gi_wp2
          refine ⟨⟨n / 45, j + 1, _, o ++ [sg r], by omega, by omega, by omega, rfl, by go_num, GV, GO, GE, by simp; omega, GB, GK, G0, G1⟩, by simp [intOf]; omega⟩
        · obtain rfl : j = 3 := by omega
          gi_wp2
          exact ⟨HK.out.from _, H0.out, H1.out, v, o, HV.out, HO.out, HB.out, by have := HE.out; simpa [digs] using this, by simp at hle hol; simp; omega, habr⟩
  case done =>
    rintro D W hD ⟨v, out, hv, hO, hB, ho, hol, hab⟩ hK
    have hc := hv.cell
    gi_wp2
    refine ⟨by simp, .inl ⟨_, _, rfl, run_takeDeferred hK, ?_⟩⟩
    have e : out = putL l0 := by simpa [putL] using ho
    subst e
    exact ⟨_, results_tmp rfl _ _ _, v, rfl, R_put _ hO hK rfl, below_put _ hB (by simp at hD; omega) hK⟩
theorem forty_Put.calls (A0 : Option Addr) (c0 : Nat) (l0 : List Int) (r : List Int) (w : World) (hr0 : Kd.C (Kd.int .u8) w A0 l0.length l0) (hc0 : l0.length ≤ c0) (h : forty_Put.f l0 = some r) :
    Calls Try.prog 15 #[.slice A0 l0.length c0] w fun e w' => ∃ v0_ : Value, e = .returned (v0_) ∧ Kd.R (Kd.int .u8) 5 w' w.heap.size (fun _ => True) v0_ r ∧ Below w.heap.size w w' := by
  unfold forty_Put.f at h
  split at h
  case isFalse => cases h
  rename_i hl
  cases h
  exact put_walk A0 c0 l0 w hr0 hc0 hl.1 hl.2
end Go.Proofs.Ytijpiaiklojafaa.S
