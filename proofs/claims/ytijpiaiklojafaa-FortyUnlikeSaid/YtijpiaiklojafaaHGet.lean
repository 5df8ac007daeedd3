/-
  forty.Get: what it answers, as a Lean function, and that the Go code answers just this (a map of the signs; a range over forty.groups).
-/
import Derived.Test.YtijpiaiklojafaaHPut
import Derived.Maps.OwnIn
import Derived.Maps.AppendAt
import Derived.Maps.Views
namespace Go.Proofs.Ytijpiaiklojafaa.S
set_option linter.unusedSimpArgs false
set_option linter.unusedVariables false
open Go.RowKit Go.Proofs.YtijpiaiklojafaaW.PrintWords Go.Proofs.YtijpiaiklojafaaW.PrintLast Go.Proofs.YtijpiaiklojafaaW.PrintMore
attribute [local go_sem] Oper.semAt_some
attribute [local go_sem] max2_int min2_int max_two min_two max_three min_three max_four min_four

/-- A sign's number and one; 0 where it is none. -/
def sdn : Nat → Int → Int
  | 0, _ => 0
  | i + 1, x => if x = sg (i : Int) then (i : Int) + 1 else sdn i x
def sd (x : Int) : Int := sdn 45 x
theorem sdn_in (i : Nat) (x : Int) : 0 ≤ sdn i x ∧ sdn i x ≤ i := by
  induction i with
  | zero => simp [sdn]
  | succ i ih => unfold sdn; split <;> omega
/-- The number of some signs, the least place first; none where one is no sign. -/
def grpN : List Int → Option Int
  | [] => some 0
  | x :: r => match grpN r with
    | none => none
    | some n => if sd x = 0 then none else some (45 * n + sd x - 1)
/-- What has come, and what is still to come. -/
def joinG (o : List Int) (p : List Int × Int) : List Int × Int := if p.2 = 0 then (o ++ p.1, 0) else ([], p.2)
def getL : List Int → List Int × Int
  | [] => ([], 0)
  | [_] => ([], 0)
  | [x, y] => match grpN [x, y] with
    | none => ([], 7)
    | some n => if 255 < n then ([], 23) else ([n], 0)
  | x :: y :: z :: r => match grpN [x, y, z] with
    | none => ([], 7)
    | some n => if 65535 < n then ([], 23) else joinG [n / 256, n % 256] (getL r)
def forty_Get.f (l0 : List Int) : Option (List Int × Int) := if l0.length % 3 = 1 then some ([], 14) else if AllB l0 ∧ l0.length ≤ 100000 then some (getL l0) else none
theorem joinG_nil (p : List Int × Int) (h : p.2 ≠ 0 → p.1 = []) : joinG [] p = p := by
  unfold joinG
  split
  case isTrue h0 => rw [← h0]; rfl
  case isFalse h0 => rw [← h h0]
theorem joinG_join (a b : List Int) (p : List Int × Int) : joinG a (joinG b p) = joinG (a ++ b) p := by
  unfold joinG
  by_cases h : p.2 = 0
  · simp [h]
  · simp [h]
theorem getL_err (l : List Int) : (getL l).2 ≠ 0 → (getL l).1 = [] := by
  match l with
  | [] => simp [getL]
  | [_] => simp [getL]
  | [x, y] => unfold getL; split <;> (try split) <;> simp
  | x :: y :: z :: r =>
    unfold getL
    split
    · simp
    · split
      · simp
      · unfold joinG
        split <;> simp

/-! ### The map -/
def mapD : Nat → DataW Unit
  | 0 => .map []
  | i + 1 => (mapD i).put (.int .u8 (sg (i : Int))) (.lit (.int .i64 ((i : Int) + 1)))
theorem mapD_isMap : ∀ i, Maps.IsMap (mapD i)
  | 0 => ⟨_, rfl⟩
  | i + 1 => (mapD_isMap i).put _ _
theorem mapD_at (x : Int) : ∀ i, (mapD i).atKey (.int .u8 x) (.lit (.int .i64 0)) = .lit (.int .i64 (sdn i x))
  | 0 => rfl
  | i + 1 => by
    unfold mapD sdn
    by_cases h : x = sg (i : Int)
    · rw [if_pos h, h]
      exact Maps.atKey_put_same (mapD_isMap i) (by simp [WideAt.IsKeyLit]) _ _
    · rw [if_neg h, Maps.atKey_put_other (fun e => h (by cases e; rfl)), mapD_at x i]
theorem sg_in (r : Int) : 0 ≤ sg r ∧ sg r ≤ 255 := bt_range _ _
theorem wf_u8 {x : Int} (h : 0 ≤ x ∧ x ≤ 255) : (Lit.int .u8 x).wf = true := by
  simp [Lit.wf, IntKind.min, IntKind.max, IntKind.signed, IntKind.bits]
  exact ⟨by omega, by omega⟩
theorem wf_i64 {x : Int} (h : 0 ≤ x ∧ x ≤ 1000000) : (Lit.int .i64 x).wf = true := by
  simp [Lit.wf, IntKind.min, IntKind.max, IntKind.signed, IntKind.bits]
  exact ⟨by omega, by omega⟩
abbrev OwnM (W : World) (b n : Nat) (D : DataW Unit) : Prop := W.ownsMap Try.prog 5 (plainElem Try.prog 3) b n D

def get7T : Bool × List (List Nat × List Nat) := (true, [([], []), ([], []), ([1], [1]), ([], []), ([3], [3]), ([0, 2, 4, 0, 1, 2, 3, 4], [0, 2, 4])])
def get7B : List Nat := [0, 0, 2, 0, 8, 31]
theorem get7_tab : rtab .any (opsOf Try.f17 7) = get7T := by kernel_rfl
theorem get7_bits : waitsOk get7T.2 get7B = true := by kernel_rfl
def get16T : Bool × List (List Nat × List Nat) := (true, [([], []), ([], []), ([], []), ([1, 2], [1, 2]), ([3], [3]), ([0, 4], [0, 4]), ([5, 0, 1, 2, 3, 4, 5], [5])])
def get16B : List Nat := [0, 0, 0, 6, 14, 31, 63]
theorem get16_tab : rtab .any (opsOf Try.f17 16) = get16T := by kernel_rfl
theorem get16_bits : waitsOk get16T.2 get16B = true := by kernel_rfl


/-! A result in a cell is not seen in the frame. -/
theorem leavesIn_congr {F : Fence} {n : Nat} {P : Program} {fn : Func} {t t' : Array Value} {R : Ending → World → Prop} (h : results fn t = results fn t') : ∀ (ds : List Deferred) (u : FrameMode) (w : World), LeavesIn F n P fn t R ds u w = LeavesIn F n P fn t' R ds u w
  | [], .returning, w => by simp only [LeavesIn, h]
  | [], .panicking chain, w => by simp only [LeavesIn]
  | [], .run, w => by simp only [LeavesIn]
  | d :: ds, u, w => by simp only [LeavesIn, leavesIn_congr h ds]
theorem leavesInM_congr {F : Fence} {n : Nat} {P : Program} {fn : Func} {t t' : Array Value} {R : Ending → World → Prop} (h : results fn t = results fn t') : ∀ (ds : List Deferred) (u : FrameMode) (w : World), LeavesInM F n P fn t R ds u w = LeavesInM F n P fn t' R ds u w
  | [], u, w => by simp only [LeavesInM, leavesIn_congr h]
  | d :: ds, u, w => by simp only [LeavesInM, leavesInM_congr h ds]
theorem results17 (t : Array Value) (N : Nat) (v : Value) (h2 : N ≠ 2) (h3 : N ≠ 3) : results Try.f17 (t.setIfInBounds N v) = results Try.f17 t := by
  simp [results, Try.results17, Array.getElem?_setIfInBounds_ne h2, Array.getElem?_setIfInBounds_ne h3]
theorem hQ17 {F : Fence} {n : Nat} {R : Ending → World → Prop} {oi : Oper} {N : Nat} {v : Value} (hN : oi.dst = some N) (h2 : N ≠ 2) (h3 : N ≠ 3) (c : List PanicEntry) (a : Act) (w : World) (h : bodyPostM F n Try.prog Try.f17 R (.panic c) (a.put oi.dst v) w) : bodyPostM F n Try.prog Try.f17 R (.panic c) a w := by
  rw [hN] at h
  show LeavesInM _ _ _ _ _ _ _ _ _
  have h' : LeavesInM F n Try.prog Try.f17 (a.tmps.setIfInBounds N v) R a.defers (.panicking c) w := h
  rw [leavesInM_congr (results17 a.tmps N v h2 h3)] at h'
  exact h'

/-- Between two rounds. -/
def GetI (w : World) (nb : Nat) (all rest : List Int) (W : World) : Prop :=
  ∃ (v : Value) (out : List Int), Boxed W nb 22 v ∧ Kd.R (Kd.int .u8) 5 W w.heap.size (fun _ => True) v out ∧ Boxed W w.heap.size 22 (.slice none 0 0) ∧ Boxed W (w.heap.size + 1) 27 (.int .i64 0) ∧ OwnM W (w.heap.size + 1 + 1) 45 (mapD 45) ∧ Boxed W (w.heap.size + 1 + 1 + 1) 49 (.map (some (w.heap.size + 1 + 1))) ∧ Below w.heap.size w W ∧ joinG out (getL rest) = getL all ∧ AllB rest ∧ rest.length % 3 ≠ 1 ∧ out.length + 3 * rest.length ≤ 3 * all.length
/-- In a round (begun in W), before the append. -/
def GetJ (w : World) (nb D : Nat) (W W' : World) (v : Value) (out : List Int) (u : Value) : Prop :=
  Boxed W' nb 22 v ∧ Kd.R (Kd.int .u8) 5 W' w.heap.size (fun _ => True) v out ∧ Boxed W' w.heap.size 22 (.slice none 0 0) ∧ Boxed W' (w.heap.size + 1) 27 (.int .i64 0) ∧ OwnM W' (w.heap.size + 1 + 1) 45 (mapD 45) ∧ Boxed W' (w.heap.size + 1 + 1 + 1) 49 (.map (some (w.heap.size + 1 + 1))) ∧ Below w.heap.size w W' ∧ KeepsFrom D W W' ∧ Boxed W' (nb + 1) 22 u ∧ Boxed W' (nb + 1 + 1) 3 (.int .i64 3)
theorem GetJ.drew {w : World} {nb D : Nat} {W W' : World} {v : Value} {out : List Int} {u : Value} (h : GetJ w nb D W W' v out u) : GetJ w nb D W W'.drew v out u := by
  obtain ⟨h1, h2, h3, h4, h5, h6, h7, h8, h9, h10⟩ := h
  exact ⟨h1, Kd.R_drew h2, h3, h4, h5.drew, h6, below_drew1 h7, h8.trans ((KeepsOthers.drew _).from _), h9, h10⟩
/-- Behind an append in a round. -/
theorem GetJ.app {w : World} {nb D : Nat} {W W' w1 : World} {v v' : Value} {out : List Int} {u : Value} {y : Int} {tmp : Obj} (h : GetJ w nb D W W' v out u) (hn : w.heap.size + 1 + 1 + 1 < nb) (hown : w1.ownsRow w.heap.size 5 1 v' (out.length + 1) (encs (.int .u8) out ++ [.int .u8 y])) (hg : (W'.alloc tmp).grownBy w1 v.ownBlock) :
    Boxed w1 nb 22 v ∧ GetJ w nb D W (w1.setCell ⟨nb, 0, none⟩ v') v' (out ++ [y]) u := by
  obtain ⟨hv, hO, h1, h2, hM, hMb, hB, hK, hb0, hb1⟩ := h
  have hO' : Kd.R (Kd.int .u8) 5 w1 w.heap.size (fun _ => True) v' (out ++ [y]) := by
    refine Kd.R_of_own ?_ (fun _ _ => trivial)
    rw [show (out ++ [y]).length = out.length + 1 by simp, show encs (Value.int .u8) (out ++ [y]) = encs (.int .u8) out ++ [.int .u8 y] by simp [encs]]
    exact hown
  obtain ⟨q1, q2, q3, q4, q5⟩ := box_append (hv.alloc tmp) (Kd.R_alloc hO tmp) hO' hg
  obtain ⟨inner, hrow, _⟩ := hO.2
  refine ⟨q1, q2, q3, q5 _ _ _ (h1.alloc _) (by omega) (by decide), q5 _ _ _ (h2.alloc _) (by omega) (by decide), ?_, q5 _ _ _ (hMb.alloc _) (by omega) (by decide), ?_, hK.trans (((KeepsOthers.alloc _ tmp).trans q4).from _), q5 _ _ _ (hb0.alloc _) (by omega) (by decide), q5 _ _ _ (hb1.alloc _) (by omega) (by decide)⟩
  · refine ((hM.alloc tmp).kept hg (fun e => ?_)).setCell (by simp; omega) _
    obtain ⟨cells, hc⟩ := own_typed hrow _ e.symm
    obtain ⟨es, ck, hh, _⟩ := hM
    rw [hh] at hc
    cases hc
  · exact ((below_alloc hB tmp).grown hg (by have := hB.size; simp; omega) (fun k e => own_base hrow k e)).setCell (p := ⟨nb, 0, none⟩) (by simp; omega) _
/-- Where a round has returned. -/
def GetX (w : World) (all : List Int) (W : World) : Prop :=
  ∃ er : Int, Boxed W w.heap.size 22 (.slice none 0 0) ∧ Boxed W (w.heap.size + 1) 27 (.int .i64 er) ∧ Below w.heap.size w W ∧ getL all = ([], er)

theorem R_far27 {W : World} {n B : Nat} {u v : Value} {xs : List Int} (u' : Value) (h : Kd.R (Kd.int .u8) 5 W n (fun _ => True) v xs) (hb : Boxed W B 27 u) : Kd.R (Kd.int .u8) 5 (W.setCell ⟨B, 0, none⟩ u') n (fun _ => True) v xs :=
  Kd.R_mono (Kd.R_far (Kd.R_types h hb (fun q hq => by
    have : q = 5 := by simpa [Kd.int, Kd.scalar] using hq
    omega)) (p := ⟨B, 0, none⟩) (fun k hk => hk.2) u') (fun _ _ => trivial)
theorem zero3 (W : World) : (zeroValue 3).run Try.prog W = .ok (.int .i64 0) W := Try.zeroValue3 W
theorem look_of {W : World} {b n : Nat} (h : OwnM W b n (mapD 45)) {x : Int} (hx : 0 ≤ x ∧ x ≤ 255) : (Instr.lookup 49 (.map (some b)) (.int .u8 x) false).run Try.prog W = .ok (.int .i64 (sd x)) W := by
  obtain ⟨c, hrun, hat, -⟩ := h.lookup_int (Maps.int_keyed Try.underlying5) Try.underlying49 Try.underlying3 (zero3 W) (Maps.keyOf_int_mk Try.underlying5 (wf_u8 hx))
  rw [mapD_at] at hat
  have e : sdn 45 x = c := by injection hat with hat; injection hat
  rw [hrun, ← e]
  rfl
/-! ### A group's number -/
theorem grpN_drop (g : List Int) : ∀ i, grpN (g.drop i) = none → grpN g = none := by
  induction g with
  | nil => intro i h; simpa using h
  | cons x r ih =>
    intro i h
    cases i with
    | zero => simpa using h
    | succ i =>
      rw [List.drop_succ_cons] at h
      unfold grpN
      rw [ih i h]
theorem grpN_step (g : List Int) (i : Nat) (hi : i < g.length) (n : Int) (h : grpN (g.drop (i + 1)) = some n) : grpN (g.drop i) = if sd (rd g (i : Int)) = 0 then none else some (45 * n + sd (rd g (i : Int)) - 1) := by
  rw [List.drop_eq_getElem_cons hi, grpN, h]
  have : rd g (i : Int) = g[i] := by
    unfold rd
    simp [List.getD_eq_getElem?_getD, List.getElem?_eq_getElem hi]
  rw [this]
theorem getL_none (rest : List Int) (h : 2 ≤ rest.length) (hg : grpN (rest.take 3) = none) : getL rest = ([], 7) := by
  match rest, h with
  | [x, y], _ =>
    have hg' : grpN [x, y] = none := hg
    unfold getL
    rw [hg']
  | x :: y :: z :: r, _ =>
    have hg' : grpN [x, y, z] = none := hg
    unfold getL
    rw [hg']
/-- A round that returns an error. -/
theorem errX {w W W' : World} {nb D : Nat} {v u : Value} {out l0 : List Int} (er : Int) (h : GetJ w nb D W W' v out u) (hD : w.heap.size + 1 + 1 ≤ D) (he : getL l0 = ([], er)) :
    KeepsFrom D W ((W'.setCell ⟨w.heap.size, 0, none⟩ (.slice none 0 0)).setCell ⟨w.heap.size + 1, 0, none⟩ (.int .i64 er)) ∧ GetX w l0 ((W'.setCell ⟨w.heap.size, 0, none⟩ (.slice none 0 0)).setCell ⟨w.heap.size + 1, 0, none⟩ (.int .i64 er)) := by
  obtain ⟨hv, hO, h1, h2, hM, hMb, hB, hK, hb0, hb1⟩ := h
  exact ⟨hK.trans (((KeepsOthers.setCell _ _ _).trans (KeepsOthers.setCell _ _ _)).from _), er, (h1.set _).other (by omega) _, (h2.other (by omega) _).set _, (hB.setCell (p := ⟨w.heap.size, 0, none⟩) (Nat.le_refl _) _).setCell (p := ⟨w.heap.size + 1, 0, none⟩) (by simp) _, he⟩
/-- The return: what the two cells hold. -/
theorem get_end {tmps : Array Value} {w W : World} {D : Nat} {l0 out : List Int} {er : Int} {v : Value} (t2 : tmps[2]? = some (.pointer (some ⟨w.heap.size, 0, none⟩))) (t3 : tmps[3]? = some (.pointer (some ⟨w.heap.size + 1, 0, none⟩)))
    (h1 : Boxed W w.heap.size 22 v) (h2 : Boxed W (w.heap.size + 1) 27 (.int .i64 er)) (hO : Kd.R (Kd.int .u8) 5 W w.heap.size (fun _ => True) v out) (hB : Below w.heap.size w W) (hD : w.heap.size ≤ D) (hK : W.heap[D]? = some (.deferred (some []))) (he : getL l0 = (out, er)) :
    bodyPostM Fence.wide 6 Try.prog Try.f17 (fun e w' => ∃ v0_, e = .returned (.tuple #[v0_, .int .i64 (getL l0).2]) ∧ Kd.R (Kd.int .u8) 5 w' w.heap.size (fun _ => True) v0_ (getL l0).1 ∧ Below w.heap.size w w') .ret
      { tmps := tmps, defers := [{ target := .collected D, args := #[] }] } W := by
  refine ⟨by simp, .inl ⟨_, _, rfl, run_takeDeferred hK, ?_⟩⟩
  rw [he]
  have g1 := (kept_put (.deferred none) h1 hK rfl).cell
  have g2 := (kept_put (.deferred none) h2 hK rfl).cell
  have g3 := R_put (.deferred none) hO hK rfl
  have g4 := below_put (.deferred none) hB hD hK
  obtain ⟨A1, c1, rfl⟩ := Kd.R_slice hO
  generalize W.putObj D (.deferred none) = W3 at g1 g2 g3 g4 ⊢
  refine ⟨.tuple #[.slice A1 out.length c1, .int .i64 er], ?_, _, rfl, g3, g4⟩
  simp [results, Try.results17, go_sem, t2, t3, g1, g2]

set_option maxRecDepth 100000 in
set_option maxHeartbeats 4000000 in
theorem get_len (A0 : Option Addr) (c0 : Nat) (l0 : List Int) (w : World) (h3 : l0.length % 3 = 1) :
    Calls Try.prog 17 #[.slice A0 l0.length c0] w fun e w' => ∃ v0_ : Value, e = .returned (.tuple #[v0_, .int .i64 14]) ∧ Kd.R (Kd.int .u8) 5 w' w.heap.size (fun _ => True) v0_ [] ∧ Below w.heap.size w w' := by
  have h3b : ((l0.length : Int) % 3 == 1) = true := by
    rw [beq_iff_eq]
    omega
  go_enter Try.func17, Try.ntmps17
  go_wp2
  refine bodyPost_ret (v := .tuple #[.slice none 0 0, .int .i64 14]) (by simp [results, Try.results17, go_sem]) rfl ⟨_, rfl, Kd.R_nil _ _ _ _ _, ?_⟩
  exact below_alloc (below_alloc (Below.refl _ w) _) _

set_option maxRecDepth 100000 in
set_option maxHeartbeats 4000000 in
theorem get_walk (A0 : Option Addr) (c0 : Nat) (l0 : List Int) (w : World) (hr0 : Kd.C (Kd.int .u8) w A0 l0.length l0) (hc0 : l0.length ≤ c0) (h3 : l0.length % 3 ≠ 1) (hb : AllB l0) (hl : l0.length ≤ 100000) :
    Calls Try.prog 17 #[.slice A0 l0.length c0] w fun e w' => ∃ v0_ : Value, e = .returned (.tuple #[v0_, .int .i64 (getL l0).2]) ∧ Kd.R (Kd.int .u8) 5 w' w.heap.size (fun _ => True) v0_ (getL l0).1 ∧ Below w.heap.size w w' := by
  have hmm := @run_makeMap Try.prog
  obtain ⟨i0, hi5, hz0, hz1, hz2⟩ := info_parts (P := Try.prog) (e := 5) (z := .int .u8 0) (size := 1) (bytes := 1) (by kernel_rfl)
  refine (callsIn_wide (n := 6)).1 ?_
  refine callsIn_of_wp_marks Try.func17 rfl trivial ?_ rfl
  simp only [Try.ntmps17, List.size_toArray, List.length_cons, List.length_nil, Nat.reduceAdd, Nat.reduceSub, Array.replicate_succ, Array.replicate_zero, List.push_toArray, List.append_toArray, List.nil_append, List.cons_append]
  have h3b : ((l0.length : Int) % 3 == 1) = false := by
    rw [beq_eq_false_iff_ne]
    omega
  gi_wp2
  have bR1 := (((Boxed.new w 22 (.slice none 0 0)).alloc (.cells #[.int .i64 0] 27)).alloc (.map #[] 0)).alloc (.cells #[.map (some (w.heap.size + 1 + 1))] 49)
  have bR2 := ((Boxed.new (w.alloc (.cells #[.slice none 0 0] 22)) 27 (.int .i64 0)).alloc (.map #[] 0)).alloc (.cells #[.map (some (w.heap.size + 1 + 1))] 49)
  have oM := (World.ownsMap_made ((w.alloc (.cells #[.slice none 0 0] 22)).alloc (.cells #[.int .i64 0] 27)) Try.prog 5 (plainElem (H := Unit) Try.prog 3)).alloc (.cells #[.map (some (w.heap.size + 1 + 1))] 49)
  have bM := Boxed.new (((w.alloc (.cells #[.slice none 0 0] 22)).alloc (.cells #[.int .i64 0] 27)).alloc (.map #[] 0)) 49 (.map (some (w.heap.size + 1 + 1)))
  simp only [World.size_alloc] at bR1 bR2 oM bM
  have hB0 : Below w.heap.size w ((((w.alloc (.cells #[.slice none 0 0] 22)).alloc (.cells #[.int .i64 0] 27)).alloc (.map #[] 0)).alloc (.cells #[.map (some (w.heap.size + 1 + 1))] 49)) := below_alloc (below_alloc (below_alloc (below_alloc (Below.refl _ w) _) _) _) _
  gi_loopw [5, 16] (fun _ s16 wr => ∃ i : Nat, i ≤ 45 ∧ s16 = .int .i64 (i : Int) ∧ Hid (Boxed wr w.heap.size 22 (.slice none 0 0)) ∧ Hid (Boxed wr (w.heap.size + 1) 27 (.int .i64 0)) ∧ Hid (OwnM wr (w.heap.size + 1 + 1) i (mapD i)) ∧ Hid (Boxed wr (w.heap.size + 1 + 1 + 1) 49 (.map (some (w.heap.size + 1 + 1)))) ∧ Hid (Below w.heap.size w wr))
    (fun _ s16 _ => 45 - (intOf s16).toNat)
  case atStart => exact ⟨0, by omega, rfl, Lib.hid bR1, Lib.hid bR2, Lib.hid oM, Lib.hid bM, Lib.hid hB0⟩
  case round =>
    clear bR1 bR2 oM bM hB0
    obtain ⟨i, hi, rfl, R1, R2, OM, BM, HB⟩ := hrel
    by_cases hlt : i < 45
    · have m0 : 0 ≤ (i : Int) := by omega
      have m1 : (i : Int) < 45 := by omega
      gi_wp2
      · have hidx := sign_at (i : Int) m0 m1
        unfold signBytes at hidx
        have hw1 : IntKind.i64.wrap ((i : Int) + 1) = (i : Int) + 1 := IntWalk.i64_in _ ⟨by omega, by omega⟩
        have HVd : Boxed wr.drew (w.heap.size + 1 + 1 + 1) 49 (.map (some (w.heap.size + 1 + 1))) := BM.out
        refine wpIn_wide.2 ?_
        refine start_ (n := 6) (S := fun w' => w'.cell? ⟨w.heap.size + 1 + 1 + 1, 0, none⟩ = some (.map (some (w.heap.size + 1 + 1)))) (ds := [5]) #[false, false, false, false, false, false] (by kernel_rfl) rfl rfl HVd.cell (fun hHeld => ?_); refine with_tabW get7_tab get7_bits (fun HT_ HW_ => ?_)
        generalize hwd : World.drew _ = wd at HVd hHeld ⊢
        refine pure_ (i := 1) (N := (some 20)) (v := ?_) (a' := ?_) #[false, true, false, false, false, false] rfl rfl (any_of HT_.out (by kernel_rfl)) (fun c a w h => hQ17 rfl (by decide) (by decide) c a w h) (Or.inl ⟨by rfl, ?_⟩) ?_ ?_
        rotate_left
        · intro w'
          go_simp
          with_reducible rfl
        rotate_left
        · simp only [Act.put, List.setIfInBounds_toArray, List.set_cons_zero, List.set_cons_succ, i64_w, i32_w]
          rfl
        refine pure_ (i := 2) (N := (some 21)) (v := ?_) (a' := ?_) #[false, true, true, false, false, false] rfl rfl (any_of HT_.out (by kernel_rfl)) (fun c a w h => hQ17 rfl (by decide) (by decide) c a w h) (Or.inl ⟨by rfl, ?_⟩) ?_ ?_
        rotate_left
        · intro w'
          go_simp
          with_reducible rfl
        rotate_left
        · simp only [Act.put, List.setIfInBounds_toArray, List.set_cons_zero, List.set_cons_succ, i64_w, i32_w]
          rfl
        refine pure_ (i := 3) (N := (some 22)) (v := ?_) (a' := ?_) #[false, true, true, true, false, false] rfl rfl (any_of HT_.out (by kernel_rfl)) (fun c a w h => hQ17 rfl (by decide) (by decide) c a w h) (Or.inl ⟨by rfl, ?_⟩) ?_ ?_
        rotate_left
        · intro w'
          go_simp
          with_reducible rfl
        rotate_left
        · simp only [Act.put, List.setIfInBounds_toArray, List.set_cons_zero, List.set_cons_succ, i64_w, i32_w]
          rfl
        refine pure_ (i := 4) (N := (some 23)) (v := ?_) (a' := ?_) #[false, true, true, true, true, false] rfl rfl (any_of HT_.out (by kernel_rfl)) (fun c a w h => hQ17 rfl (by decide) (by decide) c a w h) (Or.inl ⟨by rfl, ?_⟩) ?_ ?_
        rotate_left
        · intro w'
          go_simp
          with_reducible rfl
        rotate_left
        · simp only [Act.put, List.setIfInBounds_toArray, List.set_cons_zero, List.set_cons_succ, i64_w, i32_w]
          rfl
        refine take_ (i := 0) (N := (some 19)) (v := ?_) (a' := ?_) #[true, true, true, true, true, false] rfl rfl (take_ofW HT_.out HW_.out (by kernel_rfl)) (fun c a w h => hQ17 rfl (by decide) (by decide) c a w h) (Or.inl ⟨by rfl, ?_⟩) hHeld ?_ ?_
        rotate_left
        · rintro w' s0
          go_simp
          with_reducible rfl
        rotate_left
        · simp only [Act.put, List.setIfInBounds_toArray, List.set_cons_zero, List.set_cons_succ, i64_w, i32_w]
          rfl
        refine last_ (i := 5) (N := none) #[true, true, true, true, true, true] rfl rfl (one_of HT_.out (by kernel_rfl)) (by decide) (fun K hK => ?_)
        have OMd : OwnM wd (w.heap.size + 1 + 1) i (mapD i) := by rw [← hwd]; exact OM.out
        obtain ⟨w1, hrun, r1, r2⟩ := OMd.update (Maps.int_keyed Try.underlying5) Try.underlying49 (by simp [maxLen]; omega) (Maps.keyOf_int_mk Try.underlying5 (wf_u8 (sg_in (i : Int)))) (plainElem_int Try.underlying3 (wf_i64 (x := (i : Int) + 1) (by omega)))
        rw [if_pos (by rfl)]
        unfold Oper.wp
        go_simp
        refine hK.out _ _ ?_
        clear hK K
        refine done_ (done_of HT_.out (by kernel_rfl)) ?_
        have hBd : Below w.heap.size w wd := by rw [← hwd]; exact below_drew1 HB.out
        have R1d : Boxed wd w.heap.size 22 (.slice none 0 0) := by rw [← hwd]; exact R1.out
        have R2d : Boxed wd (w.heap.size + 1) 27 (.int .i64 0) := by rw [← hwd]; exact R2.out
        have G1 := Lib.hid (R1d.kept r2 (by simp; omega))
        have G2 := Lib.hid (R2d.kept r2 (by simp))
        have GM := Lib.hid (HVd.kept r2 (by simp))
        have GO := Lib.hid (show OwnM w1 (w.heap.size + 1 + 1) (i + 1) (mapD (i + 1)) from r1)
        have GB := Lib.hid (hBd.grown r2 hBd.size (fun k e => by cases e; omega))
        clear R1 R2 OM BM HB R1d R2d hBd hidx hw1 HVd OMd hrun r1 r2 HT_ HW_ hHeld
        gi_wp2
        go_roundw
        case rel => exact ⟨i + 1, by omega, by go_num, G1, G2, GO, GM, GB⟩
        case measure => simp [intOf]; omega
    · obtain rfl : i = 45 := by omega
      have hs := BM.out.lt
      gi_wp2_with (refine ⟨trivial, ?_⟩; gi_at_call 31; refine (groups_in Fence.wide 5 trivial rfl _ _ _ _ _).mono ?_; rintro e w' ⟨rfl, rfl⟩)
      obtain ⟨W0, hW0⟩ : ∃ W0, ((wr.alloc (.cells #[.slice none 0 0] 22)).alloc (.cells #[.slice A0 l0.length c0] 22)).alloc (.cells #[.int .i64 3] 3) = W0 := ⟨_, rfl⟩
      have hsz : W0.heap.size = wr.heap.size + 1 + 1 + 1 := by rw [← hW0]; simp
      have bO : Boxed W0 wr.heap.size 22 (.slice none 0 0) := by rw [← hW0]; exact ((Boxed.new wr 22 (.slice none 0 0)).alloc _).alloc _
      have b0 : Boxed W0 (wr.heap.size + 1) 22 (.slice A0 l0.length c0) := by
        have := (Boxed.new (wr.alloc (.cells #[.slice none 0 0] 22)) 22 (.slice A0 l0.length c0)).alloc (.cells #[.int .i64 3] 3)
        rw [World.size_alloc] at this
        rw [← hW0]; exact this
      have b1 : Boxed W0 (wr.heap.size + 1 + 1) 3 (.int .i64 3) := by
        have := Boxed.new ((wr.alloc (.cells #[.slice none 0 0] 22)).alloc (.cells #[.slice A0 l0.length c0] 22)) 3 (.int .i64 3)
        rw [World.size_alloc, World.size_alloc] at this
        rw [← hW0]; exact this
      have hB0 : Below w.heap.size w W0 := by rw [← hW0]; exact below_alloc (below_alloc (below_alloc HB.out _) _) _
      have g1 : Boxed W0 w.heap.size 22 (.slice none 0 0) := by rw [← hW0]; exact ((R1.out.alloc _).alloc _).alloc _
      have g2 : Boxed W0 (w.heap.size + 1) 27 (.int .i64 0) := by rw [← hW0]; exact ((R2.out.alloc _).alloc _).alloc _
      have gm : OwnM W0 (w.heap.size + 1 + 1) 45 (mapD 45) := by rw [← hW0]; exact ((OM.out.alloc _).alloc _).alloc _
      have gb : Boxed W0 (w.heap.size + 1 + 1 + 1) 49 (.map (some (w.heap.size + 1 + 1))) := by rw [← hW0]; exact ((BM.out.alloc _).alloc _).alloc _
      clear R1 R2 OM BM HB
      rw [hW0]
      generalize hnb : wr.heap.size = nb at hs hsz bO b0 b1 ⊢
      clear hW0 hnb
      clear wr
      refine wpIn_groups (n := 6) (w0 := w) (B0 := nb + 1) (B1 := nb + 1 + 1) (m := 3) (by omega) rfl (by omega) (by omega) rfl (by omega) l0 A0 c0 (by omega) hr0 hc0 b0 b1
        (GetI w nb l0) (GetX w l0) ?ha ?hp ?hxp ?hs ?h0
        (fun x => { tmps := #[.slice A0 l0.length c0, undef, .pointer (some ⟨w.heap.size, 0, none⟩), .pointer (some ⟨w.heap.size + 1, 0, none⟩), .pointer (some ⟨w.heap.size + 1 + 1 + 1, 0, none⟩), u5, .pointer (some ⟨nb, 0, none⟩), x, undef, undef, undef, .slice A0 l0.length c0, .int .i64 l0.length, .int .i64 ((l0.length : Int) % 3), .bool false, .map (some (w.heap.size + 1 + 1)), .int .i64 45, .bool false, u18, u19, u20, u21, u22, u23, u24, .slice A0 l0.length c0, .func (.func 39) #[] #[.pointer (some ⟨nb + 1, 0, none⟩), .pointer (some ⟨nb + 1 + 1, 0, none⟩)], x, undef, undef, undef, undef, undef, undef, undef, undef, undef, undef, undef, undef, undef, undef, undef, undef, undef, undef, undef, undef, undef, undef, undef, undef, undef, undef, undef, undef, undef, undef, undef, undef, undef, undef, undef, undef, undef, undef, undef, undef, undef, undef, undef, undef], defers := [] }) ?assign ?body ?done ?stop
      case ha =>
        rintro rest W o ⟨v, out, h1, h2, h3, h4, h5, h6, h7, h8⟩
        exact ⟨v, out, h1.alloc _, Kd.R_alloc h2 _, h3.alloc _, h4.alloc _, h5.alloc _, h6.alloc _, below_alloc h7 _, h8⟩
      case hp =>
        rintro rest W L o o' hL hl ho ⟨v, out, h1, h2, h3, h4, h5, h6, h7, h8⟩
        exact ⟨v, out, kept_put _ h1 hl ho, R_put _ h2 hl ho, kept_put _ h3 hl ho, kept_put _ h4 hl ho, h5.kept (grownBy_putObj' W L o') (by simp; omega), kept_put _ h6 hl ho, below_put _ h7 (by omega) hl, h8⟩
      case hxp =>
        rintro W L o o' hL hl ho ⟨er, h1, h2, h3, h4⟩
        exact ⟨er, kept_put _ h1 hl ho, kept_put _ h2 hl ho, below_put _ h3 (by omega) hl, h4⟩
      case hs =>
        rintro rest W u v ⟨v', out, h1, h2, h3, h4, h5, h6, h7, h8⟩ hb
        exact ⟨v', out, h1.other (by omega) _, R_box _ h2 hb, h3.other (by omega) _, h4.other (by omega) _, h5.setCell (by simp; omega) _, h6.other (by omega) _, h7.setCell (p := ⟨nb + 1, 0, none⟩) (by simp; omega) _, h8⟩
      case h0 =>
        exact ⟨_, [], bO, Kd.R_nil _ _ _ _ _, g1, g2, gm, gb, hB0, joinG_nil _ (getL_err _), hb, h3, by simp⟩
      case assign =>
        intro lp x W K hK
        gi_wp2
        exact hK
      case body =>
        clear b0 b1 bO g1 g2 gm gb hB0
        rintro lp rest A c k W hk hpos hle ⟨v, out, hv, hO, h1, h2, hM, hMb, hB, hE, hab, hm, hol⟩ hC hc hb0 hb1 hsz'
        have hk2 : 2 ≤ k ∧ k ≤ 3 ∧ k ≤ rest.length ∧ 2 ≤ rest.length := by
          rw [List.length_take] at hk
          omega
        obtain ⟨hk2, hk3, hkr, hr2⟩ := hk2
        obtain ⟨g, hg⟩ : ∃ g, g = rest.take 3 := ⟨_, rfl⟩
        have hkg : g.length = k := by rw [hg, hk]
        have hCg : Kd.C (Kd.int .u8) w A k g := by
          have h := Kd.C_take (m := k) hC hkr
          have e : rest.take k = g := by
            rw [hg, hk, List.length_take]
            by_cases e : 3 ≤ rest.length
            · rw [Nat.min_eq_left e]
            · rw [Nat.min_eq_right (by omega), List.take_length, List.take_of_length_le (by omega)]
          rw [e, hkg] at h
          exact h
        have hag : AllB g := fun z hz => hab z (List.mem_of_mem_take (hg ▸ hz))
        obtain ⟨ad, rfl, -⟩ := Kd.at_int hCg 0 (by omega) (by omega)
        have HJ : Hid (GetJ w nb W0.heap.size W W v out (.slice (some ad) rest.length c)) := Lib.hid ⟨hv, hO, h1, h2, hM, hMb, hB, KeepsFrom.refl _ _, hb0, hb1⟩
        have HG := Lib.hid hg
        have HKG := Lib.hid hkg
        have HC := Lib.hid hCg
        have HA := Lib.hid hag
        have HE := Lib.hid hE
        have HAB := Lib.hid hab
        clear hv hO h1 h2 hM hMb hB hb0 hb1 hg hkg hCg hC hag hE hk hab
        gi_wp2
        gi_loopw [8, 9] (fun s8 s9 wr => ∃ (i : Nat) (n : Int), i ≤ k ∧ 0 ≤ n ∧ Hid (n < 45 ^ (k - i)) ∧ s8 = .int .i64 n ∧ s9 = .int .i64 ((i : Int) - 1) ∧ Hid (grpN (g.drop i) = some n) ∧ Hid (GetJ w nb W0.heap.size W wr v out (.slice (some ad) rest.length c)))
          (fun _ s9 _ => (intOf s9 + 1).toNat)
        case atStart => exact ⟨k, 0, by omega, by omega, Lib.hid (by rw [Nat.sub_self]; decide), rfl, rfl, Lib.hid (by rw [List.drop_eq_nil_of_le (by rw [HKG.out]; omega)]; rfl), HJ⟩
        case round =>
          clear HJ
          obtain ⟨i, n, hi, hn0, HN, rfl, rfl, HR, HJ⟩ := hrel
          by_cases hlt : 1 ≤ i
          · obtain ⟨j, rfl⟩ : ∃ j, i = j + 1 := ⟨i - 1, by omega⟩
            obtain ⟨x, hx⟩ : ∃ x, x = rd g (j : Int) := ⟨_, rfl⟩
            have hjk : j < k := by omega
            have hxb : 0 ≤ x ∧ x ≤ 255 := by
              rw [hx]
              have hjg : j < g.length := by rw [HKG.out]; exact hjk
              refine HA.out _ ?_
              unfold rd
              simp only [Int.toNat_natCast, List.getD_eq_getElem?_getD, List.getElem?_eq_getElem hjg, Option.getD_some]
              exact List.getElem_mem _
            have e0 : w.cell? (ad.add j) = some (.int .u8 x) := by
              obtain ⟨ad', ha', e0⟩ := Kd.at_int HC.out (j : Int) (by omega) (by omega)
              cases ha'
              rw [hx]
              simpa using e0
            have hn1 : n < 91125 := by
              have := HN.out
              have h45 : (45 : Int) ^ (k - (j + 1)) ≤ 45 ^ 3 := by
                have := Nat.pow_le_pow_right (n := 45) (by omega) (show k - (j + 1) ≤ 3 by omega)
                exact_mod_cast this
              have : (45 : Int) ^ 3 = 91125 := by decide
              omega
            have hstep := grpN_step g j (by rw [HKG.out]; exact hjk) n HR.out
            rw [← hx] at hstep
            have HS := Lib.hid hstep
            have hds := sdn_in 45 x
            have hds' : 0 ≤ sd x ∧ sd x ≤ 45 := hds
            clear hstep HR hx hds
            have hj0 : 0 ≤ (j : Int) := by omega
            have hj1 : (j : Int) < (k : Int) := by omega
            have hjx : 0 ≤ ((j + 1 : Nat) : Int) - 1 := by omega
            obtain ⟨hv, hO, h1, h2, hM, hMb, hB, hK, hb0, hb1⟩ := HJ.out
            have HJd := Lib.hid (GetJ.drew HJ.out)
            have e1 : wr.drew.cell? (ad.add j) = some (.int .u8 x) := ((below_drew1 hB).cell (World.block_lt_of_cell? w _ e0)).trans e0
            have e2 : wr.drew.cell? ⟨w.heap.size + 1 + 1 + 1, 0, none⟩ = some (.map (some (w.heap.size + 1 + 1))) := hMb.cell
            have e3 : OwnM wr.drew (w.heap.size + 1 + 1) 45 (mapD 45) := hM.drew
            clear hv hO h1 h2 hM hMb hB hK hb0 hb1 HJ e0
            gi_wp2
            refine startIn_ (n := 7) (S := fun w' => w'.cell? ⟨w.heap.size + 1 + 1 + 1, 0, none⟩ = some (.map (some (w.heap.size + 1 + 1))) ∧ w'.cell? (ad.add j) = some (.int .u8 x) ∧ OwnM w' (w.heap.size + 1 + 1) 45 (mapD 45)) (ds := []) #[false, false, false, false, false, false, false] (by kernel_rfl) (by rintro ⟨a, w, h⟩; exact h) (by kernel_rfl) rfl rfl ⟨e2, e1, e3⟩ (fun hHeld => ?_); refine with_tabW get16_tab get16_bits (fun HT_ HW_ => ?_)
            generalize hwd : World.drew _ = wd at HJd hHeld ⊢
            clear e1 e2 e3
            refine pure_ (i := 1) (N := (some 36)) (v := ?_) (a' := ?_) #[false, true, false, false, false, false, false] rfl rfl (any_of HT_.out (by kernel_rfl)) (fun c a w h => h) (Or.inl ⟨by rfl, ?_⟩) ?_ ?_
            rotate_left
            · intro w'
              go_simp
              with_reducible rfl
            rotate_left
            · simp only [Act.put, List.setIfInBounds_toArray, List.set_cons_zero, List.set_cons_succ, i64_w, i32_w]
              rfl
            refine pure_ (i := 2) (N := (some 37)) (v := ?_) (a' := ?_) #[false, true, true, false, false, false, false] rfl rfl (any_of HT_.out (by kernel_rfl)) (fun c a w h => h) (Or.inl ⟨by rfl, ?_⟩) ?_ ?_
            rotate_left
            · intro w'
              go_simp
              with_reducible rfl
            rotate_left
            · simp only [Act.put, List.setIfInBounds_toArray, List.set_cons_zero, List.set_cons_succ, i64_w, i32_w]
              rfl
            refine pure_ (i := 3) (N := (some 38)) (v := ?_) (a' := ?_) #[false, true, true, true, false, false, false] rfl rfl (any_of HT_.out (by kernel_rfl)) (fun c a w h => h) (Or.inl ⟨by rfl, ?_⟩) ?_ ?_
            rotate_left
            · intro w'
              go_simp
              with_reducible rfl
            rotate_left
            · simp only [Act.put, List.setIfInBounds_toArray, List.set_cons_zero, List.set_cons_succ, i64_w, i32_w]
              rfl
            refine take_ (i := 0) (N := (some 35)) (v := ?_) (a' := ?_) #[true, true, true, true, false, false, false] rfl rfl (take_ofW HT_.out HW_.out (by kernel_rfl)) (fun c a w h => h) (Or.inl ⟨by rfl, ?_⟩) hHeld ?_ ?_
            rotate_left
            · rintro w' ⟨s0, s1, s2⟩
              go_simp
              with_reducible rfl
            rotate_left
            · simp only [Act.put, List.setIfInBounds_toArray, List.set_cons_zero, List.set_cons_succ, i64_w, i32_w]
              rfl
            refine take_ (i := 4) (N := (some 39)) (v := ?_) (a' := ?_) #[true, true, true, true, true, false, false] rfl rfl (take_ofW HT_.out HW_.out (by kernel_rfl)) (fun c a w h => h) (Or.inl ⟨by rfl, ?_⟩) hHeld ?_ ?_
            rotate_left
            · rintro w' ⟨s0, s1, s2⟩
              go_simp
              with_reducible rfl
            rotate_left
            · simp only [Act.put, List.setIfInBounds_toArray, List.set_cons_zero, List.set_cons_succ, i64_w, i32_w]
              rfl
            refine take_ (i := 5) (N := (some 40)) (v := ?_) (a' := ?_) #[true, true, true, true, true, true, false] rfl rfl (take_ofW HT_.out HW_.out (by kernel_rfl)) (fun c a w h => h) (Or.inl ⟨by rfl, ?_⟩) hHeld ?_ ?_
            rotate_left
            · rintro w' ⟨s0, s1, s2⟩
              have hlk := look_of s2 hxb
              go_simp
              with_reducible rfl
            rotate_left
            · simp only [Act.put, List.setIfInBounds_toArray, List.set_cons_zero, List.set_cons_succ, i64_w, i32_w]
              rfl
            refine pure_ (i := 6) (N := (some 10)) (v := ?_) (a' := ?_) #[true, true, true, true, true, true, true] rfl rfl (any_of HT_.out (by kernel_rfl)) (fun c a w h => h) (Or.inl ⟨by rfl, ?_⟩) ?_ ?_
            rotate_left
            · intro w'
              go_simp
              with_reducible rfl
            rotate_left
            · simp only [Act.put, List.setIfInBounds_toArray, List.set_cons_zero, List.set_cons_succ, i64_w, i32_w]
              rfl
            refine done_ (done_of HT_.out (by kernel_rfl)) ?_
            clear hHeld HT_ HW_
            obtain ⟨hv, hO, h1, h2, hM, hMb, hB, hK, hb0, hb1⟩ := HJd.out
            by_cases hz : sd x = 0
            · have HZ := Lib.hid hz
              have hzb : (sd x == 0) = true := beq_iff_eq.mpr hz
              clear hz
              have HX := Lib.hid (errX 7 HJd.out (by omega) (by
                have h := HS.out
                rw [if_pos HZ.out] at h
                have h' := getL_none rest hr2 (by rw [← HG.out]; exact grpN_drop g j h)
                have := HE.out
                rw [h'] at this
                rw [← this]
                rfl))
              have cc1 := h1.cell
              have ff1 := h1.frozen
              have h2' := h2.other (B' := w.heap.size) (by omega) (.slice none 0 0)
              have cc2 := h2'.cell
              have ff2 := h2'.frozen
              clear hv hO h1 h2 hM hMb hB hK hb0 hb1 h2'
              gi_wp2
              exact HX.out
            · have hzb : (sd x == 0) = false := beq_eq_false_iff_ne.mpr hz
              have hd1 : 1 ≤ sd x := by omega
              have HS' := Lib.hid (show grpN (g.drop j) = some (45 * n + sd x - 1) by have h := HS.out; rw [if_neg hz] at h; exact h)
              have HN' := Lib.hid (show 45 * n + sd x - 1 < 45 ^ (k - j) by
                have h := HN.out
                rw [show k - j = (k - (j + 1)) + 1 by omega, Int.pow_succ]
                omega)
              clear hz hv hO h1 h2 hM hMb hB hK hb0 hb1 HS HN
              gi_wp2
              go_roundw
              case rel => exact ⟨j, 45 * n + sd x - 1, by omega, by omega, HN', rfl, by go_num, HS', HJd⟩
              case measure => simp [intOf]
          · obtain rfl : i = 0 := by omega
            match rest, hr2 with
            | [x, y], _ =>
              obtain rfl : k = 2 := by rw [← HKG.out, HG.out]; rfl
              have hgr : grpN [x, y] = some n := by
                have := HR.out
                rw [HG.out] at this
                exact this
              by_cases hbig : 255 < n
              · have HX := Lib.hid (errX 23 HJ.out (by omega) (by
                  rw [← HE.out]
                  show joinG out (getL _) = _
                  unfold getL
                  rw [hgr]
                  simp only [if_pos hbig, joinG]
                  rfl))
                obtain ⟨hv, hO, h1, h2, hM, hMb, hB, hK, hb0, hb1⟩ := HJ.out
                have cc1 := h1.cell
                have ff1 := h1.frozen
                have h2' := h2.other (B' := w.heap.size) (by omega) (.slice none 0 0)
                have cc2 := h2'.cell
                have ff2 := h2'.frozen
                clear hv hO h1 h2 hM hMb hB hK hb0 hb1 h2' hgr HR HN
                have hq : 0 < n / 256 := by omega
                gi_wp2
                exact HX.out
              · have hgl : getL [x, y] = ([n], 0) := by
                  rw [getL.eq_def]
                  simp only [hgr, if_neg hbig]
                have hEE := HE.out
                rw [hgl] at hEE
                have HEE := Lib.hid hEE
                obtain ⟨hv, hO, -, -, -, -, hB, -, -, -⟩ := HJ.out
                have hrow := Kd.own_of_R hO
                have cc := hv.cell
                have hsz2 := hB.size
                have hnbs := hv.lt
                clear hv hO hB hEE hgl hgr HR HN HE
                have hq : ¬ 0 < n / 256 := by omega
                have hq' : n / 256 = 0 := by omega
                gi_wp2_with (gi_at_builtin; refine wpListIn_append_own _ rfl _ _ 22 rfl w.heap.size 5 i0 (.int .u8 0) 1 1 Try.underlying22 hi5 hz0 hz1 hz2 rfl (by decide) _ _ _ rfl (hrow.alloc _) ⟨wr.heap.size, 0, none⟩ 1 1 [.int .u8 (n)] rfl rfl (cell_one_new _ _ _) (by simp [Value.oneCell']) (by simp [maxLen]; omega) (by omega) (by simp; omega) ?_; intro v1 w1 hown1 hg1 _; obtain ⟨gg1, cc1, rfl⟩ := ownsRow_succ hown1; obtain ⟨hv1, hj1⟩ := HJ.out.app hs hown1 hg1; have cv1 := hv1.cell; have fv1 := hv1.frozen; have HJ1 := Lib.hid hj1; clear hj1 hown1 hg1 hv1)
                obtain ⟨hv, hO, h1, h2, hM, hMb, hB, hK, hb0, hb1⟩ := HJ1.out
                exact ⟨by rw [← hsz]; exact hK, hb0, hb1, _, out ++ [n], hv, hO, h1, h2, hM, hMb, hB, by rw [← HEE.out]; simp [joinG, getL], by intro z hz; simp at hz, by simp, by simp at hol; simp; omega⟩
            | x :: y :: z :: r, _ =>
              obtain rfl : k = 3 := by rw [← HKG.out, HG.out]; rfl
              have hgr : grpN [x, y, z] = some n := by
                have := HR.out
                rw [HG.out] at this
                exact this
              by_cases hbig : 65535 < n
              · have HX := Lib.hid (errX 23 HJ.out (by omega) (by
                  rw [← HE.out]
                  show joinG out (getL _) = _
                  unfold getL
                  rw [hgr]
                  simp only [if_pos hbig, joinG]
                  rfl))
                obtain ⟨hv, hO, h1, h2, hM, hMb, hB, hK, hb0, hb1⟩ := HJ.out
                have cc1 := h1.cell
                have ff1 := h1.frozen
                have h2' := h2.other (B' := w.heap.size) (by omega) (.slice none 0 0)
                have cc2 := h2'.cell
                have ff2 := h2'.frozen
                clear hv hO h1 h2 hM hMb hB hK hb0 hb1 h2' hgr HR HN
                have hq : 0 < n / 65536 := by omega
                gi_wp2
                exact HX.out
              · have hgl : getL (x :: y :: z :: r) = joinG [n / 256, n % 256] (getL r) := by
                  rw [getL.eq_def]
                  simp only [hgr, if_neg hbig]
                have hEE := HE.out
                rw [hgl] at hEE
                have HEE := Lib.hid hEE
                obtain ⟨hv, hO, -, -, -, -, hB, -, -, -⟩ := HJ.out
                have hrow := Kd.own_of_R hO
                have cc := hv.cell
                have hsz2 := hB.size
                have hnbs := hv.lt
                clear hv hO hB hEE hgl hgr HR HN HE
                have hq : ¬ 0 < n / 65536 := by omega
                have hq' : n / 65536 = 0 := by omega
                gi_wp2_with (first | (gi_at_builtin; refine wpListIn_append_own _ rfl _ _ 22 rfl w.heap.size 5 i0 (.int .u8 0) 1 1 Try.underlying22 hi5 hz0 hz1 hz2 rfl (by decide) _ _ _ rfl (hrow.alloc _) ⟨wr.heap.size, 0, none⟩ 1 1 [.int .u8 (n / 256)] rfl rfl (cell_one_new _ _ _) (by simp [Value.oneCell']) (by simp [maxLen]; omega) (by omega) (by simp; omega) ?_; intro v1 w1 hown1 hg1 _; obtain ⟨gg1, cc1, rfl⟩ := ownsRow_succ hown1; obtain ⟨hv1, hj1⟩ := HJ.out.app hs hown1 hg1; have cv1 := hv1.cell; have fv1 := hv1.frozen; have HJ1 := Lib.hid hj1; have hrow2 := Kd.own_of_R hj1.2.1; simp only [List.length_append, List.length_singleton] at hrow2; have cc2 := hj1.1.cell; have hsz3 : w.heap.size ≤ w1.heap.size := (by have := hj1.2.2.2.2.2.2.1.size; simpa using this); clear hj1 hown1 hg1 hv1 hrow cc) | (gi_at_builtin; refine wpListIn_append_own _ rfl _ _ 22 rfl w.heap.size 5 i0 (.int .u8 0) 1 1 Try.underlying22 hi5 hz0 hz1 hz2 rfl (by decide) _ _ _ rfl (hrow2.alloc _) ⟨w1.heap.size, 0, none⟩ 1 1 [.int .u8 (n % 256)] rfl rfl (by simpa only [World.size_setCell] using cell_one_new (w1.setCell ⟨nb, 0, none⟩ (.slice (some ⟨gg1, 0, none⟩) (out.length + 1) cc1)) (.int .u8 (n % 256)) 5) (by simp [Value.oneCell']) (by simp [maxLen]; omega) (by omega) (by simp; omega) ?_; intro v2 w2 hown2 hg2 _; obtain ⟨gg2, cc2', rfl⟩ := ownsRow_succ hown2; obtain ⟨hv2, hj2⟩ := HJ1.out.app hs (by simpa using hown2) hg2; have cv2 := hv2.cell; have fv2 := hv2.frozen; have HJ2 := Lib.hid hj2; clear hj2 hown2 hg2 hv2))
                obtain ⟨hv, hO, h1, h2, hM, hMb, hB, hK, hb0, hb1⟩ := HJ2.out
                exact ⟨by rw [← hsz]; exact hK, hb0, hb1, _, (out ++ [n / 256]) ++ [n % 256], hv, hO, h1, h2, hM, hMb, hB, by rw [← HEE.out, joinG_join]; simp, fun z' hz => HAB.out z' (List.mem_of_mem_drop hz), by simp at hm; simp; omega, by simp at hol; simp; omega⟩
      case done =>
        rintro D W hD ⟨v, out, hv, hO, h1, h2, hM, hMb, hB, hE, hab, hm, hol⟩ hK
        have e : getL l0 = (out, 0) := by rw [← hE]; simp [getL, joinG]
        have HE := Lib.hid e
        clear hE e hab hm hol hM hMb
        obtain ⟨A1, c1, rfl⟩ := Kd.R_slice hO
        have h2' := h2.other (B' := w.heap.size) (by omega) (.slice A1 out.length c1)
        have cv := hv.cell
        have cc1 := h1.cell
        have ff1 := h1.frozen
        have cc2 := h2'.cell
        have ff2 := h2'.frozen
        have HO := Lib.hid (R_box (n := w.heap.size) (.slice A1 out.length c1) hO h1)
        have HB := Lib.hid (hB.setCell (p := ⟨w.heap.size, 0, none⟩) (Nat.le_refl _) (.slice A1 out.length c1))
        have HK := Lib.hid ((KeepsOthers.setCell W ⟨w.heap.size, 0, none⟩ (.slice A1 out.length c1)).same D _ hK rfl)
        have H1 := Lib.hid (h1.set (.slice A1 out.length c1))
        have H2 := Lib.hid h2'
        clear hO hB hK h2 h2' hv h1
        gi_wp2
        have HO' : Kd.R (Kd.int .u8) 5 ((W.setCell ⟨w.heap.size, 0, none⟩ (.slice A1 out.length c1)).setCell ⟨w.heap.size + 1, 0, none⟩ (.int .i64 0)) w.heap.size (fun _ => True) (.slice A1 out.length c1) out := R_far27 _ HO.out H2.out
        refine get_end (out := out) (er := 0) (by rfl) (by rfl) (H1.out.other (by omega) _) (H2.out.set _) HO' (HB.out.setCell (p := ⟨w.heap.size + 1, 0, none⟩) (by simp) _) (by omega) ((KeepsOthers.setCell _ ⟨w.heap.size + 1, 0, none⟩ _).same D _ HK.out rfl) HE.out
      case stop =>
        rintro D W hD ⟨er, h1, h2, h3, h4⟩ hK
        have HE := Lib.hid h4
        clear h4
        gi_wp2
        exact get_end (by rfl) (by rfl) h1 h2 (Kd.R_nil _ _ _ _ _) h3 (by omega) hK HE.out
theorem forty_Get.calls (A0 : Option Addr) (c0 : Nat) (l0 : List Int) (r1 : List Int) (r2 : Int) (w : World) (hr0 : Kd.C (Kd.int .u8) w A0 l0.length l0) (hc0 : l0.length ≤ c0) (h : forty_Get.f l0 = some (r1, r2)) :
    Calls Try.prog 17 #[.slice A0 l0.length c0] w fun e w' => ∃ v0_ : Value, e = .returned (.tuple #[v0_, .int .i64 r2]) ∧ Kd.R (Kd.int .u8) 5 w' w.heap.size (fun _ => True) v0_ r1 ∧ Below w.heap.size w w' := by
  unfold forty_Get.f at h
  by_cases h3 : l0.length % 3 = 1
  · rw [if_pos h3] at h
    simp only [Option.some.injEq, Prod.mk.injEq] at h
    obtain ⟨rfl, rfl⟩ := h
    exact get_len A0 c0 l0 w h3
  · rw [if_neg h3] at h
    split at h
    case isFalse => cases h
    rename_i hl
    simp only [Option.some.injEq] at h
    have := get_walk A0 c0 l0 w hr0 hc0 h3 hl.1 hl.2
    rw [h] at this
    exact this
end Go.Proofs.Ytijpiaiklojafaa.S
