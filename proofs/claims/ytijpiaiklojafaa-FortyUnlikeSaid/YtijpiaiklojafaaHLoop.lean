/-
  A range over a function whose iterator keeps its place in a variable of its own (forty.groups): the law of the loop, and a region that draws its order in a round.
-/
import Derived.RangeFuncNested
import Derived.RangeFuncBound
import Derived.RangeFuncCalls
import Derived.RangeFuncLeaves
import Derived.RangeFuncBox
import Derived.Shelf.Abstract
import Derived.Shelf.RegionOpen
import Derived.WalkKit
import Derived.OwnWalkIn
import Derived.TacticsInMore
import Derived.LoopNIn
import Derived.LoopIn
import Derived.OrdersIn
import Derived.Lib.Hide
import Derived.Test.YtijpiaiklojafaaS0
namespace Go.Proofs.Ytijpiaiklojafaa.S
open Go.RowKit Go.Proofs.YtijpiaiklojafaaW.PrintWords Go.Proofs.YtijpiaiklojafaaW.PrintLast Go.Proofs.YtijpiaiklojafaaW.PrintMore

/-! ### A region that draws its order, in a round -/
theorem rowsIn_of {n : Nat} {P : Program} {row : String} {args : Array Value} {w : World} {R : Value → World → Prop} (l : Nat) (h : Rows P row args w R) : RowsIn (Fence.wide.inRound l) n P row args w R :=
  fun c cs _ => let ⟨v, w', r, s⟩ := h c cs; ⟨v, w', r, stepsIn_wide.2 s⟩
theorem operIn_of {n : Nat} {P : Program} {o : Oper} {K : Act → World → Prop} {Q : Exit → Act → World → Prop} {a : Act} {w : World} (l : Nat) (hd : ∀ c, o.op ≠ .defer c) (h : o.wp P a w K Q) : o.wpIn (Fence.wide.inRound l) n P a w K Q := by
  unfold Oper.wp at h
  unfold Oper.wpIn
  refine ⟨fun _ _ => trivial, ?_⟩
  rw [Oper.semAt_eq _ _ _ hd]
  generalize (execOp a.eval o).run P w = r at h ⊢
  cases r with
  | ok x w' =>
    cases x
    case value v => exact h
    case skip => exact h
    case defer d => exact h
    case enter f args => exact ⟨(fun h0 => (by cases h0)), CallsIn.inRound l (callsIn_wide.2 h)⟩
    case row row args => exact ⟨(fun h0 => (by cases h0)), rowsIn_of l h⟩
    all_goals exact absurd h (by simp [Oper.upon])
  | halt x w' =>
    cases x
    case panic v => exact h
    all_goals exact absurd h (by simp [Oper.upon])
theorem opIn_of {n : Nat} {P : Program} {ops : Array Oper} {Q : Exit → Act → World → Prop} {i : Nat} {K : Act → World → Prop} {a : Act} {w : World} (l : Nat) (hout : ¬ LetsOut Q) (hd : ∀ (j : Nat) o c, ops[j]? = some o → o.op ≠ .defer c)
    (h : wpOp P ops Q i K a w) : wpOpIn (Fence.wide.inRound l) n P ops Q i K a w := by
  unfold wpOp at h
  unfold wpOpIn
  cases ho : ops[i]? with
  | none => simpa only [ho] using h
  | some o =>
    simp only [ho] at h ⊢
    split at h
    case isTrue hw =>
      rw [if_pos hw]
      rcases h with h | h
      · exact operIn_of l (fun c => hd i o c ho) h
      · exact absurd h.2 hout
    case isFalse hw =>
      rw [if_neg hw]
      exact ⟨fun _ _ => trivial, h⟩
theorem anyIn_of {n : Nat} {P : Program} {ops : Array Oper} {Q : Exit → Act → World → Prop} {md : Region.Mode} (l : Nat) (hout : ¬ LetsOut Q) (hd : ∀ (j : Nat) o c, ops[j]? = some o → o.op ≠ .defer c) :
    ∀ (fuel : Nat) (listed : Array Bool) (a : Act) (w : World), wpAny P md ops Q fuel listed a w → wpAnyIn (Fence.wide.inRound l) n P md ops Q fuel listed a w
  | 0, _, _, _, h => h
  | fuel + 1, _, _, _, h => ⟨h.1, fun i hi => wpOpIn_mono (fun a' w' h' => anyIn_of l hout hd fuel _ a' w' h') (opIn_of l hout hd (h.2 i hi))⟩
def noDeferB (ops : Array Oper) : Bool := ops.all fun o => match o.op with
  | .defer _ => false
  | _ => true
theorem noDefer_of {ops : Array Oper} (h : noDeferB ops = true) : ∀ (j : Nat) o c, ops[j]? = some o → o.op ≠ .defer c := by
  intro j o c hj e
  obtain ⟨hlt, rfl⟩ := Array.getElem?_eq_some_iff.1 hj
  have := Array.all_eq_true.1 h j hlt
  rw [e] at this
  simp at this
/-- The begin of such a region, in a round: the words of the plain walk go on from here. -/
theorem startIn_ {m : Nat} {P : Program} {ops : Array Oper} {Q : Exit → Act → World → Prop} {S : World → Prop} {ds : List Nat} {id n lp : Nat} {a : Act} {w : World} (l : Array Bool) (hm : P.follows .mixedOrders = true) (hout : ¬ LetsOut Q) (hd : noDeferB ops = true) (hn : ops.size = n) (hl : Array.replicate n false = l) (hS : S w.drew)
    (h : S w.drew → wpAnyLast P .any ops Q S ds n l a w.drew) : (Code.region id ops true).wpIn (Fence.wide.inRound lp) m P Q a w := by
  subst hn
  subst hl
  exact wpIn_region_any hm (anyIn_of lp hout (noDefer_of hd) _ _ _ _ (wpAny_of_last _ _ _ _ (h hS)))

/-! ### forty.groups -/
attribute [local go_sem] Oper.semAt_some
attribute [local go_sem] max2_int min2_int max_two min_two max_three min_three max_four min_four

theorem groups_in (F : Fence) (n : Nat) (hF : F.fn 31) (hro : F.round = none) (A : Option Addr) (k c : Nat) (m : Int) (w : World) :
    CallsIn F n Try.prog 31 #[.slice A k c, .int .i64 m] w fun e w' => e = .returned (.func (.func 39) #[] #[.pointer (some ⟨w.heap.size, 0, none⟩), .pointer (some ⟨w.heap.size + 1, 0, none⟩)]) ∧ w' = (w.alloc (.cells #[.slice A k c] 22)).alloc (.cells #[.int .i64 m] 3) := by
  refine callsIn_of_wp Try.func31 rfl hF ?_ hro
  simp only [Try.ntmps31, List.size_toArray, List.length_cons, List.length_nil, Nat.reduceAdd, Nat.reduceSub, Array.replicate_succ, Array.replicate_zero, List.push_toArray, List.append_toArray, List.nil_append, List.cons_append]
  gi_wp2
  go_ret
  exact ⟨rfl, rfl⟩

/-- How many bytes are left, read off the world. -/
def leftAt (B0 : Nat) (W : World) : Nat := match W.cell? ⟨B0, 0, none⟩ with
  | some (.slice _ n _) => n
  | _ => 0
set_option maxRecDepth 100000 in
set_option maxHeartbeats 2000000 in
/-- The iterator: each group is handed to yield; what is left is kept in the box B0. -/
theorem groups1_in (F : Fence) (n : Nat) (hF : F.fn 39) (hro : F.round = none) (hn : 1 ≤ n) (lp B0 B1 m : Nat) (hm : 0 < m) (hm2 : m ≤ 1000) (w0 : World) (J Jx : List Int → World → Prop)
    (hJ : ∀ rest W u v, J rest W → Boxed W B0 22 u → J rest (W.setCell ⟨B0, 0, none⟩ v))
    (hY : ∀ (rest : List Int) A c (k : Nat) W, k = (rest.take m).length → 0 < rest.length → J rest W → Kd.C (Kd.int .u8) w0 A rest.length rest → rest.length ≤ c → Boxed W B0 22 (.slice A rest.length c) → Boxed W B1 3 (.int .i64 m) →
      YieldAt F (n - 1) Try.prog lp #[.slice A k c] W fun e W' =>
        (e = .returned (.bool true) ∧ J (rest.drop m) W' ∧ Boxed W' B0 22 (.slice A rest.length c) ∧ Boxed W' B1 3 (.int .i64 m)) ∨ (e = .returned (.bool false) ∧ Jx rest W'))
    (l : List Int) (A0 : Option Addr) (c0 : Nat) (hl : l.length ≤ 1000000) (hC : Kd.C (Kd.int .u8) w0 A0 l.length l) (hc0 : l.length ≤ c0) (hne : B0 ≠ B1)
    (W : World) (h0 : Boxed W B0 22 (.slice A0 l.length c0)) (h1 : Boxed W B1 3 (.int .i64 m)) (hj : J l W) :
    CallsIn F n Try.prog 39 #[.func (.yield lp) #[] #[], .pointer (some ⟨B0, 0, none⟩), .pointer (some ⟨B1, 0, none⟩)] W fun e W' => (∃ v, e = .returned v) ∧ (J [] W' ∨ ∃ rest, Jx rest W') := by
  obtain ⟨i0, hi, hz0, hz1, hz2⟩ := info_parts (P := Try.prog) (e := 5) (z := .int .u8 0) (size := 1) (bytes := 1) (by kernel_rfl)
  refine callsIn_of_wp Try.func39 rfl hF ?_ hro
  simp only [Try.ntmps39, List.size_toArray, List.length_cons, List.length_nil, Nat.reduceAdd, Nat.reduceSub, Array.replicate_succ, Array.replicate_zero, List.push_toArray, List.append_toArray, List.nil_append, List.cons_append]
  gi_wp2
  gi_loopw [4] (fun _ wr => ∃ (rest : List Int) (A : Option Addr) (c : Nat), rest.length ≤ l.length ∧ Kd.C (Kd.int .u8) w0 A rest.length rest ∧ rest.length ≤ c ∧ Boxed wr B0 22 (.slice A rest.length c) ∧ Boxed wr B1 3 (.int .i64 m) ∧ J rest wr)
    (fun _ wr => leftAt B0 wr)
  case atStart => exact ⟨l, A0, c0, Nat.le_refl _, hC, hc0, h0, h1, hj⟩
  case round =>
    obtain ⟨rest, A, c, hle, hCr, hcr, hb0, hb1, hjr⟩ := hrel
    have hr0 := hb0.cell
    have hr1 := hb1.cell
    by_cases he : 0 < rest.length
    · -- a group
      obtain ⟨k, hk⟩ : ∃ k, k = (rest.take m).length := ⟨_, rfl⟩
      have hk1 : k ≤ rest.length := by rw [hk, List.length_take]; omega
      have hk2 : 0 < k := by rw [hk, List.length_take]; omega
      have hk3 : k ≤ m := by rw [hk, List.length_take]; omega
      obtain ⟨fn, tmps, assign, body, hy, hR⟩ := hY rest A c k wr hk he hjr hCr hcr hb0 hb1
      have c1 := cut_to (P := Try.prog) 22 5 .i64 Try.underlying22 hi A rest.length c (k : Int) (by omega) (by omega) hcr
      have c2 := cut_from (P := Try.prog) 22 5 .i64 Try.underlying22 hi 1 hz1 A rest.length c (k : Int) (by omega) (by omega)
      simp only [Int.toNat_natCast, Nat.mul_one] at c1 c2
      have hdl : (rest.drop m).length = rest.length - k := by rw [List.length_drop, hk, List.length_take]; omega
      have hdC : Kd.C (Kd.int .u8) w0 (if c = k then A else A.map (·.add k)) (rest.drop m).length (rest.drop m) := by
        have h := Kd.C_drop (m := k) hCr hk1 hcr
        have e : rest.drop k = rest.drop m := by
          rw [hk, List.length_take]
          by_cases e : m ≤ rest.length
          · rw [Nat.min_eq_left e]
          · rw [Nat.min_eq_right (by omega), List.drop_length, List.drop_eq_nil_of_le (by omega)]
        rw [e] at h
        simpa [Kd.int, Kd.scalar] using h
      have hmk : (rest.length < m ∧ k = rest.length) ∨ (¬ rest.length < m ∧ k = m) := by rw [hk, List.length_take]; omega
      have HK := Lib.hid hk
      clear hk
      have HD := Lib.hid hdl
      clear hdl
      rcases hmk with ⟨hlt, rfl⟩ | ⟨hlt, rfl⟩
      · gi_wp2
        refine hR.mono ?_
        rintro e W3 (⟨rfl, hJ3, hb30, hb31⟩ | ⟨rfl, hJx3⟩)
        · have hr30 := hb30.cell
          have hf30 := hb30.frozen
          gi_wp2
          go_roundw
          case rel => exact ⟨rest.drop m, if c = rest.length then A else A.map (·.add rest.length), c - rest.length, by rw [HD.out]; omega, hdC, by rw [HD.out]; omega, by rw [HD.out, Nat.sub_self]; exact hb30.set _, hb31.other hne.symm _, hJ _ _ _ _ hJ3 hb30⟩
          case measure =>
            have q := (hb30.set (.slice (if c = rest.length then A else A.map (·.add rest.length)) 0 (c - rest.length))).cell
            simp only [leftAt, q, hr0]
            omega
        · gi_wp2
          refine bodyPost_ret (results_none rfl _ _ _) rfl ?_
          exact ⟨⟨_, rfl⟩, .inr ⟨_, hJx3⟩⟩
      · gi_wp2
        refine hR.mono ?_
        rintro e W3 (⟨rfl, hJ3, hb30, hb31⟩ | ⟨rfl, hJx3⟩)
        · have hr30 := hb30.cell
          have hf30 := hb30.frozen
          gi_wp2
          go_roundw
          case rel => exact ⟨rest.drop k, if c = k then A else A.map (·.add k), c - k, by rw [HD.out]; omega, hdC, by rw [HD.out]; omega, by rw [HD.out]; exact hb30.set _, hb31.other hne.symm _, hJ _ _ _ _ hJ3 hb30⟩
          case measure =>
            have q := (hb30.set (.slice (if c = k then A else A.map (·.add k)) (rest.length - k) (c - k))).cell
            simp only [leftAt, q, hr0]
            omega
        · gi_wp2
          refine bodyPost_ret (results_none rfl _ _ _) rfl ?_
          exact ⟨⟨_, rfl⟩, .inr ⟨_, hJx3⟩⟩
    · obtain rfl : rest = [] := List.length_eq_zero_iff.1 (by omega)
      gi_wp2
      go_end0
      exact ⟨⟨_, rfl⟩, .inl hjr⟩

/-! ### The statement: a range over forty.groups' iterator -/
/-- How the body of a round may be left: off its end, or by a return. -/
def grpPost (B0 B1 m D : Nat) (I : List Int → World → Prop) (Ix : World → Prop) (rest : List Int) (u v : Value) (W : World) : Exit → Act → World → Prop
  | .normal, _, W' => KeepsFrom D W W' ∧ Boxed W' B0 22 u ∧ Boxed W' B1 3 v ∧ I (rest.drop m) W'
  | .ret, _, W' => KeepsFrom D W W' ∧ Ix W'
  | _, _, _ => False
theorem kept_put {W : World} {B t : Nat} {v : Value} {L : Nat} {o : Obj} (o' : Obj) (h : Boxed W B t v) (hl : W.heap[L]? = some o) (ho : o.isCells = false) : Boxed (W.putObj L o') B t v :=
  h.kept (grownBy_putObj' W L o') (fun e => by
    cases e
    simp only [Boxed] at h
    rw [h] at hl
    cases hl
    cases ho)
theorem wpIn_groups {n : Nat} {g : Operand} {ps : Array Tmp} {assign body : Code} {Q : Exit → Act → World → Prop} {a : Act} {w w0 : World} (h1 : 3 ≤ n) {B0 B1 m : Nat} (hg : a.eval g = .func (.func 39) #[] #[.pointer (some ⟨B0, 0, none⟩), .pointer (some ⟨B1, 0, none⟩)])
    (hm : 0 < m) (hm2 : m ≤ 1000) (hps : ps.size = 1) (hne : B0 ≠ B1) (l : List Int) (A0 : Option Addr) (c0 : Nat) (hl : l.length ≤ 1000000) (hC : Kd.C (Kd.int .u8) w0 A0 l.length l) (hc0 : l.length ≤ c0)
    (hB0 : Boxed w B0 22 (.slice A0 l.length c0)) (hB1 : Boxed w B1 3 (.int .i64 m))
    (I : List Int → World → Prop) (Ix : World → Prop) (hIa : ∀ rest W o, I rest W → I rest (W.alloc o)) (hIp : ∀ rest W L o o', w.heap.size ≤ L → W.heap[L]? = some o → o.isCells = false → I rest W → I rest (W.putObj L o')) (hIxp : ∀ W L o o', w.heap.size ≤ L → W.heap[L]? = some o → o.isCells = false → Ix W → Ix (W.putObj L o'))
    (hIs : ∀ rest W u v, I rest W → Boxed W B0 22 u → I rest (W.setCell ⟨B0, 0, none⟩ v)) (h0 : I l w) (a₁ : Value → Act)
    (hassign : ∀ (lp : Nat) (x : Value) (W : World) (K : Act → World → Prop), K (a₁ x) W →
      assign.wpIn (Fence.wide.inRound lp) (n - 1 - 1) Try.prog (Exit.then K (fun _ _ _ => False)) { tmps := (ps.zip #[x]).foldl (fun t (p, v) => t.setIfInBounds p v) a.tmps, defers := [] } W)
    (hbody : ∀ (lp : Nat) (rest : List Int) A c (k : Nat) (W : World), k = (rest.take m).length → 0 < rest.length → rest.length ≤ l.length → I rest W → Kd.C (Kd.int .u8) w0 A rest.length rest → rest.length ≤ c → Boxed W B0 22 (.slice A rest.length c) → Boxed W B1 3 (.int .i64 m) → w.heap.size ≤ W.heap.size →
      body.wpIn (Fence.wide.inRound lp) (n - 1 - 1) Try.prog (grpPost B0 B1 m w.heap.size I Ix rest (.slice A rest.length c) (.int .i64 m) W) (a₁ (.slice A k c)) W)
    (hdone : ∀ (D : Nat) (W : World), w.heap.size ≤ D → I [] W → W.heap[D]? = some (.deferred (some [])) → Q .normal { a with defers := { target := .collected D, args := #[] } :: a.defers } W)
    (hstop : ∀ (D : Nat) (W : World), w.heap.size ≤ D → Ix W → W.heap[D]? = some (.deferred (some [])) → Code.ret.wpIn Fence.wide n Try.prog Q { a with defers := { target := .collected D, args := #[] } :: a.defers } W) :
    (Code.rangeFunc g ps assign body).wpIn Fence.wide n Try.prog Q a w := by
  refine wpIn_rangeFunc ?_
  intro fn hfn
  obtain ⟨rec, hrec⟩ : ∃ rec : LoopState → Option Code → Loop, rec = fun st pe => { state := st, pending := pe, fn, tmps := a.tmps, params := ps, assign, body, defers := w.heap.size } := ⟨_, rfl⟩
  obtain ⟨W1, hW1⟩ : ∃ W1, (w.alloc (.deferred (some []))).alloc (.loop (rec .ready none)) = W1 := ⟨_, rfl⟩
  have hL1 : W1.heap[w.heap.size + 1]? = some (.loop (rec .ready none)) := by
    rw [← hW1]; have := World.alloc_heap_new (w.alloc (.deferred (some []))) (.loop (rec .ready none)); rwa [World.size_alloc] at this
  have hK1 : W1.heap[w.heap.size]? = some (.deferred (some [])) := by
    rw [← hW1]; exact (Below.heap_alloc _ _ _ (by simp)).trans (World.alloc_heap_new w _)
  have hI1 : I l W1 := by rw [← hW1]; exact hIa _ _ _ (hIa _ _ _ h0)
  have hb01 : Boxed W1 B0 22 (.slice A0 l.length c0) := by rw [← hW1]; exact (hB0.alloc _).alloc _
  have hb11 : Boxed W1 B1 3 (.int .i64 m) := by rw [← hW1]; exact (hB1.alloc _).alloc _
  refine ⟨w.heap.size + 1, [{ target := .collected w.heap.size, args := #[] }], W1, { target := .fn (.func 39) #[.pointer (some ⟨B0, 0, none⟩), .pointer (some ⟨B1, 0, none⟩)], args := #[.func (.yield (w.heap.size + 1)) #[] #[]] }, W1, 39,
    #[.func (.yield (w.heap.size + 1)) #[] #[]] ++ #[.pointer (some ⟨B0, 0, none⟩), .pointer (some ⟨B1, 0, none⟩)], W1, ?_, ?_, ?_, ?_, fun h => (by cases h), ?_⟩
  · rw [← hW1, hrec]; exact run_enterLoop_outer _ _ _ _ _
  · simp only [resolve, hg]
    simp [go_sem]
  · intro f' hf'; trivial
  · have eg := enters_of (P := Try.prog) Try.func39 (by kernel_rfl) rfl
    simp [invoke, go_sem, eg]
  · have hD1 : ∀ {W : World} {r : Nat → Prop}, True := fun {_ _} => trivial
    -- a store into the box turns none of the two blocks of book-keeping
    have far : ∀ (W : World) (u v : Value) (k : Nat) (o : Obj), Boxed W B0 22 u → W.heap[k]? = some o → o.isCells = false → (W.setCell ⟨B0, 0, none⟩ v).heap[k]? = some o := fun W u v k o hb hk ho =>
      (Below.heap_setCell W ⟨B0, 0, none⟩ v k (fun e => by
        simp only [Boxed] at hb
        rw [e, hb] at hk
        cases hk
        cases ho)).trans hk
    refine (groups1_in Fence.wide (n - 1) trivial rfl (by omega) (w.heap.size + 1) B0 B1 m hm hm2 w0
      (fun rest W => rest.length ≤ l.length ∧ w.heap.size ≤ W.heap.size ∧ I rest W ∧ W.heap[w.heap.size + 1]? = some (.loop (rec .ready none)) ∧ W.heap[w.heap.size]? = some (.deferred (some [])))
      (fun _ W => Ix W ∧ W.heap[w.heap.size + 1]? = some (.loop (rec .done (some .ret))) ∧ W.heap[w.heap.size]? = some (.deferred (some [])))
      (fun rest W u v hs hb => ⟨hs.1, Nat.le_trans hs.2.1 (KeepsWalks.setCell W _ v).size, hIs _ _ _ _ hs.2.2.1 hb, far W u v _ _ hb hs.2.2.2.1 rfl, far W u v _ _ hb hs.2.2.2.2 rfl⟩)
      ?_ l A0 c0 hl hC hc0 hne W1 hb01 hb11 ⟨Nat.le_refl _, by rw [← hW1]; simp; omega, hI1, hL1, hK1⟩).mono ?_
    · -- ONE ROUND
      rintro rest A c k W hk hpos ⟨hle, hsz, hi, hl', hkk⟩ hCr hcr hb0 hb1
      have hlt : w.heap.size + 1 < W.heap.size := (Array.getElem?_eq_some_iff.1 hl').1
      have hy := run_yield (P := Try.prog) (args := #[.slice A k c]) hl' (by rw [hrec]; simp [hps])
      rw [hrec] at hy
      refine ⟨fn, _, assign, body, hy, roundIn_of_wpIn hfn (hassign _ _ W _ ⟨_, run_beginRound hl' (by rw [hrec]), ?_⟩)⟩
      have hl2 : (W.putObj (w.heap.size + 1) (.loop { rec .ready none with state := .busy })).heap[w.heap.size + 1]? = some (.loop { rec .ready none with state := .busy }) := World.putObj_heap_same hlt
      have hk2 : (W.putObj (w.heap.size + 1) (.loop { rec .ready none with state := .busy })).heap[w.heap.size]? = some (.deferred (some [])) := (World.putObj_heap_other (by omega)).trans hkk
      refine wpIn_mono (hbody _ rest A c k _ hk hpos hle (hIp _ _ _ _ _ (by omega) hl' rfl hi) hCr hcr (kept_put _ hb0 hl' rfl) (kept_put _ hb1 hl' rfl) (by simpa using hsz)) ?_
      have fin : ∀ (jump : Option Code) (W3 : World), KeepsFrom w.heap.size (W.putObj (w.heap.size + 1) (.loop { rec .ready none with state := .busy })) W3 →
          (Instr.endRound (w.heap.size + 1) jump).run Try.prog W3 = .ok (.bool jump.isNone) (W3.putObj (w.heap.size + 1) (.loop (rec (if jump.isNone then .ready else .done) jump))) ∧
          W3.heap[w.heap.size + 1]? = some (.loop { rec .ready none with state := .busy }) ∧
          (W3.putObj (w.heap.size + 1) (.loop (rec (if jump.isNone then .ready else .done) jump))).heap[w.heap.size + 1]? = some (.loop (rec (if jump.isNone then .ready else .done) jump)) ∧
          (W3.putObj (w.heap.size + 1) (.loop (rec (if jump.isNone then .ready else .done) jump))).heap[w.heap.size]? = some (.deferred (some [])) ∧ w.heap.size ≤ W3.heap.size := fun jump W3 hk3 => by
        have hl3 := hk3.same _ _ (by omega) hl2 rfl
        have := run_endRound (P := Try.prog) jump hl3
        rw [hrec] at this ⊢
        exact ⟨this, by rw [hrec] at hl3; exact hl3, World.putObj_heap_same (Array.getElem?_eq_some_iff.1 hl3).1, (World.putObj_heap_other (by omega)).trans (hk3.same _ _ (Nat.le_refl _) hk2 rfl), by have := (Array.getElem?_eq_some_iff.1 hl3).1; omega⟩
      rintro e a3 W3 hp
      cases e with
      | normal =>
        obtain ⟨hk3, hb03, hb13, hi3⟩ := hp
        obtain ⟨hr, hl3, hl4, hk4, hs3⟩ := fin none W3 hk3
        exact ⟨_, _, hr, .inl ⟨rfl, ⟨by rw [List.length_drop]; omega, by simpa using hs3, hIp _ _ _ _ _ (by omega) hl3 rfl hi3, hl4, hk4⟩, kept_put _ hb03 hl3 rfl, kept_put _ hb13 hl3 rfl⟩⟩
      | ret =>
        obtain ⟨hk3, hi3⟩ := hp
        obtain ⟨hr, hl3, hl4, hk4, hs3⟩ := fin (some .ret) W3 hk3
        exact ⟨_, _, hr, .inr ⟨rfl, hIxp _ _ _ _ (by omega) hl3 rfl hi3, hl4, hk4⟩⟩
      | exit id => exact hp.elim
      | goto t => exact hp.elim
      | panic ch => exact hp.elim
      | outgrown => exact hp.elim
    · -- BEHIND THE ITERATOR
      rintro e W2 ⟨⟨v, rfl⟩, (⟨hle, hsz, hi, hl', hkk⟩ | ⟨rest, hi, hl', hkk⟩)⟩
      · exact ⟨none, _, by have := run_endLoop (P := Try.prog) hl' (by rw [hrec]; simp); rw [hrec] at this; exact this, hdone _ _ (Nat.le_refl _) (hIp _ _ _ _ _ (by omega) hl' rfl hi) ((World.putObj_heap_other (by omega)).trans hkk)⟩
      · exact ⟨some .ret, _, by have := run_endLoop (P := Try.prog) hl' (by rw [hrec]; simp); rw [hrec] at this; exact this, hstop _ _ (Nat.le_refl _) (hIxp _ _ _ _ (by omega) hl' rfl hi) ((World.putObj_heap_other (by omega)).trans hkk)⟩
end Go.Proofs.Ytijpiaiklojafaa.S
