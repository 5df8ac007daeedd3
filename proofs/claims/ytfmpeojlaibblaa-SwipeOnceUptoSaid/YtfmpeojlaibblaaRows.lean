/-
  No cell of these rows narrows 'for every input' (looked for: loops, veiled, ifaces, maps, wideKeys, modest, calm, conditions, laid).
  DERIVED. THE GIVEN ROWS OF THIS SEAT. 14 by the template 'for every input the law returns true; each argument reads behind the call as it read before'; 0 by the template 'total and deterministic' (their statements: YtfmpeojlaibblaaTotals.lean).
  GIVEN WITH THE SEED: the statements are not yours to turn. If you find one false, say at which input.
  Laid BY PROGRAM, IN A SANDBOX (cutbox-rows.mjs): the forced cells as the released guide's own fill.sh prints them over the translation 1e724787002705e6… (all of the seat's roots in one cut). By AI agents, Wed Nov 11 2026. No macro, syntax, notation, axiom, sorry.
-/
import Derived.Test.YtfmpeojlaibblaaChecked
import GoSem.Claim
import GoSem.ClaimJoined
import GoSem.ClaimMapViews
import Derived.JoinedTies
import Derived.KernelRfl
namespace Go.Proofs.Ytfmpeojlaibblaa
/- THE CELL 'sum', in the pinned program and in every row, IS THE sha256 OF THE DUMP (.gsa) THAT YtfmpeojlaibblaaProg.lean LOADS. Nothing in Lean hashes anything: it is a label: what it is worth is what the hold of that sum in a sandbox is worth. -/
noncomputable def Try.pinned : Pinned := { name := "ytfmpeojlaibblaa", sum := "1e724787002705e63f24ac0b4aa0e5ca846369c0517cd5fc7e2beb00a887b591", checked := Try.checked }
namespace Rows
def none {H : Type} : Left H := { results := [], args := [] }

/-- 'gatelinelaw14.SwipeBack': WHATEVER THE INPUT: true; the input reads as it did. -/
def swipeBackSpec : ChangeSpec := { name := "swipeBack", fn := fun _ => fun
  | [d] => { results := [.lit (.bool true)], args := [d] }
  | _ => none }
def swipeBackRow : OpenClaim := { program := "ytfmpeojlaibblaa", sum := "1e724787002705e63f24ac0b4aa0e5ca846369c0517cd5fc7e2beb00a887b591", func := "gateline/gatelinelaw14.SwipeBack", spec := "swipeBack", unfollowed := true, recurses := true, apart := false }
def SwipeBackSaid : Prop := swipeBackRow.holds Try.pinned (OpenSpec.ofChange swipeBackSpec)

/-- ITS FALSE NEIGHBOUR: 'it returns false'. Refute it at one input. -/
def swipeBackWrong : ChangeSpec := { name := "swipeBack", fn := fun _ => fun
  | [d] => { results := [.lit (.bool false)], args := [d] }
  | _ => none }
def SwipeBackWrongFalsely : Prop := swipeBackRow.holds Try.pinned (OpenSpec.ofChange swipeBackWrong)

/-- 'gatelinelaw14.SwipeOnce': WHATEVER THE INPUT: true; the input reads as it did. -/
def swipeOnceSpec : ChangeSpec := { name := "swipeOnce", fn := fun _ => fun
  | [d] => { results := [.lit (.bool true)], args := [d] }
  | _ => none }
def swipeOnceRow : OpenClaim := { program := "ytfmpeojlaibblaa", sum := "1e724787002705e63f24ac0b4aa0e5ca846369c0517cd5fc7e2beb00a887b591", func := "gateline/gatelinelaw14.SwipeOnce", spec := "swipeOnce", unfollowed := true, recurses := true, apart := false }
def SwipeOnceSaid : Prop := swipeOnceRow.holds Try.pinned (OpenSpec.ofChange swipeOnceSpec)

/-- ITS FALSE NEIGHBOUR: 'it returns false'. Refute it at one input. -/
def swipeOnceWrong : ChangeSpec := { name := "swipeOnce", fn := fun _ => fun
  | [d] => { results := [.lit (.bool false)], args := [d] }
  | _ => none }
def SwipeOnceWrongFalsely : Prop := swipeOnceRow.holds Try.pinned (OpenSpec.ofChange swipeOnceWrong)

/-- 'gatelinelaw10.ParityChars': WHATEVER THE INPUT: true; the input reads as it did. -/
def parityCharsSpec : ChangeSpec := { name := "parityChars", fn := fun _ => fun
  | [d1, d2] => { results := [.lit (.bool true)], args := [d1, d2] }
  | _ => none }
def parityCharsRow : OpenClaim := { program := "ytfmpeojlaibblaa", sum := "1e724787002705e63f24ac0b4aa0e5ca846369c0517cd5fc7e2beb00a887b591", func := "gateline/gatelinelaw10.ParityChars", spec := "parityChars", unfollowed := true, recurses := true, apart := false }
def ParityCharsSaid : Prop := parityCharsRow.holds Try.pinned (OpenSpec.ofChange parityCharsSpec)

/-- ITS FALSE NEIGHBOUR: 'it returns false'. Refute it at one input. -/
def parityCharsWrong : ChangeSpec := { name := "parityChars", fn := fun _ => fun
  | [d1, d2] => { results := [.lit (.bool false)], args := [d1, d2] }
  | _ => none }
def ParityCharsWrongFalsely : Prop := parityCharsRow.holds Try.pinned (OpenSpec.ofChange parityCharsWrong)

/-- 'gatelinelaw10.ParitySums': WHATEVER THE INPUT: true; the input reads as it did. -/
def paritySumsSpec : ChangeSpec := { name := "paritySums", fn := fun _ => fun
  | [d1, d2, d3] => { results := [.lit (.bool true)], args := [d1, d2, d3] }
  | _ => none }
def paritySumsRow : OpenClaim := { program := "ytfmpeojlaibblaa", sum := "1e724787002705e63f24ac0b4aa0e5ca846369c0517cd5fc7e2beb00a887b591", func := "gateline/gatelinelaw10.ParitySums", spec := "paritySums", unfollowed := true, recurses := true, apart := false }
def ParitySumsSaid : Prop := paritySumsRow.holds Try.pinned (OpenSpec.ofChange paritySumsSpec)

/-- ITS FALSE NEIGHBOUR: 'it returns false'. Refute it at one input. -/
def paritySumsWrong : ChangeSpec := { name := "paritySums", fn := fun _ => fun
  | [d1, d2, d3] => { results := [.lit (.bool false)], args := [d1, d2, d3] }
  | _ => none }
def ParitySumsWrongFalsely : Prop := paritySumsRow.holds Try.pinned (OpenSpec.ofChange paritySumsWrong)

/-- 'gatelinelaw10.ParityBack': WHATEVER THE INPUT: true; the input reads as it did. -/
def parityBackSpec : ChangeSpec := { name := "parityBack", fn := fun _ => fun
  | [d1, d2] => { results := [.lit (.bool true)], args := [d1, d2] }
  | _ => none }
def parityBackRow : OpenClaim := { program := "ytfmpeojlaibblaa", sum := "1e724787002705e63f24ac0b4aa0e5ca846369c0517cd5fc7e2beb00a887b591", func := "gateline/gatelinelaw10.ParityBack", spec := "parityBack", unfollowed := true, recurses := true, apart := false }
def ParityBackSaid : Prop := parityBackRow.holds Try.pinned (OpenSpec.ofChange parityBackSpec)

/-- ITS FALSE NEIGHBOUR: 'it returns false'. Refute it at one input. -/
def parityBackWrong : ChangeSpec := { name := "parityBack", fn := fun _ => fun
  | [d1, d2] => { results := [.lit (.bool false)], args := [d1, d2] }
  | _ => none }
def ParityBackWrongFalsely : Prop := parityBackRow.holds Try.pinned (OpenSpec.ofChange parityBackWrong)

/-- 'gatelinelaw10.ParityFlips': WHATEVER THE INPUT: true; the input reads as it did. -/
def parityFlipsSpec : ChangeSpec := { name := "parityFlips", fn := fun _ => fun
  | [d1, d2] => { results := [.lit (.bool true)], args := [d1, d2] }
  | _ => none }
def parityFlipsRow : OpenClaim := { program := "ytfmpeojlaibblaa", sum := "1e724787002705e63f24ac0b4aa0e5ca846369c0517cd5fc7e2beb00a887b591", func := "gateline/gatelinelaw10.ParityFlips", spec := "parityFlips", unfollowed := true, recurses := true, apart := false }
def ParityFlipsSaid : Prop := parityFlipsRow.holds Try.pinned (OpenSpec.ofChange parityFlipsSpec)

/-- ITS FALSE NEIGHBOUR: 'it returns false'. Refute it at one input. -/
def parityFlipsWrong : ChangeSpec := { name := "parityFlips", fn := fun _ => fun
  | [d1, d2] => { results := [.lit (.bool false)], args := [d1, d2] }
  | _ => none }
def ParityFlipsWrongFalsely : Prop := parityFlipsRow.holds Try.pinned (OpenSpec.ofChange parityFlipsWrong)

/-- 'gatelinelaw10.ParityTells': WHATEVER THE INPUT: true; the input reads as it did. -/
def parityTellsSpec : ChangeSpec := { name := "parityTells", fn := fun _ => fun
  | [d1, d2, d3] => { results := [.lit (.bool true)], args := [d1, d2, d3] }
  | _ => none }
def parityTellsRow : OpenClaim := { program := "ytfmpeojlaibblaa", sum := "1e724787002705e63f24ac0b4aa0e5ca846369c0517cd5fc7e2beb00a887b591", func := "gateline/gatelinelaw10.ParityTells", spec := "parityTells", unfollowed := true, recurses := true, apart := false }
def ParityTellsSaid : Prop := parityTellsRow.holds Try.pinned (OpenSpec.ofChange parityTellsSpec)

/-- ITS FALSE NEIGHBOUR: 'it returns false'. Refute it at one input. -/
def parityTellsWrong : ChangeSpec := { name := "parityTells", fn := fun _ => fun
  | [d1, d2, d3] => { results := [.lit (.bool false)], args := [d1, d2, d3] }
  | _ => none }
def ParityTellsWrongFalsely : Prop := parityTellsRow.holds Try.pinned (OpenSpec.ofChange parityTellsWrong)

/-- 'gatelinelaw11.TrackPacks': WHATEVER THE INPUT: true; the input reads as it did. -/
def trackPacksSpec : ChangeSpec := { name := "trackPacks", fn := fun _ => fun
  | [d1, d2] => { results := [.lit (.bool true)], args := [d1, d2] }
  | _ => none }
def trackPacksRow : OpenClaim := { program := "ytfmpeojlaibblaa", sum := "1e724787002705e63f24ac0b4aa0e5ca846369c0517cd5fc7e2beb00a887b591", func := "gateline/gatelinelaw11.TrackPacks", spec := "trackPacks", unfollowed := true, recurses := true, apart := false }
def TrackPacksSaid : Prop := trackPacksRow.holds Try.pinned (OpenSpec.ofChange trackPacksSpec)

/-- ITS FALSE NEIGHBOUR: 'it returns false'. Refute it at one input. -/
def trackPacksWrong : ChangeSpec := { name := "trackPacks", fn := fun _ => fun
  | [d1, d2] => { results := [.lit (.bool false)], args := [d1, d2] }
  | _ => none }
def TrackPacksWrongFalsely : Prop := trackPacksRow.holds Try.pinned (OpenSpec.ofChange trackPacksWrong)

/-- 'gatelinelaw11.TrackPuts': WHATEVER THE INPUT: true; the input reads as it did. -/
def trackPutsSpec : ChangeSpec := { name := "trackPuts", fn := fun _ => fun
  | [d] => { results := [.lit (.bool true)], args := [d] }
  | _ => none }
def trackPutsRow : OpenClaim := { program := "ytfmpeojlaibblaa", sum := "1e724787002705e63f24ac0b4aa0e5ca846369c0517cd5fc7e2beb00a887b591", func := "gateline/gatelinelaw11.TrackPuts", spec := "trackPuts", unfollowed := true, recurses := true, apart := false }
def TrackPutsSaid : Prop := trackPutsRow.holds Try.pinned (OpenSpec.ofChange trackPutsSpec)

/-- ITS FALSE NEIGHBOUR: 'it returns false'. Refute it at one input. -/
def trackPutsWrong : ChangeSpec := { name := "trackPuts", fn := fun _ => fun
  | [d] => { results := [.lit (.bool false)], args := [d] }
  | _ => none }
def TrackPutsWrongFalsely : Prop := trackPutsRow.holds Try.pinned (OpenSpec.ofChange trackPutsWrong)

/-- 'gatelinelaw11.TrackGets': WHATEVER THE INPUT: true; the input reads as it did. -/
def trackGetsSpec : ChangeSpec := { name := "trackGets", fn := fun _ => fun
  | [d] => { results := [.lit (.bool true)], args := [d] }
  | _ => none }
def trackGetsRow : OpenClaim := { program := "ytfmpeojlaibblaa", sum := "1e724787002705e63f24ac0b4aa0e5ca846369c0517cd5fc7e2beb00a887b591", func := "gateline/gatelinelaw11.TrackGets", spec := "trackGets", unfollowed := true, recurses := true, apart := false }
def TrackGetsSaid : Prop := trackGetsRow.holds Try.pinned (OpenSpec.ofChange trackGetsSpec)

/-- ITS FALSE NEIGHBOUR: 'it returns false'. Refute it at one input. -/
def trackGetsWrong : ChangeSpec := { name := "trackGets", fn := fun _ => fun
  | [d] => { results := [.lit (.bool false)], args := [d] }
  | _ => none }
def TrackGetsWrongFalsely : Prop := trackGetsRow.holds Try.pinned (OpenSpec.ofChange trackGetsWrong)

/-- 'gatelinelaw11.TrackBack': WHATEVER THE INPUT: true; the input reads as it did. -/
def trackBackSpec : ChangeSpec := { name := "trackBack", fn := fun _ => fun
  | [d1, d2] => { results := [.lit (.bool true)], args := [d1, d2] }
  | _ => none }
def trackBackRow : OpenClaim := { program := "ytfmpeojlaibblaa", sum := "1e724787002705e63f24ac0b4aa0e5ca846369c0517cd5fc7e2beb00a887b591", func := "gateline/gatelinelaw11.TrackBack", spec := "trackBack", unfollowed := true, recurses := true, apart := false }
def TrackBackSaid : Prop := trackBackRow.holds Try.pinned (OpenSpec.ofChange trackBackSpec)

/-- ITS FALSE NEIGHBOUR: 'it returns false'. Refute it at one input. -/
def trackBackWrong : ChangeSpec := { name := "trackBack", fn := fun _ => fun
  | [d1, d2] => { results := [.lit (.bool false)], args := [d1, d2] }
  | _ => none }
def TrackBackWrongFalsely : Prop := trackBackRow.holds Try.pinned (OpenSpec.ofChange trackBackWrong)

/-- 'gatelinelaw11.TrackUnlike': WHATEVER THE INPUT: true; the input reads as it did. -/
def trackUnlikeSpec : ChangeSpec := { name := "trackUnlike", fn := fun _ => fun
  | [d1, d2] => { results := [.lit (.bool true)], args := [d1, d2] }
  | _ => none }
def trackUnlikeRow : OpenClaim := { program := "ytfmpeojlaibblaa", sum := "1e724787002705e63f24ac0b4aa0e5ca846369c0517cd5fc7e2beb00a887b591", func := "gateline/gatelinelaw11.TrackUnlike", spec := "trackUnlike", unfollowed := true, recurses := true, apart := false }
def TrackUnlikeSaid : Prop := trackUnlikeRow.holds Try.pinned (OpenSpec.ofChange trackUnlikeSpec)

/-- ITS FALSE NEIGHBOUR: 'it returns false'. Refute it at one input. -/
def trackUnlikeWrong : ChangeSpec := { name := "trackUnlike", fn := fun _ => fun
  | [d1, d2] => { results := [.lit (.bool false)], args := [d1, d2] }
  | _ => none }
def TrackUnlikeWrongFalsely : Prop := trackUnlikeRow.holds Try.pinned (OpenSpec.ofChange trackUnlikeWrong)

/-- 'gatelinelaw14.SwipeTurns': WHATEVER THE INPUT: true; the input reads as it did. -/
def swipeTurnsSpec : ChangeSpec := { name := "swipeTurns", fn := fun _ => fun
  | [d] => { results := [.lit (.bool true)], args := [d] }
  | _ => none }
def swipeTurnsRow : OpenClaim := { program := "ytfmpeojlaibblaa", sum := "1e724787002705e63f24ac0b4aa0e5ca846369c0517cd5fc7e2beb00a887b591", func := "gateline/gatelinelaw14.SwipeTurns", spec := "swipeTurns", unfollowed := true, recurses := true, apart := false }
def SwipeTurnsSaid : Prop := swipeTurnsRow.holds Try.pinned (OpenSpec.ofChange swipeTurnsSpec)

/-- ITS FALSE NEIGHBOUR: 'it returns false'. Refute it at one input. -/
def swipeTurnsWrong : ChangeSpec := { name := "swipeTurns", fn := fun _ => fun
  | [d] => { results := [.lit (.bool false)], args := [d] }
  | _ => none }
def SwipeTurnsWrongFalsely : Prop := swipeTurnsRow.holds Try.pinned (OpenSpec.ofChange swipeTurnsWrong)

/-- 'gatelinelaw14.SwipeReads': WHATEVER THE INPUT: true; the input reads as it did. -/
def swipeReadsSpec : ChangeSpec := { name := "swipeReads", fn := fun _ => fun
  | [d] => { results := [.lit (.bool true)], args := [d] }
  | _ => none }
def swipeReadsRow : OpenClaim := { program := "ytfmpeojlaibblaa", sum := "1e724787002705e63f24ac0b4aa0e5ca846369c0517cd5fc7e2beb00a887b591", func := "gateline/gatelinelaw14.SwipeReads", spec := "swipeReads", unfollowed := true, recurses := true, apart := false }
def SwipeReadsSaid : Prop := swipeReadsRow.holds Try.pinned (OpenSpec.ofChange swipeReadsSpec)

/-- ITS FALSE NEIGHBOUR: 'it returns false'. Refute it at one input. -/
def swipeReadsWrong : ChangeSpec := { name := "swipeReads", fn := fun _ => fun
  | [d] => { results := [.lit (.bool false)], args := [d] }
  | _ => none }
def SwipeReadsWrongFalsely : Prop := swipeReadsRow.holds Try.pinned (OpenSpec.ofChange swipeReadsWrong)

/- THE SECOND FORM. 'bulk': how many values and letters a reading holds, each counted each time it is reached (what is shared counts as often as it is met; a slice's spare places count too). A statement '..UptoSaid' is the law's where the arguments, and the package variables that the reading takes, are together of bulk at most 1048576: NARROWER than '..Said'. Prove '..Said' where nothing that the law and all that it calls make is longer than what came in: it says more and counts as full. Else prove '..UptoSaid'. A law counts once. -/
mutual
def uptoBulk {H : Type} : DataW H → Nat
  | .lit (.string bytes) => bytes.length + 1
  | .lit _ => 1
  | .nil => 1
  | .ptr d => uptoBulk d + 1
  | .slice elems spare => uptoBulkAll elems + uptoBulkAll spare + 1
  | .agg parts => uptoBulkAll parts + 1
  | .iface _ d => uptoBulk d + 1
  | .map entries => uptoBulkEntries entries + 1
  | .held _ => 1
def uptoBulkAll {H : Type} : List (DataW H) → Nat
  | [] => 0
  | d :: r => uptoBulk d + uptoBulkAll r
def uptoBulkEntries {H : Type} : List (Lit × DataW H) → Nat
  | [] => 0
  | x :: r => uptoBulkEntry x + uptoBulkEntries r
def uptoBulkEntry {H : Type} : Lit × DataW H → Nat
  | (.string bytes, d) => bytes.length + uptoBulk d + 1
  | (_, d) => uptoBulk d + 1
 end
def uptoSmall : (H : Type) → List (DataW H) → Bool := fun _ ds => decide (uptoBulkAll ds ≤ 1048576)
def OpenSpec.upto (s : _root_.Go.ChangeSpec) : _root_.Go.OpenSpec := { _root_.Go.OpenSpec.ofChange s with cond := some uptoSmall }

/-- 'gatelinelaw14.SwipeBack', WHERE WHAT IT READS IS OF BULK AT MOST 1048576: true; the input reads as it did. -/
def swipeBackUptoRow : OpenClaim := { program := "ytfmpeojlaibblaa", sum := "1e724787002705e63f24ac0b4aa0e5ca846369c0517cd5fc7e2beb00a887b591", func := "gateline/gatelinelaw14.SwipeBack", spec := "swipeBack", unfollowed := true, recurses := true, apart := false, narrowed := true }
def SwipeBackUptoSaid : Prop := swipeBackUptoRow.holds Try.pinned (OpenSpec.upto swipeBackSpec)

/-- 'gatelinelaw14.SwipeOnce', WHERE WHAT IT READS IS OF BULK AT MOST 1048576: true; the input reads as it did. -/
def swipeOnceUptoRow : OpenClaim := { program := "ytfmpeojlaibblaa", sum := "1e724787002705e63f24ac0b4aa0e5ca846369c0517cd5fc7e2beb00a887b591", func := "gateline/gatelinelaw14.SwipeOnce", spec := "swipeOnce", unfollowed := true, recurses := true, apart := false, narrowed := true }
def SwipeOnceUptoSaid : Prop := swipeOnceUptoRow.holds Try.pinned (OpenSpec.upto swipeOnceSpec)

/-- 'gatelinelaw10.ParityChars', WHERE WHAT IT READS IS OF BULK AT MOST 1048576: true; the input reads as it did. -/
def parityCharsUptoRow : OpenClaim := { program := "ytfmpeojlaibblaa", sum := "1e724787002705e63f24ac0b4aa0e5ca846369c0517cd5fc7e2beb00a887b591", func := "gateline/gatelinelaw10.ParityChars", spec := "parityChars", unfollowed := true, recurses := true, apart := false, narrowed := true }
def ParityCharsUptoSaid : Prop := parityCharsUptoRow.holds Try.pinned (OpenSpec.upto parityCharsSpec)

/-- 'gatelinelaw10.ParitySums', WHERE WHAT IT READS IS OF BULK AT MOST 1048576: true; the input reads as it did. -/
def paritySumsUptoRow : OpenClaim := { program := "ytfmpeojlaibblaa", sum := "1e724787002705e63f24ac0b4aa0e5ca846369c0517cd5fc7e2beb00a887b591", func := "gateline/gatelinelaw10.ParitySums", spec := "paritySums", unfollowed := true, recurses := true, apart := false, narrowed := true }
def ParitySumsUptoSaid : Prop := paritySumsUptoRow.holds Try.pinned (OpenSpec.upto paritySumsSpec)

/-- 'gatelinelaw10.ParityBack', WHERE WHAT IT READS IS OF BULK AT MOST 1048576: true; the input reads as it did. -/
def parityBackUptoRow : OpenClaim := { program := "ytfmpeojlaibblaa", sum := "1e724787002705e63f24ac0b4aa0e5ca846369c0517cd5fc7e2beb00a887b591", func := "gateline/gatelinelaw10.ParityBack", spec := "parityBack", unfollowed := true, recurses := true, apart := false, narrowed := true }
def ParityBackUptoSaid : Prop := parityBackUptoRow.holds Try.pinned (OpenSpec.upto parityBackSpec)

/-- 'gatelinelaw10.ParityFlips', WHERE WHAT IT READS IS OF BULK AT MOST 1048576: true; the input reads as it did. -/
def parityFlipsUptoRow : OpenClaim := { program := "ytfmpeojlaibblaa", sum := "1e724787002705e63f24ac0b4aa0e5ca846369c0517cd5fc7e2beb00a887b591", func := "gateline/gatelinelaw10.ParityFlips", spec := "parityFlips", unfollowed := true, recurses := true, apart := false, narrowed := true }
def ParityFlipsUptoSaid : Prop := parityFlipsUptoRow.holds Try.pinned (OpenSpec.upto parityFlipsSpec)

/-- 'gatelinelaw10.ParityTells', WHERE WHAT IT READS IS OF BULK AT MOST 1048576: true; the input reads as it did. -/
def parityTellsUptoRow : OpenClaim := { program := "ytfmpeojlaibblaa", sum := "1e724787002705e63f24ac0b4aa0e5ca846369c0517cd5fc7e2beb00a887b591", func := "gateline/gatelinelaw10.ParityTells", spec := "parityTells", unfollowed := true, recurses := true, apart := false, narrowed := true }
def ParityTellsUptoSaid : Prop := parityTellsUptoRow.holds Try.pinned (OpenSpec.upto parityTellsSpec)

/-- 'gatelinelaw11.TrackPacks', WHERE WHAT IT READS IS OF BULK AT MOST 1048576: true; the input reads as it did. -/
def trackPacksUptoRow : OpenClaim := { program := "ytfmpeojlaibblaa", sum := "1e724787002705e63f24ac0b4aa0e5ca846369c0517cd5fc7e2beb00a887b591", func := "gateline/gatelinelaw11.TrackPacks", spec := "trackPacks", unfollowed := true, recurses := true, apart := false, narrowed := true }
def TrackPacksUptoSaid : Prop := trackPacksUptoRow.holds Try.pinned (OpenSpec.upto trackPacksSpec)

/-- 'gatelinelaw11.TrackPuts', WHERE WHAT IT READS IS OF BULK AT MOST 1048576: true; the input reads as it did. -/
def trackPutsUptoRow : OpenClaim := { program := "ytfmpeojlaibblaa", sum := "1e724787002705e63f24ac0b4aa0e5ca846369c0517cd5fc7e2beb00a887b591", func := "gateline/gatelinelaw11.TrackPuts", spec := "trackPuts", unfollowed := true, recurses := true, apart := false, narrowed := true }
def TrackPutsUptoSaid : Prop := trackPutsUptoRow.holds Try.pinned (OpenSpec.upto trackPutsSpec)

/-- 'gatelinelaw11.TrackGets', WHERE WHAT IT READS IS OF BULK AT MOST 1048576: true; the input reads as it did. -/
def trackGetsUptoRow : OpenClaim := { program := "ytfmpeojlaibblaa", sum := "1e724787002705e63f24ac0b4aa0e5ca846369c0517cd5fc7e2beb00a887b591", func := "gateline/gatelinelaw11.TrackGets", spec := "trackGets", unfollowed := true, recurses := true, apart := false, narrowed := true }
def TrackGetsUptoSaid : Prop := trackGetsUptoRow.holds Try.pinned (OpenSpec.upto trackGetsSpec)

/-- 'gatelinelaw11.TrackBack', WHERE WHAT IT READS IS OF BULK AT MOST 1048576: true; the input reads as it did. -/
def trackBackUptoRow : OpenClaim := { program := "ytfmpeojlaibblaa", sum := "1e724787002705e63f24ac0b4aa0e5ca846369c0517cd5fc7e2beb00a887b591", func := "gateline/gatelinelaw11.TrackBack", spec := "trackBack", unfollowed := true, recurses := true, apart := false, narrowed := true }
def TrackBackUptoSaid : Prop := trackBackUptoRow.holds Try.pinned (OpenSpec.upto trackBackSpec)

/-- 'gatelinelaw11.TrackUnlike', WHERE WHAT IT READS IS OF BULK AT MOST 1048576: true; the input reads as it did. -/
def trackUnlikeUptoRow : OpenClaim := { program := "ytfmpeojlaibblaa", sum := "1e724787002705e63f24ac0b4aa0e5ca846369c0517cd5fc7e2beb00a887b591", func := "gateline/gatelinelaw11.TrackUnlike", spec := "trackUnlike", unfollowed := true, recurses := true, apart := false, narrowed := true }
def TrackUnlikeUptoSaid : Prop := trackUnlikeUptoRow.holds Try.pinned (OpenSpec.upto trackUnlikeSpec)

/-- 'gatelinelaw14.SwipeTurns', WHERE WHAT IT READS IS OF BULK AT MOST 1048576: true; the input reads as it did. -/
def swipeTurnsUptoRow : OpenClaim := { program := "ytfmpeojlaibblaa", sum := "1e724787002705e63f24ac0b4aa0e5ca846369c0517cd5fc7e2beb00a887b591", func := "gateline/gatelinelaw14.SwipeTurns", spec := "swipeTurns", unfollowed := true, recurses := true, apart := false, narrowed := true }
def SwipeTurnsUptoSaid : Prop := swipeTurnsUptoRow.holds Try.pinned (OpenSpec.upto swipeTurnsSpec)

/-- 'gatelinelaw14.SwipeReads', WHERE WHAT IT READS IS OF BULK AT MOST 1048576: true; the input reads as it did. -/
def swipeReadsUptoRow : OpenClaim := { program := "ytfmpeojlaibblaa", sum := "1e724787002705e63f24ac0b4aa0e5ca846369c0517cd5fc7e2beb00a887b591", func := "gateline/gatelinelaw14.SwipeReads", spec := "swipeReads", unfollowed := true, recurses := true, apart := false, narrowed := true }
def SwipeReadsUptoSaid : Prop := swipeReadsUptoRow.holds Try.pinned (OpenSpec.upto swipeReadsSpec)

end Rows
end Go.Proofs.Ytfmpeojlaibblaa
