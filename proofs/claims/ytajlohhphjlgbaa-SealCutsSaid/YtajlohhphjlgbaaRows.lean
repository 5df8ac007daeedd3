/-
  No cell of these rows narrows 'for every input' (looked for: loops, veiled, ifaces, maps, wideKeys, modest, calm, conditions, laid).
  DERIVED. THE GIVEN ROWS OF THIS SEAT. 8 by the template 'for every input the law returns true; each argument reads behind the call as it read before'; 0 by the template 'total and deterministic' (their statements: YtajlohhphjlgbaaTotals.lean).
  GIVEN WITH THE SEED: the statements are not yours to turn. If you find one false, say at which input.
  Laid BY PROGRAM, IN A SANDBOX (cutbox-rows.mjs): the forced cells as the released guide's own fill.sh prints them over the translation d546f90e143672df… (all of the seat's roots in one cut). By AI agents, Wed Nov 11 2026. No macro, syntax, notation, axiom, sorry.
-/
import Derived.Test.YtajlohhphjlgbaaChecked
import GoSem.Claim
import GoSem.ClaimJoined
import GoSem.ClaimMapViews
import Derived.JoinedTies
import Derived.KernelRfl
namespace Go.Proofs.Ytajlohhphjlgbaa
/- THE CELL 'sum', in the pinned program and in every row, IS THE sha256 OF THE DUMP (.gsa) THAT YtajlohhphjlgbaaProg.lean LOADS. Nothing in Lean hashes anything: it is a label: what it is worth is what the hold of that sum in a sandbox is worth. -/
noncomputable def Try.pinned : Pinned := { name := "ytajlohhphjlgbaa", sum := "d546f90e143672dfc1ced7402683b118d221203f1e363ff5e1e118ba4c7f6cec", checked := Try.checked }
namespace Rows
def none {H : Type} : Left H := { results := [], args := [] }

/-- 'gatelinelaw04.SealDiffs': WHATEVER THE INPUT: true; the input reads as it did. -/
def sealDiffsSpec : ChangeSpec := { name := "sealDiffs", fn := fun _ => fun
  | [d1, d2] => { results := [.lit (.bool true)], args := [d1, d2] }
  | _ => none }
def sealDiffsRow : OpenClaim := { program := "ytajlohhphjlgbaa", sum := "d546f90e143672dfc1ced7402683b118d221203f1e363ff5e1e118ba4c7f6cec", func := "gateline/gatelinelaw04.SealDiffs", spec := "sealDiffs", unfollowed := true, recurses := true, apart := false }
def SealDiffsSaid : Prop := sealDiffsRow.holds Try.pinned (OpenSpec.ofChange sealDiffsSpec)

/-- ITS FALSE NEIGHBOUR: 'it returns false'. Refute it at one input. -/
def sealDiffsWrong : ChangeSpec := { name := "sealDiffs", fn := fun _ => fun
  | [d1, d2] => { results := [.lit (.bool false)], args := [d1, d2] }
  | _ => none }
def SealDiffsWrongFalsely : Prop := sealDiffsRow.holds Try.pinned (OpenSpec.ofChange sealDiffsWrong)

/-- 'gatelinelaw04.SealCuts': WHATEVER THE INPUT: true; the input reads as it did. -/
def sealCutsSpec : ChangeSpec := { name := "sealCuts", fn := fun _ => fun
  | [d1, d2] => { results := [.lit (.bool true)], args := [d1, d2] }
  | _ => none }
def sealCutsRow : OpenClaim := { program := "ytajlohhphjlgbaa", sum := "d546f90e143672dfc1ced7402683b118d221203f1e363ff5e1e118ba4c7f6cec", func := "gateline/gatelinelaw04.SealCuts", spec := "sealCuts", unfollowed := true, recurses := true, apart := false }
def SealCutsSaid : Prop := sealCutsRow.holds Try.pinned (OpenSpec.ofChange sealCutsSpec)

/-- ITS FALSE NEIGHBOUR: 'it returns false'. Refute it at one input. -/
def sealCutsWrong : ChangeSpec := { name := "sealCuts", fn := fun _ => fun
  | [d1, d2] => { results := [.lit (.bool false)], args := [d1, d2] }
  | _ => none }
def SealCutsWrongFalsely : Prop := sealCutsRow.holds Try.pinned (OpenSpec.ofChange sealCutsWrong)

/-- 'gatelinelaw04.SealOne': WHATEVER THE INPUT: true; the input reads as it did. -/
def sealOneSpec : ChangeSpec := { name := "sealOne", fn := fun _ => fun
  | [d1, d2, d3] => { results := [.lit (.bool true)], args := [d1, d2, d3] }
  | _ => none }
def sealOneRow : OpenClaim := { program := "ytajlohhphjlgbaa", sum := "d546f90e143672dfc1ced7402683b118d221203f1e363ff5e1e118ba4c7f6cec", func := "gateline/gatelinelaw04.SealOne", spec := "sealOne", unfollowed := true, recurses := true, apart := false }
def SealOneSaid : Prop := sealOneRow.holds Try.pinned (OpenSpec.ofChange sealOneSpec)

/-- ITS FALSE NEIGHBOUR: 'it returns false'. Refute it at one input. -/
def sealOneWrong : ChangeSpec := { name := "sealOne", fn := fun _ => fun
  | [d1, d2, d3] => { results := [.lit (.bool false)], args := [d1, d2, d3] }
  | _ => none }
def SealOneWrongFalsely : Prop := sealOneRow.holds Try.pinned (OpenSpec.ofChange sealOneWrong)

/-- 'gatelinelaw04.SealTells': WHATEVER THE INPUT: true; the input reads as it did. -/
def sealTellsSpec : ChangeSpec := { name := "sealTells", fn := fun _ => fun
  | [d1, d2] => { results := [.lit (.bool true)], args := [d1, d2] }
  | _ => none }
def sealTellsRow : OpenClaim := { program := "ytajlohhphjlgbaa", sum := "d546f90e143672dfc1ced7402683b118d221203f1e363ff5e1e118ba4c7f6cec", func := "gateline/gatelinelaw04.SealTells", spec := "sealTells", unfollowed := true, recurses := true, apart := false }
def SealTellsSaid : Prop := sealTellsRow.holds Try.pinned (OpenSpec.ofChange sealTellsSpec)

/-- ITS FALSE NEIGHBOUR: 'it returns false'. Refute it at one input. -/
def sealTellsWrong : ChangeSpec := { name := "sealTells", fn := fun _ => fun
  | [d1, d2] => { results := [.lit (.bool false)], args := [d1, d2] }
  | _ => none }
def SealTellsWrongFalsely : Prop := sealTellsRow.holds Try.pinned (OpenSpec.ofChange sealTellsWrong)

/-- 'gatelinelaw06.DayDates': WHATEVER THE INPUT: true; the input reads as it did. -/
def dayDatesSpec : ChangeSpec := { name := "dayDates", fn := fun _ => fun
  | [d1, d2] => { results := [.lit (.bool true)], args := [d1, d2] }
  | _ => none }
def dayDatesRow : OpenClaim := { program := "ytajlohhphjlgbaa", sum := "d546f90e143672dfc1ced7402683b118d221203f1e363ff5e1e118ba4c7f6cec", func := "gateline/gatelinelaw06.DayDates", spec := "dayDates", apart := false }
def DayDatesSaid : Prop := dayDatesRow.holds Try.pinned (OpenSpec.ofChange dayDatesSpec)

/-- ITS FALSE NEIGHBOUR: 'it returns false'. Refute it at one input. -/
def dayDatesWrong : ChangeSpec := { name := "dayDates", fn := fun _ => fun
  | [d1, d2] => { results := [.lit (.bool false)], args := [d1, d2] }
  | _ => none }
def DayDatesWrongFalsely : Prop := dayDatesRow.holds Try.pinned (OpenSpec.ofChange dayDatesWrong)

/-- 'gatelinelaw06.DayBack': WHATEVER THE INPUT: true; the input reads as it did. -/
def dayBackSpec : ChangeSpec := { name := "dayBack", fn := fun _ => fun
  | [d1, d2] => { results := [.lit (.bool true)], args := [d1, d2] }
  | _ => none }
def dayBackRow : OpenClaim := { program := "ytajlohhphjlgbaa", sum := "d546f90e143672dfc1ced7402683b118d221203f1e363ff5e1e118ba4c7f6cec", func := "gateline/gatelinelaw06.DayBack", spec := "dayBack", apart := false }
def DayBackSaid : Prop := dayBackRow.holds Try.pinned (OpenSpec.ofChange dayBackSpec)

/-- ITS FALSE NEIGHBOUR: 'it returns false'. Refute it at one input. -/
def dayBackWrong : ChangeSpec := { name := "dayBack", fn := fun _ => fun
  | [d1, d2] => { results := [.lit (.bool false)], args := [d1, d2] }
  | _ => none }
def DayBackWrongFalsely : Prop := dayBackRow.holds Try.pinned (OpenSpec.ofChange dayBackWrong)

/-- 'gatelinelaw06.DayNext': WHATEVER THE INPUT: true; the input reads as it did. -/
def dayNextSpec : ChangeSpec := { name := "dayNext", fn := fun _ => fun
  | [d] => { results := [.lit (.bool true)], args := [d] }
  | _ => none }
def dayNextRow : OpenClaim := { program := "ytajlohhphjlgbaa", sum := "d546f90e143672dfc1ced7402683b118d221203f1e363ff5e1e118ba4c7f6cec", func := "gateline/gatelinelaw06.DayNext", spec := "dayNext", apart := false }
def DayNextSaid : Prop := dayNextRow.holds Try.pinned (OpenSpec.ofChange dayNextSpec)

/-- ITS FALSE NEIGHBOUR: 'it returns false'. Refute it at one input. -/
def dayNextWrong : ChangeSpec := { name := "dayNext", fn := fun _ => fun
  | [d] => { results := [.lit (.bool false)], args := [d] }
  | _ => none }
def DayNextWrongFalsely : Prop := dayNextRow.holds Try.pinned (OpenSpec.ofChange dayNextWrong)

/-- 'gatelinelaw06.DayOrder': WHATEVER THE INPUT: true; the input reads as it did. -/
def dayOrderSpec : ChangeSpec := { name := "dayOrder", fn := fun _ => fun
  | [d1, d2] => { results := [.lit (.bool true)], args := [d1, d2] }
  | _ => none }
def dayOrderRow : OpenClaim := { program := "ytajlohhphjlgbaa", sum := "d546f90e143672dfc1ced7402683b118d221203f1e363ff5e1e118ba4c7f6cec", func := "gateline/gatelinelaw06.DayOrder", spec := "dayOrder", apart := false }
def DayOrderSaid : Prop := dayOrderRow.holds Try.pinned (OpenSpec.ofChange dayOrderSpec)

/-- ITS FALSE NEIGHBOUR: 'it returns false'. Refute it at one input. -/
def dayOrderWrong : ChangeSpec := { name := "dayOrder", fn := fun _ => fun
  | [d1, d2] => { results := [.lit (.bool false)], args := [d1, d2] }
  | _ => none }
def DayOrderWrongFalsely : Prop := dayOrderRow.holds Try.pinned (OpenSpec.ofChange dayOrderWrong)

/- THE SECOND FORM. 'bulk': how many values and letters a reading holds, each counted each time it is reached (what is shared counts as often as it is met; a slice's spare places count too). A statement '..UptoSaid' is the law's where the arguments, and the package variables that the reading takes, are together of bulk at most 1048576: NARROWER than '..Said'. Prove '..Said' where nothing that the law and all that it calls make is longer than what came in: it says more and counts as full. Else prove '..UptoSaid'. A law counts once. -/
mutual
def uptoBulk {H : Type} : DataW H → Nat
  | .lit (.string bytes) => bytes.length + 1
  | .lit _ => 1
  | .nil => 1
  | .ptr d => uptoBulk d + 1
  | .slice elems spare => uptoBulkAll elems + uptoBulkAll spare + 1
  | .agg parts => uptoBulkAll parts + 1
  | .iface _ d => uptoBulk d + 1
  | .map entries => uptoBulkEntries entries + 1
  | .held _ => 1
def uptoBulkAll {H : Type} : List (DataW H) → Nat
  | [] => 0
  | d :: r => uptoBulk d + uptoBulkAll r
def uptoBulkEntries {H : Type} : List (Lit × DataW H) → Nat
  | [] => 0
  | x :: r => uptoBulkEntry x + uptoBulkEntries r
def uptoBulkEntry {H : Type} : Lit × DataW H → Nat
  | (.string bytes, d) => bytes.length + uptoBulk d + 1
  | (_, d) => uptoBulk d + 1
 end
def uptoSmall : (H : Type) → List (DataW H) → Bool := fun _ ds => decide (uptoBulkAll ds ≤ 1048576)
def OpenSpec.upto (s : _root_.Go.ChangeSpec) : _root_.Go.OpenSpec := { _root_.Go.OpenSpec.ofChange s with cond := some uptoSmall }

/-- 'gatelinelaw04.SealDiffs', WHERE WHAT IT READS IS OF BULK AT MOST 1048576: true; the input reads as it did. -/
def sealDiffsUptoRow : OpenClaim := { program := "ytajlohhphjlgbaa", sum := "d546f90e143672dfc1ced7402683b118d221203f1e363ff5e1e118ba4c7f6cec", func := "gateline/gatelinelaw04.SealDiffs", spec := "sealDiffs", unfollowed := true, recurses := true, apart := false, narrowed := true }
def SealDiffsUptoSaid : Prop := sealDiffsUptoRow.holds Try.pinned (OpenSpec.upto sealDiffsSpec)

/-- 'gatelinelaw04.SealCuts', WHERE WHAT IT READS IS OF BULK AT MOST 1048576: true; the input reads as it did. -/
def sealCutsUptoRow : OpenClaim := { program := "ytajlohhphjlgbaa", sum := "d546f90e143672dfc1ced7402683b118d221203f1e363ff5e1e118ba4c7f6cec", func := "gateline/gatelinelaw04.SealCuts", spec := "sealCuts", unfollowed := true, recurses := true, apart := false, narrowed := true }
def SealCutsUptoSaid : Prop := sealCutsUptoRow.holds Try.pinned (OpenSpec.upto sealCutsSpec)

/-- 'gatelinelaw04.SealOne', WHERE WHAT IT READS IS OF BULK AT MOST 1048576: true; the input reads as it did. -/
def sealOneUptoRow : OpenClaim := { program := "ytajlohhphjlgbaa", sum := "d546f90e143672dfc1ced7402683b118d221203f1e363ff5e1e118ba4c7f6cec", func := "gateline/gatelinelaw04.SealOne", spec := "sealOne", unfollowed := true, recurses := true, apart := false, narrowed := true }
def SealOneUptoSaid : Prop := sealOneUptoRow.holds Try.pinned (OpenSpec.upto sealOneSpec)

/-- 'gatelinelaw04.SealTells', WHERE WHAT IT READS IS OF BULK AT MOST 1048576: true; the input reads as it did. -/
def sealTellsUptoRow : OpenClaim := { program := "ytajlohhphjlgbaa", sum := "d546f90e143672dfc1ced7402683b118d221203f1e363ff5e1e118ba4c7f6cec", func := "gateline/gatelinelaw04.SealTells", spec := "sealTells", unfollowed := true, recurses := true, apart := false, narrowed := true }
def SealTellsUptoSaid : Prop := sealTellsUptoRow.holds Try.pinned (OpenSpec.upto sealTellsSpec)

/-- 'gatelinelaw06.DayDates', WHERE WHAT IT READS IS OF BULK AT MOST 1048576: true; the input reads as it did. -/
def dayDatesUptoRow : OpenClaim := { program := "ytajlohhphjlgbaa", sum := "d546f90e143672dfc1ced7402683b118d221203f1e363ff5e1e118ba4c7f6cec", func := "gateline/gatelinelaw06.DayDates", spec := "dayDates", apart := false, narrowed := true }
def DayDatesUptoSaid : Prop := dayDatesUptoRow.holds Try.pinned (OpenSpec.upto dayDatesSpec)

/-- 'gatelinelaw06.DayBack', WHERE WHAT IT READS IS OF BULK AT MOST 1048576: true; the input reads as it did. -/
def dayBackUptoRow : OpenClaim := { program := "ytajlohhphjlgbaa", sum := "d546f90e143672dfc1ced7402683b118d221203f1e363ff5e1e118ba4c7f6cec", func := "gateline/gatelinelaw06.DayBack", spec := "dayBack", apart := false, narrowed := true }
def DayBackUptoSaid : Prop := dayBackUptoRow.holds Try.pinned (OpenSpec.upto dayBackSpec)

/-- 'gatelinelaw06.DayNext', WHERE WHAT IT READS IS OF BULK AT MOST 1048576: true; the input reads as it did. -/
def dayNextUptoRow : OpenClaim := { program := "ytajlohhphjlgbaa", sum := "d546f90e143672dfc1ced7402683b118d221203f1e363ff5e1e118ba4c7f6cec", func := "gateline/gatelinelaw06.DayNext", spec := "dayNext", apart := false, narrowed := true }
def DayNextUptoSaid : Prop := dayNextUptoRow.holds Try.pinned (OpenSpec.upto dayNextSpec)

/-- 'gatelinelaw06.DayOrder', WHERE WHAT IT READS IS OF BULK AT MOST 1048576: true; the input reads as it did. -/
def dayOrderUptoRow : OpenClaim := { program := "ytajlohhphjlgbaa", sum := "d546f90e143672dfc1ced7402683b118d221203f1e363ff5e1e118ba4c7f6cec", func := "gateline/gatelinelaw06.DayOrder", spec := "dayOrder", apart := false, narrowed := true }
def DayOrderUptoSaid : Prop := dayOrderUptoRow.holds Try.pinned (OpenSpec.upto dayOrderSpec)

end Rows
end Go.Proofs.Ytajlohhphjlgbaa
