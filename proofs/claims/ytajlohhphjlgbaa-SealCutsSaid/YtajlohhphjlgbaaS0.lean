/- Written for this claim by a program of this session (handprint.py, over the kit's print). Lean checks it. -/
import Derived.Test.YtajlohhphjlgbaaProg
import Derived.Below
import Derived.Deep.Draws
import Derived.Deep.AppendLies
import Derived.Maps.AppendAt
import Derived.OwnWalk
import Derived.Laws.BytesArg
import Derived.Laws.MakeOwn
import Derived.Laws.OwnMore
import Derived.Deep.OwnRows
import Derived.Tactics
import Derived.Lib.ConvBytes
import Derived.Laws.Slices
import Derived.WalkKit
import Derived.KernelRfl
import Derived.RowKit3
import Derived.Deep.LoopGhost
import Derived.Deep.QuietTactic
import Derived.BigQuiet
import Derived.WideLaws
import Derived.Deep.DeepCutAuto
import Derived.Deep.CutBlock
import Derived.Deep.RegionHeld3
import Derived.Laws.Rows
import Derived.Lib.AppendStr
import Derived.ArgAppend
import Derived.Laws.IdiomCopy
import Derived.OrdersHeld
import Derived.Laws.BitsLemmas
import Derived.RowKit
import Derived.Test.YtajlohhphjlgbaaWWords
import Derived.Test.YtajlohhphjlgbaaWLast
import Derived.Test.YtajlohhphjlgbaaWTab
import Derived.Test.YtajlohhphjlgbaaWFour
import Derived.Test.YtajlohhphjlgbaaWQPut
import Derived.Test.YtajlohhphjlgbaaWApart
import Derived.Test.YtajlohhphjlgbaaWArr
import Derived.Test.YtajlohhphjlgbaaWZeros
import Derived.Test.YtajlohhphjlgbaaWFoot
import Derived.Test.YtajlohhphjlgbaaWKept
import Derived.Test.YtajlohhphjlgbaaWShare
import Derived.Test.YtajlohhphjlgbaaWN
import Derived.Test.YtajlohhphjlgbaaWFootNe
import Derived.Test.YtajlohhphjlgbaaWAt
import Derived.Test.YtajlohhphjlgbaaWEqStruct
import Derived.Test.YtajlohhphjlgbaaWRepsOne
import Derived.Test.YtajlohhphjlgbaaWInv
import Derived.Test.YtajlohhphjlgbaaWInvWords
import Derived.Test.YtajlohhphjlgbaaWGuard
import Derived.Test.YtajlohhphjlgbaaWNEv
import Derived.Test.YtajlohhphjlgbaaWMore
namespace Go.Proofs.Ytajlohhphjlgbaa.S
open Go.RowKit Go.Proofs.YtajlohhphjlgbaaW.PrintWords Go.Proofs.YtajlohhphjlgbaaW.PrintLast Go.Proofs.YtajlohhphjlgbaaW.PrintMore
attribute [local go_sem] max2_int min2_int max_two min_two max_three min_three max_four min_four   -- for this text's walks alone
set_option linter.unusedVariables false
set_option linter.unusedSimpArgs false



def errW : Option Int → Value
  | none => .nilIface
  | some c => .iface 0 (.int .i64 c)
theorem errW_none : errW none = .nilIface := rfl
theorem errW_some (c : Int) : errW (some c) = .iface 0 (.int .i64 c) := rfl

theorem info5 : (Try.prog.info? 5).map (fun i => (i.zero, i.size, i.bytes)) = some (some (.int .u8 0), 1, 1) := by kernel_rfl
-- the values' own types

end Go.Proofs.Ytajlohhphjlgbaa.S
