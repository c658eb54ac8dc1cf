-- Printed for this claim by a program of this session's own (it runs the kit's print another way): Lean checks it.
import Derived.Test.YtdabdhimidfofaaProg
import Derived.Below
import Derived.Deep.Draws
import Derived.Deep.AppendLies
import Derived.Maps.AppendAt
import Derived.OwnWalk
import Derived.Laws.BytesArg
import Derived.Laws.MakeOwn
import Derived.Laws.OwnMore
import Derived.Deep.OwnRows
import Derived.Tactics
import Derived.Lib.ConvBytes
import Derived.Laws.Slices
import Derived.WalkKit
import Derived.KernelRfl
import Derived.RowKit3
import Derived.Deep.LoopGhost
import Derived.Deep.QuietTactic
import Derived.BigQuiet
import Derived.WideLaws
import Derived.Deep.DeepCutAuto
import Derived.Deep.CutBlock
import Derived.Deep.RegionHeld3
import Derived.Laws.Rows
import Derived.Lib.AppendStr
import Derived.ArgAppend
import Derived.Laws.IdiomCopy
import Derived.OrdersHeld
import Derived.Laws.BitsLemmas
import Derived.RowKit
import Derived.Deep.WholeRow
import Derived.Lib.SlBytesConst
import Derived.Test.YtdabdhimidfofaaWWords
import Derived.Test.YtdabdhimidfofaaWLast
import Derived.Test.YtdabdhimidfofaaWTab
import Derived.Test.YtdabdhimidfofaaWFour
import Derived.Test.YtdabdhimidfofaaWQPut
import Derived.Test.YtdabdhimidfofaaWApart
import Derived.Test.YtdabdhimidfofaaWArr
import Derived.Test.YtdabdhimidfofaaWZeros
import Derived.Test.YtdabdhimidfofaaWFoot
import Derived.Test.YtdabdhimidfofaaWKept
import Derived.Test.YtdabdhimidfofaaWShare
import Derived.Test.YtdabdhimidfofaaWN
import Derived.Test.YtdabdhimidfofaaWFootNe
import Derived.Test.YtdabdhimidfofaaWAt
import Derived.Test.YtdabdhimidfofaaWEqStruct
import Derived.Test.YtdabdhimidfofaaWRepsOne
import Derived.Test.YtdabdhimidfofaaWInv
import Derived.Test.YtdabdhimidfofaaWInvWords
import Derived.Test.YtdabdhimidfofaaWGuard
import Derived.Test.YtdabdhimidfofaaWNEv
import Derived.Test.YtdabdhimidfofaaWMore
namespace Go.Proofs.Ytdabdhimidfofaa.PCrcXor
open Go.RowKit Go.Proofs.YtdabdhimidfofaaW.PrintWords Go.Proofs.YtdabdhimidfofaaW.PrintLast Go.Proofs.YtdabdhimidfofaaW.PrintMore
attribute [local go_sem] max2_int min2_int max_two min_two max_three min_three max_four min_four   -- for this text's walks alone
set_option linter.unusedVariables false
set_option linter.unusedSimpArgs false



def errW : Option Int → Value
  | none => .nilIface
  | some c => .iface 0 (.int .i64 c)
theorem errW_none : errW none = .nilIface := rfl
theorem errW_some (c : Int) : errW (some c) = .iface 0 (.int .i64 c) := rfl

theorem info5 : (Try.prog.info? 5).map (fun i => (i.zero, i.size, i.bytes)) = some (some (.int .u8 0), 1, 1) := by kernel_rfl
-- the values' own types

end Go.Proofs.Ytdabdhimidfofaa.PCrcXor
