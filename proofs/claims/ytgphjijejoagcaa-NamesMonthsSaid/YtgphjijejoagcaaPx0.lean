-- written by this session's patched copy of the printer (wip/tools/patch_print.py); Lean checks it
import Derived.Test.YtgphjijejoagcaaProg
import Derived.Below
import Derived.Deep.Draws
import Derived.Deep.AppendLies
import Derived.Maps.AppendAt
import Derived.OwnWalk
import Derived.Laws.BytesArg
import Derived.Laws.MakeOwn
import Derived.Laws.OwnMore
import Derived.Deep.OwnRows
import Derived.Tactics
import Derived.Lib.ConvBytes
import Derived.Laws.Slices
import Derived.WalkKit
import Derived.KernelRfl
import Derived.RowKit3
import Derived.Deep.LoopGhost
import Derived.Deep.QuietTactic
import Derived.BigQuiet
import Derived.WideLaws
import Derived.Deep.DeepCutAuto
import Derived.Deep.CutBlock
import Derived.Deep.RegionHeld3
import Derived.Laws.Rows
import Derived.Lib.AppendStr
import Derived.ArgAppend
import Derived.Laws.IdiomCopy
import Derived.OrdersHeld
import Derived.Laws.BitsLemmas
import Derived.RowKit
import Derived.Test.YtgphjijejoagcaaLitLib
import Derived.Test.YtgphjijejoagcaaWWords
import Derived.Test.YtgphjijejoagcaaWLast
import Derived.Test.YtgphjijejoagcaaWTab
import Derived.Test.YtgphjijejoagcaaWFour
import Derived.Test.YtgphjijejoagcaaWQPut
import Derived.Test.YtgphjijejoagcaaWApart
import Derived.Test.YtgphjijejoagcaaWArr
import Derived.Test.YtgphjijejoagcaaWZeros
import Derived.Test.YtgphjijejoagcaaWFoot
import Derived.Test.YtgphjijejoagcaaWKept
import Derived.Test.YtgphjijejoagcaaWShare
import Derived.Test.YtgphjijejoagcaaWN
import Derived.Test.YtgphjijejoagcaaWFootNe
import Derived.Test.YtgphjijejoagcaaWAt
import Derived.Test.YtgphjijejoagcaaWEqStruct
import Derived.Test.YtgphjijejoagcaaWRepsOne
import Derived.Test.YtgphjijejoagcaaWInv
import Derived.Test.YtgphjijejoagcaaWInvWords
import Derived.Test.YtgphjijejoagcaaWGuard
import Derived.Test.YtgphjijejoagcaaWNEv
import Derived.Test.YtgphjijejoagcaaWMore
namespace Go.Proofs.Ytgphjijejoagcaa.P
open Go.RowKit Go.Proofs.YtgphjijejoagcaaW.PrintWords Go.Proofs.YtgphjijejoagcaaW.PrintLast Go.Proofs.YtgphjijejoagcaaW.PrintMore
attribute [local go_sem] max2_int min2_int max_two min_two max_three min_three max_four min_four   -- for this text's walks alone
set_option linter.unusedVariables false
set_option linter.unusedSimpArgs false



def errW : Option Int → Value
  | none => .nilIface
  | some c => .iface 0 (.int .i64 c)
theorem errW_none : errW none = .nilIface := rfl
theorem errW_some (c : Int) : errW (some c) = .iface 0 (.int .i64 c) := rfl

theorem info5 : (Try.prog.info? 5).map (fun i => (i.zero, i.size, i.bytes)) = some (some (.int .u8 0), 1, 1) := by kernel_rfl
-- the values' own types

end Go.Proofs.Ytgphjijejoagcaa.P
