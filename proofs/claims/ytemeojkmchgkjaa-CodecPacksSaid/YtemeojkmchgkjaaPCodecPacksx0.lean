/- This file proves, function by function, what the Go functions that one law uses compute; most of it was printed by a program (wip/tools of this session, over the kit's print). -/
import Derived.Test.YtemeojkmchgkjaaProg
import Derived.Below
import Derived.Deep.Draws
import Derived.Deep.AppendLies
import Derived.Maps.AppendAt
import Derived.OwnWalk
import Derived.Laws.BytesArg
import Derived.Laws.MakeOwn
import Derived.Laws.OwnMore
import Derived.Deep.OwnRows
import Derived.Tactics
import Derived.Lib.ConvBytes
import Derived.Laws.Slices
import Derived.WalkKit
import Derived.KernelRfl
import Derived.RowKit3
import Derived.Deep.LoopGhost
import Derived.Deep.QuietTactic
import Derived.BigQuiet
import Derived.WideLaws
import Derived.Deep.DeepCutAuto
import Derived.Deep.CutBlock
import Derived.Deep.RegionHeld3
import Derived.Laws.Rows
import Derived.Lib.AppendStr
import Derived.ArgAppend
import Derived.Laws.IdiomCopy
import Derived.OrdersHeld
import Derived.Laws.BitsLemmas
import Derived.RowKit
import Derived.Test.YtemeojkmchgkjaaXWords
import Derived.Test.YtemeojkmchgkjaaXSum
import Derived.Test.YtemeojkmchgkjaaXUnp
import Derived.Test.YtemeojkmchgkjaaXLit
import Derived.Test.YtemeojkmchgkjaaWWords
import Derived.Test.YtemeojkmchgkjaaWLast
import Derived.Test.YtemeojkmchgkjaaWTab
import Derived.Test.YtemeojkmchgkjaaWFour
import Derived.Test.YtemeojkmchgkjaaWQPut
import Derived.Test.YtemeojkmchgkjaaWApart
import Derived.Test.YtemeojkmchgkjaaWArr
import Derived.Test.YtemeojkmchgkjaaWZeros
import Derived.Test.YtemeojkmchgkjaaWFoot
import Derived.Test.YtemeojkmchgkjaaWKept
import Derived.Test.YtemeojkmchgkjaaWShare
import Derived.Test.YtemeojkmchgkjaaWN
import Derived.Test.YtemeojkmchgkjaaWFootNe
import Derived.Test.YtemeojkmchgkjaaWAt
import Derived.Test.YtemeojkmchgkjaaWEqStruct
import Derived.Test.YtemeojkmchgkjaaWRepsOne
import Derived.Test.YtemeojkmchgkjaaWInv
import Derived.Test.YtemeojkmchgkjaaWInvWords
import Derived.Test.YtemeojkmchgkjaaWGuard
import Derived.Test.YtemeojkmchgkjaaWNEv
import Derived.Test.YtemeojkmchgkjaaWMore
namespace Go.Proofs.Ytemeojkmchgkjaa.PCodecPacks
open Go.RowKit Go.Proofs.YtemeojkmchgkjaaW.PrintWords Go.Proofs.YtemeojkmchgkjaaW.PrintLast Go.Proofs.YtemeojkmchgkjaaW.PrintMore
attribute [local go_sem] max2_int min2_int max_two min_two max_three min_three max_four min_four   -- for this text's walks alone
set_option linter.unusedVariables false
set_option linter.unusedSimpArgs false



def errW : Option Int → Value
  | none => .nilIface
  | some c => .iface 0 (.int .i64 c)
theorem errW_none : errW none = .nilIface := rfl
theorem errW_some (c : Int) : errW (some c) = .iface 0 (.int .i64 c) := rfl

theorem info3 : (Try.prog.info? 3).map (fun i => (i.zero, i.size, i.bytes)) = some (some (.int .i64 0), 1, 8) := by kernel_rfl
theorem info5 : (Try.prog.info? 5).map (fun i => (i.zero, i.size, i.bytes)) = some (some (.int .u8 0), 1, 1) := by kernel_rfl
-- the values' own types

end Go.Proofs.Ytemeojkmchgkjaa.PCodecPacks
