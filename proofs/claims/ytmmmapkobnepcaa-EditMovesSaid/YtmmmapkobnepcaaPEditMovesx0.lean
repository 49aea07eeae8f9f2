/- This file proves, function by function, what the Go functions that one law uses compute; most of it was printed by a program (wip/tools of this session, over the kit's print). -/
import Derived.Test.YtmmmapkobnepcaaProg
import Derived.Below
import Derived.Deep.Draws
import Derived.Deep.AppendLies
import Derived.Maps.AppendAt
import Derived.OwnWalk
import Derived.Laws.BytesArg
import Derived.Laws.MakeOwn
import Derived.Laws.OwnMore
import Derived.Deep.OwnRows
import Derived.Tactics
import Derived.Lib.ConvBytes
import Derived.Laws.Slices
import Derived.WalkKit
import Derived.KernelRfl
import Derived.RowKit3
import Derived.Deep.LoopGhost
import Derived.Deep.QuietTactic
import Derived.BigQuiet
import Derived.WideLaws
import Derived.Deep.DeepCutAuto
import Derived.Deep.CutBlock
import Derived.Deep.RegionHeld3
import Derived.Laws.Rows
import Derived.Lib.AppendStr
import Derived.ArgAppend
import Derived.Laws.IdiomCopy
import Derived.OrdersHeld
import Derived.Laws.BitsLemmas
import Derived.RowKit
import Derived.Test.YtmmmapkobnepcaaXWords
import Derived.Test.YtmmmapkobnepcaaMathEd
import Derived.Test.YtmmmapkobnepcaaXEdit
import Derived.Test.YtmmmapkobnepcaaXTin
import Derived.Test.YtmmmapkobnepcaaXTab
import Derived.Test.YtmmmapkobnepcaaXDist
import Derived.Test.YtmmmapkobnepcaaXAlign
import Derived.Test.YtmmmapkobnepcaaXShort
import Derived.Test.YtmmmapkobnepcaaWWords
import Derived.Test.YtmmmapkobnepcaaWLast
import Derived.Test.YtmmmapkobnepcaaWTab
import Derived.Test.YtmmmapkobnepcaaWFour
import Derived.Test.YtmmmapkobnepcaaWQPut
import Derived.Test.YtmmmapkobnepcaaWApart
import Derived.Test.YtmmmapkobnepcaaWArr
import Derived.Test.YtmmmapkobnepcaaWZeros
import Derived.Test.YtmmmapkobnepcaaWFoot
import Derived.Test.YtmmmapkobnepcaaWKept
import Derived.Test.YtmmmapkobnepcaaWShare
import Derived.Test.YtmmmapkobnepcaaWN
import Derived.Test.YtmmmapkobnepcaaWFootNe
import Derived.Test.YtmmmapkobnepcaaWAt
import Derived.Test.YtmmmapkobnepcaaWEqStruct
import Derived.Test.YtmmmapkobnepcaaWRepsOne
import Derived.Test.YtmmmapkobnepcaaWInv
import Derived.Test.YtmmmapkobnepcaaWInvWords
import Derived.Test.YtmmmapkobnepcaaWGuard
import Derived.Test.YtmmmapkobnepcaaWNEv
import Derived.Test.YtmmmapkobnepcaaWMore
namespace Go.Proofs.Ytmmmapkobnepcaa.PEditMoves
open Go.RowKit Go.Proofs.YtmmmapkobnepcaaW.PrintWords Go.Proofs.YtmmmapkobnepcaaW.PrintLast Go.Proofs.YtmmmapkobnepcaaW.PrintMore
attribute [local go_sem] max2_int min2_int max_two min_two max_three min_three max_four min_four   -- for this text's walks alone
set_option linter.unusedVariables false
set_option linter.unusedSimpArgs false



def errW : Option Int → Value
  | none => .nilIface
  | some c => .iface 0 (.int .i64 c)
theorem errW_none : errW none = .nilIface := rfl
theorem errW_some (c : Int) : errW (some c) = .iface 0 (.int .i64 c) := rfl

theorem info3 : (Try.prog.info? 3).map (fun i => (i.zero, i.size, i.bytes)) = some (some (.int .i64 0), 1, 8) := by kernel_rfl
-- the values' own types

end Go.Proofs.Ytmmmapkobnepcaa.PEditMoves
