/- This file proves, function by function, what the Go functions that one law uses compute; most of it was printed by a program (wip/tools of this session, over the kit's print). -/
import Derived.Test.YtmkjmplkokfoiaaProg
import Derived.Below
import Derived.Deep.Draws
import Derived.Deep.AppendLies
import Derived.Maps.AppendAt
import Derived.OwnWalk
import Derived.Laws.BytesArg
import Derived.Laws.MakeOwn
import Derived.Laws.OwnMore
import Derived.Deep.OwnRows
import Derived.Tactics
import Derived.Lib.ConvBytes
import Derived.Laws.Slices
import Derived.WalkKit
import Derived.KernelRfl
import Derived.RowKit3
import Derived.Deep.LoopGhost
import Derived.Deep.QuietTactic
import Derived.BigQuiet
import Derived.WideLaws
import Derived.Deep.DeepCutAuto
import Derived.Deep.CutBlock
import Derived.Deep.RegionHeld3
import Derived.Laws.Rows
import Derived.Lib.AppendStr
import Derived.ArgAppend
import Derived.Laws.IdiomCopy
import Derived.OrdersHeld
import Derived.Laws.BitsLemmas
import Derived.RowKit
import Derived.Test.YtmkjmplkokfoiaaXWords
import Derived.Test.YtmkjmplkokfoiaaWWords
import Derived.Test.YtmkjmplkokfoiaaWLast
import Derived.Test.YtmkjmplkokfoiaaWTab
import Derived.Test.YtmkjmplkokfoiaaWFour
import Derived.Test.YtmkjmplkokfoiaaWQPut
import Derived.Test.YtmkjmplkokfoiaaWApart
import Derived.Test.YtmkjmplkokfoiaaWArr
import Derived.Test.YtmkjmplkokfoiaaWZeros
import Derived.Test.YtmkjmplkokfoiaaWFoot
import Derived.Test.YtmkjmplkokfoiaaWKept
import Derived.Test.YtmkjmplkokfoiaaWShare
import Derived.Test.YtmkjmplkokfoiaaWN
import Derived.Test.YtmkjmplkokfoiaaWFootNe
import Derived.Test.YtmkjmplkokfoiaaWAt
import Derived.Test.YtmkjmplkokfoiaaWEqStruct
import Derived.Test.YtmkjmplkokfoiaaWRepsOne
import Derived.Test.YtmkjmplkokfoiaaWInv
import Derived.Test.YtmkjmplkokfoiaaWInvWords
import Derived.Test.YtmkjmplkokfoiaaWGuard
import Derived.Test.YtmkjmplkokfoiaaWNEv
import Derived.Test.YtmkjmplkokfoiaaWMore
namespace Go.Proofs.Ytmkjmplkokfoiaa.PEuclidBeginnings
open Go.RowKit Go.Proofs.YtmkjmplkokfoiaaW.PrintWords Go.Proofs.YtmkjmplkokfoiaaW.PrintLast Go.Proofs.YtmkjmplkokfoiaaW.PrintMore
attribute [local go_sem] max2_int min2_int max_two min_two max_three min_three max_four min_four   -- for this text's walks alone
set_option linter.unusedVariables false
set_option linter.unusedSimpArgs false



def errW : Option Int → Value
  | none => .nilIface
  | some c => .iface 0 (.int .i64 c)
theorem errW_none : errW none = .nilIface := rfl
theorem errW_some (c : Int) : errW (some c) = .iface 0 (.int .i64 c) := rfl

theorem info3 : (Try.prog.info? 3).map (fun i => (i.zero, i.size, i.bytes)) = some (some (.int .i64 0), 1, 8) := by kernel_rfl
-- the values' own types

end Go.Proofs.Ytmkjmplkokfoiaa.PEuclidBeginnings
