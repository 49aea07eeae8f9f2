/- This file proves, function by function, what the Go functions that one law uses compute; most of it was printed by a program (wip/tools of this session, over the kit's print). -/
import Derived.Test.YtmckmjpfcgmalaaProg
import Derived.Below
import Derived.Deep.Draws
import Derived.Deep.AppendLies
import Derived.Maps.AppendAt
import Derived.OwnWalk
import Derived.Laws.BytesArg
import Derived.Laws.MakeOwn
import Derived.Laws.OwnMore
import Derived.Deep.OwnRows
import Derived.Tactics
import Derived.Lib.ConvBytes
import Derived.Laws.Slices
import Derived.WalkKit
import Derived.KernelRfl
import Derived.RowKit3
import Derived.Deep.LoopGhost
import Derived.Deep.QuietTactic
import Derived.BigQuiet
import Derived.WideLaws
import Derived.Deep.DeepCutAuto
import Derived.Deep.CutBlock
import Derived.Deep.RegionHeld3
import Derived.Laws.Rows
import Derived.Lib.AppendStr
import Derived.ArgAppend
import Derived.Laws.IdiomCopy
import Derived.OrdersHeld
import Derived.Laws.BitsLemmas
import Derived.RowKit
import Derived.Test.YtmckmjpfcgmalaaXWords
import Derived.Test.YtmckmjpfcgmalaaXShort
import Derived.Test.YtmckmjpfcgmalaaWWords
import Derived.Test.YtmckmjpfcgmalaaWLast
import Derived.Test.YtmckmjpfcgmalaaWTab
import Derived.Test.YtmckmjpfcgmalaaWFour
import Derived.Test.YtmckmjpfcgmalaaWQPut
import Derived.Test.YtmckmjpfcgmalaaWApart
import Derived.Test.YtmckmjpfcgmalaaWArr
import Derived.Test.YtmckmjpfcgmalaaWZeros
import Derived.Test.YtmckmjpfcgmalaaWFoot
import Derived.Test.YtmckmjpfcgmalaaWKept
import Derived.Test.YtmckmjpfcgmalaaWShare
import Derived.Test.YtmckmjpfcgmalaaWN
import Derived.Test.YtmckmjpfcgmalaaWFootNe
import Derived.Test.YtmckmjpfcgmalaaWAt
import Derived.Test.YtmckmjpfcgmalaaWEqStruct
import Derived.Test.YtmckmjpfcgmalaaWRepsOne
import Derived.Test.YtmckmjpfcgmalaaWInv
import Derived.Test.YtmckmjpfcgmalaaWInvWords
import Derived.Test.YtmckmjpfcgmalaaWGuard
import Derived.Test.YtmckmjpfcgmalaaWNEv
import Derived.Test.YtmckmjpfcgmalaaWMore
namespace Go.Proofs.Ytmckmjpfcgmalaa.PNormalRange
open Go.RowKit Go.Proofs.YtmckmjpfcgmalaaW.PrintWords Go.Proofs.YtmckmjpfcgmalaaW.PrintLast Go.Proofs.YtmckmjpfcgmalaaW.PrintMore
attribute [local go_sem] max2_int min2_int max_two min_two max_three min_three max_four min_four   -- for this text's walks alone
set_option linter.unusedVariables false
set_option linter.unusedSimpArgs false



def errW : Option Int → Value
  | none => .nilIface
  | some c => .iface 0 (.int .i64 c)
theorem errW_none : errW none = .nilIface := rfl
theorem errW_some (c : Int) : errW (some c) = .iface 0 (.int .i64 c) := rfl

theorem info3 : (Try.prog.info? 3).map (fun i => (i.zero, i.size, i.bytes)) = some (some (.int .i64 0), 1, 8) := by kernel_rfl
-- the values' own types

end Go.Proofs.Ytmckmjpfcgmalaa.PNormalRange
