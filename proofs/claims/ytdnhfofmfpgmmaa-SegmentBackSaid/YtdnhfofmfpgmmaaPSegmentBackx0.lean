/- This file proves, function by function, what the Go functions that one law uses compute; most of it was printed by a program (wip/tools of this session, over the kit's print). -/
import Derived.Test.YtdnhfofmfpgmmaaProg
import Derived.Below
import Derived.Deep.Draws
import Derived.Deep.AppendLies
import Derived.Maps.AppendAt
import Derived.OwnWalk
import Derived.Laws.BytesArg
import Derived.Laws.MakeOwn
import Derived.Laws.OwnMore
import Derived.Deep.OwnRows
import Derived.Tactics
import Derived.Lib.ConvBytes
import Derived.Laws.Slices
import Derived.WalkKit
import Derived.KernelRfl
import Derived.RowKit3
import Derived.Deep.LoopGhost
import Derived.Deep.QuietTactic
import Derived.BigQuiet
import Derived.WideLaws
import Derived.Deep.DeepCutAuto
import Derived.Deep.CutBlock
import Derived.Deep.RegionHeld3
import Derived.Laws.Rows
import Derived.Lib.AppendStr
import Derived.ArgAppend
import Derived.Laws.IdiomCopy
import Derived.OrdersHeld
import Derived.Laws.BitsLemmas
import Derived.RowKit
import Derived.Test.YtdnhfofmfpgmmaaXWords
import Derived.Test.YtdnhfofmfpgmmaaXLit
import Derived.Test.YtdnhfofmfpgmmaaXLitB
import Derived.Test.YtdnhfofmfpgmmaaXShort
import Derived.Test.YtdnhfofmfpgmmaaXSum
import Derived.Test.YtdnhfofmfpgmmaaXUnp
import Derived.Test.YtdnhfofmfpgmmaaXClone
import Derived.Test.YtdnhfofmfpgmmaaXRuns
import Derived.Test.YtdnhfofmfpgmmaaXRep
import Derived.Test.YtdnhfofmfpgmmaaXReg
import Derived.Test.YtdnhfofmfpgmmaaXMea
import Derived.Test.YtdnhfofmfpgmmaaWWords
import Derived.Test.YtdnhfofmfpgmmaaWLast
import Derived.Test.YtdnhfofmfpgmmaaWTab
import Derived.Test.YtdnhfofmfpgmmaaWFour
import Derived.Test.YtdnhfofmfpgmmaaWQPut
import Derived.Test.YtdnhfofmfpgmmaaWApart
import Derived.Test.YtdnhfofmfpgmmaaWArr
import Derived.Test.YtdnhfofmfpgmmaaWZeros
import Derived.Test.YtdnhfofmfpgmmaaWFoot
import Derived.Test.YtdnhfofmfpgmmaaWKept
import Derived.Test.YtdnhfofmfpgmmaaWShare
import Derived.Test.YtdnhfofmfpgmmaaWN
import Derived.Test.YtdnhfofmfpgmmaaWFootNe
import Derived.Test.YtdnhfofmfpgmmaaWAt
import Derived.Test.YtdnhfofmfpgmmaaWEqStruct
import Derived.Test.YtdnhfofmfpgmmaaWRepsOne
import Derived.Test.YtdnhfofmfpgmmaaWInv
import Derived.Test.YtdnhfofmfpgmmaaWInvWords
import Derived.Test.YtdnhfofmfpgmmaaWGuard
import Derived.Test.YtdnhfofmfpgmmaaWNEv
import Derived.Test.YtdnhfofmfpgmmaaWMore
import Derived.Test.YtdnhfofmfpgmmaaXPressSegmentBack
namespace Go.Proofs.Ytdnhfofmfpgmmaa.PSegmentBack
open Go.RowKit Go.Proofs.YtdnhfofmfpgmmaaW.PrintWords Go.Proofs.YtdnhfofmfpgmmaaW.PrintLast Go.Proofs.YtdnhfofmfpgmmaaW.PrintMore
attribute [local go_sem] max2_int min2_int max_two min_two max_three min_three max_four min_four   -- for this text's walks alone
set_option linter.unusedVariables false
set_option linter.unusedSimpArgs false



def errW : Option Int → Value
  | none => .nilIface
  | some c => .iface 0 (.int .i64 c)
theorem errW_none : errW none = .nilIface := rfl
theorem errW_some (c : Int) : errW (some c) = .iface 0 (.int .i64 c) := rfl

theorem info3 : (Try.prog.info? 3).map (fun i => (i.zero, i.size, i.bytes)) = some (some (.int .i64 0), 1, 8) := by kernel_rfl
theorem info5 : (Try.prog.info? 5).map (fun i => (i.zero, i.size, i.bytes)) = some (some (.int .u8 0), 1, 1) := by kernel_rfl
-- the values' own types

end Go.Proofs.Ytdnhfofmfpgmmaa.PSegmentBack
