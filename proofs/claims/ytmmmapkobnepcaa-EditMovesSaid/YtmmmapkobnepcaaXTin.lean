/- This file proves what a new table of package edit holds. -/
import Derived.Test.YtmmmapkobnepcaaXWords
import Derived.Test.YtmmmapkobnepcaaProg
import Derived.Test.YtmmmapkobnepcaaXEdit
import Derived.Deep.WholeRow
import Derived.Deep.LoopGhost
import Derived.Deep.QuietTactic
import Derived.BigQuiet
import Derived.RegionTactic
import Derived.Laws.Tables
import Derived.Laws.ResultCell
import Derived.WalkKit
import Derived.RowKit3
import Derived.Outline
import Derived.OpenShut
set_option linter.unusedVariables false
set_option linter.unusedSimpArgs false
namespace Go.Proofs.Ytmmmapkobnepcaa.X
open Go.RowKit Go.Proofs.YtmmmapkobnepcaaW.PrintWords Go.Proofs.YtmmmapkobnepcaaW.PrintLast Go.Proofs.YtmmmapkobnepcaaW.PrintMore Go.Proofs.Ytmmmapkobnepcaa.MathEd
attribute [local go_sem] max2_int min2_int max_two min_two max_three min_three max_four min_four


/-! ### the table -/
theorem tabF_info : (Try.prog.info? 55).map (fun i => (i.zero, i.size)) = some (some (.agg (tabF fun _ => 0)), 1089) := by kernel_rfl
end Go.Proofs.Ytmmmapkobnepcaa.X
