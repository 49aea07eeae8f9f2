/-
  No cell of these rows narrows 'for every input' (looked for: loops, veiled, ifaces, maps, wideKeys, modest, calm, conditions, laid).
  DERIVED. THE GIVEN ROWS OF THIS SEAT. 6 by the template 'for every input the law returns true; each argument reads behind the call as it read before'; 0 by the template 'total and deterministic' (their statements: YtklghejinlhjpaaTotals.lean).
  GIVEN WITH THE SEED: the statements are not yours to turn. If you find one false, say at which input.
  Laid BY PROGRAM, IN A SANDBOX (cutbox-rows.mjs): the forced cells as the released guide's own fill.sh prints them over the translation 0101c40416711624… (all of the seat's roots in one cut). By AI agents, Wed Nov 11 2026. No macro, syntax, notation, axiom, sorry.
-/
import Derived.Test.YtklghejinlhjpaaChecked
import GoSem.Claim
import GoSem.ClaimJoined
import GoSem.ClaimMapViews
import Derived.JoinedTies
import Derived.KernelRfl
namespace Go.Proofs.Ytklghejinlhjpaa
/- THE CELL 'sum', in the pinned program and in every row, IS THE sha256 OF THE DUMP (.gsa) THAT YtklghejinlhjpaaProg.lean LOADS. Nothing in Lean hashes anything: it is a label: what it is worth is what the hold of that sum in a sandbox is worth. -/
noncomputable def Try.pinned : Pinned := { name := "ytklghejinlhjpaa", sum := "0101c40416711624211424f5270ad37ca2dadd879a8d2d21011328a3fe56d32d", checked := Try.checked }
namespace Rows
def none {H : Type} : Left H := { results := [], args := [] }

/-- 'shapesearchlaw09.SeriesStarts': WHATEVER THE INPUT: true; the input reads as it did. -/
def seriesStartsSpec : ChangeSpec := { name := "seriesStarts", fn := fun _ => fun
  | [d1, d2] => { results := [.lit (.bool true)], args := [d1, d2] }
  | _ => none }
def seriesStartsRow : OpenClaim := { program := "ytklghejinlhjpaa", sum := "0101c40416711624211424f5270ad37ca2dadd879a8d2d21011328a3fe56d32d", func := "shapesearch/shapesearchlaw09.SeriesStarts", spec := "seriesStarts", unfollowed := true, recurses := true, apart := false }
def SeriesStartsSaid : Prop := seriesStartsRow.holds Try.pinned (OpenSpec.ofChange seriesStartsSpec)

/-- ITS FALSE NEIGHBOUR: 'it returns false'. Refute it at one input. -/
def seriesStartsWrong : ChangeSpec := { name := "seriesStarts", fn := fun _ => fun
  | [d1, d2] => { results := [.lit (.bool false)], args := [d1, d2] }
  | _ => none }
def SeriesStartsWrongFalsely : Prop := seriesStartsRow.holds Try.pinned (OpenSpec.ofChange seriesStartsWrong)

/-- 'shapesearchlaw09.SeriesLonger': WHATEVER THE INPUT: true; the input reads as it did. -/
def seriesLongerSpec : ChangeSpec := { name := "seriesLonger", fn := fun _ => fun
  | [d1, d2, d3, d4] => { results := [.lit (.bool true)], args := [d1, d2, d3, d4] }
  | _ => none }
def seriesLongerRow : OpenClaim := { program := "ytklghejinlhjpaa", sum := "0101c40416711624211424f5270ad37ca2dadd879a8d2d21011328a3fe56d32d", func := "shapesearch/shapesearchlaw09.SeriesLonger", spec := "seriesLonger", unfollowed := true, recurses := true, apart := false }
def SeriesLongerSaid : Prop := seriesLongerRow.holds Try.pinned (OpenSpec.ofChange seriesLongerSpec)

/-- ITS FALSE NEIGHBOUR: 'it returns false'. Refute it at one input. -/
def seriesLongerWrong : ChangeSpec := { name := "seriesLonger", fn := fun _ => fun
  | [d1, d2, d3, d4] => { results := [.lit (.bool false)], args := [d1, d2, d3, d4] }
  | _ => none }
def SeriesLongerWrongFalsely : Prop := seriesLongerRow.holds Try.pinned (OpenSpec.ofChange seriesLongerWrong)

/-- 'shapesearchlaw09.SeriesRuns': WHATEVER THE INPUT: true; the input reads as it did. -/
def seriesRunsSpec : ChangeSpec := { name := "seriesRuns", fn := fun _ => fun
  | [d] => { results := [.lit (.bool true)], args := [d] }
  | _ => none }
def seriesRunsRow : OpenClaim := { program := "ytklghejinlhjpaa", sum := "0101c40416711624211424f5270ad37ca2dadd879a8d2d21011328a3fe56d32d", func := "shapesearch/shapesearchlaw09.SeriesRuns", spec := "seriesRuns", unfollowed := true, recurses := true, apart := false }
def SeriesRunsSaid : Prop := seriesRunsRow.holds Try.pinned (OpenSpec.ofChange seriesRunsSpec)

/-- ITS FALSE NEIGHBOUR: 'it returns false'. Refute it at one input. -/
def seriesRunsWrong : ChangeSpec := { name := "seriesRuns", fn := fun _ => fun
  | [d] => { results := [.lit (.bool false)], args := [d] }
  | _ => none }
def SeriesRunsWrongFalsely : Prop := seriesRunsRow.holds Try.pinned (OpenSpec.ofChange seriesRunsWrong)

/-- 'shapesearchlaw09.SeriesParts': WHATEVER THE INPUT: true; the input reads as it did. -/
def seriesPartsSpec : ChangeSpec := { name := "seriesParts", fn := fun _ => fun
  | [d1, d2, d3, d4] => { results := [.lit (.bool true)], args := [d1, d2, d3, d4] }
  | _ => none }
def seriesPartsRow : OpenClaim := { program := "ytklghejinlhjpaa", sum := "0101c40416711624211424f5270ad37ca2dadd879a8d2d21011328a3fe56d32d", func := "shapesearch/shapesearchlaw09.SeriesParts", spec := "seriesParts", unfollowed := true, recurses := true, apart := false }
def SeriesPartsSaid : Prop := seriesPartsRow.holds Try.pinned (OpenSpec.ofChange seriesPartsSpec)

/-- ITS FALSE NEIGHBOUR: 'it returns false'. Refute it at one input. -/
def seriesPartsWrong : ChangeSpec := { name := "seriesParts", fn := fun _ => fun
  | [d1, d2, d3, d4] => { results := [.lit (.bool false)], args := [d1, d2, d3, d4] }
  | _ => none }
def SeriesPartsWrongFalsely : Prop := seriesPartsRow.holds Try.pinned (OpenSpec.ofChange seriesPartsWrong)

/-- 'shapesearchlaw09.SeriesJoins': WHATEVER THE INPUT: true; the input reads as it did. -/
def seriesJoinsSpec : ChangeSpec := { name := "seriesJoins", fn := fun _ => fun
  | [d1, d2, d3] => { results := [.lit (.bool true)], args := [d1, d2, d3] }
  | _ => none }
def seriesJoinsRow : OpenClaim := { program := "ytklghejinlhjpaa", sum := "0101c40416711624211424f5270ad37ca2dadd879a8d2d21011328a3fe56d32d", func := "shapesearch/shapesearchlaw09.SeriesJoins", spec := "seriesJoins", unfollowed := true, recurses := true, apart := false }
def SeriesJoinsSaid : Prop := seriesJoinsRow.holds Try.pinned (OpenSpec.ofChange seriesJoinsSpec)

/-- ITS FALSE NEIGHBOUR: 'it returns false'. Refute it at one input. -/
def seriesJoinsWrong : ChangeSpec := { name := "seriesJoins", fn := fun _ => fun
  | [d1, d2, d3] => { results := [.lit (.bool false)], args := [d1, d2, d3] }
  | _ => none }
def SeriesJoinsWrongFalsely : Prop := seriesJoinsRow.holds Try.pinned (OpenSpec.ofChange seriesJoinsWrong)

/-- 'shapesearchlaw09.SeriesAnswers': WHATEVER THE INPUT: true; the input reads as it did. -/
def seriesAnswersSpec : ChangeSpec := { name := "seriesAnswers", fn := fun _ => fun
  | [d1, d2, d3, d4, d5] => { results := [.lit (.bool true)], args := [d1, d2, d3, d4, d5] }
  | _ => none }
def seriesAnswersRow : OpenClaim := { program := "ytklghejinlhjpaa", sum := "0101c40416711624211424f5270ad37ca2dadd879a8d2d21011328a3fe56d32d", func := "shapesearch/shapesearchlaw09.SeriesAnswers", spec := "seriesAnswers", unfollowed := true, recurses := true, apart := false }
def SeriesAnswersSaid : Prop := seriesAnswersRow.holds Try.pinned (OpenSpec.ofChange seriesAnswersSpec)

/-- ITS FALSE NEIGHBOUR: 'it returns false'. Refute it at one input. -/
def seriesAnswersWrong : ChangeSpec := { name := "seriesAnswers", fn := fun _ => fun
  | [d1, d2, d3, d4, d5] => { results := [.lit (.bool false)], args := [d1, d2, d3, d4, d5] }
  | _ => none }
def SeriesAnswersWrongFalsely : Prop := seriesAnswersRow.holds Try.pinned (OpenSpec.ofChange seriesAnswersWrong)

/- THE SECOND FORM. 'bulk': how many values and letters a reading holds, each counted each time it is reached (what is shared counts as often as it is met; a slice's spare places count too). A statement '..UptoSaid' is the law's where the arguments, and the package variables that the reading takes, are together of bulk at most 1048576: NARROWER than '..Said'. Prove '..Said' where nothing that the law and all that it calls make is longer than what came in: it says more and counts as full. Else prove '..UptoSaid'. A law counts once. -/
mutual
def uptoBulk {H : Type} : DataW H → Nat
  | .lit (.string bytes) => bytes.length + 1
  | .lit _ => 1
  | .nil => 1
  | .ptr d => uptoBulk d + 1
  | .slice elems spare => uptoBulkAll elems + uptoBulkAll spare + 1
  | .agg parts => uptoBulkAll parts + 1
  | .iface _ d => uptoBulk d + 1
  | .map entries => uptoBulkEntries entries + 1
  | .held _ => 1
def uptoBulkAll {H : Type} : List (DataW H) → Nat
  | [] => 0
  | d :: r => uptoBulk d + uptoBulkAll r
def uptoBulkEntries {H : Type} : List (Lit × DataW H) → Nat
  | [] => 0
  | x :: r => uptoBulkEntry x + uptoBulkEntries r
def uptoBulkEntry {H : Type} : Lit × DataW H → Nat
  | (.string bytes, d) => bytes.length + uptoBulk d + 1
  | (_, d) => uptoBulk d + 1
 end
def uptoSmall : (H : Type) → List (DataW H) → Bool := fun _ ds => decide (uptoBulkAll ds ≤ 1048576)
def OpenSpec.upto (s : _root_.Go.ChangeSpec) : _root_.Go.OpenSpec := { _root_.Go.OpenSpec.ofChange s with cond := some uptoSmall }

/-- 'shapesearchlaw09.SeriesStarts', WHERE WHAT IT READS IS OF BULK AT MOST 1048576: true; the input reads as it did. -/
def seriesStartsUptoRow : OpenClaim := { program := "ytklghejinlhjpaa", sum := "0101c40416711624211424f5270ad37ca2dadd879a8d2d21011328a3fe56d32d", func := "shapesearch/shapesearchlaw09.SeriesStarts", spec := "seriesStarts", unfollowed := true, recurses := true, apart := false, narrowed := true }
def SeriesStartsUptoSaid : Prop := seriesStartsUptoRow.holds Try.pinned (OpenSpec.upto seriesStartsSpec)

/-- 'shapesearchlaw09.SeriesLonger', WHERE WHAT IT READS IS OF BULK AT MOST 1048576: true; the input reads as it did. -/
def seriesLongerUptoRow : OpenClaim := { program := "ytklghejinlhjpaa", sum := "0101c40416711624211424f5270ad37ca2dadd879a8d2d21011328a3fe56d32d", func := "shapesearch/shapesearchlaw09.SeriesLonger", spec := "seriesLonger", unfollowed := true, recurses := true, apart := false, narrowed := true }
def SeriesLongerUptoSaid : Prop := seriesLongerUptoRow.holds Try.pinned (OpenSpec.upto seriesLongerSpec)

/-- 'shapesearchlaw09.SeriesRuns', WHERE WHAT IT READS IS OF BULK AT MOST 1048576: true; the input reads as it did. -/
def seriesRunsUptoRow : OpenClaim := { program := "ytklghejinlhjpaa", sum := "0101c40416711624211424f5270ad37ca2dadd879a8d2d21011328a3fe56d32d", func := "shapesearch/shapesearchlaw09.SeriesRuns", spec := "seriesRuns", unfollowed := true, recurses := true, apart := false, narrowed := true }
def SeriesRunsUptoSaid : Prop := seriesRunsUptoRow.holds Try.pinned (OpenSpec.upto seriesRunsSpec)

/-- 'shapesearchlaw09.SeriesParts', WHERE WHAT IT READS IS OF BULK AT MOST 1048576: true; the input reads as it did. -/
def seriesPartsUptoRow : OpenClaim := { program := "ytklghejinlhjpaa", sum := "0101c40416711624211424f5270ad37ca2dadd879a8d2d21011328a3fe56d32d", func := "shapesearch/shapesearchlaw09.SeriesParts", spec := "seriesParts", unfollowed := true, recurses := true, apart := false, narrowed := true }
def SeriesPartsUptoSaid : Prop := seriesPartsUptoRow.holds Try.pinned (OpenSpec.upto seriesPartsSpec)

/-- 'shapesearchlaw09.SeriesJoins', WHERE WHAT IT READS IS OF BULK AT MOST 1048576: true; the input reads as it did. -/
def seriesJoinsUptoRow : OpenClaim := { program := "ytklghejinlhjpaa", sum := "0101c40416711624211424f5270ad37ca2dadd879a8d2d21011328a3fe56d32d", func := "shapesearch/shapesearchlaw09.SeriesJoins", spec := "seriesJoins", unfollowed := true, recurses := true, apart := false, narrowed := true }
def SeriesJoinsUptoSaid : Prop := seriesJoinsUptoRow.holds Try.pinned (OpenSpec.upto seriesJoinsSpec)

/-- 'shapesearchlaw09.SeriesAnswers', WHERE WHAT IT READS IS OF BULK AT MOST 1048576: true; the input reads as it did. -/
def seriesAnswersUptoRow : OpenClaim := { program := "ytklghejinlhjpaa", sum := "0101c40416711624211424f5270ad37ca2dadd879a8d2d21011328a3fe56d32d", func := "shapesearch/shapesearchlaw09.SeriesAnswers", spec := "seriesAnswers", unfollowed := true, recurses := true, apart := false, narrowed := true }
def SeriesAnswersUptoSaid : Prop := seriesAnswersUptoRow.holds Try.pinned (OpenSpec.upto seriesAnswersSpec)

end Rows
end Go.Proofs.Ytklghejinlhjpaa
