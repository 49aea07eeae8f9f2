/-
  No cell of these rows narrows 'for every input' (looked for: loops, veiled, ifaces, maps, wideKeys, modest, calm, conditions, laid).
  DERIVED. THE GIVEN ROWS OF THIS SEAT. 6 by the template 'for every input the law returns true; each argument reads behind the call as it read before'; 0 by the template 'total and deterministic' (their statements: YtmkjmplkokfoiaaTotals.lean).
  GIVEN WITH THE SEED: the statements are not yours to turn. If you find one false, say at which input.
  Laid BY PROGRAM, IN A SANDBOX (cutbox-rows.mjs): the forced cells as the released guide's own fill.sh prints them over the translation c61fbc0c3b594896… (all of the seat's roots in one cut). By AI agents, Wed Nov 11 2026. No macro, syntax, notation, axiom, sorry.
-/
import Derived.Test.YtmkjmplkokfoiaaChecked
import GoSem.Claim
import GoSem.ClaimJoined
import GoSem.ClaimMapViews
import Derived.JoinedTies
import Derived.KernelRfl
namespace Go.Proofs.Ytmkjmplkokfoiaa
/- THE CELL 'sum', in the pinned program and in every row, IS THE sha256 OF THE DUMP (.gsa) THAT YtmkjmplkokfoiaaProg.lean LOADS. Nothing in Lean hashes anything: it is a label: what it is worth is what the hold of that sum in a sandbox is worth. -/
noncomputable def Try.pinned : Pinned := { name := "ytmkjmplkokfoiaa", sum := "c61fbc0c3b594896747fbe9b4281e76a04844e968edd332628029707c7ac39b8", checked := Try.checked }
namespace Rows
def none {H : Type} : Left H := { results := [], args := [] }

/-- 'shapesearchlaw12.EuclidTriangles': WHATEVER THE INPUT: true; the input reads as it did. -/
def euclidTrianglesSpec : ChangeSpec := { name := "euclidTriangles", fn := fun _ => fun
  | [d] => { results := [.lit (.bool true)], args := [d] }
  | _ => none }
def euclidTrianglesRow : OpenClaim := { program := "ytmkjmplkokfoiaa", sum := "c61fbc0c3b594896747fbe9b4281e76a04844e968edd332628029707c7ac39b8", func := "shapesearch/shapesearchlaw12.EuclidTriangles", spec := "euclidTriangles", apart := false }
def EuclidTrianglesSaid : Prop := euclidTrianglesRow.holds Try.pinned (OpenSpec.ofChange euclidTrianglesSpec)

/-- ITS FALSE NEIGHBOUR: 'it returns false'. Refute it at one input. -/
def euclidTrianglesWrong : ChangeSpec := { name := "euclidTriangles", fn := fun _ => fun
  | [d] => { results := [.lit (.bool false)], args := [d] }
  | _ => none }
def EuclidTrianglesWrongFalsely : Prop := euclidTrianglesRow.holds Try.pinned (OpenSpec.ofChange euclidTrianglesWrong)

/-- 'shapesearchlaw12.EuclidShifts': WHATEVER THE INPUT: true; the input reads as it did. -/
def euclidShiftsSpec : ChangeSpec := { name := "euclidShifts", fn := fun _ => fun
  | [d1, d2] => { results := [.lit (.bool true)], args := [d1, d2] }
  | _ => none }
def euclidShiftsRow : OpenClaim := { program := "ytmkjmplkokfoiaa", sum := "c61fbc0c3b594896747fbe9b4281e76a04844e968edd332628029707c7ac39b8", func := "shapesearch/shapesearchlaw12.EuclidShifts", spec := "euclidShifts", recurses := true, apart := false }
def EuclidShiftsSaid : Prop := euclidShiftsRow.holds Try.pinned (OpenSpec.ofChange euclidShiftsSpec)

/-- ITS FALSE NEIGHBOUR: 'it returns false'. Refute it at one input. -/
def euclidShiftsWrong : ChangeSpec := { name := "euclidShifts", fn := fun _ => fun
  | [d1, d2] => { results := [.lit (.bool false)], args := [d1, d2] }
  | _ => none }
def EuclidShiftsWrongFalsely : Prop := euclidShiftsRow.holds Try.pinned (OpenSpec.ofChange euclidShiftsWrong)

/-- 'shapesearchlaw12.EuclidRoots': WHATEVER THE INPUT: true; the input reads as it did. -/
def euclidRootsSpec : ChangeSpec := { name := "euclidRoots", fn := fun _ => fun
  | [d] => { results := [.lit (.bool true)], args := [d] }
  | _ => none }
def euclidRootsRow : OpenClaim := { program := "ytmkjmplkokfoiaa", sum := "c61fbc0c3b594896747fbe9b4281e76a04844e968edd332628029707c7ac39b8", func := "shapesearch/shapesearchlaw12.EuclidRoots", spec := "euclidRoots", apart := false }
def EuclidRootsSaid : Prop := euclidRootsRow.holds Try.pinned (OpenSpec.ofChange euclidRootsSpec)

/-- ITS FALSE NEIGHBOUR: 'it returns false'. Refute it at one input. -/
def euclidRootsWrong : ChangeSpec := { name := "euclidRoots", fn := fun _ => fun
  | [d] => { results := [.lit (.bool false)], args := [d] }
  | _ => none }
def EuclidRootsWrongFalsely : Prop := euclidRootsRow.holds Try.pinned (OpenSpec.ofChange euclidRootsWrong)

/-- 'shapesearchlaw12.EuclidBeginnings': WHATEVER THE INPUT: true; the input reads as it did. -/
def euclidBeginningsSpec : ChangeSpec := { name := "euclidBeginnings", fn := fun _ => fun
  | [d1, d2] => { results := [.lit (.bool true)], args := [d1, d2] }
  | _ => none }
def euclidBeginningsRow : OpenClaim := { program := "ytmkjmplkokfoiaa", sum := "c61fbc0c3b594896747fbe9b4281e76a04844e968edd332628029707c7ac39b8", func := "shapesearch/shapesearchlaw12.EuclidBeginnings", spec := "euclidBeginnings", recurses := true, apart := false }
def EuclidBeginningsSaid : Prop := euclidBeginningsRow.holds Try.pinned (OpenSpec.ofChange euclidBeginningsSpec)

/-- ITS FALSE NEIGHBOUR: 'it returns false'. Refute it at one input. -/
def euclidBeginningsWrong : ChangeSpec := { name := "euclidBeginnings", fn := fun _ => fun
  | [d1, d2] => { results := [.lit (.bool false)], args := [d1, d2] }
  | _ => none }
def EuclidBeginningsWrongFalsely : Prop := euclidBeginningsRow.holds Try.pinned (OpenSpec.ofChange euclidBeginningsWrong)

/-- 'shapesearchlaw12.EuclidProfiles': WHATEVER THE INPUT: true; the input reads as it did. -/
def euclidProfilesSpec : ChangeSpec := { name := "euclidProfiles", fn := fun _ => fun
  | [d1, d2] => { results := [.lit (.bool true)], args := [d1, d2] }
  | _ => none }
def euclidProfilesRow : OpenClaim := { program := "ytmkjmplkokfoiaa", sum := "c61fbc0c3b594896747fbe9b4281e76a04844e968edd332628029707c7ac39b8", func := "shapesearch/shapesearchlaw12.EuclidProfiles", spec := "euclidProfiles", apart := false }
def EuclidProfilesSaid : Prop := euclidProfilesRow.holds Try.pinned (OpenSpec.ofChange euclidProfilesSpec)

/-- ITS FALSE NEIGHBOUR: 'it returns false'. Refute it at one input. -/
def euclidProfilesWrong : ChangeSpec := { name := "euclidProfiles", fn := fun _ => fun
  | [d1, d2] => { results := [.lit (.bool false)], args := [d1, d2] }
  | _ => none }
def EuclidProfilesWrongFalsely : Prop := euclidProfilesRow.holds Try.pinned (OpenSpec.ofChange euclidProfilesWrong)

/-- 'shapesearchlaw12.EuclidAnswers': WHATEVER THE INPUT: true; the input reads as it did. -/
def euclidAnswersSpec : ChangeSpec := { name := "euclidAnswers", fn := fun _ => fun
  | [d1, d2, d3, d4] => { results := [.lit (.bool true)], args := [d1, d2, d3, d4] }
  | _ => none }
def euclidAnswersRow : OpenClaim := { program := "ytmkjmplkokfoiaa", sum := "c61fbc0c3b594896747fbe9b4281e76a04844e968edd332628029707c7ac39b8", func := "shapesearch/shapesearchlaw12.EuclidAnswers", spec := "euclidAnswers", apart := false }
def EuclidAnswersSaid : Prop := euclidAnswersRow.holds Try.pinned (OpenSpec.ofChange euclidAnswersSpec)

/-- ITS FALSE NEIGHBOUR: 'it returns false'. Refute it at one input. -/
def euclidAnswersWrong : ChangeSpec := { name := "euclidAnswers", fn := fun _ => fun
  | [d1, d2, d3, d4] => { results := [.lit (.bool false)], args := [d1, d2, d3, d4] }
  | _ => none }
def EuclidAnswersWrongFalsely : Prop := euclidAnswersRow.holds Try.pinned (OpenSpec.ofChange euclidAnswersWrong)

/- THE SECOND FORM. 'bulk': how many values and letters a reading holds, each counted each time it is reached (what is shared counts as often as it is met; a slice's spare places count too). A statement '..UptoSaid' is the law's where the arguments, and the package variables that the reading takes, are together of bulk at most 1048576: NARROWER than '..Said'. Prove '..Said' where nothing that the law and all that it calls make is longer than what came in: it says more and counts as full. Else prove '..UptoSaid'. A law counts once. -/
mutual
def uptoBulk {H : Type} : DataW H → Nat
  | .lit (.string bytes) => bytes.length + 1
  | .lit _ => 1
  | .nil => 1
  | .ptr d => uptoBulk d + 1
  | .slice elems spare => uptoBulkAll elems + uptoBulkAll spare + 1
  | .agg parts => uptoBulkAll parts + 1
  | .iface _ d => uptoBulk d + 1
  | .map entries => uptoBulkEntries entries + 1
  | .held _ => 1
def uptoBulkAll {H : Type} : List (DataW H) → Nat
  | [] => 0
  | d :: r => uptoBulk d + uptoBulkAll r
def uptoBulkEntries {H : Type} : List (Lit × DataW H) → Nat
  | [] => 0
  | x :: r => uptoBulkEntry x + uptoBulkEntries r
def uptoBulkEntry {H : Type} : Lit × DataW H → Nat
  | (.string bytes, d) => bytes.length + uptoBulk d + 1
  | (_, d) => uptoBulk d + 1
 end
def uptoSmall : (H : Type) → List (DataW H) → Bool := fun _ ds => decide (uptoBulkAll ds ≤ 1048576)
def OpenSpec.upto (s : _root_.Go.ChangeSpec) : _root_.Go.OpenSpec := { _root_.Go.OpenSpec.ofChange s with cond := some uptoSmall }

/-- 'shapesearchlaw12.EuclidTriangles', WHERE WHAT IT READS IS OF BULK AT MOST 1048576: true; the input reads as it did. -/
def euclidTrianglesUptoRow : OpenClaim := { program := "ytmkjmplkokfoiaa", sum := "c61fbc0c3b594896747fbe9b4281e76a04844e968edd332628029707c7ac39b8", func := "shapesearch/shapesearchlaw12.EuclidTriangles", spec := "euclidTriangles", apart := false, narrowed := true }
def EuclidTrianglesUptoSaid : Prop := euclidTrianglesUptoRow.holds Try.pinned (OpenSpec.upto euclidTrianglesSpec)

/-- 'shapesearchlaw12.EuclidShifts', WHERE WHAT IT READS IS OF BULK AT MOST 1048576: true; the input reads as it did. -/
def euclidShiftsUptoRow : OpenClaim := { program := "ytmkjmplkokfoiaa", sum := "c61fbc0c3b594896747fbe9b4281e76a04844e968edd332628029707c7ac39b8", func := "shapesearch/shapesearchlaw12.EuclidShifts", spec := "euclidShifts", recurses := true, apart := false, narrowed := true }
def EuclidShiftsUptoSaid : Prop := euclidShiftsUptoRow.holds Try.pinned (OpenSpec.upto euclidShiftsSpec)

/-- 'shapesearchlaw12.EuclidRoots', WHERE WHAT IT READS IS OF BULK AT MOST 1048576: true; the input reads as it did. -/
def euclidRootsUptoRow : OpenClaim := { program := "ytmkjmplkokfoiaa", sum := "c61fbc0c3b594896747fbe9b4281e76a04844e968edd332628029707c7ac39b8", func := "shapesearch/shapesearchlaw12.EuclidRoots", spec := "euclidRoots", apart := false, narrowed := true }
def EuclidRootsUptoSaid : Prop := euclidRootsUptoRow.holds Try.pinned (OpenSpec.upto euclidRootsSpec)

/-- 'shapesearchlaw12.EuclidBeginnings', WHERE WHAT IT READS IS OF BULK AT MOST 1048576: true; the input reads as it did. -/
def euclidBeginningsUptoRow : OpenClaim := { program := "ytmkjmplkokfoiaa", sum := "c61fbc0c3b594896747fbe9b4281e76a04844e968edd332628029707c7ac39b8", func := "shapesearch/shapesearchlaw12.EuclidBeginnings", spec := "euclidBeginnings", recurses := true, apart := false, narrowed := true }
def EuclidBeginningsUptoSaid : Prop := euclidBeginningsUptoRow.holds Try.pinned (OpenSpec.upto euclidBeginningsSpec)

/-- 'shapesearchlaw12.EuclidProfiles', WHERE WHAT IT READS IS OF BULK AT MOST 1048576: true; the input reads as it did. -/
def euclidProfilesUptoRow : OpenClaim := { program := "ytmkjmplkokfoiaa", sum := "c61fbc0c3b594896747fbe9b4281e76a04844e968edd332628029707c7ac39b8", func := "shapesearch/shapesearchlaw12.EuclidProfiles", spec := "euclidProfiles", apart := false, narrowed := true }
def EuclidProfilesUptoSaid : Prop := euclidProfilesUptoRow.holds Try.pinned (OpenSpec.upto euclidProfilesSpec)

/-- 'shapesearchlaw12.EuclidAnswers', WHERE WHAT IT READS IS OF BULK AT MOST 1048576: true; the input reads as it did. -/
def euclidAnswersUptoRow : OpenClaim := { program := "ytmkjmplkokfoiaa", sum := "c61fbc0c3b594896747fbe9b4281e76a04844e968edd332628029707c7ac39b8", func := "shapesearch/shapesearchlaw12.EuclidAnswers", spec := "euclidAnswers", apart := false, narrowed := true }
def EuclidAnswersUptoSaid : Prop := euclidAnswersUptoRow.holds Try.pinned (OpenSpec.upto euclidAnswersSpec)

end Rows
end Go.Proofs.Ytmkjmplkokfoiaa
