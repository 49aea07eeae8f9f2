/-
  No cell of these rows narrows 'for every input' (looked for: loops, veiled, ifaces, maps, wideKeys, modest, calm, conditions, laid).
  DERIVED. THE GIVEN ROWS OF THIS SEAT. 6 by the template 'for every input the law returns true; each argument reads behind the call as it read before'; 0 by the template 'total and deterministic' (their statements: YtmmmapkobnepcaaTotals.lean).
  GIVEN WITH THE SEED: the statements are not yours to turn. If you find one false, say at which input.
  Laid BY PROGRAM, IN A SANDBOX (cutbox-rows.mjs): the forced cells as the released guide's own fill.sh prints them over the translation 25fcd3e620729561… (all of the seat's roots in one cut). By AI agents, Wed Nov 11 2026. No macro, syntax, notation, axiom, sorry.
-/
import Derived.Test.YtmmmapkobnepcaaChecked
import GoSem.Claim
import GoSem.ClaimJoined
import GoSem.ClaimMapViews
import Derived.JoinedTies
import Derived.KernelRfl
namespace Go.Proofs.Ytmmmapkobnepcaa
/- THE CELL 'sum', in the pinned program and in every row, IS THE sha256 OF THE DUMP (.gsa) THAT YtmmmapkobnepcaaProg.lean LOADS. Nothing in Lean hashes anything: it is a label: what it is worth is what the hold of that sum in a sandbox is worth. -/
noncomputable def Try.pinned : Pinned := { name := "ytmmmapkobnepcaa", sum := "25fcd3e620729561965ef323052c8e4f672f8e473ba5d7b62130081c49c61c2a", checked := Try.checked }
namespace Rows
def none {H : Type} : Left H := { results := [], args := [] }

/-- 'shapesearchlaw15.EditAll': WHATEVER THE INPUT: true; the input reads as it did. -/
def editAllSpec : ChangeSpec := { name := "editAll", fn := fun _ => fun
  | [d] => { results := [.lit (.bool true)], args := [d] }
  | _ => none }
def editAllRow : OpenClaim := { program := "ytmmmapkobnepcaa", sum := "25fcd3e620729561965ef323052c8e4f672f8e473ba5d7b62130081c49c61c2a", func := "shapesearch/shapesearchlaw15.EditAll", spec := "editAll", recurses := true, apart := false }
def EditAllSaid : Prop := editAllRow.holds Try.pinned (OpenSpec.ofChange editAllSpec)

/-- ITS FALSE NEIGHBOUR: 'it returns false'. Refute it at one input. -/
def editAllWrong : ChangeSpec := { name := "editAll", fn := fun _ => fun
  | [d] => { results := [.lit (.bool false)], args := [d] }
  | _ => none }
def EditAllWrongFalsely : Prop := editAllRow.holds Try.pinned (OpenSpec.ofChange editAllWrong)

/-- 'shapesearchlaw15.EditTriangles': WHATEVER THE INPUT: true; the input reads as it did. -/
def editTrianglesSpec : ChangeSpec := { name := "editTriangles", fn := fun _ => fun
  | [d1, d2] => { results := [.lit (.bool true)], args := [d1, d2] }
  | _ => none }
def editTrianglesRow : OpenClaim := { program := "ytmmmapkobnepcaa", sum := "25fcd3e620729561965ef323052c8e4f672f8e473ba5d7b62130081c49c61c2a", func := "shapesearch/shapesearchlaw15.EditTriangles", spec := "editTriangles", apart := false }
def EditTrianglesSaid : Prop := editTrianglesRow.holds Try.pinned (OpenSpec.ofChange editTrianglesSpec)

/-- ITS FALSE NEIGHBOUR: 'it returns false'. Refute it at one input. -/
def editTrianglesWrong : ChangeSpec := { name := "editTriangles", fn := fun _ => fun
  | [d1, d2] => { results := [.lit (.bool false)], args := [d1, d2] }
  | _ => none }
def EditTrianglesWrongFalsely : Prop := editTrianglesRow.holds Try.pinned (OpenSpec.ofChange editTrianglesWrong)

/-- 'shapesearchlaw15.EditMoves': WHATEVER THE INPUT: true; the input reads as it did. -/
def editMovesSpec : ChangeSpec := { name := "editMoves", fn := fun _ => fun
  | [d1, d2, d3] => { results := [.lit (.bool true)], args := [d1, d2, d3] }
  | _ => none }
def editMovesRow : OpenClaim := { program := "ytmmmapkobnepcaa", sum := "25fcd3e620729561965ef323052c8e4f672f8e473ba5d7b62130081c49c61c2a", func := "shapesearch/shapesearchlaw15.EditMoves", spec := "editMoves", apart := false }
def EditMovesSaid : Prop := editMovesRow.holds Try.pinned (OpenSpec.ofChange editMovesSpec)

/-- ITS FALSE NEIGHBOUR: 'it returns false'. Refute it at one input. -/
def editMovesWrong : ChangeSpec := { name := "editMoves", fn := fun _ => fun
  | [d1, d2, d3] => { results := [.lit (.bool false)], args := [d1, d2, d3] }
  | _ => none }
def EditMovesWrongFalsely : Prop := editMovesRow.holds Try.pinned (OpenSpec.ofChange editMovesWrong)

/-- 'shapesearchlaw15.EditBounds': WHATEVER THE INPUT: true; the input reads as it did. -/
def editBoundsSpec : ChangeSpec := { name := "editBounds", fn := fun _ => fun
  | [d] => { results := [.lit (.bool true)], args := [d] }
  | _ => none }
def editBoundsRow : OpenClaim := { program := "ytmmmapkobnepcaa", sum := "25fcd3e620729561965ef323052c8e4f672f8e473ba5d7b62130081c49c61c2a", func := "shapesearch/shapesearchlaw15.EditBounds", spec := "editBounds", apart := false }
def EditBoundsSaid : Prop := editBoundsRow.holds Try.pinned (OpenSpec.ofChange editBoundsSpec)

/-- ITS FALSE NEIGHBOUR: 'it returns false'. Refute it at one input. -/
def editBoundsWrong : ChangeSpec := { name := "editBounds", fn := fun _ => fun
  | [d] => { results := [.lit (.bool false)], args := [d] }
  | _ => none }
def EditBoundsWrongFalsely : Prop := editBoundsRow.holds Try.pinned (OpenSpec.ofChange editBoundsWrong)

/-- 'shapesearchlaw15.EditAnswers': WHATEVER THE INPUT: true; the input reads as it did. -/
def editAnswersSpec : ChangeSpec := { name := "editAnswers", fn := fun _ => fun
  | [d1, d2, d3, d4, d5] => { results := [.lit (.bool true)], args := [d1, d2, d3, d4, d5] }
  | _ => none }
def editAnswersRow : OpenClaim := { program := "ytmmmapkobnepcaa", sum := "25fcd3e620729561965ef323052c8e4f672f8e473ba5d7b62130081c49c61c2a", func := "shapesearch/shapesearchlaw15.EditAnswers", spec := "editAnswers", apart := false }
def EditAnswersSaid : Prop := editAnswersRow.holds Try.pinned (OpenSpec.ofChange editAnswersSpec)

/-- ITS FALSE NEIGHBOUR: 'it returns false'. Refute it at one input. -/
def editAnswersWrong : ChangeSpec := { name := "editAnswers", fn := fun _ => fun
  | [d1, d2, d3, d4, d5] => { results := [.lit (.bool false)], args := [d1, d2, d3, d4, d5] }
  | _ => none }
def EditAnswersWrongFalsely : Prop := editAnswersRow.holds Try.pinned (OpenSpec.ofChange editAnswersWrong)

/-- 'shapesearchlaw15.EditLeast': WHATEVER THE INPUT: true; the input reads as it did. -/
def editLeastSpec : ChangeSpec := { name := "editLeast", fn := fun _ => fun
  | [d1, d2] => { results := [.lit (.bool true)], args := [d1, d2] }
  | _ => none }
def editLeastRow : OpenClaim := { program := "ytmmmapkobnepcaa", sum := "25fcd3e620729561965ef323052c8e4f672f8e473ba5d7b62130081c49c61c2a", func := "shapesearch/shapesearchlaw15.EditLeast", spec := "editLeast", apart := false }
def EditLeastSaid : Prop := editLeastRow.holds Try.pinned (OpenSpec.ofChange editLeastSpec)

/-- ITS FALSE NEIGHBOUR: 'it returns false'. Refute it at one input. -/
def editLeastWrong : ChangeSpec := { name := "editLeast", fn := fun _ => fun
  | [d1, d2] => { results := [.lit (.bool false)], args := [d1, d2] }
  | _ => none }
def EditLeastWrongFalsely : Prop := editLeastRow.holds Try.pinned (OpenSpec.ofChange editLeastWrong)

/- THE SECOND FORM. 'bulk': how many values and letters a reading holds, each counted each time it is reached (what is shared counts as often as it is met; a slice's spare places count too). A statement '..UptoSaid' is the law's where the arguments, and the package variables that the reading takes, are together of bulk at most 1048576: NARROWER than '..Said'. Prove '..Said' where nothing that the law and all that it calls make is longer than what came in: it says more and counts as full. Else prove '..UptoSaid'. A law counts once. -/
mutual
def uptoBulk {H : Type} : DataW H → Nat
  | .lit (.string bytes) => bytes.length + 1
  | .lit _ => 1
  | .nil => 1
  | .ptr d => uptoBulk d + 1
  | .slice elems spare => uptoBulkAll elems + uptoBulkAll spare + 1
  | .agg parts => uptoBulkAll parts + 1
  | .iface _ d => uptoBulk d + 1
  | .map entries => uptoBulkEntries entries + 1
  | .held _ => 1
def uptoBulkAll {H : Type} : List (DataW H) → Nat
  | [] => 0
  | d :: r => uptoBulk d + uptoBulkAll r
def uptoBulkEntries {H : Type} : List (Lit × DataW H) → Nat
  | [] => 0
  | x :: r => uptoBulkEntry x + uptoBulkEntries r
def uptoBulkEntry {H : Type} : Lit × DataW H → Nat
  | (.string bytes, d) => bytes.length + uptoBulk d + 1
  | (_, d) => uptoBulk d + 1
 end
def uptoSmall : (H : Type) → List (DataW H) → Bool := fun _ ds => decide (uptoBulkAll ds ≤ 1048576)
def OpenSpec.upto (s : _root_.Go.ChangeSpec) : _root_.Go.OpenSpec := { _root_.Go.OpenSpec.ofChange s with cond := some uptoSmall }

/-- 'shapesearchlaw15.EditAll', WHERE WHAT IT READS IS OF BULK AT MOST 1048576: true; the input reads as it did. -/
def editAllUptoRow : OpenClaim := { program := "ytmmmapkobnepcaa", sum := "25fcd3e620729561965ef323052c8e4f672f8e473ba5d7b62130081c49c61c2a", func := "shapesearch/shapesearchlaw15.EditAll", spec := "editAll", recurses := true, apart := false, narrowed := true }
def EditAllUptoSaid : Prop := editAllUptoRow.holds Try.pinned (OpenSpec.upto editAllSpec)

/-- 'shapesearchlaw15.EditTriangles', WHERE WHAT IT READS IS OF BULK AT MOST 1048576: true; the input reads as it did. -/
def editTrianglesUptoRow : OpenClaim := { program := "ytmmmapkobnepcaa", sum := "25fcd3e620729561965ef323052c8e4f672f8e473ba5d7b62130081c49c61c2a", func := "shapesearch/shapesearchlaw15.EditTriangles", spec := "editTriangles", apart := false, narrowed := true }
def EditTrianglesUptoSaid : Prop := editTrianglesUptoRow.holds Try.pinned (OpenSpec.upto editTrianglesSpec)

/-- 'shapesearchlaw15.EditMoves', WHERE WHAT IT READS IS OF BULK AT MOST 1048576: true; the input reads as it did. -/
def editMovesUptoRow : OpenClaim := { program := "ytmmmapkobnepcaa", sum := "25fcd3e620729561965ef323052c8e4f672f8e473ba5d7b62130081c49c61c2a", func := "shapesearch/shapesearchlaw15.EditMoves", spec := "editMoves", apart := false, narrowed := true }
def EditMovesUptoSaid : Prop := editMovesUptoRow.holds Try.pinned (OpenSpec.upto editMovesSpec)

/-- 'shapesearchlaw15.EditBounds', WHERE WHAT IT READS IS OF BULK AT MOST 1048576: true; the input reads as it did. -/
def editBoundsUptoRow : OpenClaim := { program := "ytmmmapkobnepcaa", sum := "25fcd3e620729561965ef323052c8e4f672f8e473ba5d7b62130081c49c61c2a", func := "shapesearch/shapesearchlaw15.EditBounds", spec := "editBounds", apart := false, narrowed := true }
def EditBoundsUptoSaid : Prop := editBoundsUptoRow.holds Try.pinned (OpenSpec.upto editBoundsSpec)

/-- 'shapesearchlaw15.EditAnswers', WHERE WHAT IT READS IS OF BULK AT MOST 1048576: true; the input reads as it did. -/
def editAnswersUptoRow : OpenClaim := { program := "ytmmmapkobnepcaa", sum := "25fcd3e620729561965ef323052c8e4f672f8e473ba5d7b62130081c49c61c2a", func := "shapesearch/shapesearchlaw15.EditAnswers", spec := "editAnswers", apart := false, narrowed := true }
def EditAnswersUptoSaid : Prop := editAnswersUptoRow.holds Try.pinned (OpenSpec.upto editAnswersSpec)

/-- 'shapesearchlaw15.EditLeast', WHERE WHAT IT READS IS OF BULK AT MOST 1048576: true; the input reads as it did. -/
def editLeastUptoRow : OpenClaim := { program := "ytmmmapkobnepcaa", sum := "25fcd3e620729561965ef323052c8e4f672f8e473ba5d7b62130081c49c61c2a", func := "shapesearch/shapesearchlaw15.EditLeast", spec := "editLeast", apart := false, narrowed := true }
def EditLeastUptoSaid : Prop := editLeastUptoRow.holds Try.pinned (OpenSpec.upto editLeastSpec)

end Rows
end Go.Proofs.Ytmmmapkobnepcaa
