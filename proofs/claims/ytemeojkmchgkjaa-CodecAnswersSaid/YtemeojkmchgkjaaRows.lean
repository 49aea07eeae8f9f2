/-
  No cell of these rows narrows 'for every input' (looked for: loops, veiled, ifaces, maps, wideKeys, modest, calm, conditions, laid).
  DERIVED. THE GIVEN ROWS OF THIS SEAT. 6 by the template 'for every input the law returns true; each argument reads behind the call as it read before'; 0 by the template 'total and deterministic' (their statements: YtemeojkmchgkjaaTotals.lean).
  GIVEN WITH THE SEED: the statements are not yours to turn. If you find one false, say at which input.
  Laid BY PROGRAM, IN A SANDBOX (cutbox-rows.mjs): the forced cells as the released guide's own fill.sh prints them over the translation 9cae366a1a73ceed… (all of the seat's roots in one cut). By AI agents, Wed Nov 11 2026. No macro, syntax, notation, axiom, sorry.
-/
import Derived.Test.YtemeojkmchgkjaaChecked
import GoSem.Claim
import GoSem.ClaimJoined
import GoSem.ClaimMapViews
import Derived.JoinedTies
import Derived.KernelRfl
namespace Go.Proofs.Ytemeojkmchgkjaa
/- THE CELL 'sum', in the pinned program and in every row, IS THE sha256 OF THE DUMP (.gsa) THAT YtemeojkmchgkjaaProg.lean LOADS. Nothing in Lean hashes anything: it is a label: what it is worth is what the hold of that sum in a sandbox is worth. -/
noncomputable def Try.pinned : Pinned := { name := "ytemeojkmchgkjaa", sum := "9cae366a1a73ceeda4e944272eae62ee0bba6528fe521698823ece01dbaa7447", checked := Try.checked }
namespace Rows
def none {H : Type} : Left H := { results := [], args := [] }

/-- 'shapesearchlaw03.CodecBack': WHATEVER THE INPUT: true; the input reads as it did. -/
def codecBackSpec : ChangeSpec := { name := "codecBack", fn := fun _ => fun
  | [d1, d2, d3, d4] => { results := [.lit (.bool true)], args := [d1, d2, d3, d4] }
  | _ => none }
def codecBackRow : OpenClaim := { program := "ytemeojkmchgkjaa", sum := "9cae366a1a73ceeda4e944272eae62ee0bba6528fe521698823ece01dbaa7447", func := "shapesearch/shapesearchlaw03.CodecBack", spec := "codecBack", apart := false }
def CodecBackSaid : Prop := codecBackRow.holds Try.pinned (OpenSpec.ofChange codecBackSpec)

/-- ITS FALSE NEIGHBOUR: 'it returns false'. Refute it at one input. -/
def codecBackWrong : ChangeSpec := { name := "codecBack", fn := fun _ => fun
  | [d1, d2, d3, d4] => { results := [.lit (.bool false)], args := [d1, d2, d3, d4] }
  | _ => none }
def CodecBackWrongFalsely : Prop := codecBackRow.holds Try.pinned (OpenSpec.ofChange codecBackWrong)

/-- 'shapesearchlaw03.CodecSums': WHATEVER THE INPUT: true; the input reads as it did. -/
def codecSumsSpec : ChangeSpec := { name := "codecSums", fn := fun _ => fun
  | [d1, d2, d3] => { results := [.lit (.bool true)], args := [d1, d2, d3] }
  | _ => none }
def codecSumsRow : OpenClaim := { program := "ytemeojkmchgkjaa", sum := "9cae366a1a73ceeda4e944272eae62ee0bba6528fe521698823ece01dbaa7447", func := "shapesearch/shapesearchlaw03.CodecSums", spec := "codecSums", apart := false }
def CodecSumsSaid : Prop := codecSumsRow.holds Try.pinned (OpenSpec.ofChange codecSumsSpec)

/-- ITS FALSE NEIGHBOUR: 'it returns false'. Refute it at one input. -/
def codecSumsWrong : ChangeSpec := { name := "codecSums", fn := fun _ => fun
  | [d1, d2, d3] => { results := [.lit (.bool false)], args := [d1, d2, d3] }
  | _ => none }
def CodecSumsWrongFalsely : Prop := codecSumsRow.holds Try.pinned (OpenSpec.ofChange codecSumsWrong)

/-- 'shapesearchlaw03.CodecLengths': WHATEVER THE INPUT: true; the input reads as it did. -/
def codecLengthsSpec : ChangeSpec := { name := "codecLengths", fn := fun _ => fun
  | [d1, d2] => { results := [.lit (.bool true)], args := [d1, d2] }
  | _ => none }
def codecLengthsRow : OpenClaim := { program := "ytemeojkmchgkjaa", sum := "9cae366a1a73ceeda4e944272eae62ee0bba6528fe521698823ece01dbaa7447", func := "shapesearch/shapesearchlaw03.CodecLengths", spec := "codecLengths", apart := false }
def CodecLengthsSaid : Prop := codecLengthsRow.holds Try.pinned (OpenSpec.ofChange codecLengthsSpec)

/-- ITS FALSE NEIGHBOUR: 'it returns false'. Refute it at one input. -/
def codecLengthsWrong : ChangeSpec := { name := "codecLengths", fn := fun _ => fun
  | [d1, d2] => { results := [.lit (.bool false)], args := [d1, d2] }
  | _ => none }
def CodecLengthsWrongFalsely : Prop := codecLengthsRow.holds Try.pinned (OpenSpec.ofChange codecLengthsWrong)

/-- 'shapesearchlaw03.CodecAnswers': WHATEVER THE INPUT: true; the input reads as it did. -/
def codecAnswersSpec : ChangeSpec := { name := "codecAnswers", fn := fun _ => fun
  | [d1, d2, d3, d4, d5, d6, d7] => { results := [.lit (.bool true)], args := [d1, d2, d3, d4, d5, d6, d7] }
  | _ => none }
def codecAnswersRow : OpenClaim := { program := "ytemeojkmchgkjaa", sum := "9cae366a1a73ceeda4e944272eae62ee0bba6528fe521698823ece01dbaa7447", func := "shapesearch/shapesearchlaw03.CodecAnswers", spec := "codecAnswers", unfollowed := true, recurses := true, apart := false }
def CodecAnswersSaid : Prop := codecAnswersRow.holds Try.pinned (OpenSpec.ofChange codecAnswersSpec)

/-- ITS FALSE NEIGHBOUR: 'it returns false'. Refute it at one input. -/
def codecAnswersWrong : ChangeSpec := { name := "codecAnswers", fn := fun _ => fun
  | [d1, d2, d3, d4, d5, d6, d7] => { results := [.lit (.bool false)], args := [d1, d2, d3, d4, d5, d6, d7] }
  | _ => none }
def CodecAnswersWrongFalsely : Prop := codecAnswersRow.holds Try.pinned (OpenSpec.ofChange codecAnswersWrong)

/-- 'shapesearchlaw03.CodecPacks': WHATEVER THE INPUT: true; the input reads as it did. -/
def codecPacksSpec : ChangeSpec := { name := "codecPacks", fn := fun _ => fun
  | [d] => { results := [.lit (.bool true)], args := [d] }
  | _ => none }
def codecPacksRow : OpenClaim := { program := "ytemeojkmchgkjaa", sum := "9cae366a1a73ceeda4e944272eae62ee0bba6528fe521698823ece01dbaa7447", func := "shapesearch/shapesearchlaw03.CodecPacks", spec := "codecPacks", unfollowed := true, recurses := true, apart := false }
def CodecPacksSaid : Prop := codecPacksRow.holds Try.pinned (OpenSpec.ofChange codecPacksSpec)

/-- ITS FALSE NEIGHBOUR: 'it returns false'. Refute it at one input. -/
def codecPacksWrong : ChangeSpec := { name := "codecPacks", fn := fun _ => fun
  | [d] => { results := [.lit (.bool false)], args := [d] }
  | _ => none }
def CodecPacksWrongFalsely : Prop := codecPacksRow.holds Try.pinned (OpenSpec.ofChange codecPacksWrong)

/-- 'shapesearchlaw03.CodecBits': WHATEVER THE INPUT: true; the input reads as it did. -/
def codecBitsSpec : ChangeSpec := { name := "codecBits", fn := fun _ => fun
  | [d1, d2] => { results := [.lit (.bool true)], args := [d1, d2] }
  | _ => none }
def codecBitsRow : OpenClaim := { program := "ytemeojkmchgkjaa", sum := "9cae366a1a73ceeda4e944272eae62ee0bba6528fe521698823ece01dbaa7447", func := "shapesearch/shapesearchlaw03.CodecBits", spec := "codecBits", unfollowed := true, recurses := true, apart := false }
def CodecBitsSaid : Prop := codecBitsRow.holds Try.pinned (OpenSpec.ofChange codecBitsSpec)

/-- ITS FALSE NEIGHBOUR: 'it returns false'. Refute it at one input. -/
def codecBitsWrong : ChangeSpec := { name := "codecBits", fn := fun _ => fun
  | [d1, d2] => { results := [.lit (.bool false)], args := [d1, d2] }
  | _ => none }
def CodecBitsWrongFalsely : Prop := codecBitsRow.holds Try.pinned (OpenSpec.ofChange codecBitsWrong)

/- THE SECOND FORM. 'bulk': how many values and letters a reading holds, each counted each time it is reached (what is shared counts as often as it is met; a slice's spare places count too). A statement '..UptoSaid' is the law's where the arguments, and the package variables that the reading takes, are together of bulk at most 1048576: NARROWER than '..Said'. Prove '..Said' where nothing that the law and all that it calls make is longer than what came in: it says more and counts as full. Else prove '..UptoSaid'. A law counts once. -/
mutual
def uptoBulk {H : Type} : DataW H → Nat
  | .lit (.string bytes) => bytes.length + 1
  | .lit _ => 1
  | .nil => 1
  | .ptr d => uptoBulk d + 1
  | .slice elems spare => uptoBulkAll elems + uptoBulkAll spare + 1
  | .agg parts => uptoBulkAll parts + 1
  | .iface _ d => uptoBulk d + 1
  | .map entries => uptoBulkEntries entries + 1
  | .held _ => 1
def uptoBulkAll {H : Type} : List (DataW H) → Nat
  | [] => 0
  | d :: r => uptoBulk d + uptoBulkAll r
def uptoBulkEntries {H : Type} : List (Lit × DataW H) → Nat
  | [] => 0
  | x :: r => uptoBulkEntry x + uptoBulkEntries r
def uptoBulkEntry {H : Type} : Lit × DataW H → Nat
  | (.string bytes, d) => bytes.length + uptoBulk d + 1
  | (_, d) => uptoBulk d + 1
 end
def uptoSmall : (H : Type) → List (DataW H) → Bool := fun _ ds => decide (uptoBulkAll ds ≤ 1048576)
def OpenSpec.upto (s : _root_.Go.ChangeSpec) : _root_.Go.OpenSpec := { _root_.Go.OpenSpec.ofChange s with cond := some uptoSmall }

/-- 'shapesearchlaw03.CodecBack', WHERE WHAT IT READS IS OF BULK AT MOST 1048576: true; the input reads as it did. -/
def codecBackUptoRow : OpenClaim := { program := "ytemeojkmchgkjaa", sum := "9cae366a1a73ceeda4e944272eae62ee0bba6528fe521698823ece01dbaa7447", func := "shapesearch/shapesearchlaw03.CodecBack", spec := "codecBack", apart := false, narrowed := true }
def CodecBackUptoSaid : Prop := codecBackUptoRow.holds Try.pinned (OpenSpec.upto codecBackSpec)

/-- 'shapesearchlaw03.CodecSums', WHERE WHAT IT READS IS OF BULK AT MOST 1048576: true; the input reads as it did. -/
def codecSumsUptoRow : OpenClaim := { program := "ytemeojkmchgkjaa", sum := "9cae366a1a73ceeda4e944272eae62ee0bba6528fe521698823ece01dbaa7447", func := "shapesearch/shapesearchlaw03.CodecSums", spec := "codecSums", apart := false, narrowed := true }
def CodecSumsUptoSaid : Prop := codecSumsUptoRow.holds Try.pinned (OpenSpec.upto codecSumsSpec)

/-- 'shapesearchlaw03.CodecLengths', WHERE WHAT IT READS IS OF BULK AT MOST 1048576: true; the input reads as it did. -/
def codecLengthsUptoRow : OpenClaim := { program := "ytemeojkmchgkjaa", sum := "9cae366a1a73ceeda4e944272eae62ee0bba6528fe521698823ece01dbaa7447", func := "shapesearch/shapesearchlaw03.CodecLengths", spec := "codecLengths", apart := false, narrowed := true }
def CodecLengthsUptoSaid : Prop := codecLengthsUptoRow.holds Try.pinned (OpenSpec.upto codecLengthsSpec)

/-- 'shapesearchlaw03.CodecAnswers', WHERE WHAT IT READS IS OF BULK AT MOST 1048576: true; the input reads as it did. -/
def codecAnswersUptoRow : OpenClaim := { program := "ytemeojkmchgkjaa", sum := "9cae366a1a73ceeda4e944272eae62ee0bba6528fe521698823ece01dbaa7447", func := "shapesearch/shapesearchlaw03.CodecAnswers", spec := "codecAnswers", unfollowed := true, recurses := true, apart := false, narrowed := true }
def CodecAnswersUptoSaid : Prop := codecAnswersUptoRow.holds Try.pinned (OpenSpec.upto codecAnswersSpec)

/-- 'shapesearchlaw03.CodecPacks', WHERE WHAT IT READS IS OF BULK AT MOST 1048576: true; the input reads as it did. -/
def codecPacksUptoRow : OpenClaim := { program := "ytemeojkmchgkjaa", sum := "9cae366a1a73ceeda4e944272eae62ee0bba6528fe521698823ece01dbaa7447", func := "shapesearch/shapesearchlaw03.CodecPacks", spec := "codecPacks", unfollowed := true, recurses := true, apart := false, narrowed := true }
def CodecPacksUptoSaid : Prop := codecPacksUptoRow.holds Try.pinned (OpenSpec.upto codecPacksSpec)

/-- 'shapesearchlaw03.CodecBits', WHERE WHAT IT READS IS OF BULK AT MOST 1048576: true; the input reads as it did. -/
def codecBitsUptoRow : OpenClaim := { program := "ytemeojkmchgkjaa", sum := "9cae366a1a73ceeda4e944272eae62ee0bba6528fe521698823ece01dbaa7447", func := "shapesearch/shapesearchlaw03.CodecBits", spec := "codecBits", unfollowed := true, recurses := true, apart := false, narrowed := true }
def CodecBitsUptoSaid : Prop := codecBitsUptoRow.holds Try.pinned (OpenSpec.upto codecBitsSpec)

end Rows
end Go.Proofs.Ytemeojkmchgkjaa
