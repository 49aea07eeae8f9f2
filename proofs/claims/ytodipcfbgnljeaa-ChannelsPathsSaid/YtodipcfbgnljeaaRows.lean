/-
  No cell of these rows narrows 'for every input' (looked for: loops, veiled, ifaces, maps, wideKeys, modest, calm, conditions, laid).
  DERIVED. THE GIVEN ROWS OF THIS SEAT. 6 by the template 'for every input the law returns true; each argument reads behind the call as it read before'; 0 by the template 'total and deterministic' (their statements: YtodipcfbgnljeaaTotals.lean).
  GIVEN WITH THE SEED: the statements are not yours to turn. If you find one false, say at which input.
  Laid BY PROGRAM, IN A SANDBOX (cutbox-rows.mjs): the forced cells as the released guide's own fill.sh prints them over the translation 6dc6c64961fe22a4… (all of the seat's roots in one cut). By AI agents, Wed Nov 11 2026. No macro, syntax, notation, axiom, sorry.
-/
import Derived.Test.YtodipcfbgnljeaaChecked
import GoSem.Claim
import GoSem.ClaimJoined
import GoSem.ClaimMapViews
import Derived.JoinedTies
import Derived.KernelRfl
namespace Go.Proofs.Ytodipcfbgnljeaa
/- THE CELL 'sum', in the pinned program and in every row, IS THE sha256 OF THE DUMP (.gsa) THAT YtodipcfbgnljeaaProg.lean LOADS. Nothing in Lean hashes anything: it is a label: what it is worth is what the hold of that sum in a sandbox is worth. -/
noncomputable def Try.pinned : Pinned := { name := "ytodipcfbgnljeaa", sum := "6dc6c64961fe22a4e51ae8bd857c73026b32ee834806863510bacaa92a922584", checked := Try.checked }
namespace Rows
def none {H : Type} : Left H := { results := [], args := [] }

/-- 'shapesearchlaw16.ChannelsPaths': WHATEVER THE INPUT: true; the input reads as it did. -/
def channelsPathsSpec : ChangeSpec := { name := "channelsPaths", fn := fun _ => fun
  | [d] => { results := [.lit (.bool true)], args := [d] }
  | _ => none }
def channelsPathsRow : OpenClaim := { program := "ytodipcfbgnljeaa", sum := "6dc6c64961fe22a4e51ae8bd857c73026b32ee834806863510bacaa92a922584", func := "shapesearch/shapesearchlaw16.ChannelsPaths", spec := "channelsPaths", unfollowed := true, recurses := true, apart := false }
def ChannelsPathsSaid : Prop := channelsPathsRow.holds Try.pinned (OpenSpec.ofChange channelsPathsSpec)

/-- ITS FALSE NEIGHBOUR: 'it returns false'. Refute it at one input. -/
def channelsPathsWrong : ChangeSpec := { name := "channelsPaths", fn := fun _ => fun
  | [d] => { results := [.lit (.bool false)], args := [d] }
  | _ => none }
def ChannelsPathsWrongFalsely : Prop := channelsPathsRow.holds Try.pinned (OpenSpec.ofChange channelsPathsWrong)

/-- 'shapesearchlaw16.ChannelsSums': WHATEVER THE INPUT: true; the input reads as it did. -/
def channelsSumsSpec : ChangeSpec := { name := "channelsSums", fn := fun _ => fun
  | [d] => { results := [.lit (.bool true)], args := [d] }
  | _ => none }
def channelsSumsRow : OpenClaim := { program := "ytodipcfbgnljeaa", sum := "6dc6c64961fe22a4e51ae8bd857c73026b32ee834806863510bacaa92a922584", func := "shapesearch/shapesearchlaw16.ChannelsSums", spec := "channelsSums", unfollowed := true, recurses := true, apart := false }
def ChannelsSumsSaid : Prop := channelsSumsRow.holds Try.pinned (OpenSpec.ofChange channelsSumsSpec)

/-- ITS FALSE NEIGHBOUR: 'it returns false'. Refute it at one input. -/
def channelsSumsWrong : ChangeSpec := { name := "channelsSums", fn := fun _ => fun
  | [d] => { results := [.lit (.bool false)], args := [d] }
  | _ => none }
def ChannelsSumsWrongFalsely : Prop := channelsSumsRow.holds Try.pinned (OpenSpec.ofChange channelsSumsWrong)

/-- 'shapesearchlaw16.ChannelsMore': WHATEVER THE INPUT: true; the input reads as it did. -/
def channelsMoreSpec : ChangeSpec := { name := "channelsMore", fn := fun _ => fun
  | [d] => { results := [.lit (.bool true)], args := [d] }
  | _ => none }
def channelsMoreRow : OpenClaim := { program := "ytodipcfbgnljeaa", sum := "6dc6c64961fe22a4e51ae8bd857c73026b32ee834806863510bacaa92a922584", func := "shapesearch/shapesearchlaw16.ChannelsMore", spec := "channelsMore", unfollowed := true, recurses := true, apart := false }
def ChannelsMoreSaid : Prop := channelsMoreRow.holds Try.pinned (OpenSpec.ofChange channelsMoreSpec)

/-- ITS FALSE NEIGHBOUR: 'it returns false'. Refute it at one input. -/
def channelsMoreWrong : ChangeSpec := { name := "channelsMore", fn := fun _ => fun
  | [d] => { results := [.lit (.bool false)], args := [d] }
  | _ => none }
def ChannelsMoreWrongFalsely : Prop := channelsMoreRow.holds Try.pinned (OpenSpec.ofChange channelsMoreWrong)

/-- 'shapesearchlaw16.ChannelsGreatest': WHATEVER THE INPUT: true; the input reads as it did. -/
def channelsGreatestSpec : ChangeSpec := { name := "channelsGreatest", fn := fun _ => fun
  | [d] => { results := [.lit (.bool true)], args := [d] }
  | _ => none }
def channelsGreatestRow : OpenClaim := { program := "ytodipcfbgnljeaa", sum := "6dc6c64961fe22a4e51ae8bd857c73026b32ee834806863510bacaa92a922584", func := "shapesearch/shapesearchlaw16.ChannelsGreatest", spec := "channelsGreatest", unfollowed := true, recurses := true, apart := false }
def ChannelsGreatestSaid : Prop := channelsGreatestRow.holds Try.pinned (OpenSpec.ofChange channelsGreatestSpec)

/-- ITS FALSE NEIGHBOUR: 'it returns false'. Refute it at one input. -/
def channelsGreatestWrong : ChangeSpec := { name := "channelsGreatest", fn := fun _ => fun
  | [d] => { results := [.lit (.bool false)], args := [d] }
  | _ => none }
def ChannelsGreatestWrongFalsely : Prop := channelsGreatestRow.holds Try.pinned (OpenSpec.ofChange channelsGreatestWrong)

/-- 'shapesearchlaw16.ChannelsAnswers': WHATEVER THE INPUT: true; the input reads as it did. -/
def channelsAnswersSpec : ChangeSpec := { name := "channelsAnswers", fn := fun _ => fun
  | [d1, d2, d3, d4] => { results := [.lit (.bool true)], args := [d1, d2, d3, d4] }
  | _ => none }
def channelsAnswersRow : OpenClaim := { program := "ytodipcfbgnljeaa", sum := "6dc6c64961fe22a4e51ae8bd857c73026b32ee834806863510bacaa92a922584", func := "shapesearch/shapesearchlaw16.ChannelsAnswers", spec := "channelsAnswers", unfollowed := true, recurses := true, apart := false }
def ChannelsAnswersSaid : Prop := channelsAnswersRow.holds Try.pinned (OpenSpec.ofChange channelsAnswersSpec)

/-- ITS FALSE NEIGHBOUR: 'it returns false'. Refute it at one input. -/
def channelsAnswersWrong : ChangeSpec := { name := "channelsAnswers", fn := fun _ => fun
  | [d1, d2, d3, d4] => { results := [.lit (.bool false)], args := [d1, d2, d3, d4] }
  | _ => none }
def ChannelsAnswersWrongFalsely : Prop := channelsAnswersRow.holds Try.pinned (OpenSpec.ofChange channelsAnswersWrong)

/-- 'shapesearchlaw16.ChannelsOrder': WHATEVER THE INPUT: true; the input reads as it did. -/
def channelsOrderSpec : ChangeSpec := { name := "channelsOrder", fn := fun _ => fun
  | [d1, d2] => { results := [.lit (.bool true)], args := [d1, d2] }
  | _ => none }
def channelsOrderRow : OpenClaim := { program := "ytodipcfbgnljeaa", sum := "6dc6c64961fe22a4e51ae8bd857c73026b32ee834806863510bacaa92a922584", func := "shapesearch/shapesearchlaw16.ChannelsOrder", spec := "channelsOrder", unfollowed := true, recurses := true, apart := false }
def ChannelsOrderSaid : Prop := channelsOrderRow.holds Try.pinned (OpenSpec.ofChange channelsOrderSpec)

/-- ITS FALSE NEIGHBOUR: 'it returns false'. Refute it at one input. -/
def channelsOrderWrong : ChangeSpec := { name := "channelsOrder", fn := fun _ => fun
  | [d1, d2] => { results := [.lit (.bool false)], args := [d1, d2] }
  | _ => none }
def ChannelsOrderWrongFalsely : Prop := channelsOrderRow.holds Try.pinned (OpenSpec.ofChange channelsOrderWrong)

/- THE SECOND FORM. 'bulk': how many values and letters a reading holds, each counted each time it is reached (what is shared counts as often as it is met; a slice's spare places count too). A statement '..UptoSaid' is the law's where the arguments, and the package variables that the reading takes, are together of bulk at most 1048576: NARROWER than '..Said'. Prove '..Said' where nothing that the law and all that it calls make is longer than what came in: it says more and counts as full. Else prove '..UptoSaid'. A law counts once. -/
mutual
def uptoBulk {H : Type} : DataW H → Nat
  | .lit (.string bytes) => bytes.length + 1
  | .lit _ => 1
  | .nil => 1
  | .ptr d => uptoBulk d + 1
  | .slice elems spare => uptoBulkAll elems + uptoBulkAll spare + 1
  | .agg parts => uptoBulkAll parts + 1
  | .iface _ d => uptoBulk d + 1
  | .map entries => uptoBulkEntries entries + 1
  | .held _ => 1
def uptoBulkAll {H : Type} : List (DataW H) → Nat
  | [] => 0
  | d :: r => uptoBulk d + uptoBulkAll r
def uptoBulkEntries {H : Type} : List (Lit × DataW H) → Nat
  | [] => 0
  | x :: r => uptoBulkEntry x + uptoBulkEntries r
def uptoBulkEntry {H : Type} : Lit × DataW H → Nat
  | (.string bytes, d) => bytes.length + uptoBulk d + 1
  | (_, d) => uptoBulk d + 1
 end
def uptoSmall : (H : Type) → List (DataW H) → Bool := fun _ ds => decide (uptoBulkAll ds ≤ 1048576)
def OpenSpec.upto (s : _root_.Go.ChangeSpec) : _root_.Go.OpenSpec := { _root_.Go.OpenSpec.ofChange s with cond := some uptoSmall }

/-- 'shapesearchlaw16.ChannelsPaths', WHERE WHAT IT READS IS OF BULK AT MOST 1048576: true; the input reads as it did. -/
def channelsPathsUptoRow : OpenClaim := { program := "ytodipcfbgnljeaa", sum := "6dc6c64961fe22a4e51ae8bd857c73026b32ee834806863510bacaa92a922584", func := "shapesearch/shapesearchlaw16.ChannelsPaths", spec := "channelsPaths", unfollowed := true, recurses := true, apart := false, narrowed := true }
def ChannelsPathsUptoSaid : Prop := channelsPathsUptoRow.holds Try.pinned (OpenSpec.upto channelsPathsSpec)

/-- 'shapesearchlaw16.ChannelsSums', WHERE WHAT IT READS IS OF BULK AT MOST 1048576: true; the input reads as it did. -/
def channelsSumsUptoRow : OpenClaim := { program := "ytodipcfbgnljeaa", sum := "6dc6c64961fe22a4e51ae8bd857c73026b32ee834806863510bacaa92a922584", func := "shapesearch/shapesearchlaw16.ChannelsSums", spec := "channelsSums", unfollowed := true, recurses := true, apart := false, narrowed := true }
def ChannelsSumsUptoSaid : Prop := channelsSumsUptoRow.holds Try.pinned (OpenSpec.upto channelsSumsSpec)

/-- 'shapesearchlaw16.ChannelsMore', WHERE WHAT IT READS IS OF BULK AT MOST 1048576: true; the input reads as it did. -/
def channelsMoreUptoRow : OpenClaim := { program := "ytodipcfbgnljeaa", sum := "6dc6c64961fe22a4e51ae8bd857c73026b32ee834806863510bacaa92a922584", func := "shapesearch/shapesearchlaw16.ChannelsMore", spec := "channelsMore", unfollowed := true, recurses := true, apart := false, narrowed := true }
def ChannelsMoreUptoSaid : Prop := channelsMoreUptoRow.holds Try.pinned (OpenSpec.upto channelsMoreSpec)

/-- 'shapesearchlaw16.ChannelsGreatest', WHERE WHAT IT READS IS OF BULK AT MOST 1048576: true; the input reads as it did. -/
def channelsGreatestUptoRow : OpenClaim := { program := "ytodipcfbgnljeaa", sum := "6dc6c64961fe22a4e51ae8bd857c73026b32ee834806863510bacaa92a922584", func := "shapesearch/shapesearchlaw16.ChannelsGreatest", spec := "channelsGreatest", unfollowed := true, recurses := true, apart := false, narrowed := true }
def ChannelsGreatestUptoSaid : Prop := channelsGreatestUptoRow.holds Try.pinned (OpenSpec.upto channelsGreatestSpec)

/-- 'shapesearchlaw16.ChannelsAnswers', WHERE WHAT IT READS IS OF BULK AT MOST 1048576: true; the input reads as it did. -/
def channelsAnswersUptoRow : OpenClaim := { program := "ytodipcfbgnljeaa", sum := "6dc6c64961fe22a4e51ae8bd857c73026b32ee834806863510bacaa92a922584", func := "shapesearch/shapesearchlaw16.ChannelsAnswers", spec := "channelsAnswers", unfollowed := true, recurses := true, apart := false, narrowed := true }
def ChannelsAnswersUptoSaid : Prop := channelsAnswersUptoRow.holds Try.pinned (OpenSpec.upto channelsAnswersSpec)

/-- 'shapesearchlaw16.ChannelsOrder', WHERE WHAT IT READS IS OF BULK AT MOST 1048576: true; the input reads as it did. -/
def channelsOrderUptoRow : OpenClaim := { program := "ytodipcfbgnljeaa", sum := "6dc6c64961fe22a4e51ae8bd857c73026b32ee834806863510bacaa92a922584", func := "shapesearch/shapesearchlaw16.ChannelsOrder", spec := "channelsOrder", unfollowed := true, recurses := true, apart := false, narrowed := true }
def ChannelsOrderUptoSaid : Prop := channelsOrderUptoRow.holds Try.pinned (OpenSpec.upto channelsOrderSpec)

end Rows
end Go.Proofs.Ytodipcfbgnljeaa
