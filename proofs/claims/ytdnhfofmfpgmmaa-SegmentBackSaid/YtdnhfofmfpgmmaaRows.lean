/-
  No cell of these rows narrows 'for every input' (looked for: loops, veiled, ifaces, maps, wideKeys, modest, calm, conditions, laid).
  DERIVED. THE GIVEN ROWS OF THIS SEAT. 7 by the template 'for every input the law returns true; each argument reads behind the call as it read before'; 0 by the template 'total and deterministic' (their statements: YtdnhfofmfpgmmaaTotals.lean).
  GIVEN WITH THE SEED: the statements are not yours to turn. If you find one false, say at which input.
  Laid BY PROGRAM, IN A SANDBOX (cutbox-rows.mjs): the forced cells as the released guide's own fill.sh prints them over the translation b73e2b5a02faf80c… (all of the seat's roots in one cut). By AI agents, Wed Nov 11 2026. No macro, syntax, notation, axiom, sorry.
-/
import Derived.Test.YtdnhfofmfpgmmaaChecked
import GoSem.Claim
import GoSem.ClaimJoined
import GoSem.ClaimMapViews
import Derived.JoinedTies
import Derived.KernelRfl
namespace Go.Proofs.Ytdnhfofmfpgmmaa
/- THE CELL 'sum', in the pinned program and in every row, IS THE sha256 OF THE DUMP (.gsa) THAT YtdnhfofmfpgmmaaProg.lean LOADS. Nothing in Lean hashes anything: it is a label: what it is worth is what the hold of that sum in a sandbox is worth. -/
noncomputable def Try.pinned : Pinned := { name := "ytdnhfofmfpgmmaa", sum := "b73e2b5a02faf80c68bec9c4d69dd36b99663938c4d535233cbc5fbaeed8830b", checked := Try.checked }
namespace Rows
def none {H : Type} : Left H := { results := [], args := [] }

/-- 'shapesearchlaw10.SegmentShort': WHATEVER THE INPUT: true; the input reads as it did. -/
def segmentShortSpec : ChangeSpec := { name := "segmentShort", fn := fun _ => fun
  | [d] => { results := [.lit (.bool true)], args := [d] }
  | _ => none }
def segmentShortRow : OpenClaim := { program := "ytdnhfofmfpgmmaa", sum := "b73e2b5a02faf80c68bec9c4d69dd36b99663938c4d535233cbc5fbaeed8830b", func := "shapesearch/shapesearchlaw10.SegmentShort", spec := "segmentShort", unfollowed := true, recurses := true, apart := false }
def SegmentShortSaid : Prop := segmentShortRow.holds Try.pinned (OpenSpec.ofChange segmentShortSpec)

/-- ITS FALSE NEIGHBOUR: 'it returns false'. Refute it at one input. -/
def segmentShortWrong : ChangeSpec := { name := "segmentShort", fn := fun _ => fun
  | [d] => { results := [.lit (.bool false)], args := [d] }
  | _ => none }
def SegmentShortWrongFalsely : Prop := segmentShortRow.holds Try.pinned (OpenSpec.ofChange segmentShortWrong)

/-- 'shapesearchlaw10.SegmentAnswers': WHATEVER THE INPUT: true; the input reads as it did. -/
def segmentAnswersSpec : ChangeSpec := { name := "segmentAnswers", fn := fun _ => fun
  | [d1, d2, d3] => { results := [.lit (.bool true)], args := [d1, d2, d3] }
  | _ => none }
def segmentAnswersRow : OpenClaim := { program := "ytdnhfofmfpgmmaa", sum := "b73e2b5a02faf80c68bec9c4d69dd36b99663938c4d535233cbc5fbaeed8830b", func := "shapesearch/shapesearchlaw10.SegmentAnswers", spec := "segmentAnswers", unfollowed := true, recurses := true, apart := false }
def SegmentAnswersSaid : Prop := segmentAnswersRow.holds Try.pinned (OpenSpec.ofChange segmentAnswersSpec)

/-- ITS FALSE NEIGHBOUR: 'it returns false'. Refute it at one input. -/
def segmentAnswersWrong : ChangeSpec := { name := "segmentAnswers", fn := fun _ => fun
  | [d1, d2, d3] => { results := [.lit (.bool false)], args := [d1, d2, d3] }
  | _ => none }
def SegmentAnswersWrongFalsely : Prop := segmentAnswersRow.holds Try.pinned (OpenSpec.ofChange segmentAnswersWrong)

/-- 'shapesearchlaw10.SegmentBack': WHATEVER THE INPUT: true; the input reads as it did. -/
def segmentBackSpec : ChangeSpec := { name := "segmentBack", fn := fun _ => fun
  | [d1, d2] => { results := [.lit (.bool true)], args := [d1, d2] }
  | _ => none }
def segmentBackRow : OpenClaim := { program := "ytdnhfofmfpgmmaa", sum := "b73e2b5a02faf80c68bec9c4d69dd36b99663938c4d535233cbc5fbaeed8830b", func := "shapesearch/shapesearchlaw10.SegmentBack", spec := "segmentBack", unfollowed := true, recurses := true, apart := false }
def SegmentBackSaid : Prop := segmentBackRow.holds Try.pinned (OpenSpec.ofChange segmentBackSpec)

/-- ITS FALSE NEIGHBOUR: 'it returns false'. Refute it at one input. -/
def segmentBackWrong : ChangeSpec := { name := "segmentBack", fn := fun _ => fun
  | [d1, d2] => { results := [.lit (.bool false)], args := [d1, d2] }
  | _ => none }
def SegmentBackWrongFalsely : Prop := segmentBackRow.holds Try.pinned (OpenSpec.ofChange segmentBackWrong)

/-- 'shapesearchlaw10.SegmentDamage': WHATEVER THE INPUT: true; the input reads as it did. -/
def segmentDamageSpec : ChangeSpec := { name := "segmentDamage", fn := fun _ => fun
  | [d1, d2, d3] => { results := [.lit (.bool true)], args := [d1, d2, d3] }
  | _ => none }
def segmentDamageRow : OpenClaim := { program := "ytdnhfofmfpgmmaa", sum := "b73e2b5a02faf80c68bec9c4d69dd36b99663938c4d535233cbc5fbaeed8830b", func := "shapesearch/shapesearchlaw10.SegmentDamage", spec := "segmentDamage", unfollowed := true, recurses := true, apart := false }
def SegmentDamageSaid : Prop := segmentDamageRow.holds Try.pinned (OpenSpec.ofChange segmentDamageSpec)

/-- ITS FALSE NEIGHBOUR: 'it returns false'. Refute it at one input. -/
def segmentDamageWrong : ChangeSpec := { name := "segmentDamage", fn := fun _ => fun
  | [d1, d2, d3] => { results := [.lit (.bool false)], args := [d1, d2, d3] }
  | _ => none }
def SegmentDamageWrongFalsely : Prop := segmentDamageRow.holds Try.pinned (OpenSpec.ofChange segmentDamageWrong)

/-- 'shapesearchlaw10.SegmentCuts': WHATEVER THE INPUT: true; the input reads as it did. -/
def segmentCutsSpec : ChangeSpec := { name := "segmentCuts", fn := fun _ => fun
  | [d] => { results := [.lit (.bool true)], args := [d] }
  | _ => none }
def segmentCutsRow : OpenClaim := { program := "ytdnhfofmfpgmmaa", sum := "b73e2b5a02faf80c68bec9c4d69dd36b99663938c4d535233cbc5fbaeed8830b", func := "shapesearch/shapesearchlaw10.SegmentCuts", spec := "segmentCuts", unfollowed := true, recurses := true, apart := false }
def SegmentCutsSaid : Prop := segmentCutsRow.holds Try.pinned (OpenSpec.ofChange segmentCutsSpec)

/-- ITS FALSE NEIGHBOUR: 'it returns false'. Refute it at one input. -/
def segmentCutsWrong : ChangeSpec := { name := "segmentCuts", fn := fun _ => fun
  | [d] => { results := [.lit (.bool false)], args := [d] }
  | _ => none }
def SegmentCutsWrongFalsely : Prop := segmentCutsRow.holds Try.pinned (OpenSpec.ofChange segmentCutsWrong)

/-- 'shapesearchlaw10.SegmentStores': WHATEVER THE INPUT: true; the input reads as it did. -/
def segmentStoresSpec : ChangeSpec := { name := "segmentStores", fn := fun _ => fun
  | [d1, d2, d3, d4, d5] => { results := [.lit (.bool true)], args := [d1, d2, d3, d4, d5] }
  | _ => none }
def segmentStoresRow : OpenClaim := { program := "ytdnhfofmfpgmmaa", sum := "b73e2b5a02faf80c68bec9c4d69dd36b99663938c4d535233cbc5fbaeed8830b", func := "shapesearch/shapesearchlaw10.SegmentStores", spec := "segmentStores", unfollowed := true, recurses := true, apart := false }
def SegmentStoresSaid : Prop := segmentStoresRow.holds Try.pinned (OpenSpec.ofChange segmentStoresSpec)

/-- ITS FALSE NEIGHBOUR: 'it returns false'. Refute it at one input. -/
def segmentStoresWrong : ChangeSpec := { name := "segmentStores", fn := fun _ => fun
  | [d1, d2, d3, d4, d5] => { results := [.lit (.bool false)], args := [d1, d2, d3, d4, d5] }
  | _ => none }
def SegmentStoresWrongFalsely : Prop := segmentStoresRow.holds Try.pinned (OpenSpec.ofChange segmentStoresWrong)

/-- 'shapesearchlaw10.SegmentLossless': WHATEVER THE INPUT: true; the input reads as it did. -/
def segmentLosslessSpec : ChangeSpec := { name := "segmentLossless", fn := fun _ => fun
  | [d] => { results := [.lit (.bool true)], args := [d] }
  | _ => none }
def segmentLosslessRow : OpenClaim := { program := "ytdnhfofmfpgmmaa", sum := "b73e2b5a02faf80c68bec9c4d69dd36b99663938c4d535233cbc5fbaeed8830b", func := "shapesearch/shapesearchlaw10.SegmentLossless", spec := "segmentLossless", unfollowed := true, recurses := true, apart := false }
def SegmentLosslessSaid : Prop := segmentLosslessRow.holds Try.pinned (OpenSpec.ofChange segmentLosslessSpec)

/-- ITS FALSE NEIGHBOUR: 'it returns false'. Refute it at one input. -/
def segmentLosslessWrong : ChangeSpec := { name := "segmentLossless", fn := fun _ => fun
  | [d] => { results := [.lit (.bool false)], args := [d] }
  | _ => none }
def SegmentLosslessWrongFalsely : Prop := segmentLosslessRow.holds Try.pinned (OpenSpec.ofChange segmentLosslessWrong)

/- THE SECOND FORM. 'bulk': how many values and letters a reading holds, each counted each time it is reached (what is shared counts as often as it is met; a slice's spare places count too). A statement '..UptoSaid' is the law's where the arguments, and the package variables that the reading takes, are together of bulk at most 1048576: NARROWER than '..Said'. Prove '..Said' where nothing that the law and all that it calls make is longer than what came in: it says more and counts as full. Else prove '..UptoSaid'. A law counts once. -/
mutual
def uptoBulk {H : Type} : DataW H → Nat
  | .lit (.string bytes) => bytes.length + 1
  | .lit _ => 1
  | .nil => 1
  | .ptr d => uptoBulk d + 1
  | .slice elems spare => uptoBulkAll elems + uptoBulkAll spare + 1
  | .agg parts => uptoBulkAll parts + 1
  | .iface _ d => uptoBulk d + 1
  | .map entries => uptoBulkEntries entries + 1
  | .held _ => 1
def uptoBulkAll {H : Type} : List (DataW H) → Nat
  | [] => 0
  | d :: r => uptoBulk d + uptoBulkAll r
def uptoBulkEntries {H : Type} : List (Lit × DataW H) → Nat
  | [] => 0
  | x :: r => uptoBulkEntry x + uptoBulkEntries r
def uptoBulkEntry {H : Type} : Lit × DataW H → Nat
  | (.string bytes, d) => bytes.length + uptoBulk d + 1
  | (_, d) => uptoBulk d + 1
 end
def uptoSmall : (H : Type) → List (DataW H) → Bool := fun _ ds => decide (uptoBulkAll ds ≤ 1048576)
def OpenSpec.upto (s : _root_.Go.ChangeSpec) : _root_.Go.OpenSpec := { _root_.Go.OpenSpec.ofChange s with cond := some uptoSmall }

/-- 'shapesearchlaw10.SegmentShort', WHERE WHAT IT READS IS OF BULK AT MOST 1048576: true; the input reads as it did. -/
def segmentShortUptoRow : OpenClaim := { program := "ytdnhfofmfpgmmaa", sum := "b73e2b5a02faf80c68bec9c4d69dd36b99663938c4d535233cbc5fbaeed8830b", func := "shapesearch/shapesearchlaw10.SegmentShort", spec := "segmentShort", unfollowed := true, recurses := true, apart := false, narrowed := true }
def SegmentShortUptoSaid : Prop := segmentShortUptoRow.holds Try.pinned (OpenSpec.upto segmentShortSpec)

/-- 'shapesearchlaw10.SegmentAnswers', WHERE WHAT IT READS IS OF BULK AT MOST 1048576: true; the input reads as it did. -/
def segmentAnswersUptoRow : OpenClaim := { program := "ytdnhfofmfpgmmaa", sum := "b73e2b5a02faf80c68bec9c4d69dd36b99663938c4d535233cbc5fbaeed8830b", func := "shapesearch/shapesearchlaw10.SegmentAnswers", spec := "segmentAnswers", unfollowed := true, recurses := true, apart := false, narrowed := true }
def SegmentAnswersUptoSaid : Prop := segmentAnswersUptoRow.holds Try.pinned (OpenSpec.upto segmentAnswersSpec)

/-- 'shapesearchlaw10.SegmentBack', WHERE WHAT IT READS IS OF BULK AT MOST 1048576: true; the input reads as it did. -/
def segmentBackUptoRow : OpenClaim := { program := "ytdnhfofmfpgmmaa", sum := "b73e2b5a02faf80c68bec9c4d69dd36b99663938c4d535233cbc5fbaeed8830b", func := "shapesearch/shapesearchlaw10.SegmentBack", spec := "segmentBack", unfollowed := true, recurses := true, apart := false, narrowed := true }
def SegmentBackUptoSaid : Prop := segmentBackUptoRow.holds Try.pinned (OpenSpec.upto segmentBackSpec)

/-- 'shapesearchlaw10.SegmentDamage', WHERE WHAT IT READS IS OF BULK AT MOST 1048576: true; the input reads as it did. -/
def segmentDamageUptoRow : OpenClaim := { program := "ytdnhfofmfpgmmaa", sum := "b73e2b5a02faf80c68bec9c4d69dd36b99663938c4d535233cbc5fbaeed8830b", func := "shapesearch/shapesearchlaw10.SegmentDamage", spec := "segmentDamage", unfollowed := true, recurses := true, apart := false, narrowed := true }
def SegmentDamageUptoSaid : Prop := segmentDamageUptoRow.holds Try.pinned (OpenSpec.upto segmentDamageSpec)

/-- 'shapesearchlaw10.SegmentCuts', WHERE WHAT IT READS IS OF BULK AT MOST 1048576: true; the input reads as it did. -/
def segmentCutsUptoRow : OpenClaim := { program := "ytdnhfofmfpgmmaa", sum := "b73e2b5a02faf80c68bec9c4d69dd36b99663938c4d535233cbc5fbaeed8830b", func := "shapesearch/shapesearchlaw10.SegmentCuts", spec := "segmentCuts", unfollowed := true, recurses := true, apart := false, narrowed := true }
def SegmentCutsUptoSaid : Prop := segmentCutsUptoRow.holds Try.pinned (OpenSpec.upto segmentCutsSpec)

/-- 'shapesearchlaw10.SegmentStores', WHERE WHAT IT READS IS OF BULK AT MOST 1048576: true; the input reads as it did. -/
def segmentStoresUptoRow : OpenClaim := { program := "ytdnhfofmfpgmmaa", sum := "b73e2b5a02faf80c68bec9c4d69dd36b99663938c4d535233cbc5fbaeed8830b", func := "shapesearch/shapesearchlaw10.SegmentStores", spec := "segmentStores", unfollowed := true, recurses := true, apart := false, narrowed := true }
def SegmentStoresUptoSaid : Prop := segmentStoresUptoRow.holds Try.pinned (OpenSpec.upto segmentStoresSpec)

/-- 'shapesearchlaw10.SegmentLossless', WHERE WHAT IT READS IS OF BULK AT MOST 1048576: true; the input reads as it did. -/
def segmentLosslessUptoRow : OpenClaim := { program := "ytdnhfofmfpgmmaa", sum := "b73e2b5a02faf80c68bec9c4d69dd36b99663938c4d535233cbc5fbaeed8830b", func := "shapesearch/shapesearchlaw10.SegmentLossless", spec := "segmentLossless", unfollowed := true, recurses := true, apart := false, narrowed := true }
def SegmentLosslessUptoSaid : Prop := segmentLosslessUptoRow.holds Try.pinned (OpenSpec.upto segmentLosslessSpec)

end Rows
end Go.Proofs.Ytdnhfofmfpgmmaa
