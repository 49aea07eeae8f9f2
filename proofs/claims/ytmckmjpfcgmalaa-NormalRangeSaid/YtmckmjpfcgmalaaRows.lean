/-
  No cell of these rows narrows 'for every input' (looked for: loops, veiled, ifaces, maps, wideKeys, modest, calm, conditions, laid).
  DERIVED. THE GIVEN ROWS OF THIS SEAT. 6 by the template 'for every input the law returns true; each argument reads behind the call as it read before'; 0 by the template 'total and deterministic' (their statements: YtmckmjpfcgmalaaTotals.lean).
  GIVEN WITH THE SEED: the statements are not yours to turn. If you find one false, say at which input.
  Laid BY PROGRAM, IN A SANDBOX (cutbox-rows.mjs): the forced cells as the released guide's own fill.sh prints them over the translation e424b8de5fca8461… (all of the seat's roots in one cut). By AI agents, Wed Nov 11 2026. No macro, syntax, notation, axiom, sorry.
-/
import Derived.Test.YtmckmjpfcgmalaaChecked
import GoSem.Claim
import GoSem.ClaimJoined
import GoSem.ClaimMapViews
import Derived.JoinedTies
import Derived.KernelRfl
namespace Go.Proofs.Ytmckmjpfcgmalaa
/- THE CELL 'sum', in the pinned program and in every row, IS THE sha256 OF THE DUMP (.gsa) THAT YtmckmjpfcgmalaaProg.lean LOADS. Nothing in Lean hashes anything: it is a label: what it is worth is what the hold of that sum in a sandbox is worth. -/
noncomputable def Try.pinned : Pinned := { name := "ytmckmjpfcgmalaa", sum := "e424b8de5fca8461b34b9f91209046b0c263cec59e96280e1c573c0d37261da9", checked := Try.checked }
namespace Rows
def none {H : Type} : Left H := { results := [], args := [] }

/-- 'shapesearchlaw13.NormalScales': WHATEVER THE INPUT: true; the input reads as it did. -/
def normalScalesSpec : ChangeSpec := { name := "normalScales", fn := fun _ => fun
  | [d1, d2, d3] => { results := [.lit (.bool true)], args := [d1, d2, d3] }
  | _ => none }
def normalScalesRow : OpenClaim := { program := "ytmckmjpfcgmalaa", sum := "e424b8de5fca8461b34b9f91209046b0c263cec59e96280e1c573c0d37261da9", func := "shapesearch/shapesearchlaw13.NormalScales", spec := "normalScales", apart := false }
def NormalScalesSaid : Prop := normalScalesRow.holds Try.pinned (OpenSpec.ofChange normalScalesSpec)

/-- ITS FALSE NEIGHBOUR: 'it returns false'. Refute it at one input. -/
def normalScalesWrong : ChangeSpec := { name := "normalScales", fn := fun _ => fun
  | [d1, d2, d3] => { results := [.lit (.bool false)], args := [d1, d2, d3] }
  | _ => none }
def NormalScalesWrongFalsely : Prop := normalScalesRow.holds Try.pinned (OpenSpec.ofChange normalScalesWrong)

/-- 'shapesearchlaw13.NormalCentres': WHATEVER THE INPUT: true; the input reads as it did. -/
def normalCentresSpec : ChangeSpec := { name := "normalCentres", fn := fun _ => fun
  | [d] => { results := [.lit (.bool true)], args := [d] }
  | _ => none }
def normalCentresRow : OpenClaim := { program := "ytmckmjpfcgmalaa", sum := "e424b8de5fca8461b34b9f91209046b0c263cec59e96280e1c573c0d37261da9", func := "shapesearch/shapesearchlaw13.NormalCentres", spec := "normalCentres", apart := false }
def NormalCentresSaid : Prop := normalCentresRow.holds Try.pinned (OpenSpec.ofChange normalCentresSpec)

/-- ITS FALSE NEIGHBOUR: 'it returns false'. Refute it at one input. -/
def normalCentresWrong : ChangeSpec := { name := "normalCentres", fn := fun _ => fun
  | [d] => { results := [.lit (.bool false)], args := [d] }
  | _ => none }
def NormalCentresWrongFalsely : Prop := normalCentresRow.holds Try.pinned (OpenSpec.ofChange normalCentresWrong)

/-- 'shapesearchlaw13.NormalRange': WHATEVER THE INPUT: true; the input reads as it did. -/
def normalRangeSpec : ChangeSpec := { name := "normalRange", fn := fun _ => fun
  | [d] => { results := [.lit (.bool true)], args := [d] }
  | _ => none }
def normalRangeRow : OpenClaim := { program := "ytmckmjpfcgmalaa", sum := "e424b8de5fca8461b34b9f91209046b0c263cec59e96280e1c573c0d37261da9", func := "shapesearch/shapesearchlaw13.NormalRange", spec := "normalRange", recurses := true, apart := false }
def NormalRangeSaid : Prop := normalRangeRow.holds Try.pinned (OpenSpec.ofChange normalRangeSpec)

/-- ITS FALSE NEIGHBOUR: 'it returns false'. Refute it at one input. -/
def normalRangeWrong : ChangeSpec := { name := "normalRange", fn := fun _ => fun
  | [d] => { results := [.lit (.bool false)], args := [d] }
  | _ => none }
def NormalRangeWrongFalsely : Prop := normalRangeRow.holds Try.pinned (OpenSpec.ofChange normalRangeWrong)

/-- 'shapesearchlaw13.NormalOrders': WHATEVER THE INPUT: true; the input reads as it did. -/
def normalOrdersSpec : ChangeSpec := { name := "normalOrders", fn := fun _ => fun
  | [d1, d2] => { results := [.lit (.bool true)], args := [d1, d2] }
  | _ => none }
def normalOrdersRow : OpenClaim := { program := "ytmckmjpfcgmalaa", sum := "e424b8de5fca8461b34b9f91209046b0c263cec59e96280e1c573c0d37261da9", func := "shapesearch/shapesearchlaw13.NormalOrders", spec := "normalOrders", recurses := true, apart := false }
def NormalOrdersSaid : Prop := normalOrdersRow.holds Try.pinned (OpenSpec.ofChange normalOrdersSpec)

/-- ITS FALSE NEIGHBOUR: 'it returns false'. Refute it at one input. -/
def normalOrdersWrong : ChangeSpec := { name := "normalOrders", fn := fun _ => fun
  | [d1, d2] => { results := [.lit (.bool false)], args := [d1, d2] }
  | _ => none }
def NormalOrdersWrongFalsely : Prop := normalOrdersRow.holds Try.pinned (OpenSpec.ofChange normalOrdersWrong)

/-- 'shapesearchlaw13.NormalProfiles': WHATEVER THE INPUT: true; the input reads as it did. -/
def normalProfilesSpec : ChangeSpec := { name := "normalProfiles", fn := fun _ => fun
  | [d1, d2] => { results := [.lit (.bool true)], args := [d1, d2] }
  | _ => none }
def normalProfilesRow : OpenClaim := { program := "ytmckmjpfcgmalaa", sum := "e424b8de5fca8461b34b9f91209046b0c263cec59e96280e1c573c0d37261da9", func := "shapesearch/shapesearchlaw13.NormalProfiles", spec := "normalProfiles", inPlace := ["(*sync.WaitGroup).Add", "internal/race.ReleaseMerge", "internal/race.Disable", "internal/race.Enable", "internal/synctest.IsInBubble", "internal/synctest.Associate[sync.WaitGroup]", "sync.fatal", "sync/atomic.OrUint64", "sync/atomic.AddUint64", "internal/race.Read", "sync/atomic.LoadUint64", "sync/atomic.StoreUint64", "internal/synctest.Disassociate[sync.WaitGroup]", "sync.runtime_Semrelease", "(*sync.WaitGroup).Done", "(*sync.WaitGroup).Wait", "internal/race.Acquire", "internal/synctest.IsAssociated[sync.WaitGroup]", "sync/atomic.CompareAndSwapUint64", "internal/race.Write", "sync.runtime_SemacquireWaitGroup"], unfollowed := true, recurses := true, leaving := true, apart := false }
def NormalProfilesSaid : Prop := normalProfilesRow.holds Try.pinned (OpenSpec.ofChange normalProfilesSpec)

/-- ITS FALSE NEIGHBOUR: 'it returns false'. Refute it at one input. -/
def normalProfilesWrong : ChangeSpec := { name := "normalProfiles", fn := fun _ => fun
  | [d1, d2] => { results := [.lit (.bool false)], args := [d1, d2] }
  | _ => none }
def NormalProfilesWrongFalsely : Prop := normalProfilesRow.holds Try.pinned (OpenSpec.ofChange normalProfilesWrong)

/-- 'shapesearchlaw13.NormalAnswers': WHATEVER THE INPUT: true; the input reads as it did. -/
def normalAnswersSpec : ChangeSpec := { name := "normalAnswers", fn := fun _ => fun
  | [d1, d2, d3] => { results := [.lit (.bool true)], args := [d1, d2, d3] }
  | _ => none }
def normalAnswersRow : OpenClaim := { program := "ytmckmjpfcgmalaa", sum := "e424b8de5fca8461b34b9f91209046b0c263cec59e96280e1c573c0d37261da9", func := "shapesearch/shapesearchlaw13.NormalAnswers", spec := "normalAnswers", inPlace := ["(*sync.WaitGroup).Add", "internal/race.ReleaseMerge", "internal/race.Disable", "internal/race.Enable", "internal/synctest.IsInBubble", "internal/synctest.Associate[sync.WaitGroup]", "sync.fatal", "sync/atomic.OrUint64", "sync/atomic.AddUint64", "internal/race.Read", "sync/atomic.LoadUint64", "sync/atomic.StoreUint64", "internal/synctest.Disassociate[sync.WaitGroup]", "sync.runtime_Semrelease", "(*sync.WaitGroup).Done", "(*sync.WaitGroup).Wait", "internal/race.Acquire", "internal/synctest.IsAssociated[sync.WaitGroup]", "sync/atomic.CompareAndSwapUint64", "internal/race.Write", "sync.runtime_SemacquireWaitGroup"], unfollowed := true, recurses := true, leaving := true, apart := false }
def NormalAnswersSaid : Prop := normalAnswersRow.holds Try.pinned (OpenSpec.ofChange normalAnswersSpec)

/-- ITS FALSE NEIGHBOUR: 'it returns false'. Refute it at one input. -/
def normalAnswersWrong : ChangeSpec := { name := "normalAnswers", fn := fun _ => fun
  | [d1, d2, d3] => { results := [.lit (.bool false)], args := [d1, d2, d3] }
  | _ => none }
def NormalAnswersWrongFalsely : Prop := normalAnswersRow.holds Try.pinned (OpenSpec.ofChange normalAnswersWrong)

/- THE SECOND FORM. 'bulk': how many values and letters a reading holds, each counted each time it is reached (what is shared counts as often as it is met; a slice's spare places count too). A statement '..UptoSaid' is the law's where the arguments, and the package variables that the reading takes, are together of bulk at most 1048576: NARROWER than '..Said'. Prove '..Said' where nothing that the law and all that it calls make is longer than what came in: it says more and counts as full. Else prove '..UptoSaid'. A law counts once. -/
mutual
def uptoBulk {H : Type} : DataW H → Nat
  | .lit (.string bytes) => bytes.length + 1
  | .lit _ => 1
  | .nil => 1
  | .ptr d => uptoBulk d + 1
  | .slice elems spare => uptoBulkAll elems + uptoBulkAll spare + 1
  | .agg parts => uptoBulkAll parts + 1
  | .iface _ d => uptoBulk d + 1
  | .map entries => uptoBulkEntries entries + 1
  | .held _ => 1
def uptoBulkAll {H : Type} : List (DataW H) → Nat
  | [] => 0
  | d :: r => uptoBulk d + uptoBulkAll r
def uptoBulkEntries {H : Type} : List (Lit × DataW H) → Nat
  | [] => 0
  | x :: r => uptoBulkEntry x + uptoBulkEntries r
def uptoBulkEntry {H : Type} : Lit × DataW H → Nat
  | (.string bytes, d) => bytes.length + uptoBulk d + 1
  | (_, d) => uptoBulk d + 1
 end
def uptoSmall : (H : Type) → List (DataW H) → Bool := fun _ ds => decide (uptoBulkAll ds ≤ 1048576)
def OpenSpec.upto (s : _root_.Go.ChangeSpec) : _root_.Go.OpenSpec := { _root_.Go.OpenSpec.ofChange s with cond := some uptoSmall }

/-- 'shapesearchlaw13.NormalScales', WHERE WHAT IT READS IS OF BULK AT MOST 1048576: true; the input reads as it did. -/
def normalScalesUptoRow : OpenClaim := { program := "ytmckmjpfcgmalaa", sum := "e424b8de5fca8461b34b9f91209046b0c263cec59e96280e1c573c0d37261da9", func := "shapesearch/shapesearchlaw13.NormalScales", spec := "normalScales", apart := false, narrowed := true }
def NormalScalesUptoSaid : Prop := normalScalesUptoRow.holds Try.pinned (OpenSpec.upto normalScalesSpec)

/-- 'shapesearchlaw13.NormalCentres', WHERE WHAT IT READS IS OF BULK AT MOST 1048576: true; the input reads as it did. -/
def normalCentresUptoRow : OpenClaim := { program := "ytmckmjpfcgmalaa", sum := "e424b8de5fca8461b34b9f91209046b0c263cec59e96280e1c573c0d37261da9", func := "shapesearch/shapesearchlaw13.NormalCentres", spec := "normalCentres", apart := false, narrowed := true }
def NormalCentresUptoSaid : Prop := normalCentresUptoRow.holds Try.pinned (OpenSpec.upto normalCentresSpec)

/-- 'shapesearchlaw13.NormalRange', WHERE WHAT IT READS IS OF BULK AT MOST 1048576: true; the input reads as it did. -/
def normalRangeUptoRow : OpenClaim := { program := "ytmckmjpfcgmalaa", sum := "e424b8de5fca8461b34b9f91209046b0c263cec59e96280e1c573c0d37261da9", func := "shapesearch/shapesearchlaw13.NormalRange", spec := "normalRange", recurses := true, apart := false, narrowed := true }
def NormalRangeUptoSaid : Prop := normalRangeUptoRow.holds Try.pinned (OpenSpec.upto normalRangeSpec)

/-- 'shapesearchlaw13.NormalOrders', WHERE WHAT IT READS IS OF BULK AT MOST 1048576: true; the input reads as it did. -/
def normalOrdersUptoRow : OpenClaim := { program := "ytmckmjpfcgmalaa", sum := "e424b8de5fca8461b34b9f91209046b0c263cec59e96280e1c573c0d37261da9", func := "shapesearch/shapesearchlaw13.NormalOrders", spec := "normalOrders", recurses := true, apart := false, narrowed := true }
def NormalOrdersUptoSaid : Prop := normalOrdersUptoRow.holds Try.pinned (OpenSpec.upto normalOrdersSpec)

/-- 'shapesearchlaw13.NormalProfiles', WHERE WHAT IT READS IS OF BULK AT MOST 1048576: true; the input reads as it did. -/
def normalProfilesUptoRow : OpenClaim := { program := "ytmckmjpfcgmalaa", sum := "e424b8de5fca8461b34b9f91209046b0c263cec59e96280e1c573c0d37261da9", func := "shapesearch/shapesearchlaw13.NormalProfiles", spec := "normalProfiles", inPlace := ["(*sync.WaitGroup).Add", "internal/race.ReleaseMerge", "internal/race.Disable", "internal/race.Enable", "internal/synctest.IsInBubble", "internal/synctest.Associate[sync.WaitGroup]", "sync.fatal", "sync/atomic.OrUint64", "sync/atomic.AddUint64", "internal/race.Read", "sync/atomic.LoadUint64", "sync/atomic.StoreUint64", "internal/synctest.Disassociate[sync.WaitGroup]", "sync.runtime_Semrelease", "(*sync.WaitGroup).Done", "(*sync.WaitGroup).Wait", "internal/race.Acquire", "internal/synctest.IsAssociated[sync.WaitGroup]", "sync/atomic.CompareAndSwapUint64", "internal/race.Write", "sync.runtime_SemacquireWaitGroup"], unfollowed := true, recurses := true, leaving := true, apart := false, narrowed := true }
def NormalProfilesUptoSaid : Prop := normalProfilesUptoRow.holds Try.pinned (OpenSpec.upto normalProfilesSpec)

/-- 'shapesearchlaw13.NormalAnswers', WHERE WHAT IT READS IS OF BULK AT MOST 1048576: true; the input reads as it did. -/
def normalAnswersUptoRow : OpenClaim := { program := "ytmckmjpfcgmalaa", sum := "e424b8de5fca8461b34b9f91209046b0c263cec59e96280e1c573c0d37261da9", func := "shapesearch/shapesearchlaw13.NormalAnswers", spec := "normalAnswers", inPlace := ["(*sync.WaitGroup).Add", "internal/race.ReleaseMerge", "internal/race.Disable", "internal/race.Enable", "internal/synctest.IsInBubble", "internal/synctest.Associate[sync.WaitGroup]", "sync.fatal", "sync/atomic.OrUint64", "sync/atomic.AddUint64", "internal/race.Read", "sync/atomic.LoadUint64", "sync/atomic.StoreUint64", "internal/synctest.Disassociate[sync.WaitGroup]", "sync.runtime_Semrelease", "(*sync.WaitGroup).Done", "(*sync.WaitGroup).Wait", "internal/race.Acquire", "internal/synctest.IsAssociated[sync.WaitGroup]", "sync/atomic.CompareAndSwapUint64", "internal/race.Write", "sync.runtime_SemacquireWaitGroup"], unfollowed := true, recurses := true, leaving := true, apart := false, narrowed := true }
def NormalAnswersUptoSaid : Prop := normalAnswersUptoRow.holds Try.pinned (OpenSpec.upto normalAnswersSpec)

end Rows
end Go.Proofs.Ytmckmjpfcgmalaa
