/-
  No cell of these rows narrows 'for every input' (looked for: loops, veiled, ifaces, maps, wideKeys, modest, calm, conditions, laid).
  DERIVED. THE GIVEN ROWS OF THIS SEAT. 3 by the template 'for every input the law returns true; each argument reads behind the call as it read before'; 0 by the template 'total and deterministic' (their statements: YthpiafbloebpjaaTotals.lean).
  GIVEN WITH THE SEED: the statements are not yours to turn. If you find one false, say at which input.
  Laid BY PROGRAM, IN A SANDBOX (cutbox-rows.mjs): the forced cells as the released guide's own fill.sh prints them over the translation 3670a9febbe3419d… (all of the seat's roots in one cut). By AI agents, Wed Nov 11 2026. No macro, syntax, notation, axiom, sorry.
-/
import Derived.Test.YthpiafbloebpjaaChecked
import GoSem.Claim
import GoSem.ClaimJoined
import GoSem.ClaimMapViews
import Derived.JoinedTies
import Derived.KernelRfl
namespace Go.Proofs.Ythpiafbloebpjaa
/- THE CELL 'sum', in the pinned program and in every row, IS THE sha256 OF THE DUMP (.gsa) THAT YthpiafbloebpjaaProg.lean LOADS. Nothing in Lean hashes anything: it is a label: what it is worth is what the hold of that sum in a sandbox is worth. -/
noncomputable def Try.pinned : Pinned := { name := "ythpiafbloebpjaa", sum := "3670a9febbe3419da933ae5daf04a48cffa6f1a1c5357ac825cfff1b2ec4bda5", checked := Try.checked }
namespace Rows
def none {H : Type} : Left H := { results := [], args := [] }

/-- 'shapesearchlaw24.DeviceRaw': WHATEVER THE INPUT: true; the input reads as it did. -/
def deviceRawSpec : ChangeSpec := { name := "deviceRaw", fn := fun _ => fun
  | [d1, d2, d3, d4, d5] => { results := [.lit (.bool true)], args := [d1, d2, d3, d4, d5] }
  | _ => none }
def deviceRawRow : OpenClaim := { program := "ythpiafbloebpjaa", sum := "3670a9febbe3419da933ae5daf04a48cffa6f1a1c5357ac825cfff1b2ec4bda5", func := "shapesearch/shapesearchlaw24.DeviceRaw", spec := "deviceRaw", unfollowed := true, recurses := true, apart := false }
def DeviceRawSaid : Prop := deviceRawRow.holds Try.pinned (OpenSpec.ofChange deviceRawSpec)

/-- ITS FALSE NEIGHBOUR: 'it returns false'. Refute it at one input. -/
def deviceRawWrong : ChangeSpec := { name := "deviceRaw", fn := fun _ => fun
  | [d1, d2, d3, d4, d5] => { results := [.lit (.bool false)], args := [d1, d2, d3, d4, d5] }
  | _ => none }
def DeviceRawWrongFalsely : Prop := deviceRawRow.holds Try.pinned (OpenSpec.ofChange deviceRawWrong)

/-- 'shapesearchlaw24.DeviceSteps': WHATEVER THE INPUT: true; the input reads as it did. -/
def deviceStepsSpec : ChangeSpec := { name := "deviceSteps", fn := fun _ => fun
  | [d1, d2] => { results := [.lit (.bool true)], args := [d1, d2] }
  | _ => none }
def deviceStepsRow : OpenClaim := { program := "ythpiafbloebpjaa", sum := "3670a9febbe3419da933ae5daf04a48cffa6f1a1c5357ac825cfff1b2ec4bda5", func := "shapesearch/shapesearchlaw24.DeviceSteps", spec := "deviceSteps", unfollowed := true, recurses := true, apart := false }
def DeviceStepsSaid : Prop := deviceStepsRow.holds Try.pinned (OpenSpec.ofChange deviceStepsSpec)

/-- ITS FALSE NEIGHBOUR: 'it returns false'. Refute it at one input. -/
def deviceStepsWrong : ChangeSpec := { name := "deviceSteps", fn := fun _ => fun
  | [d1, d2] => { results := [.lit (.bool false)], args := [d1, d2] }
  | _ => none }
def DeviceStepsWrongFalsely : Prop := deviceStepsRow.holds Try.pinned (OpenSpec.ofChange deviceStepsWrong)

/-- 'shapesearchlaw24.DeviceKeeps': WHATEVER THE INPUT: true; the input reads as it did. -/
def deviceKeepsSpec : ChangeSpec := { name := "deviceKeeps", fn := fun _ => fun
  | [d1, d2, d3, d4] => { results := [.lit (.bool true)], args := [d1, d2, d3, d4] }
  | _ => none }
def deviceKeepsRow : OpenClaim := { program := "ythpiafbloebpjaa", sum := "3670a9febbe3419da933ae5daf04a48cffa6f1a1c5357ac825cfff1b2ec4bda5", func := "shapesearch/shapesearchlaw24.DeviceKeeps", spec := "deviceKeeps", unfollowed := true, recurses := true, apart := false }
def DeviceKeepsSaid : Prop := deviceKeepsRow.holds Try.pinned (OpenSpec.ofChange deviceKeepsSpec)

/-- ITS FALSE NEIGHBOUR: 'it returns false'. Refute it at one input. -/
def deviceKeepsWrong : ChangeSpec := { name := "deviceKeeps", fn := fun _ => fun
  | [d1, d2, d3, d4] => { results := [.lit (.bool false)], args := [d1, d2, d3, d4] }
  | _ => none }
def DeviceKeepsWrongFalsely : Prop := deviceKeepsRow.holds Try.pinned (OpenSpec.ofChange deviceKeepsWrong)

/- THE SECOND FORM. 'bulk': how many values and letters a reading holds, each counted each time it is reached (what is shared counts as often as it is met; a slice's spare places count too). A statement '..UptoSaid' is the law's where the arguments, and the package variables that the reading takes, are together of bulk at most 1048576: NARROWER than '..Said'. Prove '..Said' where nothing that the law and all that it calls make is longer than what came in: it says more and counts as full. Else prove '..UptoSaid'. A law counts once. -/
mutual
def uptoBulk {H : Type} : DataW H → Nat
  | .lit (.string bytes) => bytes.length + 1
  | .lit _ => 1
  | .nil => 1
  | .ptr d => uptoBulk d + 1
  | .slice elems spare => uptoBulkAll elems + uptoBulkAll spare + 1
  | .agg parts => uptoBulkAll parts + 1
  | .iface _ d => uptoBulk d + 1
  | .map entries => uptoBulkEntries entries + 1
  | .held _ => 1
def uptoBulkAll {H : Type} : List (DataW H) → Nat
  | [] => 0
  | d :: r => uptoBulk d + uptoBulkAll r
def uptoBulkEntries {H : Type} : List (Lit × DataW H) → Nat
  | [] => 0
  | x :: r => uptoBulkEntry x + uptoBulkEntries r
def uptoBulkEntry {H : Type} : Lit × DataW H → Nat
  | (.string bytes, d) => bytes.length + uptoBulk d + 1
  | (_, d) => uptoBulk d + 1
 end
def uptoSmall : (H : Type) → List (DataW H) → Bool := fun _ ds => decide (uptoBulkAll ds ≤ 1048576)
def OpenSpec.upto (s : _root_.Go.ChangeSpec) : _root_.Go.OpenSpec := { _root_.Go.OpenSpec.ofChange s with cond := some uptoSmall }

/-- 'shapesearchlaw24.DeviceRaw', WHERE WHAT IT READS IS OF BULK AT MOST 1048576: true; the input reads as it did. -/
def deviceRawUptoRow : OpenClaim := { program := "ythpiafbloebpjaa", sum := "3670a9febbe3419da933ae5daf04a48cffa6f1a1c5357ac825cfff1b2ec4bda5", func := "shapesearch/shapesearchlaw24.DeviceRaw", spec := "deviceRaw", unfollowed := true, recurses := true, apart := false, narrowed := true }
def DeviceRawUptoSaid : Prop := deviceRawUptoRow.holds Try.pinned (OpenSpec.upto deviceRawSpec)

/-- 'shapesearchlaw24.DeviceSteps', WHERE WHAT IT READS IS OF BULK AT MOST 1048576: true; the input reads as it did. -/
def deviceStepsUptoRow : OpenClaim := { program := "ythpiafbloebpjaa", sum := "3670a9febbe3419da933ae5daf04a48cffa6f1a1c5357ac825cfff1b2ec4bda5", func := "shapesearch/shapesearchlaw24.DeviceSteps", spec := "deviceSteps", unfollowed := true, recurses := true, apart := false, narrowed := true }
def DeviceStepsUptoSaid : Prop := deviceStepsUptoRow.holds Try.pinned (OpenSpec.upto deviceStepsSpec)

/-- 'shapesearchlaw24.DeviceKeeps', WHERE WHAT IT READS IS OF BULK AT MOST 1048576: true; the input reads as it did. -/
def deviceKeepsUptoRow : OpenClaim := { program := "ythpiafbloebpjaa", sum := "3670a9febbe3419da933ae5daf04a48cffa6f1a1c5357ac825cfff1b2ec4bda5", func := "shapesearch/shapesearchlaw24.DeviceKeeps", spec := "deviceKeeps", unfollowed := true, recurses := true, apart := false, narrowed := true }
def DeviceKeepsUptoSaid : Prop := deviceKeepsUptoRow.holds Try.pinned (OpenSpec.upto deviceKeepsSpec)

end Rows
end Go.Proofs.Ythpiafbloebpjaa
