/-
  No cell of these rows narrows 'for every input' (looked for: loops, veiled, ifaces, maps, wideKeys, modest, calm, conditions, laid).
  DERIVED. THE GIVEN ROWS OF THIS SEAT. 5 by the template 'for every input the law returns true; each argument reads behind the call as it read before'; 0 by the template 'total and deterministic' (their statements: YtgmiilolikbekaaTotals.lean).
  GIVEN WITH THE SEED: the statements are not yours to turn. If you find one false, say at which input.
  Laid BY PROGRAM, IN A SANDBOX (cutbox-rows.mjs): the forced cells as the released guide's own fill.sh prints them over the translation 94d21bcbc3e5e852… (all of the seat's roots in one cut). By AI agents, Wed Nov 11 2026. No macro, syntax, notation, axiom, sorry.
-/
import Derived.Test.YtgmiilolikbekaaChecked
import GoSem.Claim
import GoSem.ClaimJoined
import GoSem.ClaimMapViews
import Derived.JoinedTies
import Derived.KernelRfl
namespace Go.Proofs.Ytgmiilolikbekaa
/- THE CELL 'sum', in the pinned program and in every row, IS THE sha256 OF THE DUMP (.gsa) THAT YtgmiilolikbekaaProg.lean LOADS. Nothing in Lean hashes anything: it is a label: what it is worth is what the hold of that sum in a sandbox is worth. -/
noncomputable def Try.pinned : Pinned := { name := "ytgmiilolikbekaa", sum := "94d21bcbc3e5e85297219a05f84f684b2df0168cf9a6e759535df0fdf4e65dc9", checked := Try.checked }
namespace Rows
def none {H : Type} : Left H := { results := [], args := [] }

/-- 'shapesearchlaw06.PacketCompact': WHATEVER THE INPUT: true; the input reads as it did. -/
def packetCompactSpec : ChangeSpec := { name := "packetCompact", fn := fun _ => fun
  | [d1, d2, d3, d4] => { results := [.lit (.bool true)], args := [d1, d2, d3, d4] }
  | _ => none }
def packetCompactRow : OpenClaim := { program := "ytgmiilolikbekaa", sum := "94d21bcbc3e5e85297219a05f84f684b2df0168cf9a6e759535df0fdf4e65dc9", func := "shapesearch/shapesearchlaw06.PacketCompact", spec := "packetCompact", apart := false }
def PacketCompactSaid : Prop := packetCompactRow.holds Try.pinned (OpenSpec.ofChange packetCompactSpec)

/-- ITS FALSE NEIGHBOUR: 'it returns false'. Refute it at one input. -/
def packetCompactWrong : ChangeSpec := { name := "packetCompact", fn := fun _ => fun
  | [d1, d2, d3, d4] => { results := [.lit (.bool false)], args := [d1, d2, d3, d4] }
  | _ => none }
def PacketCompactWrongFalsely : Prop := packetCompactRow.holds Try.pinned (OpenSpec.ofChange packetCompactWrong)

/-- 'shapesearchlaw06.PacketOrders': WHATEVER THE INPUT: true; the input reads as it did. -/
def packetOrdersSpec : ChangeSpec := { name := "packetOrders", fn := fun _ => fun
  | [d1, d2] => { results := [.lit (.bool true)], args := [d1, d2] }
  | _ => none }
def packetOrdersRow : OpenClaim := { program := "ytgmiilolikbekaa", sum := "94d21bcbc3e5e85297219a05f84f684b2df0168cf9a6e759535df0fdf4e65dc9", func := "shapesearch/shapesearchlaw06.PacketOrders", spec := "packetOrders", apart := false }
def PacketOrdersSaid : Prop := packetOrdersRow.holds Try.pinned (OpenSpec.ofChange packetOrdersSpec)

/-- ITS FALSE NEIGHBOUR: 'it returns false'. Refute it at one input. -/
def packetOrdersWrong : ChangeSpec := { name := "packetOrders", fn := fun _ => fun
  | [d1, d2] => { results := [.lit (.bool false)], args := [d1, d2] }
  | _ => none }
def PacketOrdersWrongFalsely : Prop := packetOrdersRow.holds Try.pinned (OpenSpec.ofChange packetOrdersWrong)

/-- 'shapesearchlaw06.PacketAnswers': WHATEVER THE INPUT: true; the input reads as it did. -/
def packetAnswersSpec : ChangeSpec := { name := "packetAnswers", fn := fun _ => fun
  | [d1, d2, d3] => { results := [.lit (.bool true)], args := [d1, d2, d3] }
  | _ => none }
def packetAnswersRow : OpenClaim := { program := "ytgmiilolikbekaa", sum := "94d21bcbc3e5e85297219a05f84f684b2df0168cf9a6e759535df0fdf4e65dc9", func := "shapesearch/shapesearchlaw06.PacketAnswers", spec := "packetAnswers", apart := false }
def PacketAnswersSaid : Prop := packetAnswersRow.holds Try.pinned (OpenSpec.ofChange packetAnswersSpec)

/-- ITS FALSE NEIGHBOUR: 'it returns false'. Refute it at one input. -/
def packetAnswersWrong : ChangeSpec := { name := "packetAnswers", fn := fun _ => fun
  | [d1, d2, d3] => { results := [.lit (.bool false)], args := [d1, d2, d3] }
  | _ => none }
def PacketAnswersWrongFalsely : Prop := packetAnswersRow.holds Try.pinned (OpenSpec.ofChange packetAnswersWrong)

/-- 'shapesearchlaw06.PacketBack': WHATEVER THE INPUT: true; the input reads as it did. -/
def packetBackSpec : ChangeSpec := { name := "packetBack", fn := fun _ => fun
  | [d1, d2] => { results := [.lit (.bool true)], args := [d1, d2] }
  | _ => none }
def packetBackRow : OpenClaim := { program := "ytgmiilolikbekaa", sum := "94d21bcbc3e5e85297219a05f84f684b2df0168cf9a6e759535df0fdf4e65dc9", func := "shapesearch/shapesearchlaw06.PacketBack", spec := "packetBack", apart := false }
def PacketBackSaid : Prop := packetBackRow.holds Try.pinned (OpenSpec.ofChange packetBackSpec)

/-- ITS FALSE NEIGHBOUR: 'it returns false'. Refute it at one input. -/
def packetBackWrong : ChangeSpec := { name := "packetBack", fn := fun _ => fun
  | [d1, d2] => { results := [.lit (.bool false)], args := [d1, d2] }
  | _ => none }
def PacketBackWrongFalsely : Prop := packetBackRow.holds Try.pinned (OpenSpec.ofChange packetBackWrong)

/-- 'shapesearchlaw06.PacketDamage': WHATEVER THE INPUT: true; the input reads as it did. -/
def packetDamageSpec : ChangeSpec := { name := "packetDamage", fn := fun _ => fun
  | [d1, d2, d3] => { results := [.lit (.bool true)], args := [d1, d2, d3] }
  | _ => none }
def packetDamageRow : OpenClaim := { program := "ytgmiilolikbekaa", sum := "94d21bcbc3e5e85297219a05f84f684b2df0168cf9a6e759535df0fdf4e65dc9", func := "shapesearch/shapesearchlaw06.PacketDamage", spec := "packetDamage", apart := false }
def PacketDamageSaid : Prop := packetDamageRow.holds Try.pinned (OpenSpec.ofChange packetDamageSpec)

/-- ITS FALSE NEIGHBOUR: 'it returns false'. Refute it at one input. -/
def packetDamageWrong : ChangeSpec := { name := "packetDamage", fn := fun _ => fun
  | [d1, d2, d3] => { results := [.lit (.bool false)], args := [d1, d2, d3] }
  | _ => none }
def PacketDamageWrongFalsely : Prop := packetDamageRow.holds Try.pinned (OpenSpec.ofChange packetDamageWrong)

/- THE SECOND FORM. 'bulk': how many values and letters a reading holds, each counted each time it is reached (what is shared counts as often as it is met; a slice's spare places count too). A statement '..UptoSaid' is the law's where the arguments, and the package variables that the reading takes, are together of bulk at most 1048576: NARROWER than '..Said'. Prove '..Said' where nothing that the law and all that it calls make is longer than what came in: it says more and counts as full. Else prove '..UptoSaid'. A law counts once. -/
mutual
def uptoBulk {H : Type} : DataW H → Nat
  | .lit (.string bytes) => bytes.length + 1
  | .lit _ => 1
  | .nil => 1
  | .ptr d => uptoBulk d + 1
  | .slice elems spare => uptoBulkAll elems + uptoBulkAll spare + 1
  | .agg parts => uptoBulkAll parts + 1
  | .iface _ d => uptoBulk d + 1
  | .map entries => uptoBulkEntries entries + 1
  | .held _ => 1
def uptoBulkAll {H : Type} : List (DataW H) → Nat
  | [] => 0
  | d :: r => uptoBulk d + uptoBulkAll r
def uptoBulkEntries {H : Type} : List (Lit × DataW H) → Nat
  | [] => 0
  | x :: r => uptoBulkEntry x + uptoBulkEntries r
def uptoBulkEntry {H : Type} : Lit × DataW H → Nat
  | (.string bytes, d) => bytes.length + uptoBulk d + 1
  | (_, d) => uptoBulk d + 1
 end
def uptoSmall : (H : Type) → List (DataW H) → Bool := fun _ ds => decide (uptoBulkAll ds ≤ 1048576)
def OpenSpec.upto (s : _root_.Go.ChangeSpec) : _root_.Go.OpenSpec := { _root_.Go.OpenSpec.ofChange s with cond := some uptoSmall }

/-- 'shapesearchlaw06.PacketCompact', WHERE WHAT IT READS IS OF BULK AT MOST 1048576: true; the input reads as it did. -/
def packetCompactUptoRow : OpenClaim := { program := "ytgmiilolikbekaa", sum := "94d21bcbc3e5e85297219a05f84f684b2df0168cf9a6e759535df0fdf4e65dc9", func := "shapesearch/shapesearchlaw06.PacketCompact", spec := "packetCompact", apart := false, narrowed := true }
def PacketCompactUptoSaid : Prop := packetCompactUptoRow.holds Try.pinned (OpenSpec.upto packetCompactSpec)

/-- 'shapesearchlaw06.PacketOrders', WHERE WHAT IT READS IS OF BULK AT MOST 1048576: true; the input reads as it did. -/
def packetOrdersUptoRow : OpenClaim := { program := "ytgmiilolikbekaa", sum := "94d21bcbc3e5e85297219a05f84f684b2df0168cf9a6e759535df0fdf4e65dc9", func := "shapesearch/shapesearchlaw06.PacketOrders", spec := "packetOrders", apart := false, narrowed := true }
def PacketOrdersUptoSaid : Prop := packetOrdersUptoRow.holds Try.pinned (OpenSpec.upto packetOrdersSpec)

/-- 'shapesearchlaw06.PacketAnswers', WHERE WHAT IT READS IS OF BULK AT MOST 1048576: true; the input reads as it did. -/
def packetAnswersUptoRow : OpenClaim := { program := "ytgmiilolikbekaa", sum := "94d21bcbc3e5e85297219a05f84f684b2df0168cf9a6e759535df0fdf4e65dc9", func := "shapesearch/shapesearchlaw06.PacketAnswers", spec := "packetAnswers", apart := false, narrowed := true }
def PacketAnswersUptoSaid : Prop := packetAnswersUptoRow.holds Try.pinned (OpenSpec.upto packetAnswersSpec)

/-- 'shapesearchlaw06.PacketBack', WHERE WHAT IT READS IS OF BULK AT MOST 1048576: true; the input reads as it did. -/
def packetBackUptoRow : OpenClaim := { program := "ytgmiilolikbekaa", sum := "94d21bcbc3e5e85297219a05f84f684b2df0168cf9a6e759535df0fdf4e65dc9", func := "shapesearch/shapesearchlaw06.PacketBack", spec := "packetBack", apart := false, narrowed := true }
def PacketBackUptoSaid : Prop := packetBackUptoRow.holds Try.pinned (OpenSpec.upto packetBackSpec)

/-- 'shapesearchlaw06.PacketDamage', WHERE WHAT IT READS IS OF BULK AT MOST 1048576: true; the input reads as it did. -/
def packetDamageUptoRow : OpenClaim := { program := "ytgmiilolikbekaa", sum := "94d21bcbc3e5e85297219a05f84f684b2df0168cf9a6e759535df0fdf4e65dc9", func := "shapesearch/shapesearchlaw06.PacketDamage", spec := "packetDamage", apart := false, narrowed := true }
def PacketDamageUptoSaid : Prop := packetDamageUptoRow.holds Try.pinned (OpenSpec.upto packetDamageSpec)

end Rows
end Go.Proofs.Ytgmiilolikbekaa
