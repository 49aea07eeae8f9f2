/- This file proves what tells two rows of rows apart: the one was made whole before the other was begun. -/
import Derived.Test.YthpiafbloebpjaaXWords
set_option linter.unusedVariables false
set_option linter.unusedSimpArgs false
namespace Go.Proofs.YthpiafbloebpjaaW.PrintWords
open Go.RowKit
namespace Kd
section
variable {α : Type} {d : Kd α} {e : Nat} {w W : World} {base : Nat} {ok : Nat → Prop} {v : Value} {xs : List α}
/-- The world at which a row of rows is whole, by a letter. -/
theorem S_mid (h : S d e w base ok v xs) : ∃ m : World, m = w ∧ S d e m base (fun k => k < m.heap.size) v xs := ⟨w, rfl, S_mono (S_bound h) (fun _ hk => hk.2.2.1)⟩
/-- What was whole then, now, where since then one block besides has been written. -/
theorem S_mid_keep {g : Nat} (h : S d e w base (fun k => k < w.heap.size) v xs) (hk : KeepBut w W g none) {t : Nat} {cells : Array Value} (hb : w.heap[g]? = some (.cells cells t (0, 0))) (ht : ∀ q, q ∈ e :: d.E → q ≠ t) : S d e W base (fun k => k < w.heap.size) v xs :=
  S_mono (S_keep (S_types h hb ht) hk (fun _ hk => hk.2)) (fun _ hk => hk.1)
end
end Kd
end Go.Proofs.YthpiafbloebpjaaW.PrintWords
