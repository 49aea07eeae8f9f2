/- This file proves what a literal of rows leaves where it stands in a statement of open order. -/
import Derived.Test.YtdnhfofmfpgmmaaXLit
set_option linter.unusedVariables false
set_option linter.unusedSimpArgs false
namespace Go.Proofs.YtdnhfofmfpgmmaaW.PrintWords
open Go.RowKit
section
variable {P : Program} {ops : Array Oper} {o : Oper} {a : Act} {Q : Exit → Act → World → Prop} {Kc : Act → World → Prop}
theorem lit_seen_step {α : Type} {W : World} (e : Nat) (hw : Region.wanted o (yielded ops a.tmps) = true) {xs ys : List α} {inner : List Value} (hy : xs = ys)
    (hrun : (execOp a.eval o).run P W = .ok (.value (.slice (some ⟨W.heap.size, 0, none⟩) ys.length ys.length)) (W.alloc (.cells inner.toArray e)))
    (h : ∀ A c w1, xs.length ≤ c → LitRow w1 A inner e → Below W.heap.size W w1 → Kc (a.put o.dst (.slice A xs.length c)) w1) : if Region.wanted o (yielded ops a.tmps) = true then Oper.wp P o a W Kc Q else Kc (a.put o.dst undef) W := by
  subst hy
  exact event_step hw hrun (h _ _ _ (Nat.le_refl _) ⟨_, rfl, heap_alloc_new W _⟩ (below_alloc (Below.refl _ _) _))
end
end Go.Proofs.YtdnhfofmfpgmmaaW.PrintWords
/-! ### what is seen, behind a variable that was made since and is written -/
namespace Go.Proofs.YtdnhfofmfpgmmaaW.PrintWords
open Go.RowKit
/-- The row lay in a world ahead of the variable g; what has changed since lies at g or behind it. -/
def CF {α : Type} (K : Kd α) (A : Option Addr) (n : Nat) (xs : List α) (g : Nat) (W : World) : Prop := ∃ W0 : World, g = W0.heap.size ∧ Kd.C K W0 A n xs ∧ Below W0.heap.size W0 W
section
variable {α : Type} {K : Kd α} {A : Option Addr} {n : Nat} {xs : List α} {g : Nat} {W W1 : World}
theorem CF.new (h : Kd.C K W A n xs) (hg : g = W.heap.size) (hb : Below W.heap.size W W1) : CF K A n xs g W1 := ⟨W, hg, h, hb⟩
theorem CF.C (h : CF K A n xs g W) : Kd.C K W A n xs := by
  obtain ⟨W0, _, hC, hb⟩ := h
  exact Kd.C_below hC hb
theorem CF.set (h : CF K A n xs g W) (j : Nat) (v : Value) : CF K A n xs g (W.setCell ⟨g, j, none⟩ v) := by
  obtain ⟨W0, hg, hC, hb⟩ := h
  exact ⟨W0, hg, hC, below_set hb (Nat.le_of_eq hg.symm)⟩
theorem CF.alloc (h : CF K A n xs g W) (o : Obj) : CF K A n xs g (W.alloc o) := by
  obtain ⟨W0, hg, hC, hb⟩ := h
  exact ⟨W0, hg, hC, below_alloc hb o⟩
theorem CF.drewN (h : CF K A n xs g W) (m : Nat) : CF K A n xs g (W.drewN m) := by
  obtain ⟨W0, hg, hC, hb⟩ := h
  exact ⟨W0, hg, hC, pw_below_drewN hb m⟩
theorem CF.drew (h : CF K A n xs g W) : CF K A n xs g W.drew := by
  obtain ⟨W0, hg, hC, hb⟩ := h
  exact ⟨W0, hg, hC, below_drew hb⟩
end
end Go.Proofs.YtdnhfofmfpgmmaaW.PrintWords
