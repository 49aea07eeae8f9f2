/- This file proves what a conversion of a constant string to bytes leaves: the translator lays a literal's row and converts it to its own type, which marks the place behind its last cell. -/
import Derived.Test.YtgmiilolikbekaaXWords
import Derived.Lib.SlBytesConst
set_option linter.unusedVariables false
set_option linter.unusedSimpArgs false
namespace Go.Proofs.YtgmiilolikbekaaW.PrintWords
open Go.RowKit
section
variable {P : Program} {ops : Array Oper} {rest : List Oper} {o o2 : Oper} {a : Act} {Q : Exit → Act → World → Prop}
theorem cell_marked (W : World) (C : Array Value) (e j n : Nat) (x : Value) (h : C[j]? = some x) : (W.alloc (.cells C e (n, n + 1))).cell? ⟨W.heap.size, j, none⟩ = some x := by
  have h1 : (W.alloc (.cells C e (n, n + 1))).heap[W.heap.size]? = some (.cells C e (n, n + 1)) := by
    show (W.heap.push _)[W.heap.size]? = _
    simp
  unfold World.cell?
  simp only [h1]
  simpa using h
/-- Between the literal and its conversion. -/
def LitAt (W w1 : World) (A : Option Addr) (c e : Nat) (xs : List Int) : Prop := A = some ⟨W.heap.size, 0, none⟩ ∧ c = xs.length ∧ w1 = W.alloc (.cells (xs.map (Value.int .u8)).toArray e)
theorem lit_only {W : World} (e : Nat) (hgd : o.guard = none) {xs ys : List Int} {inner : List Value} (hy : xs = ys) (hin : ys.map (Value.int .u8) = inner)
    (hrun : (execOp a.eval o).run P W = .ok (.value (.slice (some ⟨W.heap.size, 0, none⟩) ys.length ys.length)) (W.alloc (.cells inner.toArray e)))
    (h : ∀ A c w1, LitAt W w1 A c e xs → wpList P ops Q rest (a.put o.dst (.slice A xs.length c)) w1) : wpList P ops Q (o :: rest) a W := by
  subst hy hin
  exact Kd.event_run hgd hrun (h _ _ _ ⟨rfl, rfl, rfl⟩)
theorem conv_only {W w1 : World} {A : Option Addr} {c e : Nat} {xs : List Int} (hl : LitAt W w1 A c e xs) (T : Nat) (hgd : o.guard = none) {x : Operand} (hop : o.op = .convert T T x)
    (ht : P.underlying T = some (.slice e)) (he : P.underlying e = some (.int .u8))
    (htm : a.eval x = .slice A xs.length c) (hm : xs.length ≤ 9223372036854775807)
    (h : ∀ w2, xs.length ≤ c → (Kd.int .u8).C w2 A xs.length xs → Below W.heap.size W w2 → wpList P ops Q rest (a.put o.dst (.slice A xs.length c)) w2) : wpList P ops Q (o :: rest) a w1 := by
  obtain ⟨rfl, rfl, rfl⟩ := hl
  have hs : (xs.map (Value.int .u8)).toArray.size = xs.length := by simp
  refine Kd.event_run hgd (w1 := W.alloc (.cells (xs.map (Value.int .u8)).toArray e (xs.length, xs.length + 1))) ?_ (h _ (Nat.le_refl _) ?_ (below_alloc (Below.refl _ _) _))
  · have hc := Lib.run_convert_bytes_const (P := P) W T e (xs.map (Value.int .u8)).toArray xs.length xs.length ht he
    rw [hs] at hc
    unfold execOp
    rw [hop]
    simp only [htm]
    simp [hc]
  · refine Kd.C_of_reads (d := 0) ⟨rfl, hm, fun hn => ⟨_, rfl, fun j hj => ?_⟩⟩
    have : (Addr.add ⟨W.heap.size, 0, none⟩ j) = ⟨W.heap.size, j, none⟩ := by simp [Addr.add] <;> omega
    rw [this]
    refine cell_marked W _ e j _ _ ?_
    simp [List.getElem?_eq_getElem hj, List.getD_eq_getElem?_getD]
end
end Go.Proofs.YtgmiilolikbekaaW.PrintWords
