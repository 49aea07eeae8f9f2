/- This file proves small laws about single Go operations that the walks of this claim use: a cut with three indices. -/
import Derived.Test.YtdnhfofmfpgmmaaWMore
import Derived.WalkMore
set_option linter.unusedVariables false
set_option linter.unusedSimpArgs false
namespace Go.Proofs.YtdnhfofmfpgmmaaW.PrintWords
open Go.RowKit
variable {P : Program}
theorem own_len_ne {x : Nat} {A : Option Addr} {n m c c' : Nat} (h : some x ≠ (Value.slice A n c).ownBlock) : some x ≠ (Value.slice A m c').ownBlock := by
  cases A <;> exact h
theorem print_mid3_of {α : Type} (enc : α → Value) (d : α) (t e : TypeId) (kl kh : IntKind) {i : TypeInfo} (ht : P.underlying t = some (.slice e)) (hi : P.info? e = some i) (hsz : i.size = 1) (A : Option Addr) (c : Nat) (xs : List α) (a b : Int) (h0 : 0 ≤ a) (h1 : a ≤ b) (hm : b ≤ xs.length) (hc : xs.length ≤ c) :
    ∃ A' : Option Addr, (∀ W : World, (Instr.slice t (.slice A xs.length c) (some (.int kl a)) (some (.int kh b)) (some (.int kh b))).run P W = .ok (.slice A' ((xs.take b.toNat).drop a.toNat).length (b.toNat - a.toNat)) W) ∧
      (∀ w : World, ReadsOf enc d w A xs.length xs → ReadsOf enc d w A' ((xs.take b.toNat).drop a.toNat).length ((xs.take b.toNat).drop a.toNat)) ∧ ((xs.take b.toNat).drop a.toNat).length ≤ b.toNat - a.toNat := by
  have hlt : (xs.take b.toNat).length = b.toNat := by rw [List.length_take]; omega
  have hl : ((xs.take b.toNat).drop a.toNat).length = b.toNat - a.toNat := by rw [List.length_drop, hlt]
  refine ⟨if b.toNat = a.toNat then A else A.map (·.add a.toNat), fun W => ?_, fun w h => ?_, by rw [hl]; omega⟩
  · have hel : P.elem t = e := by simp [Program.elem, ht]
    have hu : P.underlying t = some (.slice (P.elem t)) := by rw [hel]; exact ht
    rw [run_slice_lhm W t A xs.length c hu kl kh kh a b b h0 h1 (Int.le_refl _) (by omega), hel, hl]
    simp [sizeOf, typeInfo, hi, hsz, sliced, Result.andThen]
  · have h2 := (h.take_ b.toNat (by omega)).drop_ (c := b.toNat) a.toNat (by omega) (by omega)
    rw [hl]
    exact h2
end Go.Proofs.YtdnhfofmfpgmmaaW.PrintWords
