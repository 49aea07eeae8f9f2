/- This file proves that a row that is only read stays what it was while one block, that of a state, is written: it is told in a world in which that block is empty. -/
import Derived.Test.YtmkjmplkokfoiaaXLitB
set_option linter.unusedVariables false
set_option linter.unusedSimpArgs false
namespace Go.Proofs.YtmkjmplkokfoiaaW.PrintWords
open Go.RowKit
/-- The world without the block g. -/
def maskW (g : Nat) (W : World) : World := { W with heap := W.heap.modify g (fun _ => .cells #[] 0 (0, 0)) }
theorem maskW_block {g : Nat} {W : World} {k : Nat} (h : k ≠ g) : (maskW g W).heap[k]? = W.heap[k]? := by
  simp only [maskW, Array.getElem?_modify]
  rw [if_neg (fun e => h e.symm)]
theorem maskW_keep (g : Nat) (W : World) : KeepBut W (maskW g W) g none := ⟨by simp [maskW], fun i _ hi _ => maskW_block hi⟩
theorem unmask_cell {g : Nat} {W0 W : World} {a : Addr} {v : Value} (hk : KeepBut W0 W g none) (h : (maskW g W0).cell? a = some v) : W.cell? a = some v := by
  by_cases hg : a.block = g
  · exfalso
    have h1 : (maskW g W0).heap[a.block]? = (W0.heap[a.block]?).map (fun _ => Obj.cells #[] 0 (0, 0)) := by
      simp only [maskW, Array.getElem?_modify]
      rw [if_pos hg.symm]
    unfold World.cell? at h
    rw [h1] at h
    cases h2 : W0.heap[a.block]? with
    | none => rw [h2] at h; simp at h
    | some o => rw [h2] at h; simp at h
  · have h1 : W0.cell? a = some v := (World.cell?_of_block (w := W0) (maskW_block hg)).symm.trans h
    exact keep_cell hk h1 hg
section
variable {α : Type} {enc : α → Value} {h1 : ∀ x, (enc x).oneCell' = true} {g : Nat} {w W : World} {A : Option Addr} {n : Nat} {xs : List α}
theorem mask_C (d : α) (h : (Kd.scalar enc h1).C w A n xs) (hf : ∀ ad, A = some ad → 0 < n → ad.block ≠ g) : (Kd.scalar enc h1).C (maskW g w) A n xs := Kd.C_keep d h (maskW_keep g w) hf
theorem unmask_C (h : (Kd.scalar enc h1).C (maskW g w) A n xs) (hk : KeepBut w W g none) : (Kd.scalar enc h1).C W A n xs := by
  refine ⟨h.1, h.2.1, fun hp => ?_⟩
  obtain ⟨ad, e, hc⟩ := h.2.2 hp
  refine ⟨ad, e, fun j p hj => ?_⟩
  obtain ⟨c, h3, h4, h5⟩ := hc j p hj
  exact ⟨c, h3, h4, fun i u hu => unmask_cell hk (h5 i u hu)⟩
end
theorem mask_far {α : Type} {K : Kd α} {w : World} {A : Option Addr} {n g : Nat} {xs : List α} (hs : 0 < K.sz) (h : K.C w A n xs) (hg : w.heap.size ≤ g) : ∀ ad, A = some ad → 0 < n → ad.block ≠ g := by
  intro ad e hp
  obtain ⟨ad', e', hc⟩ := h.2.2 hp
  have ea : ad' = ad := Option.some.inj (e'.symm.trans e)
  subst ea
  have hl : 0 < xs.length := by rw [h.1]; exact hp
  obtain ⟨c, h3, _, h5⟩ := hc 0 _ (List.getElem?_eq_getElem hl)
  have hlt := World.block_lt_of_cell? w _ (h5 0 _ (List.getElem?_eq_getElem (by omega)))
  rw [add_block] at hlt
  omega
theorem mask_lit {w1 : World} {A : Option Addr} {inner : List Value} {e e2 g : Nat} {cs : Array Value} (h : LitRow w1 A inner e) (hg : w1.heap[g]? = some (.cells cs e2 (0, 0))) (hne : e ≠ e2) : LitRow (maskW g w1) A inner e := by
  obtain ⟨k, e0, hk⟩ := h
  have hkg : k ≠ g := by
    rintro rfl
    rw [hk] at hg
    injection hg with h2
    injection h2 with _ h3
    exact hne h3
  exact ⟨k, e0, (maskW_block hkg).trans hk⟩
theorem far_drop {A A1 : Option Addr} {n n1 m q c g : Nat} (hA : A1 = (if c = m then A else A.map (·.add q))) (hf : ∀ ad, A = some ad → 0 < n → ad.block ≠ g) (hn : 0 < n1 → 0 < n) : ∀ ad, A1 = some ad → 0 < n1 → ad.block ≠ g := by
  intro ad e hp
  rw [hA] at e
  split at e
  · exact hf ad e (hn hp)
  · cases A with
    | none => simp at e
    | some b =>
      simp only [Option.map_some, Option.some.injEq] at e
      subst e
      rw [add_block]
      exact hf b rfl (hn hp)
end Go.Proofs.YtmkjmplkokfoiaaW.PrintWords
