/- This file proves small laws that all later texts of this claim use: on 64-bit numbers that don't wrap, and on functions that answer from some number of rounds on. -/
import Derived.Test.YtdnhfofmfpgmmaaWMore
set_option linter.unusedVariables false
namespace Go.Proofs.Ytdnhfofmfpgmmaa.Base
open Go.RowKit Go.Proofs.YtdnhfofmfpgmmaaW.PrintWords Go.Proofs.YtdnhfofmfpgmmaaW.PrintLast Go.Proofs.YtdnhfofmfpgmmaaW.PrintMore

theorem w64 {n : Int} (h1 : -9223372036854775808 ≤ n) (h2 : n ≤ 9223372036854775807) : wrap64 n = n := by unfold wrap64; omega
theorem w64_lo (n : Int) : -9223372036854775808 ≤ wrap64 n := by unfold wrap64; omega
theorem w64_hi (n : Int) : wrap64 n ≤ 9223372036854775807 := by unfold wrap64; omega

/-- From some number of rounds on the function answers, and its answer is as told. -/
def EvP {α : Type} (g : Nat → Option α) (Q : α → Prop) : Prop := ∃ r, Ev g r ∧ Q r
variable {α β : Type}
theorem EvP.of {g : Nat → Option α} {r : α} {Q : α → Prop} (h : Ev g r) (hq : Q r) : EvP g Q := ⟨r, h, hq⟩
theorem EvP.ret {r : α} {Q : α → Prop} (h : Q r) : EvP (fun _ => some r) Q := ⟨r, Ev.now r, h⟩
theorem EvP.mono {g : Nat → Option α} {Q Q' : α → Prop} (h : EvP g Q) (hq : ∀ r, Q r → Q' r) : EvP g Q' := by
  obtain ⟨r, h1, h2⟩ := h
  exact ⟨r, h1, hq r h2⟩
theorem EvP.bind {g : Nat → Option α} {f : Nat → α → Option β} {Q : α → Prop} {Q' : β → Prop} (h : EvP g Q) (k : ∀ a, Q a → EvP (fun n => f n a) Q') : EvP (fun n => (g n).bind (f n)) Q' := by
  obtain ⟨a, h1, h2⟩ := h
  obtain ⟨r, h3, h4⟩ := k a h2
  exact ⟨r, Ev.bind h1 h3, h4⟩
theorem EvP.bind1 {g : Nat → Option α} {f : Nat → α → Option β} {a : α} {Q' : β → Prop} (h : Ev g a) (k : EvP (fun n => f n a) Q') : EvP (fun n => (g n).bind (f n)) Q' := by
  obtain ⟨r, h3, h4⟩ := k
  exact ⟨r, Ev.bind h h3, h4⟩
theorem EvP.pos {c : Prop} [Decidable c] {g f : Nat → Option α} {Q : α → Prop} (h : c) (k : EvP g Q) : EvP (fun n => if c then g n else f n) Q := by
  simp only [if_pos h]
  exact k
theorem EvP.neg {c : Prop} [Decidable c] {g f : Nat → Option α} {Q : α → Prop} (h : ¬ c) (k : EvP f Q) : EvP (fun n => if c then g n else f n) Q := by
  simp only [if_neg h]
  exact k
theorem EvP.ite {c : Prop} [Decidable c] {g f : Nat → Option α} {Q : α → Prop} (h : c → EvP g Q) (k : ¬ c → EvP f Q) : EvP (fun n => if c then g n else f n) Q := by
  by_cases hc : c
  · exact EvP.pos hc (h hc)
  · exact EvP.neg hc (k hc)
theorem EvP.step {g f : Nat → Option α} {Q : α → Prop} (h : ∀ k, g (k + 1) = f k) (k : EvP f Q) : EvP g Q := by
  obtain ⟨r, h1, h2⟩ := k
  exact ⟨r, Ev.step h h1, h2⟩
theorem EvP.congr {g f : Nat → Option α} {Q : α → Prop} (h : ∀ k, g k = f k) (k : EvP f Q) : EvP g Q := by
  obtain ⟨r, h1, h2⟩ := k
  exact ⟨r, Ev.congr h h1, h2⟩
theorem EvP.rounds {g : Nat → Option α} {r : α} (h : EvP g (fun x => x = r)) : ∃ k, g k = some r := by
  obtain ⟨_, h1, rfl⟩ := h
  exact h1.rounds
theorem Ev.evp {g : Nat → Option α} {r : α} (h : Ev g r) : EvP g (fun x => x = r) := ⟨r, h, rfl⟩
theorem EvP.ev {g : Nat → Option α} {r : α} (h : EvP g (fun x => x = r)) : Ev g r := by
  obtain ⟨_, h1, rfl⟩ := h
  exact h1
theorem Ev.pos {c : Prop} [Decidable c] {g f : Nat → Option α} {r : α} (h : c) (k : Ev g r) : Ev (fun n => if c then g n else f n) r := by
  simp only [if_pos h]
  exact k
theorem Ev.neg {c : Prop} [Decidable c] {g f : Nat → Option α} {r : α} (h : ¬ c) (k : Ev f r) : Ev (fun n => if c then g n else f n) r := by
  simp only [if_neg h]
  exact k

theorem mx_le {a b c : Int} (h1 : a ≤ c) (h2 : b ≤ c) : mx a b ≤ c := by unfold mx; split <;> omega
theorem le_mx_left (a b : Int) : a ≤ mx a b := by unfold mx; split <;> omega
theorem le_mx_right (a b : Int) : b ≤ mx a b := by unfold mx; split <;> omega
theorem mn_le_left (a b : Int) : mn a b ≤ a := by unfold mn; split <;> omega
theorem mn_le_right (a b : Int) : mn a b ≤ b := by unfold mn; split <;> omega
theorem le_mn {a b c : Int} (h1 : c ≤ a) (h2 : c ≤ b) : c ≤ mn a b := by unfold mn; split <;> omega

theorem rd_nat (xs : List Int) (i : Nat) (h : i < xs.length) : rd xs (i : Int) = xs[i] := by
  unfold rd
  rw [Int.toNat_natCast, List.getD_eq_getElem?_getD, List.getElem?_eq_getElem h]
  rfl
theorem rd_mem (xs : List Int) (i : Int) (h0 : 0 ≤ i) (h : i < xs.length) : rd xs i ∈ xs := by
  obtain ⟨m, rfl⟩ := Int.eq_ofNat_of_zero_le h0
  rw [rd_nat xs m (by omega)]
  exact List.getElem_mem _
theorem mem_set {xs : List Int} {i : Nat} {a x : Int} (h : x ∈ xs.set i a) : x ∈ xs ∨ x = a := List.mem_or_eq_of_mem_set h

theorem b_i64 {x : Int} (h : (Lit.int .i64 x).wf = true) : -9223372036854775808 ≤ x ∧ x ≤ 9223372036854775807 := by
  simp [Lit.wf, IntKind.min, IntKind.max, IntKind.signed, IntKind.bits] at h
  omega
theorem b_i8 {x : Int} (h : (Lit.int .i8 x).wf = true) : -128 ≤ x ∧ x ≤ 127 := by
  simp [Lit.wf, IntKind.min, IntKind.max, IntKind.signed, IntKind.bits] at h
  omega
theorem b_u8 {x : Int} (h : (Lit.int .u8 x).wf = true) : 0 ≤ x ∧ x ≤ 255 := by
  simp [Lit.wf, IntKind.min, IntKind.max, IntKind.signed, IntKind.bits] at h
  omega
theorem b_u16 {x : Int} (h : (Lit.int .u16 x).wf = true) : 0 ≤ x ∧ x ≤ 65535 := by
  simp [Lit.wf, IntKind.min, IntKind.max, IntKind.signed, IntKind.bits] at h
  omega
theorem b_u32 {x : Int} (h : (Lit.int .u32 x).wf = true) : 0 ≤ x ∧ x ≤ 4294967295 := by
  simp [Lit.wf, IntKind.min, IntKind.max, IntKind.signed, IntKind.bits] at h
  omega

theorem w_succ {i : Nat} (h : i < 9223372036854775807) : wrap64 ((i : Int) + 1) = ((i + 1 : Nat) : Int) := by rw [w64 (by omega) (by omega)]; omega
theorem toNat_add (a b : Nat) : ((a : Int) + (b : Int)).toNat = a + b := by omega
/-- A reader of numbers, between its begin and its end. -/
def Src (s : List Int) (a : Int) : Prop := 0 ≤ a ∧ a ≤ s.length ∧ s.length ≤ 2000 ∧ ∀ x ∈ s, -9223372036854775808 ≤ x ∧ x ≤ 9223372036854775807
/-- Samples. -/
def Smp (l : List Int) : Prop := ∀ x ∈ l, -1000 ≤ x ∧ x ≤ 1000
theorem Smp.nil : Smp [] := fun x h => by cases h
theorem Smp.snoc {l : List Int} {x : Int} (h : Smp l) (h0 : -1000 ≤ x) (h1 : x ≤ 1000) : Smp (l ++ [x]) := fun y hy => by
  rcases List.mem_append.1 hy with hy | hy
  · exact h y hy
  · rw [List.mem_singleton.1 hy]
    exact ⟨h0, h1⟩
theorem Smp.set {l : List Int} {x : Int} (h : Smp l) (i : Nat) (h0 : -1000 ≤ x) (h1 : x ≤ 1000) : Smp (l.set i x) := fun y hy => by
  rcases mem_set hy with hy | hy
  · exact h y hy
  · rw [hy]
    exact ⟨h0, h1⟩
theorem Smp.at {l : List Int} (h : Smp l) (i : Int) (h0 : 0 ≤ i) (h1 : i < l.length) : -1000 ≤ rd l i ∧ rd l i ≤ 1000 := h _ (rd_mem l i h0 h1)
theorem Smp.take {l : List Int} (h : Smp l) (n : Nat) : Smp (l.take n) := fun x hx => h x (List.mem_of_mem_take hx)
theorem Smp.drop {l : List Int} (h : Smp l) (n : Nat) : Smp (l.drop n) := fun x hx => h x (List.mem_of_mem_drop hx)
end Go.Proofs.Ytdnhfofmfpgmmaa.Base
