/- This file proves what the table of package edit computes: an array of 33 times 33 numbers is filled with the least costs of all beginnings of two windows. -/
import Derived.Test.YtmmmapkobnepcaaXWords
import Derived.Test.YtmmmapkobnepcaaProg
import Derived.Test.YtmmmapkobnepcaaMathEd
import Derived.Deep.WholeRow
import Derived.Deep.LoopGhost
import Derived.Deep.QuietTactic
import Derived.BigQuiet
import Derived.RegionTactic
import Derived.Laws.Tables
import Derived.Laws.ResultCell
import Derived.WalkKit
import Derived.RowKit3
import Derived.Outline
import Derived.OpenShut
set_option linter.unusedVariables false
set_option linter.unusedSimpArgs false
namespace Go.Proofs.Ytmmmapkobnepcaa.X
open Go.RowKit Go.Proofs.YtmmmapkobnepcaaW.PrintWords Go.Proofs.YtmmmapkobnepcaaW.PrintLast Go.Proofs.YtmmmapkobnepcaaW.PrintMore Go.Proofs.Ytmmmapkobnepcaa.MathEd
attribute [local go_sem] max2_int min2_int max_two min_two max_three min_three max_four min_four

theorem mx_ab (a b : Int) : mx (a - b) (b - a) = ab a b := by unfold mx ab; split <;> split <;> omega
set_option maxHeartbeats 800000 in
theorem apart_calls (a b : Int) (w : World) (h1 : -1000 ≤ a) (h2 : a ≤ 1000) (h3 : -1000 ≤ b) (h4 : b ≤ 1000) :
    Calls Try.prog 35 #[.int .i64 a, .int .i64 b] w fun e w' => e = .returned (.int .i64 (ab a b)) ∧ w = w' := by
  by_cases h : a - b < b - a
  · have HF := Aside0.mk (show b - a = ab a b by unfold ab; rw [if_pos (by omega)])
    go_enter Try.func35, Try.ntmps35
    go_wp2
    go_ret
    exact ⟨by rw [← HF.out]; rfl, rfl⟩
  · have HF := Aside0.mk (show a - b = ab a b by unfold ab; rw [if_neg (by omega)])
    go_enter Try.func35, Try.ntmps35
    go_wp2
    go_ret
    exact ⟨by rw [← HF.out]; rfl, rfl⟩
theorem at_i64 {w : World} {A : Option Addr} {xs : List Int} (h : Kd.C (Kd.int .i64) w A xs.length xs) (i : Nat) (hi : i < xs.length) : ∃ ad, A = some ad ∧ w.cell? (ad.add i) = some (.int .i64 xs[i]) := by
  obtain ⟨ad, e, hc⟩ := Kd.at_int h (i : Int) (by omega) (by omega)
  refine ⟨ad, e, ?_⟩
  rw [Int.toNat_natCast] at hc
  rw [hc]
  unfold rd
  rw [Int.toNat_natCast, List.getD_eq_getElem?_getD, List.getElem?_eq_getElem hi]
  rfl
theorem apart_same (a b : Int) (w : World) (h1 : -1000 ≤ a) (h2 : a ≤ 1000) (h3 : -1000 ≤ b) (h4 : b ≤ 1000) :
    Calls Try.prog 35 #[.int .i64 a, .int .i64 b] w fun e w' => e = .returned (.int .i64 (ab a b)) ∧ w' = w :=
  (apart_calls a b w h1 h2 h3 h4).mono fun _ _ ⟨h, e⟩ => ⟨h, e.symm⟩
set_option maxHeartbeats 1600000 in
theorem last_both (A0 : Option Addr) (c0 : Nat) (x : List Int) (A1 : Option Addr) (c1 : Nat) (y : List Int) (g : Int) (i j : Nat) (w : World) (hx : Kd.C (Kd.int .i64) w A0 x.length x) (hy : Kd.C (Kd.int .i64) w A1 y.length y)
    (bx : ∀ v ∈ x, -1000 ≤ v ∧ v ≤ 1000) (by_ : ∀ v ∈ y, -1000 ≤ v ∧ v ≤ 1000) (hg : -1000 ≤ g ∧ g ≤ 1000) (hx32 : x.length ≤ 32) (hy32 : y.length ≤ 32) (hi : i < x.length) (hj : j < y.length) :
    Calls Try.prog 32 #[.int .i64 1, .slice A0 x.length c0, .slice A1 y.length c1, .int .i64 g, .int .i64 ((i + 1 : Nat) : Int), .int .i64 ((j + 1 : Nat) : Int)] w fun e w' => e = .returned (.tuple #[.int .i64 (ab x[i] y[j]), .int .i64 (i : Int), .int .i64 (j : Int), .bool true]) ∧ Drawn0 w w' := by
  obtain ⟨ad, rfl, hc⟩ := at_i64 hx i hi
  obtain ⟨bd, rfl, hd⟩ := at_i64 hy j hj
  have hb := bx x[i] (List.getElem_mem _)
  have hb' := by_ y[j] (List.getElem_mem _)
  obtain ⟨h3, h4⟩ := hb
  obtain ⟨h5, h6⟩ := hb'
  generalize x[i] = u at *
  generalize y[j] = v at *
  have hi' : (i : Int) < (x.length : Int) := by omega
  have hj' : (j : Int) < (y.length : Int) := by omega
  clear bx by_ hx hy hg
  go_enter Try.func32, Try.ntmps32
  go_wp2_with fail
  go_quiet ((go_at_call 35; exact Calls.quiet_of_same (apart_same _ _ _ (by assumption) (by assumption) (by assumption) (by assumption))))
  go_wp2
  refine bodyPost_ret (results_list (rs := [.tmp 12, .tmp 13, .tmp 14, .tmp 15]) rfl (by simp) (.tmp (.tmp (.tmp (.tmp .nil))))) rfl ?_
  exact ⟨rfl, ⟨_, rfl⟩⟩
set_option maxHeartbeats 1600000 in
theorem last_left (A0 : Option Addr) (c0 : Nat) (x : List Int) (A1 : Option Addr) (c1 : Nat) (y : List Int) (g : Int) (i j : Nat) (w : World) (hx : Kd.C (Kd.int .i64) w A0 x.length x) (hy : Kd.C (Kd.int .i64) w A1 y.length y)
    (bx : ∀ v ∈ x, -1000 ≤ v ∧ v ≤ 1000) (by_ : ∀ v ∈ y, -1000 ≤ v ∧ v ≤ 1000) (hg : -1000 ≤ g ∧ g ≤ 1000) (hx32 : x.length ≤ 32) (hy32 : y.length ≤ 32) (hi : i < x.length) :
    Calls Try.prog 32 #[.int .i64 2, .slice A0 x.length c0, .slice A1 y.length c1, .int .i64 g, .int .i64 ((i + 1 : Nat) : Int), .int .i64 (j : Int)] w fun e w' => e = .returned (.tuple #[.int .i64 (ab x[i] g), .int .i64 (i : Int), .int .i64 (j : Int), .bool true]) ∧ Drawn0 w w' := by
  obtain ⟨ad, rfl, hc⟩ := at_i64 hx i hi
  have hb := bx x[i] (List.getElem_mem _)
  obtain ⟨h1, h2⟩ := hg
  obtain ⟨h3, h4⟩ := hb
  generalize x[i] = v at *
  clear bx hx by_ hy
  go_enter Try.func32, Try.ntmps32
  go_wp2_with (go_at_call 35; refine (apart_calls _ _ _ h3 h4 h1 h2).mono ?_; rintro e w' ⟨rfl, rfl⟩)
  refine bodyPost_ret (results_list (rs := [.tmp 12, .tmp 13, .tmp 14, .tmp 15]) rfl (by simp) (.tmp (.tmp (.tmp (.tmp .nil))))) rfl ?_
  exact ⟨rfl, ⟨0, rfl⟩⟩
set_option maxHeartbeats 1600000 in
theorem last_right (A0 : Option Addr) (c0 : Nat) (x : List Int) (A1 : Option Addr) (c1 : Nat) (y : List Int) (g : Int) (i j : Nat) (w : World) (hx : Kd.C (Kd.int .i64) w A0 x.length x) (hy : Kd.C (Kd.int .i64) w A1 y.length y)
    (bx : ∀ v ∈ x, -1000 ≤ v ∧ v ≤ 1000) (by_ : ∀ v ∈ y, -1000 ≤ v ∧ v ≤ 1000) (hg : -1000 ≤ g ∧ g ≤ 1000) (hx32 : x.length ≤ 32) (hy32 : y.length ≤ 32) (hj : j < y.length) :
    Calls Try.prog 32 #[.int .i64 3, .slice A0 x.length c0, .slice A1 y.length c1, .int .i64 g, .int .i64 (i : Int), .int .i64 ((j + 1 : Nat) : Int)] w fun e w' => e = .returned (.tuple #[.int .i64 (ab y[j] g), .int .i64 (i : Int), .int .i64 (j : Int), .bool true]) ∧ Drawn0 w w' := by
  obtain ⟨ad, rfl, hc⟩ := at_i64 hy j hj
  have hb := by_ y[j] (List.getElem_mem _)
  obtain ⟨h1, h2⟩ := hg
  obtain ⟨h3, h4⟩ := hb
  generalize y[j] = v at *
  clear bx hx by_ hy
  go_enter Try.func32, Try.ntmps32
  go_wp2_with (go_at_call 35; refine (apart_calls _ _ _ h3 h4 h1 h2).mono ?_; rintro e w' ⟨rfl, rfl⟩)
  refine bodyPost_ret (results_list (rs := [.tmp 12, .tmp 13, .tmp 14, .tmp 15]) rfl (by simp) (.tmp (.tmp (.tmp (.tmp .nil))))) rfl ?_
  exact ⟨rfl, ⟨0, rfl⟩⟩
set_option maxHeartbeats 1600000 in
theorem last_no1l (A0 : Option Addr) (c0 : Nat) (x : List Int) (A1 : Option Addr) (c1 : Nat) (y : List Int) (g : Int) (i j : Nat) (w : World) (hx : Kd.C (Kd.int .i64) w A0 x.length x) (hy : Kd.C (Kd.int .i64) w A1 y.length y)
    (bx : ∀ v ∈ x, -1000 ≤ v ∧ v ≤ 1000) (by_ : ∀ v ∈ y, -1000 ≤ v ∧ v ≤ 1000) (hg : -1000 ≤ g ∧ g ≤ 1000) (hx32 : x.length ≤ 32) (hy32 : y.length ≤ 32)  :
    Calls Try.prog 32 #[.int .i64 1, .slice A0 x.length c0, .slice A1 y.length c1, .int .i64 g, .int .i64 0, .int .i64 (j : Int)] w fun e w' => e = .returned (.tuple #[.int .i64 0, .int .i64 0, .int .i64 0, .bool false]) ∧ Drawn0 w w' := by
  clear bx hx by_ hy
  go_enter Try.func32, Try.ntmps32
  go_wp2
  refine bodyPost_ret (results_list (rs := [.tmp 12, .tmp 13, .tmp 14, .tmp 15]) rfl (by simp) (.tmp (.tmp (.tmp (.tmp .nil))))) rfl ?_
  exact ⟨rfl, ⟨0, rfl⟩⟩
set_option maxHeartbeats 1600000 in
theorem last_no1r (A0 : Option Addr) (c0 : Nat) (x : List Int) (A1 : Option Addr) (c1 : Nat) (y : List Int) (g : Int) (i j : Nat) (w : World) (hx : Kd.C (Kd.int .i64) w A0 x.length x) (hy : Kd.C (Kd.int .i64) w A1 y.length y)
    (bx : ∀ v ∈ x, -1000 ≤ v ∧ v ≤ 1000) (by_ : ∀ v ∈ y, -1000 ≤ v ∧ v ≤ 1000) (hg : -1000 ≤ g ∧ g ≤ 1000) (hx32 : x.length ≤ 32) (hy32 : y.length ≤ 32)  :
    Calls Try.prog 32 #[.int .i64 1, .slice A0 x.length c0, .slice A1 y.length c1, .int .i64 g, .int .i64 ((i + 1 : Nat) : Int), .int .i64 0] w fun e w' => e = .returned (.tuple #[.int .i64 0, .int .i64 0, .int .i64 0, .bool false]) ∧ Drawn0 w w' := by
  clear bx hx by_ hy
  go_enter Try.func32, Try.ntmps32
  go_wp2
  refine bodyPost_ret (results_list (rs := [.tmp 12, .tmp 13, .tmp 14, .tmp 15]) rfl (by simp) (.tmp (.tmp (.tmp (.tmp .nil))))) rfl ?_
  exact ⟨rfl, ⟨0, rfl⟩⟩
set_option maxHeartbeats 1600000 in
theorem last_no2 (A0 : Option Addr) (c0 : Nat) (x : List Int) (A1 : Option Addr) (c1 : Nat) (y : List Int) (g : Int) (i j : Nat) (w : World) (hx : Kd.C (Kd.int .i64) w A0 x.length x) (hy : Kd.C (Kd.int .i64) w A1 y.length y)
    (bx : ∀ v ∈ x, -1000 ≤ v ∧ v ≤ 1000) (by_ : ∀ v ∈ y, -1000 ≤ v ∧ v ≤ 1000) (hg : -1000 ≤ g ∧ g ≤ 1000) (hx32 : x.length ≤ 32) (hy32 : y.length ≤ 32)  :
    Calls Try.prog 32 #[.int .i64 2, .slice A0 x.length c0, .slice A1 y.length c1, .int .i64 g, .int .i64 0, .int .i64 (j : Int)] w fun e w' => e = .returned (.tuple #[.int .i64 0, .int .i64 0, .int .i64 0, .bool false]) ∧ Drawn0 w w' := by
  clear bx hx by_ hy
  go_enter Try.func32, Try.ntmps32
  go_wp2
  refine bodyPost_ret (results_list (rs := [.tmp 12, .tmp 13, .tmp 14, .tmp 15]) rfl (by simp) (.tmp (.tmp (.tmp (.tmp .nil))))) rfl ?_
  exact ⟨rfl, ⟨0, rfl⟩⟩
set_option maxHeartbeats 1600000 in
theorem last_no3 (A0 : Option Addr) (c0 : Nat) (x : List Int) (A1 : Option Addr) (c1 : Nat) (y : List Int) (g : Int) (i j : Nat) (w : World) (hx : Kd.C (Kd.int .i64) w A0 x.length x) (hy : Kd.C (Kd.int .i64) w A1 y.length y)
    (bx : ∀ v ∈ x, -1000 ≤ v ∧ v ≤ 1000) (by_ : ∀ v ∈ y, -1000 ≤ v ∧ v ≤ 1000) (hg : -1000 ≤ g ∧ g ≤ 1000) (hx32 : x.length ≤ 32) (hy32 : y.length ≤ 32)  :
    Calls Try.prog 32 #[.int .i64 3, .slice A0 x.length c0, .slice A1 y.length c1, .int .i64 g, .int .i64 (i : Int), .int .i64 0] w fun e w' => e = .returned (.tuple #[.int .i64 0, .int .i64 0, .int .i64 0, .bool false]) ∧ Drawn0 w w' := by
  clear bx hx by_ hy
  go_enter Try.func32, Try.ntmps32
  go_wp2
  refine bodyPost_ret (results_list (rs := [.tmp 12, .tmp 13, .tmp 14, .tmp 15]) rfl (by simp) (.tmp (.tmp (.tmp (.tmp .nil))))) rfl ?_
  exact ⟨rfl, ⟨0, rfl⟩⟩

/-! ### the table's cells -/
def tabF (f : Nat → Int) : Array Value := Array.ofFn (n := 1089) fun p => .int .i64 (f p.val)
theorem tabF_size (f : Nat → Int) : (tabF f).size = 1089 := by unfold tabF; exact Array.size_ofFn
theorem tabF_one (f : Nat → Int) : (tabF f).all (·.oneCell') = true := by
  rw [Array.all_eq_true]
  intro j hj
  simp [tabF, Value.oneCell']
theorem tabF_get (f : Nat → Int) (p : Nat) (h : p < 1089) : (tabF f)[p]? = some (.int .i64 (f p)) := by simp [tabF, h]
theorem tabF_set (f : Nat → Int) (p : Nat) (v : Int) : (tabF f).setIfInBounds p (.int .i64 v) = tabF (fun q => if q = p then v else f q) := by
  apply Array.ext
  · simp [tabF]
  · intro j h1 h2
    rw [Array.getElem_setIfInBounds (by simpa [tabF] using h2)]
    by_cases h : p = j
    · subst h
      simp [tabF]
    · rw [if_neg h]
      simp only [tabF, Array.getElem_ofFn]
      rw [if_neg (Ne.symm h)]
/-- The cells while the cell of i and j is v: what comes ahead of it is told, what comes behind it is 0. -/
def cellF (g : Int) (x y : List Int) (i j : Nat) (v : Int) (p : Nat) : Int :=
  if p = i * 33 + j then v else if (p / 33 < i ∨ p / 33 = i ∧ p % 33 < j) ∧ p % 33 ≤ y.length then dd g x y (p / 33) (p % 33) else 0
theorem cellF_zero (g : Int) (x y : List Int) : cellF g x y 0 0 0 = fun _ => 0 := by
  funext p
  unfold cellF
  split
  · rfl
  · rw [if_neg (by omega)]
theorem cellF_set (g : Int) (x y : List Int) (i j : Nat) (v u : Int) : (fun q => if q = i * 33 + j then u else cellF g x y i j v q) = cellF g x y i j u := by
  funext q
  unfold cellF
  by_cases h : q = i * 33 + j
  · rw [if_pos h, if_pos h]
  · rw [if_neg h, if_neg h, if_neg h]
theorem cellF_same (g : Int) (x y : List Int) (i j : Nat) (v : Int) : cellF g x y i j v (i * 33 + j) = v := if_pos rfl
theorem cellF_at (g : Int) (x y : List Int) {i j a b : Nat} (v : Int) (hb : b < 33) (hy : b ≤ y.length) (h : a < i ∨ a = i ∧ b < j) (hj : j < 33) : cellF g x y i j v (a * 33 + b) = dd g x y a b := by
  have e1 : (a * 33 + b) / 33 = a := by omega
  have e2 : (a * 33 + b) % 33 = b := by omega
  unfold cellF
  rw [e1, e2, if_neg (by omega), if_pos ⟨h, hy⟩]
theorem cellF_next (g : Int) (x y : List Int) {i j : Nat} (hj : j < 33) (hy : j ≤ y.length) : cellF g x y i j (dd g x y i j) = cellF g x y i (j + 1) 0 := by
  funext p
  unfold cellF
  by_cases h : p = i * 33 + j
  · have e1 : p / 33 = i := by omega
    have e2 : p % 33 = j := by omega
    rw [if_pos h, if_neg (by omega), if_pos (by rw [e1, e2]; exact ⟨.inr ⟨rfl, Nat.lt_succ_self _⟩, hy⟩), e1, e2]
  · rw [if_neg h]
    by_cases h' : p = i * 33 + (j + 1)
    · rw [if_pos h', if_neg (by omega)]
    · rw [if_neg h']
      by_cases c : (p / 33 < i ∨ p / 33 = i ∧ p % 33 < j) ∧ p % 33 ≤ y.length
      · rw [if_pos c, if_pos (by omega)]
      · rw [if_neg c, if_neg (by omega)]
theorem cellF_row (g : Int) (x y : List Int) (i : Nat) (hy : y.length ≤ 32) : cellF g x y i (y.length + 1) 0 = cellF g x y (i + 1) 0 0 := by
  funext p
  unfold cellF
  by_cases c : p / 33 < i + 1 ∧ p % 33 ≤ y.length
  · rw [if_neg (by omega), if_pos (by omega), if_neg (by omega), if_pos (by omega)]
  · have e1 : (if p = i * 33 + (y.length + 1) then (0 : Int) else if (p / 33 < i ∨ p / 33 = i ∧ p % 33 < y.length + 1) ∧ p % 33 ≤ y.length then dd g x y (p / 33) (p % 33) else 0) = 0 := by
      split
      · rfl
      · rw [if_neg (by omega)]
    rw [e1]
    split
    · rfl
    · rw [if_neg (by omega)]
/-- The step s (0, 1, 2) from i and j leads to a and b and costs c. -/
def Cand (g : Int) (x y : List Int) (s i j a b : Nat) (c : Int) : Prop :=
  (s = 0 ∧ i = a + 1 ∧ j = b + 1 ∧ ∃ (h : a < x.length) (k : b < y.length), c = ab x[a] y[b]) ∨ (s = 1 ∧ i = a + 1 ∧ j = b ∧ ∃ h : a < x.length, c = ab x[a] g) ∨ (s = 2 ∧ i = a ∧ j = b + 1 ∧ ∃ k : b < y.length, c = ab y[b] g)
def NoCand (s i j : Nat) : Prop := (s = 0 ∧ (i = 0 ∨ j = 0)) ∨ (s = 1 ∧ i = 0) ∨ (s = 2 ∧ j = 0)
/-- The best of the steps so far: 'first' says that there was none. -/
def Best (g : Int) (x y : List Int) (i j : Nat) : Nat → Bool → Int → Prop
  | 0, first, v => first = true ∧ v = 0
  | s + 1, first, v => ∃ f u, Best g x y i j s f u ∧
    ((∃ a b c, Cand g x y s i j a b c ∧ ((f = true ∨ dd g x y a b + c < u) ∧ v = dd g x y a b + c ∧ first = false ∨ f = false ∧ u ≤ dd g x y a b + c ∧ v = u ∧ first = false)) ∨ NoCand s i j ∧ v = u ∧ first = f)
theorem cand_or (g : Int) (x y : List Int) {s i j : Nat} (hs : s < 3) (hi : i ≤ x.length) (hj : j ≤ y.length) : (∃ a b c, Cand g x y s i j a b c) ∨ NoCand s i j := by
  unfold Cand NoCand
  match s, hs with
  | 0, _ =>
    cases i with
    | zero => exact .inr (.inl ⟨rfl, .inl rfl⟩)
    | succ i =>
      cases j with
      | zero => exact .inr (.inl ⟨rfl, .inr rfl⟩)
      | succ j => exact .inl ⟨i, j, _, .inl ⟨rfl, rfl, rfl, hi, hj, rfl⟩⟩
  | 1, _ =>
    cases i with
    | zero => exact .inr (.inr (.inl ⟨rfl, rfl⟩))
    | succ i => exact .inl ⟨i, j, _, .inr (.inl ⟨rfl, rfl, rfl, hi, rfl⟩)⟩
  | 2, _ =>
    cases j with
    | zero => exact .inr (.inr (.inr ⟨rfl, rfl⟩))
    | succ j => exact .inl ⟨i, j, _, .inr (.inr ⟨rfl, rfl, rfl, hj, rfl⟩)⟩
theorem cand0 {g : Int} {x y : List Int} {i j a b : Nat} {c : Int} (hi : i < x.length) (hj : j < y.length) (h : Cand g x y 0 (i + 1) (j + 1) a b c) : a = i ∧ b = j ∧ c = ab x[i] y[j] := by
  rcases h with ⟨-, h1, h2, h3, h4, h5⟩ | ⟨h, -⟩ | ⟨h, -⟩
  · obtain rfl := Nat.succ.inj h1
    obtain rfl := Nat.succ.inj h2
    exact ⟨rfl, rfl, h5⟩
  · cases h
  · cases h
theorem cand1 {g : Int} {x y : List Int} {i j a b : Nat} {c : Int} (hi : i < x.length) (h : Cand g x y 1 (i + 1) j a b c) : a = i ∧ b = j ∧ c = ab x[i] g := by
  rcases h with ⟨h, -⟩ | ⟨-, h1, h2, h3, h5⟩ | ⟨h, -⟩
  · cases h
  · obtain rfl := Nat.succ.inj h1
    exact ⟨rfl, h2.symm, h5⟩
  · cases h
theorem cand2 {g : Int} {x y : List Int} {i j a b : Nat} {c : Int} (hj : j < y.length) (h : Cand g x y 2 i (j + 1) a b c) : a = i ∧ b = j ∧ c = ab y[j] g := by
  rcases h with ⟨h, -⟩ | ⟨h, -⟩ | ⟨-, h1, h2, h3, h5⟩
  · cases h
  · cases h
  · obtain rfl := Nat.succ.inj h2
    exact ⟨h1.symm, rfl, h5⟩
theorem cand_no {g : Int} {x y : List Int} {s i j a b : Nat} {c : Int} (h : Cand g x y s i j a b c) (h' : NoCand s i j) : False := by
  unfold NoCand at h'
  rcases h with ⟨h1, h2, h3, -⟩ | ⟨h1, h2, h3, -⟩ | ⟨h1, h2, h3, -⟩ <;> omega
theorem best_yes {g : Int} {x y : List Int} {s i j a b : Nat} {c : Int} {first : Bool} {v : Int} (hs : ∀ a' b' c', Cand g x y s i j a' b' c' → a' = a ∧ b' = b ∧ c' = c) (hn : ¬ NoCand s i j) (h : Best g x y i j (s + 1) first v) :
    ∃ f u, Best g x y i j s f u ∧ first = false ∧ ((f = true ∨ dd g x y a b + c < u) ∧ v = dd g x y a b + c ∨ f = false ∧ u ≤ dd g x y a b + c ∧ v = u) := by
  obtain ⟨f, u, h, h3⟩ := h
  rcases h3 with ⟨a', b', c', hc, h4⟩ | ⟨h4, _⟩
  · obtain ⟨rfl, rfl, rfl⟩ := hs _ _ _ hc
    rcases h4 with ⟨h5, h6, h7⟩ | ⟨h5, h6, h7, h8⟩
    · exact ⟨f, u, h, h7, .inl ⟨h5, h6⟩⟩
    · exact ⟨f, u, h, h8, .inr ⟨h5, h6, h7⟩⟩
  · exact absurd h4 hn
theorem best_no {g : Int} {x y : List Int} {s i j : Nat} {first : Bool} {v : Int} (hn : NoCand s i j) (h : Best g x y i j (s + 1) first v) : Best g x y i j s first v := by
  obtain ⟨f, u, h, h3⟩ := h
  rcases h3 with ⟨a', b', c', hc, h4⟩ | ⟨_, rfl, rfl⟩
  · exact (cand_no hc hn).elim
  · exact h
theorem no0 {i j : Nat} : ¬ NoCand 0 (i + 1) (j + 1) := by unfold NoCand; omega
theorem no1 {i j : Nat} : ¬ NoCand 1 (i + 1) j := by unfold NoCand; omega
theorem no2 {i j : Nat} : ¬ NoCand 2 i (j + 1) := by unfold NoCand; omega
theorem best_end {g : Int} {x y : List Int} {i j : Nat} (hi : i ≤ x.length) (hj : j ≤ y.length) {first : Bool} {v : Int} (h : Best g x y i j 3 first v) : v = dd g x y i j := by
  cases i with
  | zero =>
    cases j with
    | zero =>
      have h := best_no (.inl ⟨rfl, .inl rfl⟩) (best_no (.inr (.inl ⟨rfl, rfl⟩)) (best_no (.inr (.inr ⟨rfl, rfl⟩)) h))
      rw [h.2, dd_zero]
    | succ j =>
      obtain ⟨f, u, h, _, h2⟩ := best_yes (fun _ _ _ => cand2 hj) no2 h
      have h := best_no (.inl ⟨rfl, .inl rfl⟩) (best_no (.inr (.inl ⟨rfl, rfl⟩)) h)
      rw [dd_right hj]
      rcases h2 with ⟨_, h2⟩ | ⟨h2, _⟩
      · rw [h2, Int.add_comm]
      · rw [h.1] at h2
        cases h2
  | succ i =>
    cases j with
    | zero =>
      obtain ⟨f, u, h, _, h2⟩ := best_yes (fun _ _ _ => cand1 hi) no1 (best_no (.inr (.inr ⟨rfl, rfl⟩)) h)
      have h := best_no (.inl ⟨rfl, .inr rfl⟩) h
      rw [dd_left hi]
      rcases h2 with ⟨_, h2⟩ | ⟨h2, _⟩
      · rw [h2, Int.add_comm]
      · rw [h.1] at h2
        cases h2
    | succ j =>
      obtain ⟨f2, u2, ha, _, h3⟩ := best_yes (fun _ _ _ => cand2 hj) no2 h
      obtain ⟨f1, u1, hb, e2, h2⟩ := best_yes (fun _ _ _ => cand1 hi) no1 ha
      obtain ⟨f0, u0, hc, e1, h1⟩ := best_yes (fun _ _ _ => cand0 hi hj) no0 hb
      rw [dd_both hi hj]
      obtain ⟨z1, z2⟩ : f0 = true ∧ u0 = 0 := hc
      clear h ha hb
      subst e1 e2
      have q1 : u1 = dd g x y i j + ab x[i] y[j] := by
        rcases h1 with ⟨_, h1⟩ | ⟨h1, _⟩
        · exact h1
        · rw [z1] at h1
          cases h1
      have q2 : u2 = min u1 (dd g x y i (j + 1) + ab x[i] g) := by
        rcases h2 with ⟨h4, h5⟩ | ⟨_, h4, h5⟩
        · have := h4.resolve_left (by simp)
          omega
        · omega
      rcases h3 with ⟨h4, h5⟩ | ⟨_, h4, h5⟩
      · have := h4.resolve_left (by simp)
        omega
      · omega
theorem cand_bound {g : Int} {x y : List Int} {s i j a b : Nat} {c : Int} (bx : ∀ v ∈ x, -1000 ≤ v ∧ v ≤ 1000) (by_ : ∀ v ∈ y, -1000 ≤ v ∧ v ≤ 1000) (hg : -1000 ≤ g ∧ g ≤ 1000) (h : Cand g x y s i j a b c) :
    0 ≤ c ∧ c ≤ 2000 ∧ (a < i ∨ a = i ∧ b < j) ∧ a ≤ i ∧ b ≤ j := by
  rcases h with ⟨_, rfl, rfl, h, k, rfl⟩ | ⟨_, rfl, rfl, h, rfl⟩ | ⟨_, rfl, rfl, k, rfl⟩
  · have h1 := bx x[a] (List.getElem_mem _)
    have h2 := by_ y[b] (List.getElem_mem _)
    exact ⟨ab_nn _ _, ab_le h1.1 h1.2 h2.1 h2.2, by omega, by omega, by omega⟩
  · have h1 := bx x[a] (List.getElem_mem _)
    exact ⟨ab_nn _ _, ab_le h1.1 h1.2 hg.1 hg.2, by omega, by omega, by omega⟩
  · have h2 := by_ y[b] (List.getElem_mem _)
    exact ⟨ab_nn _ _, ab_le h2.1 h2.2 hg.1 hg.2, by omega, by omega, by omega⟩
theorem last_yes (A0 : Option Addr) (c0 : Nat) (x : List Int) (A1 : Option Addr) (c1 : Nat) (y : List Int) (g : Int) (s i j a b : Nat) (c : Int) (w : World) (hx : Kd.C (Kd.int .i64) w A0 x.length x) (hy : Kd.C (Kd.int .i64) w A1 y.length y)
    (bx : ∀ v ∈ x, -1000 ≤ v ∧ v ≤ 1000) (by_ : ∀ v ∈ y, -1000 ≤ v ∧ v ≤ 1000) (hg : -1000 ≤ g ∧ g ≤ 1000) (hx32 : x.length ≤ 32) (hy32 : y.length ≤ 32) (h : Cand g x y s i j a b c) :
    Calls Try.prog 32 #[.int .i64 ((s : Int) + 1), .slice A0 x.length c0, .slice A1 y.length c1, .int .i64 g, .int .i64 (i : Int), .int .i64 (j : Int)] w fun e w' => e = .returned (.tuple #[.int .i64 c, .int .i64 (a : Int), .int .i64 (b : Int), .bool true]) ∧ Drawn0 w w' := by
  rcases h with ⟨rfl, rfl, rfl, h, k, rfl⟩ | ⟨rfl, rfl, rfl, h, rfl⟩ | ⟨rfl, rfl, rfl, k, rfl⟩
  · exact last_both A0 c0 x A1 c1 y g a b w hx hy bx by_ hg hx32 hy32 h k
  · exact last_left A0 c0 x A1 c1 y g a j w hx hy bx by_ hg hx32 hy32 h
  · exact last_right A0 c0 x A1 c1 y g i b w hx hy bx by_ hg hx32 hy32 k
theorem last_no (A0 : Option Addr) (c0 : Nat) (x : List Int) (A1 : Option Addr) (c1 : Nat) (y : List Int) (g : Int) (s i j : Nat) (w : World) (hx : Kd.C (Kd.int .i64) w A0 x.length x) (hy : Kd.C (Kd.int .i64) w A1 y.length y)
    (bx : ∀ v ∈ x, -1000 ≤ v ∧ v ≤ 1000) (by_ : ∀ v ∈ y, -1000 ≤ v ∧ v ≤ 1000) (hg : -1000 ≤ g ∧ g ≤ 1000) (hx32 : x.length ≤ 32) (hy32 : y.length ≤ 32) (hi : i ≤ x.length) (hj : j ≤ y.length) (h : NoCand s i j) :
    Calls Try.prog 32 #[.int .i64 ((s : Int) + 1), .slice A0 x.length c0, .slice A1 y.length c1, .int .i64 g, .int .i64 (i : Int), .int .i64 (j : Int)] w fun e w' => e = .returned (.tuple #[.int .i64 0, .int .i64 0, .int .i64 0, .bool false]) ∧ Drawn0 w w' := by
  rcases h with ⟨rfl, h⟩ | ⟨rfl, rfl⟩ | ⟨rfl, rfl⟩
  · cases i with
    | zero => exact last_no1l A0 c0 x A1 c1 y g 0 j w hx hy bx by_ hg hx32 hy32
    | succ i =>
      obtain rfl : j = 0 := by omega
      exact last_no1r A0 c0 x A1 c1 y g i 0 w hx hy bx by_ hg hx32 hy32
  · exact last_no2 A0 c0 x A1 c1 y g 0 j w hx hy bx by_ hg hx32 hy32
  · exact last_no3 A0 c0 x A1 c1 y g i 0 w hx hy bx by_ hg hx32 hy32

theorem below_setRow {B : Nat} {w W : World} (h : Below B w W) {g : Nat} (hg : B ≤ g) (cs : Array Value) : Below B w (W.setRow g cs) :=
  ⟨h.os, h.tape, h.output, by rw [size_setRow]; exact h.size, fun i hi => (setRow_other W g i cs (by omega)).trans (h.block i hi)⟩
theorem last_yes' (A0 : Option Addr) (c0 : Nat) (x : List Int) (A1 : Option Addr) (c1 : Nat) (y : List Int) (g : Int) (s t i j a b : Nat) (c : Int) (w : World) (ht : t = s + 1) (hx : Kd.C (Kd.int .i64) w A0 x.length x) (hy : Kd.C (Kd.int .i64) w A1 y.length y)
    (bx : ∀ v ∈ x, -1000 ≤ v ∧ v ≤ 1000) (by_ : ∀ v ∈ y, -1000 ≤ v ∧ v ≤ 1000) (hg : -1000 ≤ g ∧ g ≤ 1000) (hx32 : x.length ≤ 32) (hy32 : y.length ≤ 32) (h : Cand g x y s i j a b c) :
    Calls Try.prog 32 #[.int .i64 (t : Int), .slice A0 x.length c0, .slice A1 y.length c1, .int .i64 g, .int .i64 (i : Int), .int .i64 (j : Int)] w fun e w' => e = .returned (.tuple #[.int .i64 c, .int .i64 (a : Int), .int .i64 (b : Int), .bool true]) ∧ Drawn0 w w' := by
  subst ht
  exact last_yes A0 c0 x A1 c1 y g s i j a b c w hx hy bx by_ hg hx32 hy32 h
theorem last_no' (A0 : Option Addr) (c0 : Nat) (x : List Int) (A1 : Option Addr) (c1 : Nat) (y : List Int) (g : Int) (s t i j : Nat) (w : World) (ht : t = s + 1) (hx : Kd.C (Kd.int .i64) w A0 x.length x) (hy : Kd.C (Kd.int .i64) w A1 y.length y)
    (bx : ∀ v ∈ x, -1000 ≤ v ∧ v ≤ 1000) (by_ : ∀ v ∈ y, -1000 ≤ v ∧ v ≤ 1000) (hg : -1000 ≤ g ∧ g ≤ 1000) (hx32 : x.length ≤ 32) (hy32 : y.length ≤ 32) (hi : i ≤ x.length) (hj : j ≤ y.length) (h : NoCand s i j) :
    Calls Try.prog 32 #[.int .i64 (t : Int), .slice A0 x.length c0, .slice A1 y.length c1, .int .i64 g, .int .i64 (i : Int), .int .i64 (j : Int)] w fun e w' => e = .returned (.tuple #[.int .i64 0, .int .i64 0, .int .i64 0, .bool false]) ∧ Drawn0 w w' := by
  subst ht
  exact last_no A0 c0 x A1 c1 y g s i j w hx hy bx by_ hg hx32 hy32 hi hj h
end Go.Proofs.Ytmmmapkobnepcaa.X
