/- This file proves, function by function, what the Go functions that one law uses compute; most of it was printed by a program (wip/tools of this session, over the kit's print). -/
import Derived.Test.YtmkjmplkokfoiaaPEuclidBeginningsx0
import Derived.Test.YtmkjmplkokfoiaaPEuclidBeginningsx2
import Derived.Test.YtmkjmplkokfoiaaPEuclidBeginningsx3
import Derived.Test.YtmkjmplkokfoiaaPEuclidBeginningsx4
import Derived.Test.YtmkjmplkokfoiaaPEuclidBeginningsx5
import Derived.Test.YtmkjmplkokfoiaaPEuclidBeginningsx6
namespace Go.Proofs.Ytmkjmplkokfoiaa.PEuclidBeginnings
open Go.RowKit Go.Proofs.YtmkjmplkokfoiaaW.PrintWords Go.Proofs.YtmkjmplkokfoiaaW.PrintLast Go.Proofs.YtmkjmplkokfoiaaW.PrintMore
attribute [local go_sem] max2_int min2_int max_two min_two max_three min_three max_four min_four   -- for this text's walks alone
set_option linter.unusedVariables false
set_option linter.unusedSimpArgs false

/-! ### shapesearchlaw12_EuclidBeginnings: function 6 -/
def shapesearchlaw12_EuclidBeginnings.j0 : Nat → List Int → List Int → Int → Int → Int → Bool → Option (Bool)
  | 0, _, _, _, _, _, _ => none
  | k + 1, x6, x7, x8, x9, x11, x88 => if x88 = true then (some false) else (if (wrap64 ((x6.length : Int) - x8)) ≥ 2 then (if 0 ≤ x8 then (if x8 ≤ (x6.length : Int) then (if x8 ≤ (x7.length : Int) then ((euclid_Distance.f k (x6.drop (x8 : Int).toNat) (x7.drop (x8 : Int).toNat)).bind fun bt325 => (if bt325.2 = 0 then (if (wrap64 (x9 + bt325.1)) = x11 then ((shapesearchlaw12_awake.f k).bind fun t327 => (some t327)) else (some false)) else (some false))) else (none)) else (none)) else (none)) else ((shapesearchlaw12_awake.f k).bind fun t328 => (some t328)))
def shapesearchlaw12_EuclidBeginnings.f (k : Nat) (l0 : List Int) (a1 : Int) : Option (Bool) := (shapesearchkeep_New.f l0).bind fun bt277 => ((shapesearchkeep_Src_Pair.f k bt277.1 bt277.2).bind fun bt280 => ((shapesearchkeep_Mod.f (wrap64 (a1)) (wrap64 ((bt280.1.length : Int) - 1))).bind fun t287 => (if 0 ≤ (wrap64 (2 + t287)) then (if (wrap64 (2 + t287)) ≤ (bt280.1.length : Int) then (if (wrap64 (2 + t287)) ≤ (bt280.2.1.length : Int) then ((euclid_Distance.f k (bt280.1.take ((wrap64 (2 + t287)) : Int).toNat) (bt280.2.1.take ((wrap64 (2 + t287)) : Int).toNat)).bind fun bt296 => ((euclid_Distance.f k bt280.1 bt280.2.1).bind fun bt298 => ((euclid_Shifted.f k (bt280.1.take ((wrap64 (2 + t287)) : Int).toNat) (bt280.2.1.take ((wrap64 (2 + t287)) : Int).toNat)).bind fun bt308 => ((euclid_Shifted.f k bt280.1 bt280.2.1).bind fun bt312 => (if bt296.2 = 0 then (if bt298.2 = 0 then (if bt308.2.2 = 0 then (if bt312.2.2 = 0 then (if bt296.1 > bt298.1 then (shapesearchlaw12_EuclidBeginnings.j0 k bt280.1 bt280.2.1 (wrap64 (2 + t287)) bt296.1 bt298.1 true) else ((shapesearchref01_Less.f k bt312.1 bt312.2.1 bt308.1 bt308.2.1).bind fun t316 => (shapesearchlaw12_EuclidBeginnings.j0 k bt280.1 bt280.2.1 (wrap64 (2 + t287)) bt296.1 bt298.1 t316))) else (shapesearchlaw12_EuclidBeginnings.j0 k bt280.1 bt280.2.1 (wrap64 (2 + t287)) bt296.1 bt298.1 true)) else (shapesearchlaw12_EuclidBeginnings.j0 k bt280.1 bt280.2.1 (wrap64 (2 + t287)) bt296.1 bt298.1 true)) else (shapesearchlaw12_EuclidBeginnings.j0 k bt280.1 bt280.2.1 (wrap64 (2 + t287)) bt296.1 bt298.1 true)) else (shapesearchlaw12_EuclidBeginnings.j0 k bt280.1 bt280.2.1 (wrap64 (2 + t287)) bt296.1 bt298.1 true)))))) else (none)) else (none)) else (none))))
theorem shapesearchlaw12_EuclidBeginnings.mono_l : ∀ k, (∀ y0 y1 y2 y3 y4 y5, LeO (shapesearchlaw12_EuclidBeginnings.j0 k y0 y1 y2 y3 y4 y5) (shapesearchlaw12_EuclidBeginnings.j0 (k + 1) y0 y1 y2 y3 y4 y5))
  | 0 => fun _ _ _ _ _ _ r h => by simp [shapesearchlaw12_EuclidBeginnings.j0] at h
  | k + 1 => by
    have ih0 := shapesearchlaw12_EuclidBeginnings.mono_l k
    · intro y0 y1 y2 y3 y4 y5
      unfold shapesearchlaw12_EuclidBeginnings.j0
      repeat' first
      | (with_reducible exact ih0 _ _ _ _ _ _)
      | (with_reducible exact euclid_Distance.mono _ _ _)
      | (with_reducible exact euclid_Shifted.mono _ _ _)
      | (with_reducible exact shapesearchkeep_Src_Pair.mono _ _ _)
      | (with_reducible exact shapesearchlaw12_awake.mono _)
      | (with_reducible exact shapesearchref01_Less.mono _ _ _ _ _)
      | (with_reducible exact LeO.refl _)
      | (with_reducible exact LeO.none _)
      | (with_reducible refine LeO.ite ?_ ?_)
      | (with_reducible refine LeO.bind ?_ (fun _ => ?_))
      | exact ih0 _ _ _ _ _ _
      | exact euclid_Distance.mono _ _ _
      | exact euclid_Shifted.mono _ _ _
      | exact shapesearchkeep_Src_Pair.mono _ _ _
      | exact shapesearchlaw12_awake.mono _
      | exact shapesearchref01_Less.mono _ _ _ _ _
      | exact LeO.none _
      | refine LeO.ite ?_ ?_
      | refine LeO.bind ?_ (fun _ => ?_)
theorem shapesearchlaw12_EuclidBeginnings.mono : ∀ a0 a1 k, LeO (shapesearchlaw12_EuclidBeginnings.f k a0 a1) (shapesearchlaw12_EuclidBeginnings.f (k + 1) a0 a1) := by
  intro a0 a1 k
  have ih0 := shapesearchlaw12_EuclidBeginnings.mono_l k
  unfold shapesearchlaw12_EuclidBeginnings.f
  repeat' first
      | (with_reducible exact ih0 _ _ _ _ _ _)
      | (with_reducible exact euclid_Distance.mono _ _ _)
      | (with_reducible exact euclid_Shifted.mono _ _ _)
      | (with_reducible exact shapesearchkeep_Src_Pair.mono _ _ _)
      | (with_reducible exact shapesearchlaw12_awake.mono _)
      | (with_reducible exact shapesearchref01_Less.mono _ _ _ _ _)
      | (with_reducible exact LeO.refl _)
      | (with_reducible exact LeO.none _)
      | (with_reducible refine LeO.ite ?_ ?_)
      | (with_reducible refine LeO.bind ?_ (fun _ => ?_))
      | exact ih0 _ _ _ _ _ _
      | exact euclid_Distance.mono _ _ _
      | exact euclid_Shifted.mono _ _ _
      | exact shapesearchkeep_Src_Pair.mono _ _ _
      | exact shapesearchlaw12_awake.mono _
      | exact shapesearchref01_Less.mono _ _ _ _ _
      | exact LeO.none _
      | refine LeO.ite ?_ ?_
      | refine LeO.bind ?_ (fun _ => ?_)
def shapesearchlaw12_EuclidBeginnings.T4 : Bool × List (List Nat × List Nat) := (true, [([], []), ([], []), ([0, 1], [0, 1]), ([], []), ([], []), ([3, 4], [3, 4]), ([2, 5], [2, 5]), ([6], [6]), ([7], [7]), ([7], [7]), ([8, 6, 0, 1, 2, 3, 4, 5, 6, 7, 8], [8]), ([9, 10, 0, 1, 2, 3, 4, 5, 6, 7, 8, 9, 10], [9])])
def shapesearchlaw12_EuclidBeginnings.B4 : List Nat := [0, 0, 3, 0, 0, 24, 63, 127, 255, 255, 511, 2047]
theorem shapesearchlaw12_EuclidBeginnings.tab4 : rtab .any (opsOf Try.f6 4) = shapesearchlaw12_EuclidBeginnings.T4 := by kernel_rfl
theorem shapesearchlaw12_EuclidBeginnings.bits4 : waitsOk shapesearchlaw12_EuclidBeginnings.T4.2 shapesearchlaw12_EuclidBeginnings.B4 = true := by kernel_rfl
def shapesearchlaw12_EuclidBeginnings.T6 : Bool × List (List Nat × List Nat) := (true, [([], []), ([], []), ([0, 1], [0, 1]), ([], []), ([], []), ([3, 4], [3, 4]), ([2, 5], [2, 5]), ([6], [6]), ([7], [7]), ([7], [7]), ([], []), ([10, 8, 6, 0, 1, 2, 3, 4, 5, 6, 7, 8, 10], [8, 10]), ([9, 11, 0, 1, 2, 3, 4, 5, 6, 7, 8, 9, 10, 11], [9])])
def shapesearchlaw12_EuclidBeginnings.B6 : List Nat := [0, 0, 3, 0, 0, 24, 63, 127, 255, 255, 0, 1535, 4095]
theorem shapesearchlaw12_EuclidBeginnings.tab6 : rtab .any (opsOf Try.f6 6) = shapesearchlaw12_EuclidBeginnings.T6 := by kernel_rfl
theorem shapesearchlaw12_EuclidBeginnings.bits6 : waitsOk shapesearchlaw12_EuclidBeginnings.T6.2 shapesearchlaw12_EuclidBeginnings.B6 = true := by kernel_rfl
def shapesearchlaw12_EuclidBeginnings.T11 : Bool × List (List Nat × List Nat) := (true, [([], []), ([], []), ([0, 1], [0, 1]), ([], []), ([], []), ([3, 4], [3, 4]), ([2, 5], [2, 5]), ([6], [6]), ([7], [7]), ([7], [7]), ([8, 6, 0, 1, 2, 3, 4, 5, 6, 7, 8], [8]), ([9, 10, 0, 1, 2, 3, 4, 5, 6, 7, 8, 9, 10], [9])])
def shapesearchlaw12_EuclidBeginnings.B11 : List Nat := [0, 0, 3, 0, 0, 24, 63, 127, 255, 255, 511, 2047]
theorem shapesearchlaw12_EuclidBeginnings.tab11 : rtab .any (opsOf Try.f6 11) = shapesearchlaw12_EuclidBeginnings.T11 := by kernel_rfl
theorem shapesearchlaw12_EuclidBeginnings.bits11 : waitsOk shapesearchlaw12_EuclidBeginnings.T11.2 shapesearchlaw12_EuclidBeginnings.B11 = true := by kernel_rfl
set_option maxHeartbeats 8000000 in
set_option maxRecDepth 100000 in
theorem shapesearchlaw12_EuclidBeginnings.calls (k : Nat) (A0 : Option Addr) (c0 : Nat) (l0 : List Int) (a1 : Int) (r : Bool) (w : World) (hr0 : Kd.C (Kd.int .i64) w A0 l0.length l0) (hc0 : l0.length ≤ c0) (h : shapesearchlaw12_EuclidBeginnings.f k l0 a1 = some r) :
    Calls Try.prog 6 #[.slice A0 l0.length c0, .int .u8 a1] w fun e w' => e = .returned (.bool r) ∧ Below w.heap.size w w' := by
  have hu37 := Try.underlying37
  have HR0 := Aside0.mk hr0
  have HC0 := Aside0.mk hc0
  clear hr0 hc0
  have HB := Aside0.mk (Below.refl w.heap.size w)
  have H : ((shapesearchkeep_New.f l0).bind fun bt277 => ((shapesearchkeep_Src_Pair.f k bt277.1 bt277.2).bind fun bt280 => ((shapesearchkeep_Mod.f (wrap64 (a1)) (wrap64 ((bt280.1.length : Int) - 1))).bind fun t287 => (if 0 ≤ (wrap64 (2 + t287)) then (if (wrap64 (2 + t287)) ≤ (bt280.1.length : Int) then (if (wrap64 (2 + t287)) ≤ (bt280.2.1.length : Int) then ((euclid_Distance.f k (bt280.1.take ((wrap64 (2 + t287)) : Int).toNat) (bt280.2.1.take ((wrap64 (2 + t287)) : Int).toNat)).bind fun bt296 => ((euclid_Distance.f k bt280.1 bt280.2.1).bind fun bt298 => ((euclid_Shifted.f k (bt280.1.take ((wrap64 (2 + t287)) : Int).toNat) (bt280.2.1.take ((wrap64 (2 + t287)) : Int).toNat)).bind fun bt308 => ((euclid_Shifted.f k bt280.1 bt280.2.1).bind fun bt312 => (if bt296.2 = 0 then (if bt298.2 = 0 then (if bt308.2.2 = 0 then (if bt312.2.2 = 0 then (if bt296.1 > bt298.1 then (shapesearchlaw12_EuclidBeginnings.j0 k bt280.1 bt280.2.1 (wrap64 (2 + t287)) bt296.1 bt298.1 true) else ((shapesearchref01_Less.f k bt312.1 bt312.2.1 bt308.1 bt308.2.1).bind fun t316 => (shapesearchlaw12_EuclidBeginnings.j0 k bt280.1 bt280.2.1 (wrap64 (2 + t287)) bt296.1 bt298.1 t316))) else (shapesearchlaw12_EuclidBeginnings.j0 k bt280.1 bt280.2.1 (wrap64 (2 + t287)) bt296.1 bt298.1 true)) else (shapesearchlaw12_EuclidBeginnings.j0 k bt280.1 bt280.2.1 (wrap64 (2 + t287)) bt296.1 bt298.1 true)) else (shapesearchlaw12_EuclidBeginnings.j0 k bt280.1 bt280.2.1 (wrap64 (2 + t287)) bt296.1 bt298.1 true)) else (shapesearchlaw12_EuclidBeginnings.j0 k bt280.1 bt280.2.1 (wrap64 (2 + t287)) bt296.1 bt298.1 true)))))) else (none)) else (none)) else (none))))) = some r := h
  clear h
  replace H := Option.bind_eq_some_iff.mp H
  obtain ⟨⟨t277, t278⟩, A30, H⟩ := H
  replace H : ((shapesearchkeep_Src_Pair.f k t277 t278).bind fun bt280 => ((shapesearchkeep_Mod.f (wrap64 (a1)) (wrap64 ((bt280.1.length : Int) - 1))).bind fun t287 => (if 0 ≤ (wrap64 (2 + t287)) then (if (wrap64 (2 + t287)) ≤ (bt280.1.length : Int) then (if (wrap64 (2 + t287)) ≤ (bt280.2.1.length : Int) then ((euclid_Distance.f k (bt280.1.take ((wrap64 (2 + t287)) : Int).toNat) (bt280.2.1.take ((wrap64 (2 + t287)) : Int).toNat)).bind fun bt296 => ((euclid_Distance.f k bt280.1 bt280.2.1).bind fun bt298 => ((euclid_Shifted.f k (bt280.1.take ((wrap64 (2 + t287)) : Int).toNat) (bt280.2.1.take ((wrap64 (2 + t287)) : Int).toNat)).bind fun bt308 => ((euclid_Shifted.f k bt280.1 bt280.2.1).bind fun bt312 => (if bt296.2 = 0 then (if bt298.2 = 0 then (if bt308.2.2 = 0 then (if bt312.2.2 = 0 then (if bt296.1 > bt298.1 then (shapesearchlaw12_EuclidBeginnings.j0 k bt280.1 bt280.2.1 (wrap64 (2 + t287)) bt296.1 bt298.1 true) else ((shapesearchref01_Less.f k bt312.1 bt312.2.1 bt308.1 bt308.2.1).bind fun t316 => (shapesearchlaw12_EuclidBeginnings.j0 k bt280.1 bt280.2.1 (wrap64 (2 + t287)) bt296.1 bt298.1 t316))) else (shapesearchlaw12_EuclidBeginnings.j0 k bt280.1 bt280.2.1 (wrap64 (2 + t287)) bt296.1 bt298.1 true)) else (shapesearchlaw12_EuclidBeginnings.j0 k bt280.1 bt280.2.1 (wrap64 (2 + t287)) bt296.1 bt298.1 true)) else (shapesearchlaw12_EuclidBeginnings.j0 k bt280.1 bt280.2.1 (wrap64 (2 + t287)) bt296.1 bt298.1 true)) else (shapesearchlaw12_EuclidBeginnings.j0 k bt280.1 bt280.2.1 (wrap64 (2 + t287)) bt296.1 bt298.1 true)))))) else (none)) else (none)) else (none)))) = some r := H
  have A3 := Aside0.mk A30
  clear A30
  replace H := Option.bind_eq_some_iff.mp H
  obtain ⟨⟨t280, t283, t286⟩, A40, H⟩ := H
  replace H : ((shapesearchkeep_Mod.f (wrap64 (a1)) (wrap64 ((t280.length : Int) - 1))).bind fun t287 => (if 0 ≤ (wrap64 (2 + t287)) then (if (wrap64 (2 + t287)) ≤ (t280.length : Int) then (if (wrap64 (2 + t287)) ≤ (t283.length : Int) then ((euclid_Distance.f k (t280.take ((wrap64 (2 + t287)) : Int).toNat) (t283.take ((wrap64 (2 + t287)) : Int).toNat)).bind fun bt296 => ((euclid_Distance.f k t280 t283).bind fun bt298 => ((euclid_Shifted.f k (t280.take ((wrap64 (2 + t287)) : Int).toNat) (t283.take ((wrap64 (2 + t287)) : Int).toNat)).bind fun bt308 => ((euclid_Shifted.f k t280 t283).bind fun bt312 => (if bt296.2 = 0 then (if bt298.2 = 0 then (if bt308.2.2 = 0 then (if bt312.2.2 = 0 then (if bt296.1 > bt298.1 then (shapesearchlaw12_EuclidBeginnings.j0 k t280 t283 (wrap64 (2 + t287)) bt296.1 bt298.1 true) else ((shapesearchref01_Less.f k bt312.1 bt312.2.1 bt308.1 bt308.2.1).bind fun t316 => (shapesearchlaw12_EuclidBeginnings.j0 k t280 t283 (wrap64 (2 + t287)) bt296.1 bt298.1 t316))) else (shapesearchlaw12_EuclidBeginnings.j0 k t280 t283 (wrap64 (2 + t287)) bt296.1 bt298.1 true)) else (shapesearchlaw12_EuclidBeginnings.j0 k t280 t283 (wrap64 (2 + t287)) bt296.1 bt298.1 true)) else (shapesearchlaw12_EuclidBeginnings.j0 k t280 t283 (wrap64 (2 + t287)) bt296.1 bt298.1 true)) else (shapesearchlaw12_EuclidBeginnings.j0 k t280 t283 (wrap64 (2 + t287)) bt296.1 bt298.1 true)))))) else (none)) else (none)) else (none))) = some r := H
  have A4 := Aside0.mk A40
  clear A40
  replace H := Option.bind_eq_some_iff.mp H
  obtain ⟨t287, A50, H⟩ := H
  replace H : (if 0 ≤ (wrap64 (2 + t287)) then (if (wrap64 (2 + t287)) ≤ (t280.length : Int) then (if (wrap64 (2 + t287)) ≤ (t283.length : Int) then ((euclid_Distance.f k (t280.take ((wrap64 (2 + t287)) : Int).toNat) (t283.take ((wrap64 (2 + t287)) : Int).toNat)).bind fun bt296 => ((euclid_Distance.f k t280 t283).bind fun bt298 => ((euclid_Shifted.f k (t280.take ((wrap64 (2 + t287)) : Int).toNat) (t283.take ((wrap64 (2 + t287)) : Int).toNat)).bind fun bt308 => ((euclid_Shifted.f k t280 t283).bind fun bt312 => (if bt296.2 = 0 then (if bt298.2 = 0 then (if bt308.2.2 = 0 then (if bt312.2.2 = 0 then (if bt296.1 > bt298.1 then (shapesearchlaw12_EuclidBeginnings.j0 k t280 t283 (wrap64 (2 + t287)) bt296.1 bt298.1 true) else ((shapesearchref01_Less.f k bt312.1 bt312.2.1 bt308.1 bt308.2.1).bind fun t316 => (shapesearchlaw12_EuclidBeginnings.j0 k t280 t283 (wrap64 (2 + t287)) bt296.1 bt298.1 t316))) else (shapesearchlaw12_EuclidBeginnings.j0 k t280 t283 (wrap64 (2 + t287)) bt296.1 bt298.1 true)) else (shapesearchlaw12_EuclidBeginnings.j0 k t280 t283 (wrap64 (2 + t287)) bt296.1 bt298.1 true)) else (shapesearchlaw12_EuclidBeginnings.j0 k t280 t283 (wrap64 (2 + t287)) bt296.1 bt298.1 true)) else (shapesearchlaw12_EuclidBeginnings.j0 k t280 t283 (wrap64 (2 + t287)) bt296.1 bt298.1 true)))))) else (none)) else (none)) else (none)) = some r := H
  have A5 := Aside0.mk A50
  clear A50
  obtain ⟨ji6, hji6⟩ : ∃ j_ : Int, (wrap64 (2 + t287)) = j_ := ⟨_, rfl⟩
  replace H : (if 0 ≤ (ji6) then (if (ji6) ≤ (t280.length : Int) then (if (ji6) ≤ (t283.length : Int) then ((euclid_Distance.f k (t280.take ((ji6) : Int).toNat) (t283.take ((ji6) : Int).toNat)).bind fun bt296 => ((euclid_Distance.f k t280 t283).bind fun bt298 => ((euclid_Shifted.f k (t280.take ((ji6) : Int).toNat) (t283.take ((ji6) : Int).toNat)).bind fun bt308 => ((euclid_Shifted.f k t280 t283).bind fun bt312 => (if bt296.2 = 0 then (if bt298.2 = 0 then (if bt308.2.2 = 0 then (if bt312.2.2 = 0 then (if bt296.1 > bt298.1 then (shapesearchlaw12_EuclidBeginnings.j0 k t280 t283 ji6 bt296.1 bt298.1 true) else ((shapesearchref01_Less.f k bt312.1 bt312.2.1 bt308.1 bt308.2.1).bind fun t316 => (shapesearchlaw12_EuclidBeginnings.j0 k t280 t283 ji6 bt296.1 bt298.1 t316))) else (shapesearchlaw12_EuclidBeginnings.j0 k t280 t283 ji6 bt296.1 bt298.1 true)) else (shapesearchlaw12_EuclidBeginnings.j0 k t280 t283 ji6 bt296.1 bt298.1 true)) else (shapesearchlaw12_EuclidBeginnings.j0 k t280 t283 ji6 bt296.1 bt298.1 true)) else (shapesearchlaw12_EuclidBeginnings.j0 k t280 t283 ji6 bt296.1 bt298.1 true)))))) else (none)) else (none)) else (none)) = some r := by first | (rw [hji6] at H; exact H) | (simp only [hji6] at H ⊢; exact H)
  (try rw [hji6] at A3)
  (try rw [hji6] at A4)
  (try rw [hji6] at A5)
  have hji6w : (IntKind.i64.wrap (2 + t287)) = ji6 := (i64_w _).trans hji6
  by_cases c7 : 0 ≤ (ji6)
  · rw [if_pos c7] at H
    have c7b0 := eq_true c7
    have c7b1 : decide (0 ≤ (ji6)) = true := decide_eq_true c7
    clear c7
    by_cases c8 : (ji6) ≤ (t280.length : Int)
    · rw [if_pos c8] at H
      have c8b0 := eq_true c8
      have c8b1 : decide ((ji6) ≤ (t280.length : Int)) = true := decide_eq_true c8
      clear c8
      obtain ⟨y288, hy288⟩ : ∃ y_ : List Int, y_ = (t280.take ((ji6) : Int).toNat) := ⟨_, rfl⟩
      replace H : (if (ji6) ≤ (t283.length : Int) then ((euclid_Distance.f k y288 (t283.take ((ji6) : Int).toNat)).bind fun bt296 => ((euclid_Distance.f k t280 t283).bind fun bt298 => ((euclid_Shifted.f k (t280.take ((ji6) : Int).toNat) (t283.take ((ji6) : Int).toNat)).bind fun bt308 => ((euclid_Shifted.f k t280 t283).bind fun bt312 => (if bt296.2 = 0 then (if bt298.2 = 0 then (if bt308.2.2 = 0 then (if bt312.2.2 = 0 then (if bt296.1 > bt298.1 then (shapesearchlaw12_EuclidBeginnings.j0 k t280 t283 ji6 bt296.1 bt298.1 true) else ((shapesearchref01_Less.f k bt312.1 bt312.2.1 bt308.1 bt308.2.1).bind fun t316 => (shapesearchlaw12_EuclidBeginnings.j0 k t280 t283 ji6 bt296.1 bt298.1 t316))) else (shapesearchlaw12_EuclidBeginnings.j0 k t280 t283 ji6 bt296.1 bt298.1 true)) else (shapesearchlaw12_EuclidBeginnings.j0 k t280 t283 ji6 bt296.1 bt298.1 true)) else (shapesearchlaw12_EuclidBeginnings.j0 k t280 t283 ji6 bt296.1 bt298.1 true)) else (shapesearchlaw12_EuclidBeginnings.j0 k t280 t283 ji6 bt296.1 bt298.1 true)))))) else (none)) = some r := by first | (rw [hy288]; with_reducible exact H) | (have H2_ := (Option.bind_some _ _).symm.trans H; rw [hy288]; with_reducible exact H2_) | (have H2_ := (Option.bind_some _ _).symm.trans H; with_reducible exact H2_) | with_reducible exact H | (rw [hy288]; exact H) | exact H
      have Ny288 := Aside0.mk hy288
      clear hy288
      have c9b0 := eq_true (of_decide_eq_true (by first | (with_reducible assumption) | assumption) : 0 ≤ (ji6))
      by_cases c10 : (ji6) ≤ (t283.length : Int)
      · rw [if_pos c10] at H
        have c10b0 := eq_true c10
        have c10b1 : decide ((ji6) ≤ (t283.length : Int)) = true := decide_eq_true c10
        clear c10
        obtain ⟨y292, hy292⟩ : ∃ y_ : List Int, y_ = (t283.take ((ji6) : Int).toNat) := ⟨_, rfl⟩
        replace H : ((euclid_Distance.f k y288 y292).bind fun bt296 => ((euclid_Distance.f k t280 t283).bind fun bt298 => ((euclid_Shifted.f k (t280.take ((ji6) : Int).toNat) (t283.take ((ji6) : Int).toNat)).bind fun bt308 => ((euclid_Shifted.f k t280 t283).bind fun bt312 => (if bt296.2 = 0 then (if bt298.2 = 0 then (if bt308.2.2 = 0 then (if bt312.2.2 = 0 then (if bt296.1 > bt298.1 then (shapesearchlaw12_EuclidBeginnings.j0 k t280 t283 ji6 bt296.1 bt298.1 true) else ((shapesearchref01_Less.f k bt312.1 bt312.2.1 bt308.1 bt308.2.1).bind fun t316 => (shapesearchlaw12_EuclidBeginnings.j0 k t280 t283 ji6 bt296.1 bt298.1 t316))) else (shapesearchlaw12_EuclidBeginnings.j0 k t280 t283 ji6 bt296.1 bt298.1 true)) else (shapesearchlaw12_EuclidBeginnings.j0 k t280 t283 ji6 bt296.1 bt298.1 true)) else (shapesearchlaw12_EuclidBeginnings.j0 k t280 t283 ji6 bt296.1 bt298.1 true)) else (shapesearchlaw12_EuclidBeginnings.j0 k t280 t283 ji6 bt296.1 bt298.1 true)))))) = some r := by first | (rw [hy292]; with_reducible exact H) | (have H2_ := (Option.bind_some _ _).symm.trans H; rw [hy292]; with_reducible exact H2_) | (have H2_ := (Option.bind_some _ _).symm.trans H; with_reducible exact H2_) | with_reducible exact H | (rw [hy292]; exact H) | exact H
        have Ny292 := Aside0.mk hy292
        clear hy292
        replace H := Option.bind_eq_some_iff.mp H
        obtain ⟨⟨t296, t297⟩, A110, H⟩ := H
        replace H : ((euclid_Distance.f k t280 t283).bind fun bt298 => ((euclid_Shifted.f k (t280.take ((ji6) : Int).toNat) (t283.take ((ji6) : Int).toNat)).bind fun bt308 => ((euclid_Shifted.f k t280 t283).bind fun bt312 => (if t297 = 0 then (if bt298.2 = 0 then (if bt308.2.2 = 0 then (if bt312.2.2 = 0 then (if t296 > bt298.1 then (shapesearchlaw12_EuclidBeginnings.j0 k t280 t283 ji6 t296 bt298.1 true) else ((shapesearchref01_Less.f k bt312.1 bt312.2.1 bt308.1 bt308.2.1).bind fun t316 => (shapesearchlaw12_EuclidBeginnings.j0 k t280 t283 ji6 t296 bt298.1 t316))) else (shapesearchlaw12_EuclidBeginnings.j0 k t280 t283 ji6 t296 bt298.1 true)) else (shapesearchlaw12_EuclidBeginnings.j0 k t280 t283 ji6 t296 bt298.1 true)) else (shapesearchlaw12_EuclidBeginnings.j0 k t280 t283 ji6 t296 bt298.1 true)) else (shapesearchlaw12_EuclidBeginnings.j0 k t280 t283 ji6 t296 bt298.1 true))))) = some r := H
        have A11 := Aside0.mk A110
        clear A110
        replace H := Option.bind_eq_some_iff.mp H
        obtain ⟨⟨t298, t299⟩, A120, H⟩ := H
        replace H : ((euclid_Shifted.f k (t280.take ((ji6) : Int).toNat) (t283.take ((ji6) : Int).toNat)).bind fun bt308 => ((euclid_Shifted.f k t280 t283).bind fun bt312 => (if t297 = 0 then (if t299 = 0 then (if bt308.2.2 = 0 then (if bt312.2.2 = 0 then (if t296 > t298 then (shapesearchlaw12_EuclidBeginnings.j0 k t280 t283 ji6 t296 t298 true) else ((shapesearchref01_Less.f k bt312.1 bt312.2.1 bt308.1 bt308.2.1).bind fun t316 => (shapesearchlaw12_EuclidBeginnings.j0 k t280 t283 ji6 t296 t298 t316))) else (shapesearchlaw12_EuclidBeginnings.j0 k t280 t283 ji6 t296 t298 true)) else (shapesearchlaw12_EuclidBeginnings.j0 k t280 t283 ji6 t296 t298 true)) else (shapesearchlaw12_EuclidBeginnings.j0 k t280 t283 ji6 t296 t298 true)) else (shapesearchlaw12_EuclidBeginnings.j0 k t280 t283 ji6 t296 t298 true)))) = some r := H
        have A12 := Aside0.mk A120
        clear A120
        have c13b0 := eq_true (of_decide_eq_true (by first | (with_reducible assumption) | assumption) : 0 ≤ (ji6))
        have c14b0 := eq_true (of_decide_eq_true (by first | (with_reducible assumption) | assumption) : (ji6) ≤ (t280.length : Int))
        obtain ⟨y300, hy300⟩ : ∃ y_ : List Int, y_ = (t280.take ((ji6) : Int).toNat) := ⟨_, rfl⟩
        replace H : ((euclid_Shifted.f k y300 (t283.take ((ji6) : Int).toNat)).bind fun bt308 => ((euclid_Shifted.f k t280 t283).bind fun bt312 => (if t297 = 0 then (if t299 = 0 then (if bt308.2.2 = 0 then (if bt312.2.2 = 0 then (if t296 > t298 then (shapesearchlaw12_EuclidBeginnings.j0 k t280 t283 ji6 t296 t298 true) else ((shapesearchref01_Less.f k bt312.1 bt312.2.1 bt308.1 bt308.2.1).bind fun t316 => (shapesearchlaw12_EuclidBeginnings.j0 k t280 t283 ji6 t296 t298 t316))) else (shapesearchlaw12_EuclidBeginnings.j0 k t280 t283 ji6 t296 t298 true)) else (shapesearchlaw12_EuclidBeginnings.j0 k t280 t283 ji6 t296 t298 true)) else (shapesearchlaw12_EuclidBeginnings.j0 k t280 t283 ji6 t296 t298 true)) else (shapesearchlaw12_EuclidBeginnings.j0 k t280 t283 ji6 t296 t298 true)))) = some r := by first | (rw [hy300]; with_reducible exact H) | (have H2_ := (Option.bind_some _ _).symm.trans H; rw [hy300]; with_reducible exact H2_) | (have H2_ := (Option.bind_some _ _).symm.trans H; with_reducible exact H2_) | with_reducible exact H | (rw [hy300]; exact H) | exact H
        have Ny300 := Aside0.mk hy300
        clear hy300
        have c15b0 := eq_true (of_decide_eq_true (by first | (with_reducible assumption) | assumption) : 0 ≤ (ji6))
        have c16b0 := eq_true (of_decide_eq_true (by first | (with_reducible assumption) | assumption) : (ji6) ≤ (t283.length : Int))
        obtain ⟨y304, hy304⟩ : ∃ y_ : List Int, y_ = (t283.take ((ji6) : Int).toNat) := ⟨_, rfl⟩
        replace H : ((euclid_Shifted.f k y300 y304).bind fun bt308 => ((euclid_Shifted.f k t280 t283).bind fun bt312 => (if t297 = 0 then (if t299 = 0 then (if bt308.2.2 = 0 then (if bt312.2.2 = 0 then (if t296 > t298 then (shapesearchlaw12_EuclidBeginnings.j0 k t280 t283 ji6 t296 t298 true) else ((shapesearchref01_Less.f k bt312.1 bt312.2.1 bt308.1 bt308.2.1).bind fun t316 => (shapesearchlaw12_EuclidBeginnings.j0 k t280 t283 ji6 t296 t298 t316))) else (shapesearchlaw12_EuclidBeginnings.j0 k t280 t283 ji6 t296 t298 true)) else (shapesearchlaw12_EuclidBeginnings.j0 k t280 t283 ji6 t296 t298 true)) else (shapesearchlaw12_EuclidBeginnings.j0 k t280 t283 ji6 t296 t298 true)) else (shapesearchlaw12_EuclidBeginnings.j0 k t280 t283 ji6 t296 t298 true)))) = some r := by first | (rw [hy304]; with_reducible exact H) | (have H2_ := (Option.bind_some _ _).symm.trans H; rw [hy304]; with_reducible exact H2_) | (have H2_ := (Option.bind_some _ _).symm.trans H; with_reducible exact H2_) | with_reducible exact H | (rw [hy304]; exact H) | exact H
        have Ny304 := Aside0.mk hy304
        clear hy304
        replace H := Option.bind_eq_some_iff.mp H
        obtain ⟨⟨t308, t309, t310⟩, A170, H⟩ := H
        replace H : ((euclid_Shifted.f k t280 t283).bind fun bt312 => (if t297 = 0 then (if t299 = 0 then (if t310 = 0 then (if bt312.2.2 = 0 then (if t296 > t298 then (shapesearchlaw12_EuclidBeginnings.j0 k t280 t283 ji6 t296 t298 true) else ((shapesearchref01_Less.f k bt312.1 bt312.2.1 t308 t309).bind fun t316 => (shapesearchlaw12_EuclidBeginnings.j0 k t280 t283 ji6 t296 t298 t316))) else (shapesearchlaw12_EuclidBeginnings.j0 k t280 t283 ji6 t296 t298 true)) else (shapesearchlaw12_EuclidBeginnings.j0 k t280 t283 ji6 t296 t298 true)) else (shapesearchlaw12_EuclidBeginnings.j0 k t280 t283 ji6 t296 t298 true)) else (shapesearchlaw12_EuclidBeginnings.j0 k t280 t283 ji6 t296 t298 true))) = some r := H
        have A17 := Aside0.mk A170
        clear A170
        replace H := Option.bind_eq_some_iff.mp H
        obtain ⟨⟨t312, t313, t314⟩, A180, H⟩ := H
        replace H : (if t297 = 0 then (if t299 = 0 then (if t310 = 0 then (if t314 = 0 then (if t296 > t298 then (shapesearchlaw12_EuclidBeginnings.j0 k t280 t283 ji6 t296 t298 true) else ((shapesearchref01_Less.f k t312 t313 t308 t309).bind fun t316 => (shapesearchlaw12_EuclidBeginnings.j0 k t280 t283 ji6 t296 t298 t316))) else (shapesearchlaw12_EuclidBeginnings.j0 k t280 t283 ji6 t296 t298 true)) else (shapesearchlaw12_EuclidBeginnings.j0 k t280 t283 ji6 t296 t298 true)) else (shapesearchlaw12_EuclidBeginnings.j0 k t280 t283 ji6 t296 t298 true)) else (shapesearchlaw12_EuclidBeginnings.j0 k t280 t283 ji6 t296 t298 true)) = some r := H
        have A18 := Aside0.mk A180
        clear A180
        have HC19 := Aside0.mk H
        clear H
        go_enter Try.func6, Try.ntmps6
        try go_wp2_with (first | ((with_reducible refine gate_callee (f := 9) rfl ?_); refine goesL_ (some 20) rfl rfl Try.func9 (by kernel_rfl) rfl #[.slice A0 l0.length c0] rfl (by (try simp only [List.map_toArray, List.map_cons, List.map_nil]); first | done | rfl | (simp only [List.length_drop, List.length_take]; rfl) | ((try rw [KY24.out]); (try rw [KY25.out]); (try rw [KY28.out]); (try rw [KY29.out]); (try rw [KY63.out]); (try rw [KY64.out]); (try rw [KY67.out]); (try rw [KY68.out]); (try rw [KY70.out]); (try rw [KY71.out]); rfl)) ?_; (with_reducible refine (shapesearchkeep_New.calls _ _ l0 t277 t278 w _ ?side1 ?side2 ?side3 A3.out).mono ?_); (case side1 => repeat (first | (with_reducible first | exact HB.out | apply below_alloc | apply pw_below_drewN | apply below_drew1) | exact HB.out)); (case side2 => exact HR0.out); (case side3 => exact HC0.out); rintro e w20 ⟨g279, rfl, hi, hb, hb2⟩; refine ⟨_, rfl, ?_⟩; have n0_ := Aside0.mk (hb); have n1_ := Aside0.mk (hi); clear HB; have HB := n0_; have HI279 := n1_; clear n0_ n1_; (try clear hb); (try clear hb2); (try clear hk); (try clear hi)) | ((with_reducible refine gate_callee (f := 10) rfl ?_); refine goesL_ (some 23) rfl rfl Try.func10 (by kernel_rfl) rfl #[.pointer (some ⟨g279, 0, none⟩)] rfl (by (try simp only [List.map_toArray, List.map_cons, List.map_nil]); first | done | rfl | (simp only [List.length_drop, List.length_take]; rfl) | ((try rw [KY24.out]); (try rw [KY25.out]); (try rw [KY28.out]); (try rw [KY29.out]); (try rw [KY63.out]); (try rw [KY64.out]); (try rw [KY67.out]); (try rw [KY68.out]); (try rw [KY70.out]); (try rw [KY71.out]); rfl)) ?_; (with_reducible refine (shapesearchkeep_Src_Pair.calls k g279 t277 t278 t280 t283 t286 w _ ?side1 ?side2 A4.out).mono ?_); (case side1 => repeat (first | (with_reducible first | exact HI279.out | apply IsS56.alloc | apply IsS56.drewN | apply IsS56.drew | apply IsS56.set_1) | exact HI279.out)); (case side2 => repeat (first | (with_reducible first | exact HB.out | apply below_alloc | apply pw_below_drewN | apply below_drew1 | refine below_set ?_ (IsS56.ge HI279.out)) | exact HB.out)); rintro e w21 ⟨v281, v284, rfl, ho0, ho1, hi, hb, hk⟩; refine ⟨_, rfl, ?_⟩; have n0_ := Aside0.mk (Kd.R_lower ho0 (below_size (by repeat (first | (with_reducible first | exact HB.out | apply below_alloc | apply pw_below_drewN | apply below_drew1 | refine below_set ?_ (IsS56.ge HI279.out)) | exact HB.out)))); have n1_ := Aside0.mk (Kd.R_lower ho1 (below_size (by repeat (first | (with_reducible first | exact HB.out | apply below_alloc | apply pw_below_drewN | apply below_drew1 | refine below_set ?_ (IsS56.ge HI279.out)) | exact HB.out)))); have n2_ := Aside0.mk (hb); have n3_ := Aside0.mk (hi); clear HB; clear HI279; have HO282 := n0_; have HO285 := n1_; have HB := n2_; have HI279 := n3_; clear n0_ n1_ n2_ n3_; (try clear hb); (try clear hb2); (try clear hk); (try clear hi); (try clear ho0); (try clear ho1); obtain ⟨Ao22, co22, eo22⟩ := Kd.R_slice HO282.out; subst eo22) | ((with_reducible refine gate_callee (f := 18) rfl ?_); refine goesL_ (some 31) rfl rfl Try.func18 (by kernel_rfl) rfl #[.int .i64 (wrap64 (a1)), .int .i64 (wrap64 ((t280.length : Int) - 1))] rfl (by (try simp only [List.map_toArray, List.map_cons, List.map_nil]); first | done | rfl | (simp only [List.length_drop, List.length_take]; rfl) | ((try rw [KY24.out]); (try rw [KY25.out]); (try rw [KY28.out]); (try rw [KY29.out]); (try rw [KY63.out]); (try rw [KY64.out]); (try rw [KY67.out]); (try rw [KY68.out]); (try rw [KY70.out]); (try rw [KY71.out]); rfl)) ?_; (with_reducible refine (shapesearchkeep_Mod.calls (wrap64 (a1)) (wrap64 ((t280.length : Int) - 1)) t287 _ A5.out).mono ?_); rintro e w' ⟨rfl, ⟨nd, rfl⟩⟩; refine ⟨_, rfl, ?_⟩; (try (rw [drewN_self w21]; generalize hq_ : World.drewN w21 _ = w21; have n0_ : Aside0 (Kd.R (Kd.int .i64) 3 w21 w.heap.size (fun k_ => some k_ ≠ (v284 : Value).ownBlock) (.slice Ao22 t280.length co22) t280) := ⟨by rw [← hq_]; exact (by (with_reducible repeat (first | apply Kd.R_alloc | apply Kd.R_drewN | apply Kd.R_drew)); exact HO282.out)⟩; have n1_ : Aside0 (Kd.R (Kd.int .i64) 3 w21 w.heap.size (fun k_ => some k_ ≠ (.slice Ao22 t280.length co22 : Value).ownBlock) v284 t283) := ⟨by rw [← hq_]; exact (by (with_reducible repeat (first | apply Kd.R_alloc | apply Kd.R_drewN | apply Kd.R_drew)); exact HO285.out)⟩; have n2_ : Aside0 (IsS56 w w21 g279 t277 t286) := ⟨by rw [← hq_]; exact (by repeat (first | (with_reducible first | exact HI279.out | apply IsS56.alloc | apply IsS56.drewN | apply IsS56.drew | apply IsS56.set_1) | exact HI279.out))⟩; have n3_ : Aside0 (Below w.heap.size w w21) := ⟨by rw [← hq_]; exact (by repeat (first | (with_reducible first | exact HB.out | apply below_alloc | apply pw_below_drewN | apply below_drew1 | refine below_set ?_ (IsS56.ge HI279.out)) | exact HB.out))⟩; clear HO282 HO285 HI279 HB hq_; have HO282 := n0_; have HO285 := n1_; have HI279 := n2_; have HB := n3_; clear n0_ n1_ n2_ n3_))))
        (try (rw [drewN_self w21]; generalize hq_ : World.drewN w21 _ = w21; have n0_ : Aside0 (Kd.R (Kd.int .i64) 3 w21 w.heap.size (fun k_ => some k_ ≠ (v284 : Value).ownBlock) (.slice Ao22 t280.length co22) t280) := ⟨by rw [← hq_]; exact (by (with_reducible repeat (first | apply Kd.R_alloc | apply Kd.R_drewN | apply Kd.R_drew)); exact HO282.out)⟩; have n1_ : Aside0 (Kd.R (Kd.int .i64) 3 w21 w.heap.size (fun k_ => some k_ ≠ (.slice Ao22 t280.length co22 : Value).ownBlock) v284 t283) := ⟨by rw [← hq_]; exact (by (with_reducible repeat (first | apply Kd.R_alloc | apply Kd.R_drewN | apply Kd.R_drew)); exact HO285.out)⟩; have n2_ : Aside0 (IsS56 w w21 g279 t277 t286) := ⟨by rw [← hq_]; exact (by repeat (first | (with_reducible first | exact HI279.out | apply IsS56.alloc | apply IsS56.drewN | apply IsS56.drew | apply IsS56.set_1) | exact HI279.out))⟩; have n3_ : Aside0 (Below w.heap.size w w21) := ⟨by rw [← hq_]; exact (by repeat (first | (with_reducible first | exact HB.out | apply below_alloc | apply pw_below_drewN | apply below_drew1 | refine below_set ?_ (IsS56.ge HI279.out)) | exact HB.out))⟩; clear HO282 HO285 HI279 HB hq_; have HO282 := n0_; have HO285 := n1_; have HI279 := n2_; have HB := n3_; clear n0_ n1_ n2_ n3_))
        have n0_ := Aside0.mk (Kd.R_drew HO282.out)
        have n1_ := Aside0.mk (Kd.R_drew HO285.out)
        have n2_ := Aside0.mk (IsS56.drew HI279.out)
        have n3_ := Aside0.mk (below_drew1 HB.out)
        clear HO282
        clear HO285
        clear HI279
        clear HB
        have HO282 := n0_
        have HO285 := n1_
        have HI279 := n2_
        have HB := n3_
        clear n0_ n1_ n2_ n3_
        have q24 : ((ji6) : Int) ≤ ((t280.length : Int) : Int) := of_decide_eq_true (by first | (with_reducible assumption) | assumption)
        obtain ⟨i024, hi024, _, hsz24, _⟩ := info_parts info3
        have hroom24 : t280.length ≤ co22 := (Kd.R_reads' HO282.out).2.1
        have hC24 : Kd.C (Kd.int .i64) _ Ao22 t280.length t280 := (Kd.R_reads' HO282.out).2.2
        have hcut24 := cut_to (P := Try.prog) 22 3 .i64 Try.underlying22 hi024 Ao22 t280.length co22 (ji6) (of_decide_eq_true (by first | (with_reducible assumption) | assumption)) q24 hroom24
        have hr24 := Kd.C_take (m := ((ji6) : Int).toNat) hC24 (by omega)
        have hy24 : y288.length = ((ji6) : Int).toNat := (by rw [Ny288.out, List.length_take]; omega)
        rw [← Ny288.out] at hr24
        rw [← hy24] at hcut24
        have HR291 := Aside0.mk hr24
        have HC291 := Aside0.mk (show y288.length ≤ co22 from by omega)
        clear hr24 hC24 hroom24 hi024 hsz24
        have KY24 := Aside0.mk hy24
        clear hy24
        have KL24 := Aside0.mk (show ((ji6) : Int).toNat ≤ t280.length from by omega)
        replace q24 := eq_true q24
        obtain ⟨Ao26, co26, eo26⟩ := Kd.R_slice HO285.out
        (first | subst eo26 | (injection eo26 with f1_ f2_ f3_; have f4_ := f1_.symm; have f5_ := f3_.symm; clear f1_ f2_ f3_; subst f4_; subst f5_))
        have q25 : ((ji6) : Int) ≤ ((t283.length : Int) : Int) := of_decide_eq_true (by first | (with_reducible assumption) | assumption)
        obtain ⟨i025, hi025, _, hsz25, _⟩ := info_parts info3
        have hroom25 : t283.length ≤ co26 := (Kd.R_reads' HO285.out).2.1
        have hC25 : Kd.C (Kd.int .i64) _ Ao26 t283.length t283 := (Kd.R_reads' HO285.out).2.2
        have hcut25 := cut_to (P := Try.prog) 22 3 .i64 Try.underlying22 hi025 Ao26 t283.length co26 (ji6) (of_decide_eq_true (by first | (with_reducible assumption) | assumption)) q25 hroom25
        have hr25 := Kd.C_take (m := ((ji6) : Int).toNat) hC25 (by omega)
        have hy25 : y292.length = ((ji6) : Int).toNat := (by rw [Ny292.out, List.length_take]; omega)
        rw [← Ny292.out] at hr25
        rw [← hy25] at hcut25
        have HR295 := Aside0.mk hr25
        have HC295 := Aside0.mk (show y292.length ≤ co26 from by omega)
        clear hr25 hC25 hroom25 hi025 hsz25
        have KY25 := Aside0.mk hy25
        clear hy25
        have KL25 := Aside0.mk (show ((ji6) : Int).toNat ≤ t283.length from by omega)
        replace q25 := eq_true q25
        refine start_ (n := 12) (S := fun w' => True) (ds := []) #[false, false, false, false, false, false, false, false, false, false, false, false] (by kernel_rfl) rfl rfl trivial (fun hHeld => ?_); refine with_tabW shapesearchlaw12_EuclidBeginnings.tab4 shapesearchlaw12_EuclidBeginnings.bits4 (fun HT_ HW_ => ?_)
        generalize w21.drew = w23 at HO282 HO285 HI279 HB HR291 HR295 hHeld ⊢
        refine pure_ (i := 0) (N := some 34) (v := ?_) (a' := ?_) #[true, false, false, false, false, false, false, false, false, false, false, false] rfl rfl (any_of HT_.out (by kernel_rfl)) (fun _ _ _ h => h) (Or.inl ⟨by rfl, ?_⟩) ?_ ?_
        rotate_left
        · intro w'
          go_simp
          with_reducible rfl
        rotate_left
        · simp only [Act.put, List.setIfInBounds_toArray, List.set_cons_zero, List.set_cons_succ, i64_w, i32_w]
          rfl
        refine pure_ (i := 1) (N := some 35) (v := ?_) (a' := ?_) #[true, true, false, false, false, false, false, false, false, false, false, false] rfl rfl (any_of HT_.out (by kernel_rfl)) (fun _ _ _ h => h) (Or.inl ⟨by rfl, ?_⟩) ?_ ?_
        rotate_left
        · intro w'
          go_simp
          with_reducible rfl
        rotate_left
        · simp only [Act.put, List.setIfInBounds_toArray, List.set_cons_zero, List.set_cons_succ, i64_w, i32_w]
          rfl
        refine pure_ (i := 2) (N := some 36) (v := ?_) (a' := ?_) #[true, true, true, false, false, false, false, false, false, false, false, false] rfl rfl (any_of HT_.out (by kernel_rfl)) (fun _ _ _ h => h) (Or.inl ⟨by rfl, ?_⟩) ?_ ?_
        rotate_left
        · intro w'
          go_simp
          with_reducible rfl
        rotate_left
        · simp only [Act.put, List.setIfInBounds_toArray, List.set_cons_zero, List.set_cons_succ, i64_w, i32_w]
          rfl
        refine pure_ (i := 3) (N := some 37) (v := ?_) (a' := ?_) #[true, true, true, true, false, false, false, false, false, false, false, false] rfl rfl (any_of HT_.out (by kernel_rfl)) (fun _ _ _ h => h) (Or.inl ⟨by rfl, ?_⟩) ?_ ?_
        rotate_left
        · intro w'
          go_simp
          with_reducible rfl
        rotate_left
        · simp only [Act.put, List.setIfInBounds_toArray, List.set_cons_zero, List.set_cons_succ, i64_w, i32_w]
          rfl
        refine pure_ (i := 4) (N := some 38) (v := ?_) (a' := ?_) #[true, true, true, true, true, false, false, false, false, false, false, false] rfl rfl (any_of HT_.out (by kernel_rfl)) (fun _ _ _ h => h) (Or.inl ⟨by rfl, ?_⟩) ?_ ?_
        rotate_left
        · intro w'
          go_simp
          with_reducible rfl
        rotate_left
        · simp only [Act.put, List.setIfInBounds_toArray, List.set_cons_zero, List.set_cons_succ, i64_w, i32_w]
          rfl
        refine pure_ (i := 5) (N := some 39) (v := ?_) (a' := ?_) #[true, true, true, true, true, true, false, false, false, false, false, false] rfl rfl (any_of HT_.out (by kernel_rfl)) (fun _ _ _ h => h) (Or.inl ⟨by rfl, ?_⟩) ?_ ?_
        rotate_left
        · intro w'
          go_simp
          with_reducible rfl
        rotate_left
        · simp only [Act.put, List.setIfInBounds_toArray, List.set_cons_zero, List.set_cons_succ, i64_w, i32_w]
          rfl
        refine one_ (i := 6) (N := some 40) #[true, true, true, true, true, true, true, false, false, false, false, false] rfl rfl (one_of HT_.out (by kernel_rfl)) (by decide) (fun K hK => ?_)
        refine goes_ Try.func12 (by kernel_rfl) rfl #[.slice Ao22 y288.length co22, .slice Ao26 y292.length co26] (by rfl) rfl rfl (by (try simp only [List.map_toArray, List.map_cons, List.map_nil]); first | done | rfl | (simp only [List.length_drop, List.length_take]; rfl) | ((try rw [KY24.out]); (try rw [KY25.out]); (try rw [KY28.out]); (try rw [KY29.out]); (try rw [KY63.out]); (try rw [KY64.out]); (try rw [KY67.out]); (try rw [KY68.out]); (try rw [KY70.out]); (try rw [KY71.out]); rfl)) ?_
        with_reducible refine (euclid_Distance.calls k _ _ y288 _ _ y292 t296 t297 _ ?side1 ?side2 ?side3 ?side4 A11.out).mono ?_
        (case side1 => repeat (first | exact (by repeat (first | (with_reducible exact HR291.out) | (with_reducible refine Kd.C_alloc ?_ _) | (with_reducible refine Kd.C_drewN ?_ _) | (with_reducible refine Kd.C_drew ?_) | exact HR291.out)) | (with_reducible refine Kd.C_alloc ?_ _) | (with_reducible refine Kd.C_drewN ?_ _) | (with_reducible refine Kd.C_drew ?_)))
        (case side2 => exact HC291.out)
        (case side3 => repeat (first | exact (by repeat (first | (with_reducible exact HR295.out) | (with_reducible refine Kd.C_alloc ?_ _) | (with_reducible refine Kd.C_drewN ?_ _) | (with_reducible refine Kd.C_drew ?_) | exact HR295.out)) | (with_reducible refine Kd.C_alloc ?_ _) | (with_reducible refine Kd.C_drewN ?_ _) | (with_reducible refine Kd.C_drew ?_)))
        (case side4 => exact HC295.out)
        rintro e w' ⟨rfl, ⟨nd, rfl⟩⟩
        refine ⟨_, rfl, ?_⟩
        refine hK.out _ _ trivial (fun hHeld => ?_)
        clear hK K
        refine norm_ (a' := ?_) ?_ ?_
        rotate_left
        · show Act.put _ (some 40) _ = _
          simp only [Act.put, List.setIfInBounds_toArray, List.set_cons_zero, List.set_cons_succ, i64_w, i32_w]
          rfl
        refine pure_ (i := 7) (N := some 33) (v := ?_) (a' := ?_) #[true, true, true, true, true, true, true, true, false, false, false, false] rfl rfl (any_of HT_.out (by kernel_rfl)) (fun _ _ _ h => h) (Or.inl ⟨by rfl, ?_⟩) ?_ ?_
        rotate_left
        · intro w'
          go_simp
          with_reducible rfl
        rotate_left
        · simp only [Act.put, List.setIfInBounds_toArray, List.set_cons_zero, List.set_cons_succ, i64_w, i32_w]
          rfl
        refine pure_ (i := 8) (N := some 41) (v := ?_) (a' := ?_) #[true, true, true, true, true, true, true, true, true, false, false, false] rfl rfl (any_of HT_.out (by kernel_rfl)) (fun _ _ _ h => h) (Or.inl ⟨by rfl, ?_⟩) ?_ ?_
        rotate_left
        · intro w'
          go_simp
          with_reducible rfl
        rotate_left
        · simp only [Act.put, List.setIfInBounds_toArray, List.set_cons_zero, List.set_cons_succ, i64_w, i32_w]
          rfl
        refine pure_ (i := 9) (N := some 42) (v := ?_) (a' := ?_) #[true, true, true, true, true, true, true, true, true, true, false, false] rfl rfl (any_of HT_.out (by kernel_rfl)) (fun _ _ _ h => h) (Or.inl ⟨by rfl, ?_⟩) ?_ ?_
        rotate_left
        · intro w'
          go_simp
          with_reducible rfl
        rotate_left
        · simp only [Act.put, List.setIfInBounds_toArray, List.set_cons_zero, List.set_cons_succ, i64_w, i32_w]
          rfl
        refine pure_ (i := 10) (N := some 9) (v := ?_) (a' := ?_) #[true, true, true, true, true, true, true, true, true, true, true, false] rfl rfl (any_of HT_.out (by kernel_rfl)) (fun _ _ _ h => h) (Or.inl ⟨by rfl, ?_⟩) ?_ ?_
        rotate_left
        · intro w'
          go_simp
          with_reducible rfl
        rotate_left
        · simp only [Act.put, List.setIfInBounds_toArray, List.set_cons_zero, List.set_cons_succ, i64_w, i32_w]
          rfl
        refine pure_ (i := 11) (N := some 10) (v := ?_) (a' := ?_) #[true, true, true, true, true, true, true, true, true, true, true, true] rfl rfl (any_of HT_.out (by kernel_rfl)) (fun _ _ _ h => h) (Or.inl ⟨by rfl, ?_⟩) ?_ ?_
        rotate_left
        · intro w'
          go_simp
          with_reducible rfl
        rotate_left
        · simp only [Act.put, List.setIfInBounds_toArray, List.set_cons_zero, List.set_cons_succ, i64_w, i32_w]
          rfl
        refine done_ (done_of HT_.out (by kernel_rfl)) ?_
        try go_wp2_with (first | ((with_reducible refine gate_callee (f := 12) rfl ?_); refine goesL_ (some 46) rfl rfl Try.func12 (by kernel_rfl) rfl #[.slice Ao22 t280.length co22, .slice Ao26 t283.length co26] rfl (by (try simp only [List.map_toArray, List.map_cons, List.map_nil]); first | done | rfl | (simp only [List.length_drop, List.length_take]; rfl) | ((try rw [KY24.out]); (try rw [KY25.out]); (try rw [KY28.out]); (try rw [KY29.out]); (try rw [KY63.out]); (try rw [KY64.out]); (try rw [KY67.out]); (try rw [KY68.out]); (try rw [KY70.out]); (try rw [KY71.out]); rfl)) ?_; (with_reducible refine (euclid_Distance.calls k _ _ t280 _ _ t283 t298 t299 _ ?side1 ?side2 ?side3 ?side4 A12.out).mono ?_); (case side1 => repeat (first | exact (Kd.R_reads' HO282.out).2.2 | (with_reducible refine Kd.C_alloc ?_ _) | (with_reducible refine Kd.C_drewN ?_ _) | (with_reducible refine Kd.C_drew ?_))); (case side2 => exact (Kd.R_reads' HO282.out).2.1); (case side3 => repeat (first | exact (Kd.R_reads' HO285.out).2.2 | (with_reducible refine Kd.C_alloc ?_ _) | (with_reducible refine Kd.C_drewN ?_ _) | (with_reducible refine Kd.C_drew ?_))); (case side4 => exact (Kd.R_reads' HO285.out).2.1); rintro e w' ⟨rfl, ⟨nd, rfl⟩⟩; refine ⟨_, rfl, ?_⟩; (try (rw [drewN_self w23]; generalize hq_ : World.drewN w23 _ = w23; have n0_ : Aside0 (Kd.R (Kd.int .i64) 3 w23 w.heap.size (fun k_ => some k_ ≠ (.slice Ao26 t283.length co26 : Value).ownBlock) (.slice Ao22 t280.length co22) t280) := ⟨by rw [← hq_]; exact (by (with_reducible repeat (first | apply Kd.R_alloc | apply Kd.R_drewN | apply Kd.R_drew)); exact HO282.out)⟩; have n1_ : Aside0 (Kd.R (Kd.int .i64) 3 w23 w.heap.size (fun k_ => some k_ ≠ (.slice Ao22 t280.length co22 : Value).ownBlock) (.slice Ao26 t283.length co26) t283) := ⟨by rw [← hq_]; exact (by (with_reducible repeat (first | apply Kd.R_alloc | apply Kd.R_drewN | apply Kd.R_drew)); exact HO285.out)⟩; have n2_ : Aside0 (IsS56 w w23 g279 t277 t286) := ⟨by rw [← hq_]; exact (by repeat (first | (with_reducible first | exact HI279.out | apply IsS56.alloc | apply IsS56.drewN | apply IsS56.drew | apply IsS56.set_1) | exact HI279.out))⟩; have n3_ : Aside0 (Below w.heap.size w w23) := ⟨by rw [← hq_]; exact (by repeat (first | (with_reducible first | exact HB.out | apply below_alloc | apply pw_below_drewN | apply below_drew1 | refine below_set ?_ (IsS56.ge HI279.out)) | exact HB.out))⟩; have n4_ : Aside0 (Kd.C (Kd.int .i64) w23 Ao22 y288.length y288) := ⟨by rw [← hq_]; exact (by repeat (first | (with_reducible exact HR291.out) | (with_reducible refine Kd.C_alloc ?_ _) | (with_reducible refine Kd.C_drewN ?_ _) | (with_reducible refine Kd.C_drew ?_) | exact HR291.out))⟩; have n5_ : Aside0 (Kd.C (Kd.int .i64) w23 Ao26 y292.length y292) := ⟨by rw [← hq_]; exact (by repeat (first | (with_reducible exact HR295.out) | (with_reducible refine Kd.C_alloc ?_ _) | (with_reducible refine Kd.C_drewN ?_ _) | (with_reducible refine Kd.C_drew ?_) | exact HR295.out))⟩; clear HO282 HO285 HI279 HB HR291 HR295 hq_; have HO282 := n0_; have HO285 := n1_; have HI279 := n2_; have HB := n3_; have HR291 := n4_; have HR295 := n5_; clear n0_ n1_ n2_ n3_ n4_ n5_))))
        (try (rw [drewN_self w23]; generalize hq_ : World.drewN w23 _ = w23; have n0_ : Aside0 (Kd.R (Kd.int .i64) 3 w23 w.heap.size (fun k_ => some k_ ≠ (.slice Ao26 t283.length co26 : Value).ownBlock) (.slice Ao22 t280.length co22) t280) := ⟨by rw [← hq_]; exact (by (with_reducible repeat (first | apply Kd.R_alloc | apply Kd.R_drewN | apply Kd.R_drew)); exact HO282.out)⟩; have n1_ : Aside0 (Kd.R (Kd.int .i64) 3 w23 w.heap.size (fun k_ => some k_ ≠ (.slice Ao22 t280.length co22 : Value).ownBlock) (.slice Ao26 t283.length co26) t283) := ⟨by rw [← hq_]; exact (by (with_reducible repeat (first | apply Kd.R_alloc | apply Kd.R_drewN | apply Kd.R_drew)); exact HO285.out)⟩; have n2_ : Aside0 (IsS56 w w23 g279 t277 t286) := ⟨by rw [← hq_]; exact (by repeat (first | (with_reducible first | exact HI279.out | apply IsS56.alloc | apply IsS56.drewN | apply IsS56.drew | apply IsS56.set_1) | exact HI279.out))⟩; have n3_ : Aside0 (Below w.heap.size w w23) := ⟨by rw [← hq_]; exact (by repeat (first | (with_reducible first | exact HB.out | apply below_alloc | apply pw_below_drewN | apply below_drew1 | refine below_set ?_ (IsS56.ge HI279.out)) | exact HB.out))⟩; have n4_ : Aside0 (Kd.C (Kd.int .i64) w23 Ao22 y288.length y288) := ⟨by rw [← hq_]; exact (by repeat (first | (with_reducible exact HR291.out) | (with_reducible refine Kd.C_alloc ?_ _) | (with_reducible refine Kd.C_drewN ?_ _) | (with_reducible refine Kd.C_drew ?_) | exact HR291.out))⟩; have n5_ : Aside0 (Kd.C (Kd.int .i64) w23 Ao26 y292.length y292) := ⟨by rw [← hq_]; exact (by repeat (first | (with_reducible exact HR295.out) | (with_reducible refine Kd.C_alloc ?_ _) | (with_reducible refine Kd.C_drewN ?_ _) | (with_reducible refine Kd.C_drew ?_) | exact HR295.out))⟩; clear HO282 HO285 HI279 HB HR291 HR295 hq_; have HO282 := n0_; have HO285 := n1_; have HI279 := n2_; have HB := n3_; have HR291 := n4_; have HR295 := n5_; clear n0_ n1_ n2_ n3_ n4_ n5_))
        have n0_ := Aside0.mk (Kd.R_drew HO282.out)
        have n1_ := Aside0.mk (Kd.R_drew HO285.out)
        have n2_ := Aside0.mk (Kd.C_drew HR291.out)
        have n3_ := Aside0.mk (Kd.C_drew HR295.out)
        have n4_ := Aside0.mk (IsS56.drew HI279.out)
        have n5_ := Aside0.mk (below_drew1 HB.out)
        clear HO282
        clear HO285
        clear HR291
        clear HR295
        clear HI279
        clear HB
        have HO282 := n0_
        have HO285 := n1_
        have HR291 := n2_
        have HR295 := n3_
        have HI279 := n4_
        have HB := n5_
        clear n0_ n1_ n2_ n3_ n4_ n5_
        have q28 : ((ji6) : Int) ≤ ((t280.length : Int) : Int) := of_decide_eq_true (by first | (with_reducible assumption) | assumption)
        obtain ⟨i028, hi028, _, hsz28, _⟩ := info_parts info3
        have hroom28 : t280.length ≤ co22 := (Kd.R_reads' HO282.out).2.1
        have hC28 : Kd.C (Kd.int .i64) _ Ao22 t280.length t280 := (Kd.R_reads' HO282.out).2.2
        have hcut28 := cut_to (P := Try.prog) 22 3 .i64 Try.underlying22 hi028 Ao22 t280.length co22 (ji6) (of_decide_eq_true (by first | (with_reducible assumption) | assumption)) q28 hroom28
        have hr28 := Kd.C_take (m := ((ji6) : Int).toNat) hC28 (by omega)
        have hy28 : y300.length = ((ji6) : Int).toNat := (by rw [Ny300.out, List.length_take]; omega)
        rw [← Ny300.out] at hr28
        rw [← hy28] at hcut28
        have HR303 := Aside0.mk hr28
        have HC303 := Aside0.mk (show y300.length ≤ co22 from by omega)
        clear hr28 hC28 hroom28 hi028 hsz28
        have KY28 := Aside0.mk hy28
        clear hy28
        have KL28 := Aside0.mk (show ((ji6) : Int).toNat ≤ t280.length from by omega)
        replace q28 := eq_true q28
        have q29 : ((ji6) : Int) ≤ ((t283.length : Int) : Int) := of_decide_eq_true (by first | (with_reducible assumption) | assumption)
        obtain ⟨i029, hi029, _, hsz29, _⟩ := info_parts info3
        have hroom29 : t283.length ≤ co26 := (Kd.R_reads' HO285.out).2.1
        have hC29 : Kd.C (Kd.int .i64) _ Ao26 t283.length t283 := (Kd.R_reads' HO285.out).2.2
        have hcut29 := cut_to (P := Try.prog) 22 3 .i64 Try.underlying22 hi029 Ao26 t283.length co26 (ji6) (of_decide_eq_true (by first | (with_reducible assumption) | assumption)) q29 hroom29
        have hr29 := Kd.C_take (m := ((ji6) : Int).toNat) hC29 (by omega)
        have hy29 : y304.length = ((ji6) : Int).toNat := (by rw [Ny304.out, List.length_take]; omega)
        rw [← Ny304.out] at hr29
        rw [← hy29] at hcut29
        have HR307 := Aside0.mk hr29
        have HC307 := Aside0.mk (show y304.length ≤ co26 from by omega)
        clear hr29 hC29 hroom29 hi029 hsz29
        have KY29 := Aside0.mk hy29
        clear hy29
        have KL29 := Aside0.mk (show ((ji6) : Int).toNat ≤ t283.length from by omega)
        replace q29 := eq_true q29
        refine start_ (n := 13) (S := fun w' => True) (ds := []) #[false, false, false, false, false, false, false, false, false, false, false, false, false] (by kernel_rfl) rfl rfl trivial (fun hHeld => ?_); refine with_tabW shapesearchlaw12_EuclidBeginnings.tab6 shapesearchlaw12_EuclidBeginnings.bits6 (fun HT_ HW_ => ?_)
        generalize w23.drew = w27 at HO282 HO285 HR291 HR295 HI279 HB HR303 HR307 hHeld ⊢
        refine pure_ (i := 0) (N := some 50) (v := ?_) (a' := ?_) #[true, false, false, false, false, false, false, false, false, false, false, false, false] rfl rfl (any_of HT_.out (by kernel_rfl)) (fun _ _ _ h => h) (Or.inl ⟨by rfl, ?_⟩) ?_ ?_
        rotate_left
        · intro w'
          go_simp
          with_reducible rfl
        rotate_left
        · simp only [Act.put, List.setIfInBounds_toArray, List.set_cons_zero, List.set_cons_succ, i64_w, i32_w]
          rfl
        refine pure_ (i := 1) (N := some 51) (v := ?_) (a' := ?_) #[true, true, false, false, false, false, false, false, false, false, false, false, false] rfl rfl (any_of HT_.out (by kernel_rfl)) (fun _ _ _ h => h) (Or.inl ⟨by rfl, ?_⟩) ?_ ?_
        rotate_left
        · intro w'
          go_simp
          with_reducible rfl
        rotate_left
        · simp only [Act.put, List.setIfInBounds_toArray, List.set_cons_zero, List.set_cons_succ, i64_w, i32_w]
          rfl
        refine pure_ (i := 2) (N := some 52) (v := ?_) (a' := ?_) #[true, true, true, false, false, false, false, false, false, false, false, false, false] rfl rfl (any_of HT_.out (by kernel_rfl)) (fun _ _ _ h => h) (Or.inl ⟨by rfl, ?_⟩) ?_ ?_
        rotate_left
        · intro w'
          go_simp
          with_reducible rfl
        rotate_left
        · simp only [Act.put, List.setIfInBounds_toArray, List.set_cons_zero, List.set_cons_succ, i64_w, i32_w]
          rfl
        refine pure_ (i := 3) (N := some 53) (v := ?_) (a' := ?_) #[true, true, true, true, false, false, false, false, false, false, false, false, false] rfl rfl (any_of HT_.out (by kernel_rfl)) (fun _ _ _ h => h) (Or.inl ⟨by rfl, ?_⟩) ?_ ?_
        rotate_left
        · intro w'
          go_simp
          with_reducible rfl
        rotate_left
        · simp only [Act.put, List.setIfInBounds_toArray, List.set_cons_zero, List.set_cons_succ, i64_w, i32_w]
          rfl
        refine pure_ (i := 4) (N := some 54) (v := ?_) (a' := ?_) #[true, true, true, true, true, false, false, false, false, false, false, false, false] rfl rfl (any_of HT_.out (by kernel_rfl)) (fun _ _ _ h => h) (Or.inl ⟨by rfl, ?_⟩) ?_ ?_
        rotate_left
        · intro w'
          go_simp
          with_reducible rfl
        rotate_left
        · simp only [Act.put, List.setIfInBounds_toArray, List.set_cons_zero, List.set_cons_succ, i64_w, i32_w]
          rfl
        refine pure_ (i := 5) (N := some 55) (v := ?_) (a' := ?_) #[true, true, true, true, true, true, false, false, false, false, false, false, false] rfl rfl (any_of HT_.out (by kernel_rfl)) (fun _ _ _ h => h) (Or.inl ⟨by rfl, ?_⟩) ?_ ?_
        rotate_left
        · intro w'
          go_simp
          with_reducible rfl
        rotate_left
        · simp only [Act.put, List.setIfInBounds_toArray, List.set_cons_zero, List.set_cons_succ, i64_w, i32_w]
          rfl
        refine join_ (σ := Nat) 2 #[true, true, true, true, true, true, true, true, true, true, true, false, false] (fun s_ => [(56, .tuple #[.agg #[.int .i64 t308, .int .i64 t309], .int .i64 t310]), (13, .pointer (some ⟨s_, 0, none⟩)), (49, .tuple #[.agg #[.int .i64 t308, .int .i64 t309], .int .i64 t310]), (57, .agg #[.int .i64 t308, .int .i64 t309]), (58, .int .i64 t310)]) (fun s_ w' => (Kd.R (Kd.int .i64) 3 w' w.heap.size (fun k_ => some k_ ≠ (.slice Ao26 t283.length co26 : Value).ownBlock) (.slice Ao22 t280.length co22) t280) ∧ (Kd.R (Kd.int .i64) 3 w' w.heap.size (fun k_ => some k_ ≠ (.slice Ao22 t280.length co22 : Value).ownBlock) (.slice Ao26 t283.length co26) t283) ∧ (w'.heap[s_]? = some (.cells #[.int .i64 0, .int .i64 0] 37 (0, 0))) ∧ (w.heap.size ≤ s_) ∧ (w.heap.size ≤ s_) ∧ (g279 ≠ s_) ∧ (s_ ≠ g279) ∧ (IsS56 w w' g279 t277 t286) ∧ (Below w.heap.size w w')) ?_ ?_
        rotate_left
        · intro hCont
          refine two_ (i := 6) (j := 10) (Ni := some 56) (Nj := some 13) #[true, true, true, true, true, true, true, false, false, false, false, false, false] #[true, true, true, true, true, true, false, false, false, false, true, false, false] rfl rfl rfl rfl (two_of HT_.out (by kernel_rfl)) (by decide) (by decide) (fun K hK => ?_) (fun K hK => ?_)
          · skip
            refine goes_ Try.func16 (by kernel_rfl) rfl #[.slice Ao22 y300.length co22, .slice Ao26 y304.length co26] (by rfl) rfl rfl (by (try simp only [List.map_toArray, List.map_cons, List.map_nil]); first | done | rfl | (simp only [List.length_drop, List.length_take]; rfl) | ((try rw [KY24.out]); (try rw [KY25.out]); (try rw [KY28.out]); (try rw [KY29.out]); (try rw [KY63.out]); (try rw [KY64.out]); (try rw [KY67.out]); (try rw [KY68.out]); (try rw [KY70.out]); (try rw [KY71.out]); rfl)) ?_
            with_reducible refine (euclid_Shifted.calls k _ _ y300 _ _ y304 t308 t309 t310 _ ?side1 ?side2 ?side3 ?side4 A17.out).mono ?_
            (case side1 => repeat (first | exact (by repeat (first | (with_reducible exact HR303.out) | (with_reducible refine Kd.C_alloc ?_ _) | (with_reducible refine Kd.C_drewN ?_ _) | (with_reducible refine Kd.C_drew ?_) | exact HR303.out)) | (with_reducible refine Kd.C_alloc ?_ _) | (with_reducible refine Kd.C_drewN ?_ _) | (with_reducible refine Kd.C_drew ?_)))
            (case side2 => exact HC303.out)
            (case side3 => repeat (first | exact (by repeat (first | (with_reducible exact HR307.out) | (with_reducible refine Kd.C_alloc ?_ _) | (with_reducible refine Kd.C_drewN ?_ _) | (with_reducible refine Kd.C_drew ?_) | exact HR307.out)) | (with_reducible refine Kd.C_alloc ?_ _) | (with_reducible refine Kd.C_drewN ?_ _) | (with_reducible refine Kd.C_drew ?_)))
            (case side4 => exact HC307.out)
            rintro e w30 ⟨rfl, hb⟩
            refine ⟨_, rfl, ?_⟩
            have n0_ := Aside0.mk (Kd.R_below (by (with_reducible repeat (first | apply Kd.R_alloc | apply Kd.R_drewN | apply Kd.R_drew)); exact HO282.out) hb)
            have n1_ := Aside0.mk (Kd.R_below (by (with_reducible repeat (first | apply Kd.R_alloc | apply Kd.R_drewN | apply Kd.R_drew)); exact HO285.out) hb)
            have n2_ := Aside0.mk (IsS56.below (by repeat (first | (with_reducible first | exact HI279.out | apply IsS56.alloc | apply IsS56.drewN | apply IsS56.drew | apply IsS56.set_1) | exact HI279.out)) hb)
            have n3_ := Aside0.mk (Kd.C_below (by repeat (first | (with_reducible exact HR291.out) | (with_reducible refine Kd.C_alloc ?_ _) | (with_reducible refine Kd.C_drewN ?_ _) | (with_reducible refine Kd.C_drew ?_) | exact HR291.out)) hb)
            have n4_ := Aside0.mk (Kd.C_below (by repeat (first | (with_reducible exact HR295.out) | (with_reducible refine Kd.C_alloc ?_ _) | (with_reducible refine Kd.C_drewN ?_ _) | (with_reducible refine Kd.C_drew ?_) | exact HR295.out)) hb)
            have n5_ := Aside0.mk (Kd.C_below (by repeat (first | (with_reducible exact HR303.out) | (with_reducible refine Kd.C_alloc ?_ _) | (with_reducible refine Kd.C_drewN ?_ _) | (with_reducible refine Kd.C_drew ?_) | exact HR303.out)) hb)
            have n6_ := Aside0.mk (Kd.C_below (by repeat (first | (with_reducible exact HR307.out) | (with_reducible refine Kd.C_alloc ?_ _) | (with_reducible refine Kd.C_drewN ?_ _) | (with_reducible refine Kd.C_drew ?_) | exact HR307.out)) hb)
            have n7_ := Aside0.mk (below_step (by repeat (first | (with_reducible first | exact HB.out | apply below_alloc | apply pw_below_drewN | apply below_drew1 | refine below_set ?_ (IsS56.ge HI279.out)) | exact HB.out)) hb)
            clear HO282
            clear HO285
            clear HI279
            clear HR291
            clear HR295
            clear HR303
            clear HR307
            clear HB
            have HO282 := n0_
            have HO285 := n1_
            have HI279 := n2_
            have HR291 := n3_
            have HR295 := n4_
            have HR303 := n5_
            have HR307 := n6_
            have HB := n7_
            clear n0_ n1_ n2_ n3_ n4_ n5_ n6_ n7_
            (try clear hb)
            (try clear hb2)
            (try clear hk)
            (try clear hi)
            refine hK.out _ _ trivial (fun hHeld => ?_)
            clear hK K
            refine norm_ (a' := ?_) ?_ ?_
            rotate_left
            · show Act.put _ (some 56) _ = _
              simp only [Act.put, List.setIfInBounds_toArray, List.set_cons_zero, List.set_cons_succ, i64_w, i32_w]
              rfl
            refine pure_ (i := 7) (N := some 49) (v := ?_) (a' := ?_) #[true, true, true, true, true, true, true, true, false, false, false, false, false] rfl rfl (any_of HT_.out (by kernel_rfl)) (fun _ _ _ h => h) (Or.inl ⟨by rfl, ?_⟩) ?_ ?_
            rotate_left
            · intro w'
              go_simp
              with_reducible rfl
            rotate_left
            · simp only [Act.put, List.setIfInBounds_toArray, List.set_cons_zero, List.set_cons_succ, i64_w, i32_w]
              rfl
            refine pure_ (i := 8) (N := some 57) (v := ?_) (a' := ?_) #[true, true, true, true, true, true, true, true, true, false, false, false, false] rfl rfl (any_of HT_.out (by kernel_rfl)) (fun _ _ _ h => h) (Or.inl ⟨by rfl, ?_⟩) ?_ ?_
            rotate_left
            · intro w'
              go_simp
              with_reducible rfl
            rotate_left
            · simp only [Act.put, List.setIfInBounds_toArray, List.set_cons_zero, List.set_cons_succ, i64_w, i32_w]
              rfl
            refine pure_ (i := 9) (N := some 58) (v := ?_) (a' := ?_) #[true, true, true, true, true, true, true, true, true, true, false, false, false] rfl rfl (any_of HT_.out (by kernel_rfl)) (fun _ _ _ h => h) (Or.inl ⟨by rfl, ?_⟩) ?_ ?_
            rotate_left
            · intro w'
              go_simp
              with_reducible rfl
            rotate_left
            · simp only [Act.put, List.setIfInBounds_toArray, List.set_cons_zero, List.set_cons_succ, i64_w, i32_w]
              rfl
            refine one_ (i := 10) (N := some 13) #[true, true, true, true, true, true, true, true, true, true, true, false, false] rfl rfl (one_of HT_.out (by kernel_rfl)) (by decide) (fun K hK => ?_)
            refine box_step ?hg (N := 13) ?hd (cs := #[.int .i64 0, .int .i64 0]) (t := 37) ?hr ?_; (case hd => rfl); (case hg => rfl); (case hr => first | (go_simp; done) | (go_simp; rfl))
            intro gb311 hg w31 hbox hb
            have n0_ := Aside0.mk (Kd.R_below (by (with_reducible repeat (first | apply Kd.R_alloc | apply Kd.R_drewN | apply Kd.R_drew)); exact HO282.out) hb)
            have n1_ := Aside0.mk (Kd.R_below (by (with_reducible repeat (first | apply Kd.R_alloc | apply Kd.R_drewN | apply Kd.R_drew)); exact HO285.out) hb)
            have n2_ := Aside0.mk (IsS56.below (by repeat (first | (with_reducible first | exact HI279.out | apply IsS56.alloc | apply IsS56.drewN | apply IsS56.drew | apply IsS56.set_1) | exact HI279.out)) hb)
            have n3_ := Aside0.mk (Kd.C_below (by repeat (first | (with_reducible exact HR291.out) | (with_reducible refine Kd.C_alloc ?_ _) | (with_reducible refine Kd.C_drewN ?_ _) | (with_reducible refine Kd.C_drew ?_) | exact HR291.out)) hb)
            have n4_ := Aside0.mk (Kd.C_below (by repeat (first | (with_reducible exact HR295.out) | (with_reducible refine Kd.C_alloc ?_ _) | (with_reducible refine Kd.C_drewN ?_ _) | (with_reducible refine Kd.C_drew ?_) | exact HR295.out)) hb)
            have n5_ := Aside0.mk (Kd.C_below (by repeat (first | (with_reducible exact HR303.out) | (with_reducible refine Kd.C_alloc ?_ _) | (with_reducible refine Kd.C_drewN ?_ _) | (with_reducible refine Kd.C_drew ?_) | exact HR303.out)) hb)
            have n6_ := Aside0.mk (Kd.C_below (by repeat (first | (with_reducible exact HR307.out) | (with_reducible refine Kd.C_alloc ?_ _) | (with_reducible refine Kd.C_drewN ?_ _) | (with_reducible refine Kd.C_drew ?_) | exact HR307.out)) hb)
            have n7_ := Aside0.mk (below_step (by repeat (first | (with_reducible first | exact HB.out | apply below_alloc | apply pw_below_drewN | apply below_drew1 | refine below_set ?_ (IsS56.ge HI279.out)) | exact HB.out)) hb)
            have n8_ := Aside0.mk (hbox)
            have n9_ := Aside0.mk ((by rw [hg]; exact (below_size (by repeat (first | (with_reducible first | exact HB.out | apply below_alloc | apply pw_below_drewN | apply below_drew1 | refine below_set ?_ (IsS56.ge HI279.out)) | exact HB.out))) : w.heap.size ≤ gb311))
            have n10_ := Aside0.mk ((by rw [hg]; exact (below_size (by repeat (first | (with_reducible first | exact HB.out | apply below_alloc | apply pw_below_drewN | apply below_drew1 | refine below_set ?_ (IsS56.ge HI279.out)) | exact HB.out))) : w.heap.size ≤ gb311))
            have n11_ := Aside0.mk ((by rw [hg]; exact Nat.ne_of_lt (IsS56.lt (show IsS56 w _ g279 t277 t286 from by repeat (first | (with_reducible first | exact HI279.out | apply IsS56.alloc | apply IsS56.drewN | apply IsS56.drew | apply IsS56.set_1) | exact HI279.out))) : g279 ≠ gb311))
            have n12_ := Aside0.mk ((by rw [hg]; exact Nat.ne_of_gt (IsS56.lt (show IsS56 w _ g279 t277 t286 from by repeat (first | (with_reducible first | exact HI279.out | apply IsS56.alloc | apply IsS56.drewN | apply IsS56.drew | apply IsS56.set_1) | exact HI279.out))) : gb311 ≠ g279))
            clear HO282
            clear HO285
            clear HI279
            clear HR291
            clear HR295
            clear HR303
            clear HR307
            clear HB
            have HO282 := n0_
            have HO285 := n1_
            have HI279 := n2_
            have HR291 := n3_
            have HR295 := n4_
            have HR303 := n5_
            have HR307 := n6_
            have HB := n7_
            have BK311 := n8_
            have GW311 := n9_
            have GE311 := n10_
            have NB279_311 := n11_
            have NB311_279 := n12_
            clear n0_ n1_ n2_ n3_ n4_ n5_ n6_ n7_ n8_ n9_ n10_ n11_ n12_
            clear hb hbox hg
            refine hK.out _ _ trivial (fun hHeld => ?_)
            clear hK K
            refine norm_ (a' := ?_) ?_ ?_
            rotate_left
            · show Act.put _ (some 13) _ = _
              simp only [Act.put, List.setIfInBounds_toArray, List.set_cons_zero, List.set_cons_succ, i64_w, i32_w]
              rfl
            exact norm_ (by simp only [putAll, Act.put, List.setIfInBounds_toArray, List.set_cons_zero, List.set_cons_succ]) (hCont (gb311) _ ⟨(by (with_reducible repeat (first | apply Kd.R_alloc | apply Kd.R_drewN | apply Kd.R_drew)); exact HO282.out), (by (with_reducible repeat (first | apply Kd.R_alloc | apply Kd.R_drewN | apply Kd.R_drew)); exact HO285.out), (by (with_reducible repeat (first | refine blk_drewN ?_ _ | refine blk_drew ?_ | refine blk_alloc ?_ _)); exact BK311.out), GW311.out, GE311.out, NB279_311.out, NB311_279.out, (by repeat (first | (with_reducible first | exact HI279.out | apply IsS56.alloc | apply IsS56.drewN | apply IsS56.drew | apply IsS56.set_1 | refine IsS56.far ?_ NB279_311.out _) | exact HI279.out)), (by repeat (first | (with_reducible first | exact HB.out | apply below_alloc | apply pw_below_drewN | apply below_drew1 | refine below_set ?_ (IsS56.ge HI279.out) | refine below_set ?_ GE311.out) | exact HB.out))⟩)
          · skip
            refine box_step ?hg (N := 13) ?hd (cs := #[.int .i64 0, .int .i64 0]) (t := 37) ?hr ?_; (case hd => rfl); (case hg => rfl); (case hr => first | (go_simp; done) | (go_simp; rfl))
            intro gb311 hg w30 hbox hb
            have n0_ := Aside0.mk (Kd.R_below (by (with_reducible repeat (first | apply Kd.R_alloc | apply Kd.R_drewN | apply Kd.R_drew)); exact HO282.out) hb)
            have n1_ := Aside0.mk (Kd.R_below (by (with_reducible repeat (first | apply Kd.R_alloc | apply Kd.R_drewN | apply Kd.R_drew)); exact HO285.out) hb)
            have n2_ := Aside0.mk (IsS56.below (by repeat (first | (with_reducible first | exact HI279.out | apply IsS56.alloc | apply IsS56.drewN | apply IsS56.drew | apply IsS56.set_1) | exact HI279.out)) hb)
            have n3_ := Aside0.mk (Kd.C_below (by repeat (first | (with_reducible exact HR291.out) | (with_reducible refine Kd.C_alloc ?_ _) | (with_reducible refine Kd.C_drewN ?_ _) | (with_reducible refine Kd.C_drew ?_) | exact HR291.out)) hb)
            have n4_ := Aside0.mk (Kd.C_below (by repeat (first | (with_reducible exact HR295.out) | (with_reducible refine Kd.C_alloc ?_ _) | (with_reducible refine Kd.C_drewN ?_ _) | (with_reducible refine Kd.C_drew ?_) | exact HR295.out)) hb)
            have n5_ := Aside0.mk (Kd.C_below (by repeat (first | (with_reducible exact HR303.out) | (with_reducible refine Kd.C_alloc ?_ _) | (with_reducible refine Kd.C_drewN ?_ _) | (with_reducible refine Kd.C_drew ?_) | exact HR303.out)) hb)
            have n6_ := Aside0.mk (Kd.C_below (by repeat (first | (with_reducible exact HR307.out) | (with_reducible refine Kd.C_alloc ?_ _) | (with_reducible refine Kd.C_drewN ?_ _) | (with_reducible refine Kd.C_drew ?_) | exact HR307.out)) hb)
            have n7_ := Aside0.mk (below_step (by repeat (first | (with_reducible first | exact HB.out | apply below_alloc | apply pw_below_drewN | apply below_drew1 | refine below_set ?_ (IsS56.ge HI279.out)) | exact HB.out)) hb)
            have n8_ := Aside0.mk (hbox)
            have n9_ := Aside0.mk ((by rw [hg]; exact (below_size (by repeat (first | (with_reducible first | exact HB.out | apply below_alloc | apply pw_below_drewN | apply below_drew1 | refine below_set ?_ (IsS56.ge HI279.out)) | exact HB.out))) : w.heap.size ≤ gb311))
            have n10_ := Aside0.mk ((by rw [hg]; exact (below_size (by repeat (first | (with_reducible first | exact HB.out | apply below_alloc | apply pw_below_drewN | apply below_drew1 | refine below_set ?_ (IsS56.ge HI279.out)) | exact HB.out))) : w.heap.size ≤ gb311))
            have n11_ := Aside0.mk ((by rw [hg]; exact Nat.ne_of_lt (IsS56.lt (show IsS56 w _ g279 t277 t286 from by repeat (first | (with_reducible first | exact HI279.out | apply IsS56.alloc | apply IsS56.drewN | apply IsS56.drew | apply IsS56.set_1) | exact HI279.out))) : g279 ≠ gb311))
            have n12_ := Aside0.mk ((by rw [hg]; exact Nat.ne_of_gt (IsS56.lt (show IsS56 w _ g279 t277 t286 from by repeat (first | (with_reducible first | exact HI279.out | apply IsS56.alloc | apply IsS56.drewN | apply IsS56.drew | apply IsS56.set_1) | exact HI279.out))) : gb311 ≠ g279))
            clear HO282
            clear HO285
            clear HI279
            clear HR291
            clear HR295
            clear HR303
            clear HR307
            clear HB
            have HO282 := n0_
            have HO285 := n1_
            have HI279 := n2_
            have HR291 := n3_
            have HR295 := n4_
            have HR303 := n5_
            have HR307 := n6_
            have HB := n7_
            have BK311 := n8_
            have GW311 := n9_
            have GE311 := n10_
            have NB279_311 := n11_
            have NB311_279 := n12_
            clear n0_ n1_ n2_ n3_ n4_ n5_ n6_ n7_ n8_ n9_ n10_ n11_ n12_
            clear hb hbox hg
            refine hK.out _ _ trivial (fun hHeld => ?_)
            clear hK K
            refine norm_ (a' := ?_) ?_ ?_
            rotate_left
            · show Act.put _ (some 13) _ = _
              simp only [Act.put, List.setIfInBounds_toArray, List.set_cons_zero, List.set_cons_succ, i64_w, i32_w]
              rfl
            refine one_ (i := 6) (N := some 56) #[true, true, true, true, true, true, true, false, false, false, true, false, false] rfl rfl (one_of HT_.out (by kernel_rfl)) (by decide) (fun K hK => ?_)
            refine goes_ Try.func16 (by kernel_rfl) rfl #[.slice Ao22 y300.length co22, .slice Ao26 y304.length co26] (by rfl) rfl rfl (by (try simp only [List.map_toArray, List.map_cons, List.map_nil]); first | done | rfl | (simp only [List.length_drop, List.length_take]; rfl) | ((try rw [KY24.out]); (try rw [KY25.out]); (try rw [KY28.out]); (try rw [KY29.out]); (try rw [KY63.out]); (try rw [KY64.out]); (try rw [KY67.out]); (try rw [KY68.out]); (try rw [KY70.out]); (try rw [KY71.out]); rfl)) ?_
            with_reducible refine (euclid_Shifted.calls k _ _ y300 _ _ y304 t308 t309 t310 _ ?side1 ?side2 ?side3 ?side4 A17.out).mono ?_
            (case side1 => repeat (first | exact (by repeat (first | (with_reducible exact HR303.out) | (with_reducible refine Kd.C_alloc ?_ _) | (with_reducible refine Kd.C_drewN ?_ _) | (with_reducible refine Kd.C_drew ?_) | exact HR303.out)) | (with_reducible refine Kd.C_alloc ?_ _) | (with_reducible refine Kd.C_drewN ?_ _) | (with_reducible refine Kd.C_drew ?_)))
            (case side2 => exact HC303.out)
            (case side3 => repeat (first | exact (by repeat (first | (with_reducible exact HR307.out) | (with_reducible refine Kd.C_alloc ?_ _) | (with_reducible refine Kd.C_drewN ?_ _) | (with_reducible refine Kd.C_drew ?_) | exact HR307.out)) | (with_reducible refine Kd.C_alloc ?_ _) | (with_reducible refine Kd.C_drewN ?_ _) | (with_reducible refine Kd.C_drew ?_)))
            (case side4 => exact HC307.out)
            rintro e w31 ⟨rfl, hb⟩
            refine ⟨_, rfl, ?_⟩
            have n0_ := Aside0.mk (Kd.R_below (by (with_reducible repeat (first | apply Kd.R_alloc | apply Kd.R_drewN | apply Kd.R_drew)); exact HO282.out) hb)
            have n1_ := Aside0.mk (Kd.R_below (by (with_reducible repeat (first | apply Kd.R_alloc | apply Kd.R_drewN | apply Kd.R_drew)); exact HO285.out) hb)
            have n2_ := Aside0.mk (IsS56.below (by repeat (first | (with_reducible first | exact HI279.out | apply IsS56.alloc | apply IsS56.drewN | apply IsS56.drew | apply IsS56.set_1 | refine IsS56.far ?_ NB279_311.out _) | exact HI279.out)) hb)
            have n3_ := Aside0.mk (Kd.C_below (by repeat (first | (with_reducible exact HR291.out) | (with_reducible refine Kd.C_alloc ?_ _) | (with_reducible refine Kd.C_drewN ?_ _) | (with_reducible refine Kd.C_drew ?_) | exact HR291.out)) hb)
            have n4_ := Aside0.mk (Kd.C_below (by repeat (first | (with_reducible exact HR295.out) | (with_reducible refine Kd.C_alloc ?_ _) | (with_reducible refine Kd.C_drewN ?_ _) | (with_reducible refine Kd.C_drew ?_) | exact HR295.out)) hb)
            have n5_ := Aside0.mk (Kd.C_below (by repeat (first | (with_reducible exact HR303.out) | (with_reducible refine Kd.C_alloc ?_ _) | (with_reducible refine Kd.C_drewN ?_ _) | (with_reducible refine Kd.C_drew ?_) | exact HR303.out)) hb)
            have n6_ := Aside0.mk (Kd.C_below (by repeat (first | (with_reducible exact HR307.out) | (with_reducible refine Kd.C_alloc ?_ _) | (with_reducible refine Kd.C_drewN ?_ _) | (with_reducible refine Kd.C_drew ?_) | exact HR307.out)) hb)
            have n7_ := Aside0.mk (blk_below (g := gb311) (o := .cells #[.int .i64 0, .int .i64 0] 37 (0, 0)) (by (with_reducible repeat (first | refine blk_drewN ?_ _ | refine blk_drew ?_ | refine blk_alloc ?_ _)); exact BK311.out) hb)
            have n8_ := Aside0.mk (below_step (by repeat (first | (with_reducible first | exact HB.out | apply below_alloc | apply pw_below_drewN | apply below_drew1 | refine below_set ?_ (IsS56.ge HI279.out) | refine below_set ?_ GE311.out) | exact HB.out)) hb)
            clear HO282
            clear HO285
            clear HI279
            clear HR291
            clear HR295
            clear HR303
            clear HR307
            clear BK311
            clear HB
            have HO282 := n0_
            have HO285 := n1_
            have HI279 := n2_
            have HR291 := n3_
            have HR295 := n4_
            have HR303 := n5_
            have HR307 := n6_
            have BK311 := n7_
            have HB := n8_
            clear n0_ n1_ n2_ n3_ n4_ n5_ n6_ n7_ n8_
            (try clear hb)
            (try clear hb2)
            (try clear hk)
            (try clear hi)
            refine hK.out _ _ trivial (fun hHeld => ?_)
            clear hK K
            refine norm_ (a' := ?_) ?_ ?_
            rotate_left
            · show Act.put _ (some 56) _ = _
              simp only [Act.put, List.setIfInBounds_toArray, List.set_cons_zero, List.set_cons_succ, i64_w, i32_w]
              rfl
            refine pure_ (i := 7) (N := some 49) (v := ?_) (a' := ?_) #[true, true, true, true, true, true, true, true, false, false, true, false, false] rfl rfl (any_of HT_.out (by kernel_rfl)) (fun _ _ _ h => h) (Or.inl ⟨by rfl, ?_⟩) ?_ ?_
            rotate_left
            · intro w'
              go_simp
              with_reducible rfl
            rotate_left
            · simp only [Act.put, List.setIfInBounds_toArray, List.set_cons_zero, List.set_cons_succ, i64_w, i32_w]
              rfl
            refine pure_ (i := 8) (N := some 57) (v := ?_) (a' := ?_) #[true, true, true, true, true, true, true, true, true, false, true, false, false] rfl rfl (any_of HT_.out (by kernel_rfl)) (fun _ _ _ h => h) (Or.inl ⟨by rfl, ?_⟩) ?_ ?_
            rotate_left
            · intro w'
              go_simp
              with_reducible rfl
            rotate_left
            · simp only [Act.put, List.setIfInBounds_toArray, List.set_cons_zero, List.set_cons_succ, i64_w, i32_w]
              rfl
            refine pure_ (i := 9) (N := some 58) (v := ?_) (a' := ?_) #[true, true, true, true, true, true, true, true, true, true, true, false, false] rfl rfl (any_of HT_.out (by kernel_rfl)) (fun _ _ _ h => h) (Or.inl ⟨by rfl, ?_⟩) ?_ ?_
            rotate_left
            · intro w'
              go_simp
              with_reducible rfl
            rotate_left
            · simp only [Act.put, List.setIfInBounds_toArray, List.set_cons_zero, List.set_cons_succ, i64_w, i32_w]
              rfl
            exact norm_ (by simp only [putAll, Act.put, List.setIfInBounds_toArray, List.set_cons_zero, List.set_cons_succ]) (hCont (gb311) _ ⟨(by (with_reducible repeat (first | apply Kd.R_alloc | apply Kd.R_drewN | apply Kd.R_drew)); exact HO282.out), (by (with_reducible repeat (first | apply Kd.R_alloc | apply Kd.R_drewN | apply Kd.R_drew)); exact HO285.out), (by (with_reducible repeat (first | refine blk_drewN ?_ _ | refine blk_drew ?_ | refine blk_alloc ?_ _)); exact BK311.out), GW311.out, GE311.out, NB279_311.out, NB311_279.out, (by repeat (first | (with_reducible first | exact HI279.out | apply IsS56.alloc | apply IsS56.drewN | apply IsS56.drew | apply IsS56.set_1 | refine IsS56.far ?_ NB279_311.out _) | exact HI279.out)), (by repeat (first | (with_reducible first | exact HB.out | apply below_alloc | apply pw_below_drewN | apply below_drew1 | refine below_set ?_ (IsS56.ge HI279.out) | refine below_set ?_ GE311.out) | exact HB.out))⟩)
        rintro gb311 w32 ⟨h0_, h1_, h2_, h3_, h4_, h5_, h6_, h7_, h8_⟩
        have n0_ : Aside0 (Kd.R (Kd.int .i64) 3 w32 w.heap.size (fun k_ => some k_ ≠ (.slice Ao26 t283.length co26 : Value).ownBlock) (.slice Ao22 t280.length co22) t280) := ⟨h0_⟩
        have n1_ : Aside0 (Kd.R (Kd.int .i64) 3 w32 w.heap.size (fun k_ => some k_ ≠ (.slice Ao22 t280.length co22 : Value).ownBlock) (.slice Ao26 t283.length co26) t283) := ⟨h1_⟩
        have n2_ : Aside0 (w32.heap[gb311]? = some (.cells #[.int .i64 0, .int .i64 0] 37 (0, 0))) := ⟨h2_⟩
        have n3_ : Aside0 (w.heap.size ≤ gb311) := ⟨h3_⟩
        have n4_ : Aside0 (w.heap.size ≤ gb311) := ⟨h4_⟩
        have n5_ : Aside0 (g279 ≠ gb311) := ⟨h5_⟩
        have n6_ : Aside0 (gb311 ≠ g279) := ⟨h6_⟩
        have n7_ : Aside0 (IsS56 w w32 g279 t277 t286) := ⟨h7_⟩
        have n8_ : Aside0 (Below w.heap.size w w32) := ⟨h8_⟩
        clear HO282
        clear HO285
        clear HR291
        clear HR295
        clear HI279
        clear HB
        clear h0_ h1_ h2_ h3_ h4_ h5_ h6_ h7_ h8_
        have HO282 := n0_
        have HO285 := n1_
        have BK311 := n2_
        have GW311 := n3_
        have GE311 := n4_
        have NB279_311 := n5_
        have NB311_279 := n6_
        have HI279 := n7_
        have HB := n8_
        clear n0_ n1_ n2_ n3_ n4_ n5_ n6_ n7_ n8_
        have hHeld := trivial
        refine norm_ (a' := ?_) ?_ ?_
        rotate_left
        · simp only [putAll, Act.put, List.setIfInBounds_toArray, List.set_cons_zero, List.set_cons_succ]
          rfl
        refine one_ (i := 11) (N := none) #[true, true, true, true, true, true, true, true, true, true, true, true, false] rfl rfl (one_of HT_.out (by kernel_rfl)) (by decide) (fun K hK => ?_)
        have hs33 : w32.cell? ⟨gb311, 0, none⟩ = some (.int .i64 0) := (blk_cell BK311.out 0).trans rfl
        have hfs33 := blk_frozen BK311.out 0
        have hs34 : w32.cell? ⟨gb311, 1, none⟩ = some (.int .i64 0) := (blk_cell BK311.out 1).trans rfl
        have hfs34 := blk_frozen BK311.out 1
        refine skip_ (w1 := ?_) (by rfl) rfl ?_ ?_
        rotate_left
        · go_simp
          rfl
        refine hK.out _ _ trivial (fun hHeld => ?_)
        clear hK K
        refine pure_ (i := 12) (N := some 14) (v := ?_) (a' := ?_) #[true, true, true, true, true, true, true, true, true, true, true, true, true] rfl rfl (any_of HT_.out (by kernel_rfl)) (fun _ _ _ h => h) (Or.inl ⟨by rfl, ?_⟩) ?_ ?_
        rotate_left
        · intro w'
          go_simp
          with_reducible rfl
        rotate_left
        · simp only [Act.put, List.setIfInBounds_toArray, List.set_cons_zero, List.set_cons_succ, i64_w, i32_w]
          rfl
        refine done_ (done_of HT_.out (by kernel_rfl)) ?_
        go_upto_region 8 with (first | ((with_reducible refine gate_callee (f := 16) rfl ?_); refine goesL_ (some 62) rfl rfl Try.func16 (by kernel_rfl) rfl #[.slice Ao22 t280.length co22, .slice Ao26 t283.length co26] rfl (by (try simp only [List.map_toArray, List.map_cons, List.map_nil]); first | done | rfl | (simp only [List.length_drop, List.length_take]; rfl) | ((try rw [KY24.out]); (try rw [KY25.out]); (try rw [KY28.out]); (try rw [KY29.out]); (try rw [KY63.out]); (try rw [KY64.out]); (try rw [KY67.out]); (try rw [KY68.out]); (try rw [KY70.out]); (try rw [KY71.out]); rfl)) ?_; (with_reducible refine (euclid_Shifted.calls k _ _ t280 _ _ t283 t312 t313 t314 _ ?side1 ?side2 ?side3 ?side4 A18.out).mono ?_); (case side1 => refine (Kd.R_reads' (e := 3) (base := w.heap.size) (ok := fun k_ => some k_ ≠ (.slice Ao26 t283.length co26 : Value).ownBlock) (n := t280.length) (c := co22) ?_).2.2; exact (by (with_reducible repeat (first | apply Kd.R_alloc | apply Kd.R_drewN | apply Kd.R_drew)); exact (Kd.R_mono (Kd.R_far (p := ⟨gb311, 1, none⟩) (Kd.R_far (p := ⟨gb311, 0, none⟩) (Kd.R_types HO282.out BK311.out (by decide)) (fun _ hk => hk.2) (.int .i64 t308)) (fun _ hk => hk.2) (.int .i64 t309)) (fun _ h_ => h_.1)))); (case side2 => exact (Kd.R_reads' HO282.out).2.1); (case side3 => refine (Kd.R_reads' (e := 3) (base := w.heap.size) (ok := fun k_ => some k_ ≠ (.slice Ao22 t280.length co22 : Value).ownBlock) (n := t283.length) (c := co26) ?_).2.2; exact (by (with_reducible repeat (first | apply Kd.R_alloc | apply Kd.R_drewN | apply Kd.R_drew)); exact (Kd.R_mono (Kd.R_far (p := ⟨gb311, 1, none⟩) (Kd.R_far (p := ⟨gb311, 0, none⟩) (Kd.R_types HO285.out BK311.out (by decide)) (fun _ hk => hk.2) (.int .i64 t308)) (fun _ hk => hk.2) (.int .i64 t309)) (fun _ h_ => h_.1)))); (case side4 => exact (Kd.R_reads' HO285.out).2.1); rintro e w35 ⟨rfl, hb⟩; refine ⟨_, rfl, ?_⟩; have n0_ := Aside0.mk (Kd.R_below (by (with_reducible repeat (first | apply Kd.R_alloc | apply Kd.R_drewN | apply Kd.R_drew)); exact (Kd.R_mono (Kd.R_far (p := ⟨gb311, 1, none⟩) (Kd.R_far (p := ⟨gb311, 0, none⟩) (Kd.R_types HO282.out BK311.out (by decide)) (fun _ hk => hk.2) (.int .i64 t308)) (fun _ hk => hk.2) (.int .i64 t309)) (fun _ h_ => h_.1))) hb); have n1_ := Aside0.mk (Kd.R_below (by (with_reducible repeat (first | apply Kd.R_alloc | apply Kd.R_drewN | apply Kd.R_drew)); exact (Kd.R_mono (Kd.R_far (p := ⟨gb311, 1, none⟩) (Kd.R_far (p := ⟨gb311, 0, none⟩) (Kd.R_types HO285.out BK311.out (by decide)) (fun _ hk => hk.2) (.int .i64 t308)) (fun _ hk => hk.2) (.int .i64 t309)) (fun _ h_ => h_.1))) hb); have n2_ := Aside0.mk (IsS56.below (show IsS56 w ((w32.setCell ⟨gb311, 0, none⟩ (.int .i64 t308)).setCell ⟨gb311, 1, none⟩ (.int .i64 t309)) g279 t277 t286 from by repeat (first | (with_reducible first | exact HI279.out | apply IsS56.alloc | apply IsS56.drewN | apply IsS56.drew | apply IsS56.set_1 | refine IsS56.far ?_ NB279_311.out _) | exact HI279.out)) hb); have n3_ := Aside0.mk (blk_below (g := gb311) (o := .cells #[.int .i64 t308, .int .i64 t309] 37 (0, 0)) (by (with_reducible repeat (first | refine blk_drewN ?_ _ | refine blk_drew ?_ | refine blk_alloc ?_ _)); refine blk_put (cs := #[.int .i64 t308, .int .i64 0]) ?_ 1 _ rfl; (with_reducible repeat (first | refine blk_drewN ?_ _ | refine blk_drew ?_ | refine blk_alloc ?_ _)); refine blk_put (cs := #[.int .i64 0, .int .i64 0]) ?_ 0 _ rfl; (with_reducible repeat (first | refine blk_drewN ?_ _ | refine blk_drew ?_ | refine blk_alloc ?_ _)); exact BK311.out) hb); have n4_ := Aside0.mk (below_step (by repeat (first | (with_reducible first | exact HB.out | apply below_alloc | apply pw_below_drewN | apply below_drew1 | refine below_set ?_ (IsS56.ge HI279.out) | refine below_set ?_ GE311.out) | exact HB.out)) hb); clear HO282; clear HO285; clear HI279; clear BK311; clear HB; have HO282 := n0_; have HO285 := n1_; have HI279 := n2_; have BK311 := n3_; have HB := n4_; clear n0_ n1_ n2_ n3_ n4_; (try clear hb); (try clear hb2); (try clear hk); (try clear hi)) | ((with_reducible refine gate_dst (N := 15) rfl ?_); refine box_event ?hg (N := 15) ?hd (cs := #[.int .i64 0, .int .i64 0]) (t := 37) ?hr ?_; (case hd => rfl); (case hg => rfl); (case hr => first | (go_simp; done) | (go_simp; rfl)); intro gb315 hg w36 hbox hb; have n0_ := Aside0.mk (Kd.R_below (by (with_reducible repeat (first | apply Kd.R_alloc | apply Kd.R_drewN | apply Kd.R_drew)); exact HO282.out) hb); have n1_ := Aside0.mk (Kd.R_below (by (with_reducible repeat (first | apply Kd.R_alloc | apply Kd.R_drewN | apply Kd.R_drew)); exact HO285.out) hb); have n2_ := Aside0.mk (IsS56.below (by repeat (first | (with_reducible first | exact HI279.out | apply IsS56.alloc | apply IsS56.drewN | apply IsS56.drew | apply IsS56.set_1 | refine IsS56.far ?_ NB279_311.out _) | exact HI279.out)) hb); have n3_ := Aside0.mk (blk_below (g := gb311) (o := .cells #[.int .i64 t308, .int .i64 t309] 37 (0, 0)) (by (with_reducible repeat (first | refine blk_drewN ?_ _ | refine blk_drew ?_ | refine blk_alloc ?_ _)); exact BK311.out) hb); have n4_ := Aside0.mk (below_step (by repeat (first | (with_reducible first | exact HB.out | apply below_alloc | apply pw_below_drewN | apply below_drew1 | refine below_set ?_ (IsS56.ge HI279.out) | refine below_set ?_ GE311.out) | exact HB.out)) hb); have n5_ := Aside0.mk (hbox); have n6_ := Aside0.mk ((by rw [hg]; exact (below_size (by repeat (first | (with_reducible first | exact HB.out | apply below_alloc | apply pw_below_drewN | apply below_drew1 | refine below_set ?_ (IsS56.ge HI279.out) | refine below_set ?_ GE311.out) | exact HB.out))) : w.heap.size ≤ gb315)); have n7_ := Aside0.mk ((by rw [hg]; exact (below_size (by repeat (first | (with_reducible first | exact HB.out | apply below_alloc | apply pw_below_drewN | apply below_drew1 | refine below_set ?_ (IsS56.ge HI279.out) | refine below_set ?_ GE311.out) | exact HB.out))) : w.heap.size ≤ gb315)); have n8_ := Aside0.mk ((by rw [hg]; exact Nat.ne_of_lt (blk_lt (g := gb311) (o := .cells #[.int .i64 t308, .int .i64 t309] 37 (0, 0)) (by (with_reducible repeat (first | refine blk_drewN ?_ _ | refine blk_drew ?_ | refine blk_alloc ?_ _)); exact BK311.out)) : gb311 ≠ gb315)); have n9_ := Aside0.mk ((by rw [hg]; exact Nat.ne_of_gt (blk_lt (g := gb311) (o := .cells #[.int .i64 t308, .int .i64 t309] 37 (0, 0)) (by (with_reducible repeat (first | refine blk_drewN ?_ _ | refine blk_drew ?_ | refine blk_alloc ?_ _)); exact BK311.out)) : gb315 ≠ gb311)); have n10_ := Aside0.mk ((by rw [hg]; exact Nat.ne_of_lt (IsS56.lt (show IsS56 w _ g279 t277 t286 from by repeat (first | (with_reducible first | exact HI279.out | apply IsS56.alloc | apply IsS56.drewN | apply IsS56.drew | apply IsS56.set_1 | refine IsS56.far ?_ NB279_311.out _) | exact HI279.out))) : g279 ≠ gb315)); have n11_ := Aside0.mk ((by rw [hg]; exact Nat.ne_of_gt (IsS56.lt (show IsS56 w _ g279 t277 t286 from by repeat (first | (with_reducible first | exact HI279.out | apply IsS56.alloc | apply IsS56.drewN | apply IsS56.drew | apply IsS56.set_1 | refine IsS56.far ?_ NB279_311.out _) | exact HI279.out))) : gb315 ≠ g279)); clear HO282; clear HO285; clear HI279; clear BK311; clear HB; have HO282 := n0_; have HO285 := n1_; have HI279 := n2_; have BK311 := n3_; have HB := n4_; have BK315 := n5_; have GW315 := n6_; have GE315 := n7_; have NB311_315 := n8_; have NB315_311 := n9_; have NB279_315 := n10_; have NB315_279 := n11_; clear n0_ n1_ n2_ n3_ n4_ n5_ n6_ n7_ n8_ n9_ n10_ n11_; clear hb hbox hg; have hnb37 := NB315_311.out; have hnc37 := NB311_315.out; have hnb38 := NB315_279.out; have hnc38 := NB279_315.out; have hcz39_0 : w36.cell? ⟨gb315, 0, none⟩ = some (.int .i64 0) := (blk_cell BK315.out 0).trans rfl; have hcz39_1 : w36.cell? ⟨gb315, 1, none⟩ = some (.int .i64 0) := (blk_cell BK315.out 1).trans rfl; have hfz39_0 := blk_frozen BK315.out 0; have hfz39_1 := blk_frozen BK315.out 1))
        (try simp only [Act.put, List.setIfInBounds_toArray, List.set_cons_zero, List.set_cons_succ])
        go_cut [88] (fun v88 wc => ∃ (kq : Nat) (x88_18 : Bool), v88 = .bool x88_18 ∧ Aside0 (shapesearchlaw12_EuclidBeginnings.j0 kq t280 t283 ji6 t296 t298 x88_18 = some r) ∧ Aside0 (kq ≤ k) ∧ Aside0 (Kd.R (Kd.int .i64) 3 wc w.heap.size (fun k_ => some k_ ≠ ((.slice Ao26 t283.length co26) : Value).ownBlock) (.slice Ao22 t280.length co22) t280) ∧ Aside0 (Kd.R (Kd.int .i64) 3 wc w.heap.size (fun k_ => some k_ ≠ ((.slice Ao22 t280.length co22) : Value).ownBlock) (.slice Ao26 t283.length co26) t283) ∧ Aside0 (wc.heap[gb311]? = some (.cells #[.int .i64 t308, .int .i64 t309] 37 (0, 0))) ∧ Aside0 (wc.heap[gb315]? = some (.cells #[.int .i64 t312, .int .i64 t313] 37 (0, 0))) ∧ Aside0 (Below w.heap.size w wc))
        case first =>
          have H := HC19.out
          clear HC19
          by_cases c40 : t297 = 0
          · rw [if_pos c40] at H
            have c40b0 : (t297 == 0) = true := beq_iff_eq.mpr c40
            have c40b1 : (t297 != 0) = false := bne_eq_false_iff_eq.mpr c40
            clear c40
            (first | rw [c40b0] | (simp only [i64_w, i32_w]; rw [c40b0]) | skip)
            by_cases c41 : t299 = 0
            · rw [if_pos c41] at H
              have c41b0 : (t299 == 0) = true := beq_iff_eq.mpr c41
              have c41b1 : (t299 != 0) = false := bne_eq_false_iff_eq.mpr c41
              clear c41
              by_cases c42 : t310 = 0
              · rw [if_pos c42] at H
                have c42b0 : (t310 == 0) = true := beq_iff_eq.mpr c42
                have c42b1 : (t310 != 0) = false := bne_eq_false_iff_eq.mpr c42
                clear c42
                by_cases c43 : t314 = 0
                · rw [if_pos c43] at H
                  have c43b0 : (t314 == 0) = true := beq_iff_eq.mpr c43
                  have c43b1 : (t314 != 0) = false := bne_eq_false_iff_eq.mpr c43
                  clear c43
                  by_cases c44 : t296 > t298
                  · rw [if_pos c44] at H
                    have c44b0 : decide (t298 < t296) = true := decide_eq_true c44
                    clear c44
                    have H' := Aside0.mk H
                    clear H
                    go_wp2
                    go_meet
                    case rel => exact ⟨_, (true), (by first | rfl | (simp; done) | (simp [*]; done)), H', ⟨by first | omega | exact Nat.le_refl _⟩, ⟨by (with_reducible repeat (first | apply Kd.R_alloc | apply Kd.R_drewN | apply Kd.R_drew)); exact Kd.R_mono (Kd.R_far (p := ⟨gb315, 1, none⟩) (Kd.R_far (p := ⟨gb315, 0, none⟩) (Kd.R_types HO282.out BK315.out (by decide)) (fun _ hk => hk.2) (.int .i64 t312)) (fun _ hk => hk.2) (.int .i64 t313)) (fun _ hk => hk.1)⟩, ⟨by (with_reducible repeat (first | apply Kd.R_alloc | apply Kd.R_drewN | apply Kd.R_drew)); exact Kd.R_mono (Kd.R_far (p := ⟨gb315, 1, none⟩) (Kd.R_far (p := ⟨gb315, 0, none⟩) (Kd.R_types HO285.out BK315.out (by decide)) (fun _ hk => hk.2) (.int .i64 t312)) (fun _ hk => hk.2) (.int .i64 t313)) (fun _ hk => hk.1)⟩, ⟨by (with_reducible repeat (first | refine blk_drewN ?_ _ | refine blk_drew ?_ | refine blk_alloc ?_ _)); refine blk_far ?_ NB311_315.out _; (with_reducible repeat (first | refine blk_drewN ?_ _ | refine blk_drew ?_ | refine blk_alloc ?_ _)); refine blk_far ?_ NB311_315.out _; (with_reducible repeat (first | refine blk_drewN ?_ _ | refine blk_drew ?_ | refine blk_alloc ?_ _)); exact BK311.out⟩, ⟨by (with_reducible repeat (first | refine blk_drewN ?_ _ | refine blk_drew ?_ | refine blk_alloc ?_ _)); refine blk_put (cs := #[.int .i64 t312, .int .i64 0]) ?_ 1 _ rfl; (with_reducible repeat (first | refine blk_drewN ?_ _ | refine blk_drew ?_ | refine blk_alloc ?_ _)); refine blk_put (cs := #[.int .i64 0, .int .i64 0]) ?_ 0 _ rfl; (with_reducible repeat (first | refine blk_drewN ?_ _ | refine blk_drew ?_ | refine blk_alloc ?_ _)); exact BK315.out⟩, ⟨by repeat (first | (with_reducible first | exact HB.out | apply below_alloc | apply pw_below_drewN | apply below_drew1 | refine below_set ?_ (IsS56.ge HI279.out) | refine below_set ?_ GE311.out | refine below_set ?_ GE315.out) | exact HB.out)⟩⟩
                  · rw [if_neg c44] at H
                    have c44b0 : decide (t298 < t296) = false := decide_eq_false c44
                    clear c44
                    replace H := Option.bind_eq_some_iff.mp H
                    obtain ⟨t316, A450, H⟩ := H
                    replace H : (shapesearchlaw12_EuclidBeginnings.j0 k t280 t283 ji6 t296 t298 t316) = some r := H
                    have A45 := Aside0.mk A450
                    clear A450
                    have H' := Aside0.mk H
                    clear H
                    have hnb46 := NB315_311.out
                    have hnc46 := NB311_315.out
                    have hnb47 := NB315_279.out
                    have hnc47 := NB279_315.out
                    have hcz48_0 : w36.cell? ⟨gb315, 0, none⟩ = some (.int .i64 0) := (blk_cell BK315.out 0).trans rfl
                    have hcz48_1 : w36.cell? ⟨gb315, 1, none⟩ = some (.int .i64 0) := (blk_cell BK315.out 1).trans rfl
                    have hfz48_0 := blk_frozen BK315.out 0
                    have hfz48_1 := blk_frozen BK315.out 1
                    have hnb49 := NB311_279.out
                    have hnc49 := NB279_311.out
                    have hcz50_0 : w36.cell? ⟨gb311, 0, none⟩ = some (.int .i64 t308) := (blk_cell BK311.out 0).trans rfl
                    have hcz50_1 : w36.cell? ⟨gb311, 1, none⟩ = some (.int .i64 t309) := (blk_cell BK311.out 1).trans rfl
                    have hfz50_0 := blk_frozen BK311.out 0
                    have hfz50_1 := blk_frozen BK311.out 1
                    go_wp2_with (first | (go_at_call 19; (with_reducible refine (shapesearchref01_Less.calls k t312 t313 t308 t309 t316 _ A45.out).mono ?_); rintro e w51 ⟨rfl, hb⟩; have n0_ := Aside0.mk (Kd.R_below (by (with_reducible repeat (first | apply Kd.R_alloc | apply Kd.R_drewN | apply Kd.R_drew)); exact (Kd.R_mono (Kd.R_far (p := ⟨gb315, 1, none⟩) (Kd.R_far (p := ⟨gb315, 0, none⟩) (Kd.R_types HO282.out BK315.out (by decide)) (fun _ hk => hk.2) (.int .i64 t312)) (fun _ hk => hk.2) (.int .i64 t313)) (fun _ h_ => h_.1))) hb); have n1_ := Aside0.mk (Kd.R_below (by (with_reducible repeat (first | apply Kd.R_alloc | apply Kd.R_drewN | apply Kd.R_drew)); exact (Kd.R_mono (Kd.R_far (p := ⟨gb315, 1, none⟩) (Kd.R_far (p := ⟨gb315, 0, none⟩) (Kd.R_types HO285.out BK315.out (by decide)) (fun _ hk => hk.2) (.int .i64 t312)) (fun _ hk => hk.2) (.int .i64 t313)) (fun _ h_ => h_.1))) hb); have n2_ := Aside0.mk (IsS56.below (show IsS56 w ((w36.setCell ⟨gb315, 0, none⟩ (.int .i64 t312)).setCell ⟨gb315, 1, none⟩ (.int .i64 t313)) g279 t277 t286 from by repeat (first | (with_reducible first | exact HI279.out | apply IsS56.alloc | apply IsS56.drewN | apply IsS56.drew | apply IsS56.set_1 | refine IsS56.far ?_ NB279_311.out _ | refine IsS56.far ?_ NB279_315.out _) | exact HI279.out)) hb); have n3_ := Aside0.mk (blk_below (g := gb311) (o := .cells #[.int .i64 t308, .int .i64 t309] 37 (0, 0)) (by (with_reducible repeat (first | refine blk_drewN ?_ _ | refine blk_drew ?_ | refine blk_alloc ?_ _)); refine blk_far ?_ NB311_315.out _; (with_reducible repeat (first | refine blk_drewN ?_ _ | refine blk_drew ?_ | refine blk_alloc ?_ _)); refine blk_far ?_ NB311_315.out _; (with_reducible repeat (first | refine blk_drewN ?_ _ | refine blk_drew ?_ | refine blk_alloc ?_ _)); exact BK311.out) hb); have n4_ := Aside0.mk (blk_below (g := gb315) (o := .cells #[.int .i64 t312, .int .i64 t313] 37 (0, 0)) (by (with_reducible repeat (first | refine blk_drewN ?_ _ | refine blk_drew ?_ | refine blk_alloc ?_ _)); refine blk_put (cs := #[.int .i64 t312, .int .i64 0]) ?_ 1 _ rfl; (with_reducible repeat (first | refine blk_drewN ?_ _ | refine blk_drew ?_ | refine blk_alloc ?_ _)); refine blk_put (cs := #[.int .i64 0, .int .i64 0]) ?_ 0 _ rfl; (with_reducible repeat (first | refine blk_drewN ?_ _ | refine blk_drew ?_ | refine blk_alloc ?_ _)); exact BK315.out) hb); have n5_ := Aside0.mk (below_step (by repeat (first | (with_reducible first | exact HB.out | apply below_alloc | apply pw_below_drewN | apply below_drew1 | refine below_set ?_ (IsS56.ge HI279.out) | refine below_set ?_ GE311.out | refine below_set ?_ GE315.out) | exact HB.out)) hb); clear HO282; clear HO285; clear HI279; clear BK311; clear BK315; clear HB; have HO282 := n0_; have HO285 := n1_; have HI279 := n2_; have BK311 := n3_; have BK315 := n4_; have HB := n5_; clear n0_ n1_ n2_ n3_ n4_ n5_; (try clear hb); (try clear hb2); (try clear hk); (try clear hi)))
                    go_meet
                    case rel => exact ⟨_, (t316), (by first | rfl | (simp; done) | (simp [*]; done)), H', ⟨by first | omega | exact Nat.le_refl _⟩, ⟨by (with_reducible repeat (first | apply Kd.R_alloc | apply Kd.R_drewN | apply Kd.R_drew)); exact HO282.out⟩, ⟨by (with_reducible repeat (first | apply Kd.R_alloc | apply Kd.R_drewN | apply Kd.R_drew)); exact HO285.out⟩, ⟨by (with_reducible repeat (first | refine blk_drewN ?_ _ | refine blk_drew ?_ | refine blk_alloc ?_ _)); exact BK311.out⟩, ⟨by (with_reducible repeat (first | refine blk_drewN ?_ _ | refine blk_drew ?_ | refine blk_alloc ?_ _)); exact BK315.out⟩, ⟨by repeat (first | (with_reducible first | exact HB.out | apply below_alloc | apply pw_below_drewN | apply below_drew1 | refine below_set ?_ (IsS56.ge HI279.out) | refine below_set ?_ GE311.out | refine below_set ?_ GE315.out) | exact HB.out)⟩⟩
                · rw [if_neg c43] at H
                  have c43b0 : (t314 == 0) = false := beq_eq_false_iff_ne.mpr c43
                  have c43b1 : (t314 != 0) = true := bne_iff_ne.mpr c43
                  have H' := Aside0.mk H
                  clear H
                  go_wp2
                  go_meet
                  case rel => exact ⟨_, (true), (by first | rfl | (simp; done) | (simp [*]; done)), H', ⟨by first | omega | exact Nat.le_refl _⟩, ⟨by (with_reducible repeat (first | apply Kd.R_alloc | apply Kd.R_drewN | apply Kd.R_drew)); exact Kd.R_mono (Kd.R_far (p := ⟨gb315, 1, none⟩) (Kd.R_far (p := ⟨gb315, 0, none⟩) (Kd.R_types HO282.out BK315.out (by decide)) (fun _ hk => hk.2) (.int .i64 t312)) (fun _ hk => hk.2) (.int .i64 t313)) (fun _ hk => hk.1)⟩, ⟨by (with_reducible repeat (first | apply Kd.R_alloc | apply Kd.R_drewN | apply Kd.R_drew)); exact Kd.R_mono (Kd.R_far (p := ⟨gb315, 1, none⟩) (Kd.R_far (p := ⟨gb315, 0, none⟩) (Kd.R_types HO285.out BK315.out (by decide)) (fun _ hk => hk.2) (.int .i64 t312)) (fun _ hk => hk.2) (.int .i64 t313)) (fun _ hk => hk.1)⟩, ⟨by (with_reducible repeat (first | refine blk_drewN ?_ _ | refine blk_drew ?_ | refine blk_alloc ?_ _)); refine blk_far ?_ NB311_315.out _; (with_reducible repeat (first | refine blk_drewN ?_ _ | refine blk_drew ?_ | refine blk_alloc ?_ _)); refine blk_far ?_ NB311_315.out _; (with_reducible repeat (first | refine blk_drewN ?_ _ | refine blk_drew ?_ | refine blk_alloc ?_ _)); exact BK311.out⟩, ⟨by (with_reducible repeat (first | refine blk_drewN ?_ _ | refine blk_drew ?_ | refine blk_alloc ?_ _)); refine blk_put (cs := #[.int .i64 t312, .int .i64 0]) ?_ 1 _ rfl; (with_reducible repeat (first | refine blk_drewN ?_ _ | refine blk_drew ?_ | refine blk_alloc ?_ _)); refine blk_put (cs := #[.int .i64 0, .int .i64 0]) ?_ 0 _ rfl; (with_reducible repeat (first | refine blk_drewN ?_ _ | refine blk_drew ?_ | refine blk_alloc ?_ _)); exact BK315.out⟩, ⟨by repeat (first | (with_reducible first | exact HB.out | apply below_alloc | apply pw_below_drewN | apply below_drew1 | refine below_set ?_ (IsS56.ge HI279.out) | refine below_set ?_ GE311.out | refine below_set ?_ GE315.out) | exact HB.out)⟩⟩
              · rw [if_neg c42] at H
                have c42b0 : (t310 == 0) = false := beq_eq_false_iff_ne.mpr c42
                have c42b1 : (t310 != 0) = true := bne_iff_ne.mpr c42
                have H' := Aside0.mk H
                clear H
                go_wp2
                go_meet
                case rel => exact ⟨_, (true), (by first | rfl | (simp; done) | (simp [*]; done)), H', ⟨by first | omega | exact Nat.le_refl _⟩, ⟨by (with_reducible repeat (first | apply Kd.R_alloc | apply Kd.R_drewN | apply Kd.R_drew)); exact Kd.R_mono (Kd.R_far (p := ⟨gb315, 1, none⟩) (Kd.R_far (p := ⟨gb315, 0, none⟩) (Kd.R_types HO282.out BK315.out (by decide)) (fun _ hk => hk.2) (.int .i64 t312)) (fun _ hk => hk.2) (.int .i64 t313)) (fun _ hk => hk.1)⟩, ⟨by (with_reducible repeat (first | apply Kd.R_alloc | apply Kd.R_drewN | apply Kd.R_drew)); exact Kd.R_mono (Kd.R_far (p := ⟨gb315, 1, none⟩) (Kd.R_far (p := ⟨gb315, 0, none⟩) (Kd.R_types HO285.out BK315.out (by decide)) (fun _ hk => hk.2) (.int .i64 t312)) (fun _ hk => hk.2) (.int .i64 t313)) (fun _ hk => hk.1)⟩, ⟨by (with_reducible repeat (first | refine blk_drewN ?_ _ | refine blk_drew ?_ | refine blk_alloc ?_ _)); refine blk_far ?_ NB311_315.out _; (with_reducible repeat (first | refine blk_drewN ?_ _ | refine blk_drew ?_ | refine blk_alloc ?_ _)); refine blk_far ?_ NB311_315.out _; (with_reducible repeat (first | refine blk_drewN ?_ _ | refine blk_drew ?_ | refine blk_alloc ?_ _)); exact BK311.out⟩, ⟨by (with_reducible repeat (first | refine blk_drewN ?_ _ | refine blk_drew ?_ | refine blk_alloc ?_ _)); refine blk_put (cs := #[.int .i64 t312, .int .i64 0]) ?_ 1 _ rfl; (with_reducible repeat (first | refine blk_drewN ?_ _ | refine blk_drew ?_ | refine blk_alloc ?_ _)); refine blk_put (cs := #[.int .i64 0, .int .i64 0]) ?_ 0 _ rfl; (with_reducible repeat (first | refine blk_drewN ?_ _ | refine blk_drew ?_ | refine blk_alloc ?_ _)); exact BK315.out⟩, ⟨by repeat (first | (with_reducible first | exact HB.out | apply below_alloc | apply pw_below_drewN | apply below_drew1 | refine below_set ?_ (IsS56.ge HI279.out) | refine below_set ?_ GE311.out | refine below_set ?_ GE315.out) | exact HB.out)⟩⟩
            · rw [if_neg c41] at H
              have c41b0 : (t299 == 0) = false := beq_eq_false_iff_ne.mpr c41
              have c41b1 : (t299 != 0) = true := bne_iff_ne.mpr c41
              have H' := Aside0.mk H
              clear H
              go_wp2
              go_meet
              case rel => exact ⟨_, (true), (by first | rfl | (simp; done) | (simp [*]; done)), H', ⟨by first | omega | exact Nat.le_refl _⟩, ⟨by (with_reducible repeat (first | apply Kd.R_alloc | apply Kd.R_drewN | apply Kd.R_drew)); exact Kd.R_mono (Kd.R_far (p := ⟨gb315, 1, none⟩) (Kd.R_far (p := ⟨gb315, 0, none⟩) (Kd.R_types HO282.out BK315.out (by decide)) (fun _ hk => hk.2) (.int .i64 t312)) (fun _ hk => hk.2) (.int .i64 t313)) (fun _ hk => hk.1)⟩, ⟨by (with_reducible repeat (first | apply Kd.R_alloc | apply Kd.R_drewN | apply Kd.R_drew)); exact Kd.R_mono (Kd.R_far (p := ⟨gb315, 1, none⟩) (Kd.R_far (p := ⟨gb315, 0, none⟩) (Kd.R_types HO285.out BK315.out (by decide)) (fun _ hk => hk.2) (.int .i64 t312)) (fun _ hk => hk.2) (.int .i64 t313)) (fun _ hk => hk.1)⟩, ⟨by (with_reducible repeat (first | refine blk_drewN ?_ _ | refine blk_drew ?_ | refine blk_alloc ?_ _)); refine blk_far ?_ NB311_315.out _; (with_reducible repeat (first | refine blk_drewN ?_ _ | refine blk_drew ?_ | refine blk_alloc ?_ _)); refine blk_far ?_ NB311_315.out _; (with_reducible repeat (first | refine blk_drewN ?_ _ | refine blk_drew ?_ | refine blk_alloc ?_ _)); exact BK311.out⟩, ⟨by (with_reducible repeat (first | refine blk_drewN ?_ _ | refine blk_drew ?_ | refine blk_alloc ?_ _)); refine blk_put (cs := #[.int .i64 t312, .int .i64 0]) ?_ 1 _ rfl; (with_reducible repeat (first | refine blk_drewN ?_ _ | refine blk_drew ?_ | refine blk_alloc ?_ _)); refine blk_put (cs := #[.int .i64 0, .int .i64 0]) ?_ 0 _ rfl; (with_reducible repeat (first | refine blk_drewN ?_ _ | refine blk_drew ?_ | refine blk_alloc ?_ _)); exact BK315.out⟩, ⟨by repeat (first | (with_reducible first | exact HB.out | apply below_alloc | apply pw_below_drewN | apply below_drew1 | refine below_set ?_ (IsS56.ge HI279.out) | refine below_set ?_ GE311.out | refine below_set ?_ GE315.out) | exact HB.out)⟩⟩
          · rw [if_neg c40] at H
            have c40b0 : (t297 == 0) = false := beq_eq_false_iff_ne.mpr c40
            have c40b1 : (t297 != 0) = true := bne_iff_ne.mpr c40
            (first | rw [c40b0] | (simp only [i64_w, i32_w]; rw [c40b0]) | skip)
            have H' := Aside0.mk H
            clear H
            go_wp2
            go_meet
            case rel => exact ⟨_, (true), (by first | rfl | (simp; done) | (simp [*]; done)), H', ⟨by first | omega | exact Nat.le_refl _⟩, ⟨by (with_reducible repeat (first | apply Kd.R_alloc | apply Kd.R_drewN | apply Kd.R_drew)); exact Kd.R_mono (Kd.R_far (p := ⟨gb315, 1, none⟩) (Kd.R_far (p := ⟨gb315, 0, none⟩) (Kd.R_types HO282.out BK315.out (by decide)) (fun _ hk => hk.2) (.int .i64 t312)) (fun _ hk => hk.2) (.int .i64 t313)) (fun _ hk => hk.1)⟩, ⟨by (with_reducible repeat (first | apply Kd.R_alloc | apply Kd.R_drewN | apply Kd.R_drew)); exact Kd.R_mono (Kd.R_far (p := ⟨gb315, 1, none⟩) (Kd.R_far (p := ⟨gb315, 0, none⟩) (Kd.R_types HO285.out BK315.out (by decide)) (fun _ hk => hk.2) (.int .i64 t312)) (fun _ hk => hk.2) (.int .i64 t313)) (fun _ hk => hk.1)⟩, ⟨by (with_reducible repeat (first | refine blk_drewN ?_ _ | refine blk_drew ?_ | refine blk_alloc ?_ _)); refine blk_far ?_ NB311_315.out _; (with_reducible repeat (first | refine blk_drewN ?_ _ | refine blk_drew ?_ | refine blk_alloc ?_ _)); refine blk_far ?_ NB311_315.out _; (with_reducible repeat (first | refine blk_drewN ?_ _ | refine blk_drew ?_ | refine blk_alloc ?_ _)); exact BK311.out⟩, ⟨by (with_reducible repeat (first | refine blk_drewN ?_ _ | refine blk_drew ?_ | refine blk_alloc ?_ _)); refine blk_put (cs := #[.int .i64 t312, .int .i64 0]) ?_ 1 _ rfl; (with_reducible repeat (first | refine blk_drewN ?_ _ | refine blk_drew ?_ | refine blk_alloc ?_ _)); refine blk_put (cs := #[.int .i64 0, .int .i64 0]) ?_ 0 _ rfl; (with_reducible repeat (first | refine blk_drewN ?_ _ | refine blk_drew ?_ | refine blk_alloc ?_ _)); exact BK315.out⟩, ⟨by repeat (first | (with_reducible first | exact HB.out | apply below_alloc | apply pw_below_drewN | apply below_drew1 | refine below_set ?_ (IsS56.ge HI279.out) | refine below_set ?_ GE311.out | refine below_set ?_ GE315.out) | exact HB.out)⟩⟩
        case rest =>
          clear HC19
          try clear c1
          try clear p2
          try clear q2
          try clear c3
          try clear c4
          try clear c12
          try clear c16
          try clear q25
          try clear q28
          try clear q29
          try clear c37
          try clear c38
          try clear c40
          try clear c40b0
          try clear c40b1
          try clear c41
          try clear c41b0
          try clear c41b1
          try clear c42
          try clear c42b0
          try clear c42b1
          try clear c43
          try clear c43b0
          try clear c43b1
          try clear c44
          try clear c44b0
          try clear c46
          try clear c47
          try clear c49
          try clear hcz39_0
          try clear hcz39_1
          try clear hcz48_0
          try clear hcz48_1
          try clear hcz50_0
          try clear hcz50_1
          try clear hfz39_0
          try clear hfz39_1
          try clear hfz48_0
          try clear hfz48_1
          try clear hfz50_0
          try clear hfz50_1
          try clear q25
          try clear q28
          try clear q29
          obtain ⟨kq, x88_18, rfl, HA, HJ18, HO_6, HO_7, BK311, BK315, HB⟩ := hcut
          cases kq with
          | zero => exact absurd HA.out (by simp [shapesearchlaw12_EuclidBeginnings.j0])
          | succ kj18 =>
            have H := HA.out
            clear HA
            simp only [shapesearchlaw12_EuclidBeginnings.j0] at H
            by_cases c52 : x88_18 = true
            · subst c52
              have H1 : (some false) = some r := by rw [if_pos rfl] at H; exact H
              clear H
              have H := H1
              clear H1
              obtain rfl := Option.some.inj H
              go_wp2
              go_ret
              exact ⟨by first | rfl | (simp [errW_none, errW_some] <;> rfl) | (simp only [← hji6]; first | rfl | (simp [errW_none, errW_some] <;> rfl)) | (simp [*, errW_none, errW_some] <;> rfl), by repeat (first | (with_reducible first | exact HB.out | apply below_alloc | apply pw_below_drewN | apply below_drew1 | refine below_set ?_ GE311.out | refine below_set ?_ GE315.out) | exact HB.out)⟩
            · replace c52 := Bool.eq_false_iff.mpr c52
              subst c52
              have H1 : (if (wrap64 ((t280.length : Int) - ji6)) ≥ 2 then (if 0 ≤ ji6 then (if ji6 ≤ (t280.length : Int) then (if ji6 ≤ (t283.length : Int) then ((euclid_Distance.f kj18 (t280.drop (ji6 : Int).toNat) (t283.drop (ji6 : Int).toNat)).bind fun bt325 => (if bt325.2 = 0 then (if (wrap64 (t296 + bt325.1)) = t298 then ((shapesearchlaw12_awake.f kj18).bind fun t327 => (some t327)) else (some false)) else (some false))) else (none)) else (none)) else (none)) else ((shapesearchlaw12_awake.f kj18).bind fun t328 => (some t328))) = some r := by rw [if_neg (show ¬ (false = true) by decide)] at H; exact H
              clear H
              have H := H1
              clear H1
              by_cases c53 : (wrap64 ((t280.length : Int) - ji6)) ≥ 2
              · rw [if_pos c53] at H
                have c53b0 : decide (2 ≤ (wrap64 ((t280.length : Int) - ji6))) = true := decide_eq_true c53
                clear c53
                by_cases c54 : 0 ≤ ji6
                · rw [if_pos c54] at H
                  have c54b0 := eq_true c54
                  have c54b1 : decide (0 ≤ ji6) = true := decide_eq_true c54
                  clear c54
                  by_cases c55 : ji6 ≤ (t280.length : Int)
                  · rw [if_pos c55] at H
                    have c55b0 := eq_true c55
                    have c55b1 : decide (ji6 ≤ (t280.length : Int)) = true := decide_eq_true c55
                    clear c55
                    obtain ⟨y317, hy317⟩ : ∃ y_ : List Int, y_ = (t280.drop (ji6 : Int).toNat) := ⟨_, rfl⟩
                    replace H : (if ji6 ≤ (t283.length : Int) then ((euclid_Distance.f kj18 y317 (t283.drop (ji6 : Int).toNat)).bind fun bt325 => (if bt325.2 = 0 then (if (wrap64 (t296 + bt325.1)) = t298 then ((shapesearchlaw12_awake.f kj18).bind fun t327 => (some t327)) else (some false)) else (some false))) else (none)) = some r := by first | (rw [hy317]; with_reducible exact H) | (have H2_ := (Option.bind_some _ _).symm.trans H; rw [hy317]; with_reducible exact H2_) | (have H2_ := (Option.bind_some _ _).symm.trans H; with_reducible exact H2_) | with_reducible exact H | (rw [hy317]; exact H) | exact H
                    have Ny317 := Aside0.mk hy317
                    clear hy317
                    have c56b0 := eq_true (of_decide_eq_true (by first | (with_reducible assumption) | assumption) : 0 ≤ ji6)
                    by_cases c57 : ji6 ≤ (t283.length : Int)
                    · rw [if_pos c57] at H
                      have c57b0 := eq_true c57
                      have c57b1 : decide (ji6 ≤ (t283.length : Int)) = true := decide_eq_true c57
                      clear c57
                      obtain ⟨y321, hy321⟩ : ∃ y_ : List Int, y_ = (t283.drop (ji6 : Int).toNat) := ⟨_, rfl⟩
                      replace H : ((euclid_Distance.f kj18 y317 y321).bind fun bt325 => (if bt325.2 = 0 then (if (wrap64 (t296 + bt325.1)) = t298 then ((shapesearchlaw12_awake.f kj18).bind fun t327 => (some t327)) else (some false)) else (some false))) = some r := by first | (rw [hy321]; with_reducible exact H) | (have H2_ := (Option.bind_some _ _).symm.trans H; rw [hy321]; with_reducible exact H2_) | (have H2_ := (Option.bind_some _ _).symm.trans H; with_reducible exact H2_) | with_reducible exact H | (rw [hy321]; exact H) | exact H
                      have Ny321 := Aside0.mk hy321
                      clear hy321
                      replace H := Option.bind_eq_some_iff.mp H
                      obtain ⟨⟨t325, t326⟩, A580, H⟩ := H
                      replace H : (if t326 = 0 then (if (wrap64 (t296 + t325)) = t298 then ((shapesearchlaw12_awake.f kj18).bind fun t327 => (some t327)) else (some false)) else (some false)) = some r := H
                      have A58 := Aside0.mk A580
                      clear A580
                      by_cases c59 : t326 = 0
                      · rw [if_pos c59] at H
                        have c59b0 : (t326 == 0) = true := beq_iff_eq.mpr c59
                        have c59b1 : (t326 != 0) = false := bne_eq_false_iff_eq.mpr c59
                        clear c59
                        by_cases c60 : (wrap64 (t296 + t325)) = t298
                        · rw [if_pos c60] at H
                          have c60b0 : ((wrap64 (t296 + t325)) == t298) = true := beq_iff_eq.mpr c60
                          have c60b1 : ((wrap64 (t296 + t325)) != t298) = false := bne_eq_false_iff_eq.mpr c60
                          clear c60
                          replace H := Option.bind_eq_some_iff.mp H
                          obtain ⟨t327, A610, H⟩ := H
                          replace H : (some t327) = some r := H
                          have A61 := Aside0.mk A610
                          clear A610
                          obtain rfl := Option.some.inj H
                          try go_wp2
                          have n0_ := Aside0.mk (Kd.R_drew HO_6.out)
                          have n1_ := Aside0.mk (Kd.R_drew HO_7.out)
                          have n2_ := Aside0.mk (blk_drew BK311.out)
                          have n3_ := Aside0.mk (blk_drew BK315.out)
                          have n4_ := Aside0.mk (below_drew1 HB.out)
                          clear HO_6
                          clear HO_7
                          clear BK311
                          clear BK315
                          clear HB
                          have HO_6 := n0_
                          have HO_7 := n1_
                          have BK311 := n2_
                          have BK315 := n3_
                          have HB := n4_
                          clear n0_ n1_ n2_ n3_ n4_
                          have q63 : (ji6 : Int) ≤ ((t280.length : Int) : Int) := of_decide_eq_true (by first | (with_reducible assumption) | assumption)
                          obtain ⟨i063, hi063, _, hsz63, _⟩ := info_parts info3
                          have hroom63 : t280.length ≤ co22 := (Kd.R_reads' HO_6.out).2.1
                          have hC63 : Kd.C (Kd.int .i64) _ Ao22 t280.length t280 := (Kd.R_reads' HO_6.out).2.2
                          have q063 : (0 : Int) ≤ (ji6 : Int) := of_decide_eq_true (by first | (with_reducible assumption) | assumption)
                          have hcut63 := cut_from (P := Try.prog) 22 3 .i64 Try.underlying22 hi063 1 hsz63 Ao22 t280.length co22 ji6 q063 q63
                          have hr63 := Kd.C_drop (m := (ji6 : Int).toNat) (c := co22) hC63 (by omega) hroom63
                          obtain ⟨A63, hA63⟩ : ∃ A1, A1 = (if co22 = (ji6 : Int).toNat then Ao22 else (Ao22 : Option Addr).map (·.add ((ji6 : Int).toNat * 1))) := ⟨_, rfl⟩
                          obtain ⟨c63, hc63⟩ : ∃ c1, c1 = co22 - (ji6 : Int).toNat := ⟨_, rfl⟩
                          have hy63 : y317.length = t280.length - (ji6 : Int).toNat := (by rw [Ny317.out, List.length_drop] <;> omega)
                          rw [show (t280).drop (ji6 : Int).toNat = y317 from Ny317.out.symm] at hr63
                          replace hr63 : Kd.C (Kd.int .i64) _ A63 y317.length y317 := (by rw [hA63]; exact hr63)
                          rw [← hy63, ← hA63, ← hc63] at hcut63
                          have HR320 := Aside0.mk hr63
                          have HC320 := Aside0.mk (show y317.length ≤ c63 from by rw [hy63, hc63]; exact Nat.sub_le_sub_right hroom63 _)
                          clear hr63 hC63 hroom63 hi063 hsz63 hc63
                          have KY63 := Aside0.mk hy63
                          have KA63 := Aside0.mk hA63
                          clear hy63 hA63
                          have KL63 := Aside0.mk (show (ji6 : Int).toNat ≤ t280.length from by omega)
                          replace q63 := eq_true q63
                          have q64 : (ji6 : Int) ≤ ((t283.length : Int) : Int) := of_decide_eq_true (by first | (with_reducible assumption) | assumption)
                          obtain ⟨i064, hi064, _, hsz64, _⟩ := info_parts info3
                          have hroom64 : t283.length ≤ co26 := (Kd.R_reads' HO_7.out).2.1
                          have hC64 : Kd.C (Kd.int .i64) _ Ao26 t283.length t283 := (Kd.R_reads' HO_7.out).2.2
                          have q064 : (0 : Int) ≤ (ji6 : Int) := of_decide_eq_true (by first | (with_reducible assumption) | assumption)
                          have hcut64 := cut_from (P := Try.prog) 22 3 .i64 Try.underlying22 hi064 1 hsz64 Ao26 t283.length co26 ji6 q064 q64
                          have hr64 := Kd.C_drop (m := (ji6 : Int).toNat) (c := co26) hC64 (by omega) hroom64
                          obtain ⟨A64, hA64⟩ : ∃ A1, A1 = (if co26 = (ji6 : Int).toNat then Ao26 else (Ao26 : Option Addr).map (·.add ((ji6 : Int).toNat * 1))) := ⟨_, rfl⟩
                          obtain ⟨c64, hc64⟩ : ∃ c1, c1 = co26 - (ji6 : Int).toNat := ⟨_, rfl⟩
                          have hy64 : y321.length = t283.length - (ji6 : Int).toNat := (by rw [Ny321.out, List.length_drop] <;> omega)
                          rw [show (t283).drop (ji6 : Int).toNat = y321 from Ny321.out.symm] at hr64
                          replace hr64 : Kd.C (Kd.int .i64) _ A64 y321.length y321 := (by rw [hA64]; exact hr64)
                          rw [← hy64, ← hA64, ← hc64] at hcut64
                          have HR324 := Aside0.mk hr64
                          have HC324 := Aside0.mk (show y321.length ≤ c64 from by rw [hy64, hc64]; exact Nat.sub_le_sub_right hroom64 _)
                          clear hr64 hC64 hroom64 hi064 hsz64 hc64
                          have KY64 := Aside0.mk hy64
                          have KA64 := Aside0.mk hA64
                          clear hy64 hA64
                          have KL64 := Aside0.mk (show (ji6 : Int).toNat ≤ t283.length from by omega)
                          replace q64 := eq_true q64
                          refine start_ (n := 12) (S := fun w' => True) (ds := []) #[false, false, false, false, false, false, false, false, false, false, false, false] (by kernel_rfl) rfl rfl trivial (fun hHeld => ?_); refine with_tabW shapesearchlaw12_EuclidBeginnings.tab11 shapesearchlaw12_EuclidBeginnings.bits11 (fun HT_ HW_ => ?_)
                          generalize wc.drew = w62 at HO_6 HO_7 BK311 BK315 HB HR320 HR324 hHeld ⊢
                          refine pure_ (i := 0) (N := some 95) (v := ?_) (a' := ?_) #[true, false, false, false, false, false, false, false, false, false, false, false] rfl rfl (any_of HT_.out (by kernel_rfl)) (fun _ _ _ h => h) (Or.inl ⟨by rfl, ?_⟩) ?_ ?_
                          rotate_left
                          · intro w'
                            go_simp
                            with_reducible rfl
                          rotate_left
                          · simp only [Act.put, List.setIfInBounds_toArray, List.set_cons_zero, List.set_cons_succ, i64_w, i32_w]
                            rfl
                          refine pure_ (i := 1) (N := some 96) (v := ?_) (a' := ?_) #[true, true, false, false, false, false, false, false, false, false, false, false] rfl rfl (any_of HT_.out (by kernel_rfl)) (fun _ _ _ h => h) (Or.inl ⟨by rfl, ?_⟩) ?_ ?_
                          rotate_left
                          · intro w'
                            go_simp
                            with_reducible rfl
                          rotate_left
                          · simp only [Act.put, List.setIfInBounds_toArray, List.set_cons_zero, List.set_cons_succ, i64_w, i32_w]
                            rfl
                          refine pure_ (i := 2) (N := some 97) (v := ?_) (a' := ?_) #[true, true, true, false, false, false, false, false, false, false, false, false] rfl rfl (any_of HT_.out (by kernel_rfl)) (fun _ _ _ h => h) (Or.inl ⟨by rfl, ?_⟩) ?_ ?_
                          rotate_left
                          · intro w'
                            go_simp
                            with_reducible rfl
                          rotate_left
                          · simp only [Act.put, List.setIfInBounds_toArray, List.set_cons_zero, List.set_cons_succ, i64_w, i32_w]
                            rfl
                          refine pure_ (i := 3) (N := some 98) (v := ?_) (a' := ?_) #[true, true, true, true, false, false, false, false, false, false, false, false] rfl rfl (any_of HT_.out (by kernel_rfl)) (fun _ _ _ h => h) (Or.inl ⟨by rfl, ?_⟩) ?_ ?_
                          rotate_left
                          · intro w'
                            go_simp
                            with_reducible rfl
                          rotate_left
                          · simp only [Act.put, List.setIfInBounds_toArray, List.set_cons_zero, List.set_cons_succ, i64_w, i32_w]
                            rfl
                          refine pure_ (i := 4) (N := some 99) (v := ?_) (a' := ?_) #[true, true, true, true, true, false, false, false, false, false, false, false] rfl rfl (any_of HT_.out (by kernel_rfl)) (fun _ _ _ h => h) (Or.inl ⟨by rfl, ?_⟩) ?_ ?_
                          rotate_left
                          · intro w'
                            go_simp
                            with_reducible rfl
                          rotate_left
                          · simp only [Act.put, List.setIfInBounds_toArray, List.set_cons_zero, List.set_cons_succ, i64_w, i32_w]
                            rfl
                          refine pure_ (i := 5) (N := some 100) (v := ?_) (a' := ?_) #[true, true, true, true, true, true, false, false, false, false, false, false] rfl rfl (any_of HT_.out (by kernel_rfl)) (fun _ _ _ h => h) (Or.inl ⟨by rfl, ?_⟩) ?_ ?_
                          rotate_left
                          · intro w'
                            go_simp
                            with_reducible rfl
                          rotate_left
                          · simp only [Act.put, List.setIfInBounds_toArray, List.set_cons_zero, List.set_cons_succ, i64_w, i32_w]
                            rfl
                          refine one_ (i := 6) (N := some 101) #[true, true, true, true, true, true, true, false, false, false, false, false] rfl rfl (one_of HT_.out (by kernel_rfl)) (by decide) (fun K hK => ?_)
                          refine goes_ Try.func12 (by kernel_rfl) rfl #[.slice A63 y317.length c63, .slice A64 y321.length c64] (by rfl) rfl rfl (by (try simp only [List.map_toArray, List.map_cons, List.map_nil]); first | done | rfl | (simp only [List.length_drop, List.length_take]; rfl) | ((try rw [KY24.out]); (try rw [KY25.out]); (try rw [KY28.out]); (try rw [KY29.out]); (try rw [KY63.out]); (try rw [KY64.out]); (try rw [KY67.out]); (try rw [KY68.out]); (try rw [KY70.out]); (try rw [KY71.out]); rfl)) ?_
                          with_reducible refine (euclid_Distance.calls kj18 _ _ y317 _ _ y321 t325 t326 _ ?side1 ?side2 ?side3 ?side4 A58.out).mono ?_
                          (case side1 => repeat (first | exact (by repeat (first | (with_reducible exact HR320.out) | (with_reducible refine Kd.C_alloc ?_ _) | (with_reducible refine Kd.C_drewN ?_ _) | (with_reducible refine Kd.C_drew ?_) | exact HR320.out)) | (with_reducible refine Kd.C_alloc ?_ _) | (with_reducible refine Kd.C_drewN ?_ _) | (with_reducible refine Kd.C_drew ?_)))
                          (case side2 => exact HC320.out)
                          (case side3 => repeat (first | exact (by repeat (first | (with_reducible exact HR324.out) | (with_reducible refine Kd.C_alloc ?_ _) | (with_reducible refine Kd.C_drewN ?_ _) | (with_reducible refine Kd.C_drew ?_) | exact HR324.out)) | (with_reducible refine Kd.C_alloc ?_ _) | (with_reducible refine Kd.C_drewN ?_ _) | (with_reducible refine Kd.C_drew ?_)))
                          (case side4 => exact HC324.out)
                          rintro e w' ⟨rfl, ⟨nd, rfl⟩⟩
                          refine ⟨_, rfl, ?_⟩
                          refine hK.out _ _ trivial (fun hHeld => ?_)
                          clear hK K
                          refine norm_ (a' := ?_) ?_ ?_
                          rotate_left
                          · show Act.put _ (some 101) _ = _
                            simp only [Act.put, List.setIfInBounds_toArray, List.set_cons_zero, List.set_cons_succ, i64_w, i32_w]
                            rfl
                          refine pure_ (i := 7) (N := some 94) (v := ?_) (a' := ?_) #[true, true, true, true, true, true, true, true, false, false, false, false] rfl rfl (any_of HT_.out (by kernel_rfl)) (fun _ _ _ h => h) (Or.inl ⟨by rfl, ?_⟩) ?_ ?_
                          rotate_left
                          · intro w'
                            go_simp
                            with_reducible rfl
                          rotate_left
                          · simp only [Act.put, List.setIfInBounds_toArray, List.set_cons_zero, List.set_cons_succ, i64_w, i32_w]
                            rfl
                          refine pure_ (i := 8) (N := some 102) (v := ?_) (a' := ?_) #[true, true, true, true, true, true, true, true, true, false, false, false] rfl rfl (any_of HT_.out (by kernel_rfl)) (fun _ _ _ h => h) (Or.inl ⟨by rfl, ?_⟩) ?_ ?_
                          rotate_left
                          · intro w'
                            go_simp
                            with_reducible rfl
                          rotate_left
                          · simp only [Act.put, List.setIfInBounds_toArray, List.set_cons_zero, List.set_cons_succ, i64_w, i32_w]
                            rfl
                          refine pure_ (i := 9) (N := some 103) (v := ?_) (a' := ?_) #[true, true, true, true, true, true, true, true, true, true, false, false] rfl rfl (any_of HT_.out (by kernel_rfl)) (fun _ _ _ h => h) (Or.inl ⟨by rfl, ?_⟩) ?_ ?_
                          rotate_left
                          · intro w'
                            go_simp
                            with_reducible rfl
                          rotate_left
                          · simp only [Act.put, List.setIfInBounds_toArray, List.set_cons_zero, List.set_cons_succ, i64_w, i32_w]
                            rfl
                          refine pure_ (i := 10) (N := some 17) (v := ?_) (a' := ?_) #[true, true, true, true, true, true, true, true, true, true, true, false] rfl rfl (any_of HT_.out (by kernel_rfl)) (fun _ _ _ h => h) (Or.inl ⟨by rfl, ?_⟩) ?_ ?_
                          rotate_left
                          · intro w'
                            go_simp
                            with_reducible rfl
                          rotate_left
                          · simp only [Act.put, List.setIfInBounds_toArray, List.set_cons_zero, List.set_cons_succ, i64_w, i32_w]
                            rfl
                          refine pure_ (i := 11) (N := some 18) (v := ?_) (a' := ?_) #[true, true, true, true, true, true, true, true, true, true, true, true] rfl rfl (any_of HT_.out (by kernel_rfl)) (fun _ _ _ h => h) (Or.inl ⟨by rfl, ?_⟩) ?_ ?_
                          rotate_left
                          · intro w'
                            go_simp
                            with_reducible rfl
                          rotate_left
                          · simp only [Act.put, List.setIfInBounds_toArray, List.set_cons_zero, List.set_cons_succ, i64_w, i32_w]
                            rfl
                          refine done_ (done_of HT_.out (by kernel_rfl)) ?_
                          try go_wp2_with (first | (go_at_call 15; (with_reducible refine (shapesearchlaw12_awake.calls kj18  t327 _ A61.out).mono ?_); rintro e w65 ⟨rfl, hb⟩; have n0_ := Aside0.mk (Kd.R_below (by (with_reducible repeat (first | apply Kd.R_alloc | apply Kd.R_drewN | apply Kd.R_drew)); exact HO_6.out) hb); have n1_ := Aside0.mk (Kd.R_below (by (with_reducible repeat (first | apply Kd.R_alloc | apply Kd.R_drewN | apply Kd.R_drew)); exact HO_7.out) hb); have n2_ := Aside0.mk (blk_below (g := gb311) (o := .cells #[.int .i64 t308, .int .i64 t309] 37 (0, 0)) (by (with_reducible repeat (first | refine blk_drewN ?_ _ | refine blk_drew ?_ | refine blk_alloc ?_ _)); exact BK311.out) hb); have n3_ := Aside0.mk (blk_below (g := gb315) (o := .cells #[.int .i64 t312, .int .i64 t313] 37 (0, 0)) (by (with_reducible repeat (first | refine blk_drewN ?_ _ | refine blk_drew ?_ | refine blk_alloc ?_ _)); exact BK315.out) hb); have n4_ := Aside0.mk (Kd.C_below (by repeat (first | (with_reducible exact HR320.out) | (with_reducible refine Kd.C_alloc ?_ _) | (with_reducible refine Kd.C_drewN ?_ _) | (with_reducible refine Kd.C_drew ?_) | exact HR320.out)) hb); have n5_ := Aside0.mk (Kd.C_below (by repeat (first | (with_reducible exact HR324.out) | (with_reducible refine Kd.C_alloc ?_ _) | (with_reducible refine Kd.C_drewN ?_ _) | (with_reducible refine Kd.C_drew ?_) | exact HR324.out)) hb); have n6_ := Aside0.mk (below_step (by repeat (first | (with_reducible first | exact HB.out | apply below_alloc | apply pw_below_drewN | apply below_drew1 | refine below_set ?_ GE311.out | refine below_set ?_ GE315.out) | exact HB.out)) hb); clear HO_6; clear HO_7; clear BK311; clear BK315; clear HR320; clear HR324; clear HB; have HO_6 := n0_; have HO_7 := n1_; have BK311 := n2_; have BK315 := n3_; have HR320 := n4_; have HR324 := n5_; have HB := n6_; clear n0_ n1_ n2_ n3_ n4_ n5_ n6_; (try clear hb); (try clear hb2); (try clear hk); (try clear hi)))
                          go_ret
                          exact ⟨by first | rfl | (simp [errW_none, errW_some] <;> rfl) | (simp only [← hji6]; first | rfl | (simp [errW_none, errW_some] <;> rfl)) | (simp [*, errW_none, errW_some] <;> rfl), by repeat (first | (with_reducible first | exact HB.out | apply below_alloc | apply pw_below_drewN | apply below_drew1 | refine below_set ?_ GE311.out | refine below_set ?_ GE315.out) | exact HB.out)⟩
                        · rw [if_neg c60] at H
                          have c60b0 : ((wrap64 (t296 + t325)) == t298) = false := beq_eq_false_iff_ne.mpr c60
                          have c60b1 : ((wrap64 (t296 + t325)) != t298) = true := bne_iff_ne.mpr c60
                          obtain rfl := Option.some.inj H
                          try go_wp2
                          have n0_ := Aside0.mk (Kd.R_drew HO_6.out)
                          have n1_ := Aside0.mk (Kd.R_drew HO_7.out)
                          have n2_ := Aside0.mk (blk_drew BK311.out)
                          have n3_ := Aside0.mk (blk_drew BK315.out)
                          have n4_ := Aside0.mk (below_drew1 HB.out)
                          clear HO_6
                          clear HO_7
                          clear BK311
                          clear BK315
                          clear HB
                          have HO_6 := n0_
                          have HO_7 := n1_
                          have BK311 := n2_
                          have BK315 := n3_
                          have HB := n4_
                          clear n0_ n1_ n2_ n3_ n4_
                          have q67 : (ji6 : Int) ≤ ((t280.length : Int) : Int) := of_decide_eq_true (by first | (with_reducible assumption) | assumption)
                          obtain ⟨i067, hi067, _, hsz67, _⟩ := info_parts info3
                          have hroom67 : t280.length ≤ co22 := (Kd.R_reads' HO_6.out).2.1
                          have hC67 : Kd.C (Kd.int .i64) _ Ao22 t280.length t280 := (Kd.R_reads' HO_6.out).2.2
                          have q067 : (0 : Int) ≤ (ji6 : Int) := of_decide_eq_true (by first | (with_reducible assumption) | assumption)
                          have hcut67 := cut_from (P := Try.prog) 22 3 .i64 Try.underlying22 hi067 1 hsz67 Ao22 t280.length co22 ji6 q067 q67
                          have hr67 := Kd.C_drop (m := (ji6 : Int).toNat) (c := co22) hC67 (by omega) hroom67
                          obtain ⟨A67, hA67⟩ : ∃ A1, A1 = (if co22 = (ji6 : Int).toNat then Ao22 else (Ao22 : Option Addr).map (·.add ((ji6 : Int).toNat * 1))) := ⟨_, rfl⟩
                          obtain ⟨c67, hc67⟩ : ∃ c1, c1 = co22 - (ji6 : Int).toNat := ⟨_, rfl⟩
                          have hy67 : y317.length = t280.length - (ji6 : Int).toNat := (by rw [Ny317.out, List.length_drop] <;> omega)
                          rw [show (t280).drop (ji6 : Int).toNat = y317 from Ny317.out.symm] at hr67
                          replace hr67 : Kd.C (Kd.int .i64) _ A67 y317.length y317 := (by rw [hA67]; exact hr67)
                          rw [← hy67, ← hA67, ← hc67] at hcut67
                          have HR320 := Aside0.mk hr67
                          have HC320 := Aside0.mk (show y317.length ≤ c67 from by rw [hy67, hc67]; exact Nat.sub_le_sub_right hroom67 _)
                          clear hr67 hC67 hroom67 hi067 hsz67 hc67
                          have KY67 := Aside0.mk hy67
                          have KA67 := Aside0.mk hA67
                          clear hy67 hA67
                          have KL67 := Aside0.mk (show (ji6 : Int).toNat ≤ t280.length from by omega)
                          replace q67 := eq_true q67
                          have q68 : (ji6 : Int) ≤ ((t283.length : Int) : Int) := of_decide_eq_true (by first | (with_reducible assumption) | assumption)
                          obtain ⟨i068, hi068, _, hsz68, _⟩ := info_parts info3
                          have hroom68 : t283.length ≤ co26 := (Kd.R_reads' HO_7.out).2.1
                          have hC68 : Kd.C (Kd.int .i64) _ Ao26 t283.length t283 := (Kd.R_reads' HO_7.out).2.2
                          have q068 : (0 : Int) ≤ (ji6 : Int) := of_decide_eq_true (by first | (with_reducible assumption) | assumption)
                          have hcut68 := cut_from (P := Try.prog) 22 3 .i64 Try.underlying22 hi068 1 hsz68 Ao26 t283.length co26 ji6 q068 q68
                          have hr68 := Kd.C_drop (m := (ji6 : Int).toNat) (c := co26) hC68 (by omega) hroom68
                          obtain ⟨A68, hA68⟩ : ∃ A1, A1 = (if co26 = (ji6 : Int).toNat then Ao26 else (Ao26 : Option Addr).map (·.add ((ji6 : Int).toNat * 1))) := ⟨_, rfl⟩
                          obtain ⟨c68, hc68⟩ : ∃ c1, c1 = co26 - (ji6 : Int).toNat := ⟨_, rfl⟩
                          have hy68 : y321.length = t283.length - (ji6 : Int).toNat := (by rw [Ny321.out, List.length_drop] <;> omega)
                          rw [show (t283).drop (ji6 : Int).toNat = y321 from Ny321.out.symm] at hr68
                          replace hr68 : Kd.C (Kd.int .i64) _ A68 y321.length y321 := (by rw [hA68]; exact hr68)
                          rw [← hy68, ← hA68, ← hc68] at hcut68
                          have HR324 := Aside0.mk hr68
                          have HC324 := Aside0.mk (show y321.length ≤ c68 from by rw [hy68, hc68]; exact Nat.sub_le_sub_right hroom68 _)
                          clear hr68 hC68 hroom68 hi068 hsz68 hc68
                          have KY68 := Aside0.mk hy68
                          have KA68 := Aside0.mk hA68
                          clear hy68 hA68
                          have KL68 := Aside0.mk (show (ji6 : Int).toNat ≤ t283.length from by omega)
                          replace q68 := eq_true q68
                          refine start_ (n := 12) (S := fun w' => True) (ds := []) #[false, false, false, false, false, false, false, false, false, false, false, false] (by kernel_rfl) rfl rfl trivial (fun hHeld => ?_); refine with_tabW shapesearchlaw12_EuclidBeginnings.tab11 shapesearchlaw12_EuclidBeginnings.bits11 (fun HT_ HW_ => ?_)
                          generalize wc.drew = w66 at HO_6 HO_7 BK311 BK315 HB HR320 HR324 hHeld ⊢
                          refine pure_ (i := 0) (N := some 95) (v := ?_) (a' := ?_) #[true, false, false, false, false, false, false, false, false, false, false, false] rfl rfl (any_of HT_.out (by kernel_rfl)) (fun _ _ _ h => h) (Or.inl ⟨by rfl, ?_⟩) ?_ ?_
                          rotate_left
                          · intro w'
                            go_simp
                            with_reducible rfl
                          rotate_left
                          · simp only [Act.put, List.setIfInBounds_toArray, List.set_cons_zero, List.set_cons_succ, i64_w, i32_w]
                            rfl
                          refine pure_ (i := 1) (N := some 96) (v := ?_) (a' := ?_) #[true, true, false, false, false, false, false, false, false, false, false, false] rfl rfl (any_of HT_.out (by kernel_rfl)) (fun _ _ _ h => h) (Or.inl ⟨by rfl, ?_⟩) ?_ ?_
                          rotate_left
                          · intro w'
                            go_simp
                            with_reducible rfl
                          rotate_left
                          · simp only [Act.put, List.setIfInBounds_toArray, List.set_cons_zero, List.set_cons_succ, i64_w, i32_w]
                            rfl
                          refine pure_ (i := 2) (N := some 97) (v := ?_) (a' := ?_) #[true, true, true, false, false, false, false, false, false, false, false, false] rfl rfl (any_of HT_.out (by kernel_rfl)) (fun _ _ _ h => h) (Or.inl ⟨by rfl, ?_⟩) ?_ ?_
                          rotate_left
                          · intro w'
                            go_simp
                            with_reducible rfl
                          rotate_left
                          · simp only [Act.put, List.setIfInBounds_toArray, List.set_cons_zero, List.set_cons_succ, i64_w, i32_w]
                            rfl
                          refine pure_ (i := 3) (N := some 98) (v := ?_) (a' := ?_) #[true, true, true, true, false, false, false, false, false, false, false, false] rfl rfl (any_of HT_.out (by kernel_rfl)) (fun _ _ _ h => h) (Or.inl ⟨by rfl, ?_⟩) ?_ ?_
                          rotate_left
                          · intro w'
                            go_simp
                            with_reducible rfl
                          rotate_left
                          · simp only [Act.put, List.setIfInBounds_toArray, List.set_cons_zero, List.set_cons_succ, i64_w, i32_w]
                            rfl
                          refine pure_ (i := 4) (N := some 99) (v := ?_) (a' := ?_) #[true, true, true, true, true, false, false, false, false, false, false, false] rfl rfl (any_of HT_.out (by kernel_rfl)) (fun _ _ _ h => h) (Or.inl ⟨by rfl, ?_⟩) ?_ ?_
                          rotate_left
                          · intro w'
                            go_simp
                            with_reducible rfl
                          rotate_left
                          · simp only [Act.put, List.setIfInBounds_toArray, List.set_cons_zero, List.set_cons_succ, i64_w, i32_w]
                            rfl
                          refine pure_ (i := 5) (N := some 100) (v := ?_) (a' := ?_) #[true, true, true, true, true, true, false, false, false, false, false, false] rfl rfl (any_of HT_.out (by kernel_rfl)) (fun _ _ _ h => h) (Or.inl ⟨by rfl, ?_⟩) ?_ ?_
                          rotate_left
                          · intro w'
                            go_simp
                            with_reducible rfl
                          rotate_left
                          · simp only [Act.put, List.setIfInBounds_toArray, List.set_cons_zero, List.set_cons_succ, i64_w, i32_w]
                            rfl
                          refine one_ (i := 6) (N := some 101) #[true, true, true, true, true, true, true, false, false, false, false, false] rfl rfl (one_of HT_.out (by kernel_rfl)) (by decide) (fun K hK => ?_)
                          refine goes_ Try.func12 (by kernel_rfl) rfl #[.slice A67 y317.length c67, .slice A68 y321.length c68] (by rfl) rfl rfl (by (try simp only [List.map_toArray, List.map_cons, List.map_nil]); first | done | rfl | (simp only [List.length_drop, List.length_take]; rfl) | ((try rw [KY24.out]); (try rw [KY25.out]); (try rw [KY28.out]); (try rw [KY29.out]); (try rw [KY63.out]); (try rw [KY64.out]); (try rw [KY67.out]); (try rw [KY68.out]); (try rw [KY70.out]); (try rw [KY71.out]); rfl)) ?_
                          with_reducible refine (euclid_Distance.calls kj18 _ _ y317 _ _ y321 t325 t326 _ ?side1 ?side2 ?side3 ?side4 A58.out).mono ?_
                          (case side1 => repeat (first | exact (by repeat (first | (with_reducible exact HR320.out) | (with_reducible refine Kd.C_alloc ?_ _) | (with_reducible refine Kd.C_drewN ?_ _) | (with_reducible refine Kd.C_drew ?_) | exact HR320.out)) | (with_reducible refine Kd.C_alloc ?_ _) | (with_reducible refine Kd.C_drewN ?_ _) | (with_reducible refine Kd.C_drew ?_)))
                          (case side2 => exact HC320.out)
                          (case side3 => repeat (first | exact (by repeat (first | (with_reducible exact HR324.out) | (with_reducible refine Kd.C_alloc ?_ _) | (with_reducible refine Kd.C_drewN ?_ _) | (with_reducible refine Kd.C_drew ?_) | exact HR324.out)) | (with_reducible refine Kd.C_alloc ?_ _) | (with_reducible refine Kd.C_drewN ?_ _) | (with_reducible refine Kd.C_drew ?_)))
                          (case side4 => exact HC324.out)
                          rintro e w' ⟨rfl, ⟨nd, rfl⟩⟩
                          refine ⟨_, rfl, ?_⟩
                          refine hK.out _ _ trivial (fun hHeld => ?_)
                          clear hK K
                          refine norm_ (a' := ?_) ?_ ?_
                          rotate_left
                          · show Act.put _ (some 101) _ = _
                            simp only [Act.put, List.setIfInBounds_toArray, List.set_cons_zero, List.set_cons_succ, i64_w, i32_w]
                            rfl
                          refine pure_ (i := 7) (N := some 94) (v := ?_) (a' := ?_) #[true, true, true, true, true, true, true, true, false, false, false, false] rfl rfl (any_of HT_.out (by kernel_rfl)) (fun _ _ _ h => h) (Or.inl ⟨by rfl, ?_⟩) ?_ ?_
                          rotate_left
                          · intro w'
                            go_simp
                            with_reducible rfl
                          rotate_left
                          · simp only [Act.put, List.setIfInBounds_toArray, List.set_cons_zero, List.set_cons_succ, i64_w, i32_w]
                            rfl
                          refine pure_ (i := 8) (N := some 102) (v := ?_) (a' := ?_) #[true, true, true, true, true, true, true, true, true, false, false, false] rfl rfl (any_of HT_.out (by kernel_rfl)) (fun _ _ _ h => h) (Or.inl ⟨by rfl, ?_⟩) ?_ ?_
                          rotate_left
                          · intro w'
                            go_simp
                            with_reducible rfl
                          rotate_left
                          · simp only [Act.put, List.setIfInBounds_toArray, List.set_cons_zero, List.set_cons_succ, i64_w, i32_w]
                            rfl
                          refine pure_ (i := 9) (N := some 103) (v := ?_) (a' := ?_) #[true, true, true, true, true, true, true, true, true, true, false, false] rfl rfl (any_of HT_.out (by kernel_rfl)) (fun _ _ _ h => h) (Or.inl ⟨by rfl, ?_⟩) ?_ ?_
                          rotate_left
                          · intro w'
                            go_simp
                            with_reducible rfl
                          rotate_left
                          · simp only [Act.put, List.setIfInBounds_toArray, List.set_cons_zero, List.set_cons_succ, i64_w, i32_w]
                            rfl
                          refine pure_ (i := 10) (N := some 17) (v := ?_) (a' := ?_) #[true, true, true, true, true, true, true, true, true, true, true, false] rfl rfl (any_of HT_.out (by kernel_rfl)) (fun _ _ _ h => h) (Or.inl ⟨by rfl, ?_⟩) ?_ ?_
                          rotate_left
                          · intro w'
                            go_simp
                            with_reducible rfl
                          rotate_left
                          · simp only [Act.put, List.setIfInBounds_toArray, List.set_cons_zero, List.set_cons_succ, i64_w, i32_w]
                            rfl
                          refine pure_ (i := 11) (N := some 18) (v := ?_) (a' := ?_) #[true, true, true, true, true, true, true, true, true, true, true, true] rfl rfl (any_of HT_.out (by kernel_rfl)) (fun _ _ _ h => h) (Or.inl ⟨by rfl, ?_⟩) ?_ ?_
                          rotate_left
                          · intro w'
                            go_simp
                            with_reducible rfl
                          rotate_left
                          · simp only [Act.put, List.setIfInBounds_toArray, List.set_cons_zero, List.set_cons_succ, i64_w, i32_w]
                            rfl
                          refine done_ (done_of HT_.out (by kernel_rfl)) ?_
                          try go_wp2
                          go_ret
                          exact ⟨by first | rfl | (simp [errW_none, errW_some] <;> rfl) | (simp only [← hji6]; first | rfl | (simp [errW_none, errW_some] <;> rfl)) | (simp [*, errW_none, errW_some] <;> rfl), by repeat (first | (with_reducible first | exact HB.out | apply below_alloc | apply pw_below_drewN | apply below_drew1 | refine below_set ?_ GE311.out | refine below_set ?_ GE315.out) | exact HB.out)⟩
                      · rw [if_neg c59] at H
                        have c59b0 : (t326 == 0) = false := beq_eq_false_iff_ne.mpr c59
                        have c59b1 : (t326 != 0) = true := bne_iff_ne.mpr c59
                        obtain rfl := Option.some.inj H
                        try go_wp2
                        have n0_ := Aside0.mk (Kd.R_drew HO_6.out)
                        have n1_ := Aside0.mk (Kd.R_drew HO_7.out)
                        have n2_ := Aside0.mk (blk_drew BK311.out)
                        have n3_ := Aside0.mk (blk_drew BK315.out)
                        have n4_ := Aside0.mk (below_drew1 HB.out)
                        clear HO_6
                        clear HO_7
                        clear BK311
                        clear BK315
                        clear HB
                        have HO_6 := n0_
                        have HO_7 := n1_
                        have BK311 := n2_
                        have BK315 := n3_
                        have HB := n4_
                        clear n0_ n1_ n2_ n3_ n4_
                        have q70 : (ji6 : Int) ≤ ((t280.length : Int) : Int) := of_decide_eq_true (by first | (with_reducible assumption) | assumption)
                        obtain ⟨i070, hi070, _, hsz70, _⟩ := info_parts info3
                        have hroom70 : t280.length ≤ co22 := (Kd.R_reads' HO_6.out).2.1
                        have hC70 : Kd.C (Kd.int .i64) _ Ao22 t280.length t280 := (Kd.R_reads' HO_6.out).2.2
                        have q070 : (0 : Int) ≤ (ji6 : Int) := of_decide_eq_true (by first | (with_reducible assumption) | assumption)
                        have hcut70 := cut_from (P := Try.prog) 22 3 .i64 Try.underlying22 hi070 1 hsz70 Ao22 t280.length co22 ji6 q070 q70
                        have hr70 := Kd.C_drop (m := (ji6 : Int).toNat) (c := co22) hC70 (by omega) hroom70
                        obtain ⟨A70, hA70⟩ : ∃ A1, A1 = (if co22 = (ji6 : Int).toNat then Ao22 else (Ao22 : Option Addr).map (·.add ((ji6 : Int).toNat * 1))) := ⟨_, rfl⟩
                        obtain ⟨c70, hc70⟩ : ∃ c1, c1 = co22 - (ji6 : Int).toNat := ⟨_, rfl⟩
                        have hy70 : y317.length = t280.length - (ji6 : Int).toNat := (by rw [Ny317.out, List.length_drop] <;> omega)
                        rw [show (t280).drop (ji6 : Int).toNat = y317 from Ny317.out.symm] at hr70
                        replace hr70 : Kd.C (Kd.int .i64) _ A70 y317.length y317 := (by rw [hA70]; exact hr70)
                        rw [← hy70, ← hA70, ← hc70] at hcut70
                        have HR320 := Aside0.mk hr70
                        have HC320 := Aside0.mk (show y317.length ≤ c70 from by rw [hy70, hc70]; exact Nat.sub_le_sub_right hroom70 _)
                        clear hr70 hC70 hroom70 hi070 hsz70 hc70
                        have KY70 := Aside0.mk hy70
                        have KA70 := Aside0.mk hA70
                        clear hy70 hA70
                        have KL70 := Aside0.mk (show (ji6 : Int).toNat ≤ t280.length from by omega)
                        replace q70 := eq_true q70
                        have q71 : (ji6 : Int) ≤ ((t283.length : Int) : Int) := of_decide_eq_true (by first | (with_reducible assumption) | assumption)
                        obtain ⟨i071, hi071, _, hsz71, _⟩ := info_parts info3
                        have hroom71 : t283.length ≤ co26 := (Kd.R_reads' HO_7.out).2.1
                        have hC71 : Kd.C (Kd.int .i64) _ Ao26 t283.length t283 := (Kd.R_reads' HO_7.out).2.2
                        have q071 : (0 : Int) ≤ (ji6 : Int) := of_decide_eq_true (by first | (with_reducible assumption) | assumption)
                        have hcut71 := cut_from (P := Try.prog) 22 3 .i64 Try.underlying22 hi071 1 hsz71 Ao26 t283.length co26 ji6 q071 q71
                        have hr71 := Kd.C_drop (m := (ji6 : Int).toNat) (c := co26) hC71 (by omega) hroom71
                        obtain ⟨A71, hA71⟩ : ∃ A1, A1 = (if co26 = (ji6 : Int).toNat then Ao26 else (Ao26 : Option Addr).map (·.add ((ji6 : Int).toNat * 1))) := ⟨_, rfl⟩
                        obtain ⟨c71, hc71⟩ : ∃ c1, c1 = co26 - (ji6 : Int).toNat := ⟨_, rfl⟩
                        have hy71 : y321.length = t283.length - (ji6 : Int).toNat := (by rw [Ny321.out, List.length_drop] <;> omega)
                        rw [show (t283).drop (ji6 : Int).toNat = y321 from Ny321.out.symm] at hr71
                        replace hr71 : Kd.C (Kd.int .i64) _ A71 y321.length y321 := (by rw [hA71]; exact hr71)
                        rw [← hy71, ← hA71, ← hc71] at hcut71
                        have HR324 := Aside0.mk hr71
                        have HC324 := Aside0.mk (show y321.length ≤ c71 from by rw [hy71, hc71]; exact Nat.sub_le_sub_right hroom71 _)
                        clear hr71 hC71 hroom71 hi071 hsz71 hc71
                        have KY71 := Aside0.mk hy71
                        have KA71 := Aside0.mk hA71
                        clear hy71 hA71
                        have KL71 := Aside0.mk (show (ji6 : Int).toNat ≤ t283.length from by omega)
                        replace q71 := eq_true q71
                        refine start_ (n := 12) (S := fun w' => True) (ds := []) #[false, false, false, false, false, false, false, false, false, false, false, false] (by kernel_rfl) rfl rfl trivial (fun hHeld => ?_); refine with_tabW shapesearchlaw12_EuclidBeginnings.tab11 shapesearchlaw12_EuclidBeginnings.bits11 (fun HT_ HW_ => ?_)
                        generalize wc.drew = w69 at HO_6 HO_7 BK311 BK315 HB HR320 HR324 hHeld ⊢
                        refine pure_ (i := 0) (N := some 95) (v := ?_) (a' := ?_) #[true, false, false, false, false, false, false, false, false, false, false, false] rfl rfl (any_of HT_.out (by kernel_rfl)) (fun _ _ _ h => h) (Or.inl ⟨by rfl, ?_⟩) ?_ ?_
                        rotate_left
                        · intro w'
                          go_simp
                          with_reducible rfl
                        rotate_left
                        · simp only [Act.put, List.setIfInBounds_toArray, List.set_cons_zero, List.set_cons_succ, i64_w, i32_w]
                          rfl
                        refine pure_ (i := 1) (N := some 96) (v := ?_) (a' := ?_) #[true, true, false, false, false, false, false, false, false, false, false, false] rfl rfl (any_of HT_.out (by kernel_rfl)) (fun _ _ _ h => h) (Or.inl ⟨by rfl, ?_⟩) ?_ ?_
                        rotate_left
                        · intro w'
                          go_simp
                          with_reducible rfl
                        rotate_left
                        · simp only [Act.put, List.setIfInBounds_toArray, List.set_cons_zero, List.set_cons_succ, i64_w, i32_w]
                          rfl
                        refine pure_ (i := 2) (N := some 97) (v := ?_) (a' := ?_) #[true, true, true, false, false, false, false, false, false, false, false, false] rfl rfl (any_of HT_.out (by kernel_rfl)) (fun _ _ _ h => h) (Or.inl ⟨by rfl, ?_⟩) ?_ ?_
                        rotate_left
                        · intro w'
                          go_simp
                          with_reducible rfl
                        rotate_left
                        · simp only [Act.put, List.setIfInBounds_toArray, List.set_cons_zero, List.set_cons_succ, i64_w, i32_w]
                          rfl
                        refine pure_ (i := 3) (N := some 98) (v := ?_) (a' := ?_) #[true, true, true, true, false, false, false, false, false, false, false, false] rfl rfl (any_of HT_.out (by kernel_rfl)) (fun _ _ _ h => h) (Or.inl ⟨by rfl, ?_⟩) ?_ ?_
                        rotate_left
                        · intro w'
                          go_simp
                          with_reducible rfl
                        rotate_left
                        · simp only [Act.put, List.setIfInBounds_toArray, List.set_cons_zero, List.set_cons_succ, i64_w, i32_w]
                          rfl
                        refine pure_ (i := 4) (N := some 99) (v := ?_) (a' := ?_) #[true, true, true, true, true, false, false, false, false, false, false, false] rfl rfl (any_of HT_.out (by kernel_rfl)) (fun _ _ _ h => h) (Or.inl ⟨by rfl, ?_⟩) ?_ ?_
                        rotate_left
                        · intro w'
                          go_simp
                          with_reducible rfl
                        rotate_left
                        · simp only [Act.put, List.setIfInBounds_toArray, List.set_cons_zero, List.set_cons_succ, i64_w, i32_w]
                          rfl
                        refine pure_ (i := 5) (N := some 100) (v := ?_) (a' := ?_) #[true, true, true, true, true, true, false, false, false, false, false, false] rfl rfl (any_of HT_.out (by kernel_rfl)) (fun _ _ _ h => h) (Or.inl ⟨by rfl, ?_⟩) ?_ ?_
                        rotate_left
                        · intro w'
                          go_simp
                          with_reducible rfl
                        rotate_left
                        · simp only [Act.put, List.setIfInBounds_toArray, List.set_cons_zero, List.set_cons_succ, i64_w, i32_w]
                          rfl
                        refine one_ (i := 6) (N := some 101) #[true, true, true, true, true, true, true, false, false, false, false, false] rfl rfl (one_of HT_.out (by kernel_rfl)) (by decide) (fun K hK => ?_)
                        refine goes_ Try.func12 (by kernel_rfl) rfl #[.slice A70 y317.length c70, .slice A71 y321.length c71] (by rfl) rfl rfl (by (try simp only [List.map_toArray, List.map_cons, List.map_nil]); first | done | rfl | (simp only [List.length_drop, List.length_take]; rfl) | ((try rw [KY24.out]); (try rw [KY25.out]); (try rw [KY28.out]); (try rw [KY29.out]); (try rw [KY63.out]); (try rw [KY64.out]); (try rw [KY67.out]); (try rw [KY68.out]); (try rw [KY70.out]); (try rw [KY71.out]); rfl)) ?_
                        with_reducible refine (euclid_Distance.calls kj18 _ _ y317 _ _ y321 t325 t326 _ ?side1 ?side2 ?side3 ?side4 A58.out).mono ?_
                        (case side1 => repeat (first | exact (by repeat (first | (with_reducible exact HR320.out) | (with_reducible refine Kd.C_alloc ?_ _) | (with_reducible refine Kd.C_drewN ?_ _) | (with_reducible refine Kd.C_drew ?_) | exact HR320.out)) | (with_reducible refine Kd.C_alloc ?_ _) | (with_reducible refine Kd.C_drewN ?_ _) | (with_reducible refine Kd.C_drew ?_)))
                        (case side2 => exact HC320.out)
                        (case side3 => repeat (first | exact (by repeat (first | (with_reducible exact HR324.out) | (with_reducible refine Kd.C_alloc ?_ _) | (with_reducible refine Kd.C_drewN ?_ _) | (with_reducible refine Kd.C_drew ?_) | exact HR324.out)) | (with_reducible refine Kd.C_alloc ?_ _) | (with_reducible refine Kd.C_drewN ?_ _) | (with_reducible refine Kd.C_drew ?_)))
                        (case side4 => exact HC324.out)
                        rintro e w' ⟨rfl, ⟨nd, rfl⟩⟩
                        refine ⟨_, rfl, ?_⟩
                        refine hK.out _ _ trivial (fun hHeld => ?_)
                        clear hK K
                        refine norm_ (a' := ?_) ?_ ?_
                        rotate_left
                        · show Act.put _ (some 101) _ = _
                          simp only [Act.put, List.setIfInBounds_toArray, List.set_cons_zero, List.set_cons_succ, i64_w, i32_w]
                          rfl
                        refine pure_ (i := 7) (N := some 94) (v := ?_) (a' := ?_) #[true, true, true, true, true, true, true, true, false, false, false, false] rfl rfl (any_of HT_.out (by kernel_rfl)) (fun _ _ _ h => h) (Or.inl ⟨by rfl, ?_⟩) ?_ ?_
                        rotate_left
                        · intro w'
                          go_simp
                          with_reducible rfl
                        rotate_left
                        · simp only [Act.put, List.setIfInBounds_toArray, List.set_cons_zero, List.set_cons_succ, i64_w, i32_w]
                          rfl
                        refine pure_ (i := 8) (N := some 102) (v := ?_) (a' := ?_) #[true, true, true, true, true, true, true, true, true, false, false, false] rfl rfl (any_of HT_.out (by kernel_rfl)) (fun _ _ _ h => h) (Or.inl ⟨by rfl, ?_⟩) ?_ ?_
                        rotate_left
                        · intro w'
                          go_simp
                          with_reducible rfl
                        rotate_left
                        · simp only [Act.put, List.setIfInBounds_toArray, List.set_cons_zero, List.set_cons_succ, i64_w, i32_w]
                          rfl
                        refine pure_ (i := 9) (N := some 103) (v := ?_) (a' := ?_) #[true, true, true, true, true, true, true, true, true, true, false, false] rfl rfl (any_of HT_.out (by kernel_rfl)) (fun _ _ _ h => h) (Or.inl ⟨by rfl, ?_⟩) ?_ ?_
                        rotate_left
                        · intro w'
                          go_simp
                          with_reducible rfl
                        rotate_left
                        · simp only [Act.put, List.setIfInBounds_toArray, List.set_cons_zero, List.set_cons_succ, i64_w, i32_w]
                          rfl
                        refine pure_ (i := 10) (N := some 17) (v := ?_) (a' := ?_) #[true, true, true, true, true, true, true, true, true, true, true, false] rfl rfl (any_of HT_.out (by kernel_rfl)) (fun _ _ _ h => h) (Or.inl ⟨by rfl, ?_⟩) ?_ ?_
                        rotate_left
                        · intro w'
                          go_simp
                          with_reducible rfl
                        rotate_left
                        · simp only [Act.put, List.setIfInBounds_toArray, List.set_cons_zero, List.set_cons_succ, i64_w, i32_w]
                          rfl
                        refine pure_ (i := 11) (N := some 18) (v := ?_) (a' := ?_) #[true, true, true, true, true, true, true, true, true, true, true, true] rfl rfl (any_of HT_.out (by kernel_rfl)) (fun _ _ _ h => h) (Or.inl ⟨by rfl, ?_⟩) ?_ ?_
                        rotate_left
                        · intro w'
                          go_simp
                          with_reducible rfl
                        rotate_left
                        · simp only [Act.put, List.setIfInBounds_toArray, List.set_cons_zero, List.set_cons_succ, i64_w, i32_w]
                          rfl
                        refine done_ (done_of HT_.out (by kernel_rfl)) ?_
                        try go_wp2
                        go_ret
                        exact ⟨by first | rfl | (simp [errW_none, errW_some] <;> rfl) | (simp only [← hji6]; first | rfl | (simp [errW_none, errW_some] <;> rfl)) | (simp [*, errW_none, errW_some] <;> rfl), by repeat (first | (with_reducible first | exact HB.out | apply below_alloc | apply pw_below_drewN | apply below_drew1 | refine below_set ?_ GE311.out | refine below_set ?_ GE315.out) | exact HB.out)⟩
                    · rw [if_neg c57] at H
                      exact absurd H (by simp)
                  · rw [if_neg c55] at H
                    exact absurd H (by simp)
                · rw [if_neg c54] at H
                  exact absurd H (by simp)
              · rw [if_neg c53] at H
                have c53b0 : decide (2 ≤ (wrap64 ((t280.length : Int) - ji6))) = false := decide_eq_false c53
                clear c53
                replace H := Option.bind_eq_some_iff.mp H
                obtain ⟨t328, A720, H⟩ := H
                replace H : (some t328) = some r := H
                have A72 := Aside0.mk A720
                clear A720
                obtain rfl := Option.some.inj H
                go_wp2_with (first | ((with_reducible refine gate_callee (f := 15) rfl ?_); refine goesL_ (some 116) rfl rfl Try.func15 (by kernel_rfl) rfl #[] rfl (by (try simp only [List.map_toArray, List.map_cons, List.map_nil]); first | done | rfl | (simp only [List.length_drop, List.length_take]; rfl) | ((try rw [KY24.out]); (try rw [KY25.out]); (try rw [KY28.out]); (try rw [KY29.out]); (try rw [KY63.out]); (try rw [KY64.out]); (try rw [KY67.out]); (try rw [KY68.out]); (try rw [KY70.out]); (try rw [KY71.out]); rfl)) ?_; (with_reducible refine (shapesearchlaw12_awake.calls kj18  t328 _ A72.out).mono ?_); rintro e w73 ⟨rfl, hb⟩; refine ⟨_, rfl, ?_⟩; have n0_ := Aside0.mk (Kd.R_below (by (with_reducible repeat (first | apply Kd.R_alloc | apply Kd.R_drewN | apply Kd.R_drew)); exact HO_6.out) hb); have n1_ := Aside0.mk (Kd.R_below (by (with_reducible repeat (first | apply Kd.R_alloc | apply Kd.R_drewN | apply Kd.R_drew)); exact HO_7.out) hb); have n2_ := Aside0.mk (blk_below (g := gb311) (o := .cells #[.int .i64 t308, .int .i64 t309] 37 (0, 0)) (by (with_reducible repeat (first | refine blk_drewN ?_ _ | refine blk_drew ?_ | refine blk_alloc ?_ _)); exact BK311.out) hb); have n3_ := Aside0.mk (blk_below (g := gb315) (o := .cells #[.int .i64 t312, .int .i64 t313] 37 (0, 0)) (by (with_reducible repeat (first | refine blk_drewN ?_ _ | refine blk_drew ?_ | refine blk_alloc ?_ _)); exact BK315.out) hb); have n4_ := Aside0.mk (below_step (by repeat (first | (with_reducible first | exact HB.out | apply below_alloc | apply pw_below_drewN | apply below_drew1 | refine below_set ?_ GE311.out | refine below_set ?_ GE315.out) | exact HB.out)) hb); clear HO_6; clear HO_7; clear BK311; clear BK315; clear HB; have HO_6 := n0_; have HO_7 := n1_; have BK311 := n2_; have BK315 := n3_; have HB := n4_; clear n0_ n1_ n2_ n3_ n4_; (try clear hb); (try clear hb2); (try clear hk); (try clear hi)))
                go_ret
                exact ⟨by first | rfl | (simp [errW_none, errW_some] <;> rfl) | (simp only [← hji6]; first | rfl | (simp [errW_none, errW_some] <;> rfl)) | (simp [*, errW_none, errW_some] <;> rfl), by repeat (first | (with_reducible first | exact HB.out | apply below_alloc | apply pw_below_drewN | apply below_drew1 | refine below_set ?_ GE311.out | refine below_set ?_ GE315.out) | exact HB.out)⟩
      · rw [if_neg c10] at H
        exact absurd H (by simp)
    · rw [if_neg c8] at H
      exact absurd H (by simp)
  · rw [if_neg c7] at H
    exact absurd H (by simp)

/-- THE ONE PURE STATEMENT of shapesearchlaw12_EuclidBeginnings: yours. -/
def shapesearchlaw12_EuclidBeginnings.Pure : Prop := ∀ (l0 : List Int) (a1 : Int), l0.length ≤ maxLen → l0.length * 8 ≤ 140737488351232 → (∀ x ∈ l0, (Lit.int .i64 x).wf = true) → (Lit.int .u8 a1).wf = true → ∃ k, shapesearchlaw12_EuclidBeginnings.f k l0 a1 = some true
theorem shapesearchlaw12_EuclidBeginnings.walk (P : shapesearchlaw12_EuclidBeginnings.Pure) (a0 : Option Addr) (len0 cap0 : Nat) (z0 : List Int) (a1 : Int) (w : World) (w0 : (a0 = none ∧ len0 = 0 ∧ cap0 = 0 ∧ z0 = []) ∨ ∃ x, a0 = some x ∧ len0 ≤ cap0 ∧ cap0 ≤ maxLen ∧ z0.length = cap0 ∧ (∀ i, i < z0.length → w.cell? (x.add i) = some (.int .i64 (z0.getD i 0))) ∧ ∀ n ∈ z0, (Lit.int .i64 n).wf = true) (y0 : len0 * 8 ≤ 140737488351232) (w1 : (Lit.int .u8 a1).wf = true) :
    Calls Try.prog 6 #[.slice a0 len0 cap0, .int .u8 a1] w fun e w' => e = .returned (.bool true) ∧ Below w.heap.size w w' := by
  obtain ⟨l0, rfl, hr0, hm0, hw0, hc0⟩ := ReadsInt.ofRowC w0
  obtain ⟨k, h⟩ := P l0 a1 hm0 y0 hw0 w1
  refine (shapesearchlaw12_EuclidBeginnings.calls k _ _ l0 a1 true w (Kd.C_of_reads (d := (0 : Int)) (h1 := fun _ => rfl) hr0) hc0 h).mono ?_
  rintro e w' ⟨rfl, hd⟩
  exact ⟨rfl, hd⟩

end Go.Proofs.Ytmkjmplkokfoiaa.PEuclidBeginnings
