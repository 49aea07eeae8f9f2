/- This file proves, function by function, what the Go functions that one law uses compute; most of it was printed by a program (wip/tools of this session, over the kit's print). -/
import Derived.Test.YtmckmjpfcgmalaaPNormalOrdersx0
import Derived.Test.YtmckmjpfcgmalaaPNormalOrdersx1
import Derived.Test.YtmckmjpfcgmalaaPNormalOrdersx2
import Derived.Test.YtmckmjpfcgmalaaPNormalOrdersx3
import Derived.Test.YtmckmjpfcgmalaaPNormalOrdersx5
import Derived.Test.YtmckmjpfcgmalaaPNormalOrdersx6
import Derived.Test.YtmckmjpfcgmalaaPNormalOrdersx7
namespace Go.Proofs.Ytmckmjpfcgmalaa.PNormalOrders
open Go.RowKit Go.Proofs.YtmckmjpfcgmalaaW.PrintWords Go.Proofs.YtmckmjpfcgmalaaW.PrintLast Go.Proofs.YtmckmjpfcgmalaaW.PrintMore
attribute [local go_sem] max2_int min2_int max_two min_two max_three min_three max_four min_four   -- for this text's walks alone
set_option linter.unusedVariables false
set_option linter.unusedSimpArgs false

attribute [local go_sem high] eqA29
/-! ### shapesearchlaw13_NormalOrders: function 6 -/
def shapesearchlaw13_NormalOrders.j0 : Nat → Int → Int → Int → Int → Int → Int → Bool → Int → Int → Int → Int → Option (Bool)
  | 0, _, _, _, _, _, _, _, _, _, _, _ => none
  | k + 1, x11, x13, x14, x15, x16, x17, x86, x342000, x342001, x346000, x346001 => if x86 = true then (if x11 = 0 then (if x13 = 0 then (if x15 = 0 then (if x17 = 0 then ((shapesearchlaw13_awake.f k).bind fun t352 => (some t352)) else (some false)) else (some false)) else (some false)) else (some false)) else ((shapesearchref01_Less.f k x342000 x342001 x346000 x346001).bind fun t353 => (if ((decide (x14 > x16)) == t353) = true then (if ((x14 == x16) == (x342000 == x346000 && (x342001 == x346001))) = true then ((shapesearchlaw13_awake.f k).bind fun t354 => (some t354)) else (some false)) else (some false)))
def shapesearchlaw13_NormalOrders.f (k : Nat) (l0 : List Int) (a1 : Int) : Option (Bool) := (shapesearchkeep_New.f l0).bind fun bt311 => ((shapesearchkeep_Src_Pair.f k bt311.1 bt311.2).bind fun bt314 => (if (bt314.2.1.length : Int) = 0 then (none) else ((some (([] : List Int) : List Int)).bind fun y321 => (if 0 ≤ (Int.tmod (wrap64 (a1)) (bt314.2.1.length : Int)) then (if (Int.tmod (wrap64 (a1)) (bt314.2.1.length : Int)) ≤ (bt314.2.1.length : Int) then ((some (bt314.2.1.drop ((Int.tmod (wrap64 (a1)) (bt314.2.1.length : Int)) : Int).toNat : List Int)).bind fun y324 => (if y321.length + y324.length < 17592186044416 then ((some (y321 ++ y324 : List Int)).bind fun y328 => ((some (bt314.2.1.take ((Int.tmod (wrap64 (a1)) (bt314.2.1.length : Int)) : Int).toNat : List Int)).bind fun y331 => (if y328.length + y331.length < 17592186044416 then ((some (y328 ++ y331 : List Int)).bind fun y335 => ((normal_Gap.f k bt314.1 bt314.2.1).bind fun bt338 => ((normal_Gap.f k bt314.1 y335).bind fun bt342 => ((normal_Product.f k bt314.1 bt314.2.1).bind fun bt346 => ((normal_Product.f k bt314.1 y335).bind fun bt348 => (if bt338.2.2 = 0 then (if bt342.2.2 = 0 then (if bt346.2 = 0 then (if bt348.2 = 0 then ((shapesearchlaw13_spread.f k bt314.1).bind fun t350 => (if t350 = true then ((shapesearchlaw13_spread.f k bt314.2.1).bind fun t351 => (shapesearchlaw13_NormalOrders.j0 k bt338.2.2 bt342.2.2 bt346.1 bt346.2 bt348.1 bt348.2 (!t351) bt338.1 bt338.2.1 bt342.1 bt342.2.1)) else (shapesearchlaw13_NormalOrders.j0 k bt338.2.2 bt342.2.2 bt346.1 bt346.2 bt348.1 bt348.2 true bt338.1 bt338.2.1 bt342.1 bt342.2.1))) else (shapesearchlaw13_NormalOrders.j0 k bt338.2.2 bt342.2.2 bt346.1 bt346.2 bt348.1 bt348.2 true bt338.1 bt338.2.1 bt342.1 bt342.2.1)) else (shapesearchlaw13_NormalOrders.j0 k bt338.2.2 bt342.2.2 bt346.1 bt346.2 bt348.1 bt348.2 true bt338.1 bt338.2.1 bt342.1 bt342.2.1)) else (shapesearchlaw13_NormalOrders.j0 k bt338.2.2 bt342.2.2 bt346.1 bt346.2 bt348.1 bt348.2 true bt338.1 bt338.2.1 bt342.1 bt342.2.1)) else (shapesearchlaw13_NormalOrders.j0 k bt338.2.2 bt342.2.2 bt346.1 bt346.2 bt348.1 bt348.2 true bt338.1 bt338.2.1 bt342.1 bt342.2.1))))))) else (none)))) else (none))) else (none)) else (none)))))
theorem shapesearchlaw13_NormalOrders.mono_l : ∀ k, (∀ y0 y1 y2 y3 y4 y5 y6 y7 y8 y9 y10, LeO (shapesearchlaw13_NormalOrders.j0 k y0 y1 y2 y3 y4 y5 y6 y7 y8 y9 y10) (shapesearchlaw13_NormalOrders.j0 (k + 1) y0 y1 y2 y3 y4 y5 y6 y7 y8 y9 y10))
  | 0 => fun _ _ _ _ _ _ _ _ _ _ _ r h => by simp [shapesearchlaw13_NormalOrders.j0] at h
  | k + 1 => by
    have ih0 := shapesearchlaw13_NormalOrders.mono_l k
    · intro y0 y1 y2 y3 y4 y5 y6 y7 y8 y9 y10
      unfold shapesearchlaw13_NormalOrders.j0
      repeat' first
      | (with_reducible exact ih0 _ _ _ _ _ _ _ _ _ _ _)
      | (with_reducible exact normal_Gap.mono _ _ _)
      | (with_reducible exact normal_Product.mono _ _ _)
      | (with_reducible exact shapesearchkeep_Src_Pair.mono _ _ _)
      | (with_reducible exact shapesearchlaw13_awake.mono _)
      | (with_reducible exact shapesearchlaw13_spread.mono _ _)
      | (with_reducible exact shapesearchref01_Less.mono _ _ _ _ _)
      | (with_reducible exact LeO.refl _)
      | (with_reducible exact LeO.none _)
      | (with_reducible refine LeO.ite ?_ ?_)
      | (with_reducible refine LeO.bind ?_ (fun _ => ?_))
      | exact ih0 _ _ _ _ _ _ _ _ _ _ _
      | exact normal_Gap.mono _ _ _
      | exact normal_Product.mono _ _ _
      | exact shapesearchkeep_Src_Pair.mono _ _ _
      | exact shapesearchlaw13_awake.mono _
      | exact shapesearchlaw13_spread.mono _ _
      | exact shapesearchref01_Less.mono _ _ _ _ _
      | exact LeO.none _
      | refine LeO.ite ?_ ?_
      | refine LeO.bind ?_ (fun _ => ?_)
theorem shapesearchlaw13_NormalOrders.mono : ∀ a0 a1 k, LeO (shapesearchlaw13_NormalOrders.f k a0 a1) (shapesearchlaw13_NormalOrders.f (k + 1) a0 a1) := by
  intro a0 a1 k
  have ih0 := shapesearchlaw13_NormalOrders.mono_l k
  unfold shapesearchlaw13_NormalOrders.f
  repeat' first
      | (with_reducible exact ih0 _ _ _ _ _ _ _ _ _ _ _)
      | (with_reducible exact normal_Gap.mono _ _ _)
      | (with_reducible exact normal_Product.mono _ _ _)
      | (with_reducible exact shapesearchkeep_Src_Pair.mono _ _ _)
      | (with_reducible exact shapesearchlaw13_awake.mono _)
      | (with_reducible exact shapesearchlaw13_spread.mono _ _)
      | (with_reducible exact shapesearchref01_Less.mono _ _ _ _ _)
      | (with_reducible exact LeO.refl _)
      | (with_reducible exact LeO.none _)
      | (with_reducible refine LeO.ite ?_ ?_)
      | (with_reducible refine LeO.bind ?_ (fun _ => ?_))
      | exact ih0 _ _ _ _ _ _ _ _ _ _ _
      | exact normal_Gap.mono _ _ _
      | exact normal_Product.mono _ _ _
      | exact shapesearchkeep_Src_Pair.mono _ _ _
      | exact shapesearchlaw13_awake.mono _
      | exact shapesearchlaw13_spread.mono _ _
      | exact shapesearchref01_Less.mono _ _ _ _ _
      | exact LeO.none _
      | refine LeO.ite ?_ ?_
      | refine LeO.bind ?_ (fun _ => ?_)
def shapesearchlaw13_NormalOrders.T4 : Bool × List (List Nat × List Nat) := (true, [([], []), ([], []), ([], []), ([1, 2], [1, 2]), ([0, 3], [0, 3]), ([], []), ([], []), ([5, 6], [5, 6]), ([4, 7, 4], [4, 7]), ([8, 8, 0, 1, 2, 3, 4, 5, 6, 7, 8], [8])])
def shapesearchlaw13_NormalOrders.B4 : List Nat := [0, 0, 0, 6, 15, 0, 0, 96, 255, 511]
theorem shapesearchlaw13_NormalOrders.tab4 : rtab .any (opsOf Try.f6 4) = shapesearchlaw13_NormalOrders.T4 := by kernel_rfl
theorem shapesearchlaw13_NormalOrders.bits4 : waitsOk shapesearchlaw13_NormalOrders.T4.2 shapesearchlaw13_NormalOrders.B4 = true := by kernel_rfl
set_option maxHeartbeats 8000000 in
set_option maxRecDepth 100000 in
theorem shapesearchlaw13_NormalOrders.calls (k : Nat) (A0 : Option Addr) (c0 : Nat) (l0 : List Int) (a1 : Int) (r : Bool) (w : World) (hr0 : Kd.C (Kd.int .i64) w A0 l0.length l0) (hc0 : l0.length ≤ c0) (h : shapesearchlaw13_NormalOrders.f k l0 a1 = some r) :
    Calls Try.prog 6 #[.slice A0 l0.length c0, .int .u8 a1] w fun e w' => e = .returned (.bool r) ∧ Below w.heap.size w w' := by
  have hu29 := Try.underlying29
  have HR0 := Aside0.mk hr0
  have HC0 := Aside0.mk hc0
  clear hr0 hc0
  have HB := Aside0.mk (Below.refl w.heap.size w)
  have H : ((shapesearchkeep_New.f l0).bind fun bt311 => ((shapesearchkeep_Src_Pair.f k bt311.1 bt311.2).bind fun bt314 => (if (bt314.2.1.length : Int) = 0 then (none) else ((some (([] : List Int) : List Int)).bind fun y321 => (if 0 ≤ (Int.tmod (wrap64 (a1)) (bt314.2.1.length : Int)) then (if (Int.tmod (wrap64 (a1)) (bt314.2.1.length : Int)) ≤ (bt314.2.1.length : Int) then ((some (bt314.2.1.drop ((Int.tmod (wrap64 (a1)) (bt314.2.1.length : Int)) : Int).toNat : List Int)).bind fun y324 => (if y321.length + y324.length < 17592186044416 then ((some (y321 ++ y324 : List Int)).bind fun y328 => ((some (bt314.2.1.take ((Int.tmod (wrap64 (a1)) (bt314.2.1.length : Int)) : Int).toNat : List Int)).bind fun y331 => (if y328.length + y331.length < 17592186044416 then ((some (y328 ++ y331 : List Int)).bind fun y335 => ((normal_Gap.f k bt314.1 bt314.2.1).bind fun bt338 => ((normal_Gap.f k bt314.1 y335).bind fun bt342 => ((normal_Product.f k bt314.1 bt314.2.1).bind fun bt346 => ((normal_Product.f k bt314.1 y335).bind fun bt348 => (if bt338.2.2 = 0 then (if bt342.2.2 = 0 then (if bt346.2 = 0 then (if bt348.2 = 0 then ((shapesearchlaw13_spread.f k bt314.1).bind fun t350 => (if t350 = true then ((shapesearchlaw13_spread.f k bt314.2.1).bind fun t351 => (shapesearchlaw13_NormalOrders.j0 k bt338.2.2 bt342.2.2 bt346.1 bt346.2 bt348.1 bt348.2 (!t351) bt338.1 bt338.2.1 bt342.1 bt342.2.1)) else (shapesearchlaw13_NormalOrders.j0 k bt338.2.2 bt342.2.2 bt346.1 bt346.2 bt348.1 bt348.2 true bt338.1 bt338.2.1 bt342.1 bt342.2.1))) else (shapesearchlaw13_NormalOrders.j0 k bt338.2.2 bt342.2.2 bt346.1 bt346.2 bt348.1 bt348.2 true bt338.1 bt338.2.1 bt342.1 bt342.2.1)) else (shapesearchlaw13_NormalOrders.j0 k bt338.2.2 bt342.2.2 bt346.1 bt346.2 bt348.1 bt348.2 true bt338.1 bt338.2.1 bt342.1 bt342.2.1)) else (shapesearchlaw13_NormalOrders.j0 k bt338.2.2 bt342.2.2 bt346.1 bt346.2 bt348.1 bt348.2 true bt338.1 bt338.2.1 bt342.1 bt342.2.1)) else (shapesearchlaw13_NormalOrders.j0 k bt338.2.2 bt342.2.2 bt346.1 bt346.2 bt348.1 bt348.2 true bt338.1 bt338.2.1 bt342.1 bt342.2.1))))))) else (none)))) else (none))) else (none)) else (none)))))) = some r := h
  clear h
  replace H := Option.bind_eq_some_iff.mp H
  obtain ⟨⟨t311, t312⟩, A30, H⟩ := H
  replace H : ((shapesearchkeep_Src_Pair.f k t311 t312).bind fun bt314 => (if (bt314.2.1.length : Int) = 0 then (none) else ((some (([] : List Int) : List Int)).bind fun y321 => (if 0 ≤ (Int.tmod (wrap64 (a1)) (bt314.2.1.length : Int)) then (if (Int.tmod (wrap64 (a1)) (bt314.2.1.length : Int)) ≤ (bt314.2.1.length : Int) then ((some (bt314.2.1.drop ((Int.tmod (wrap64 (a1)) (bt314.2.1.length : Int)) : Int).toNat : List Int)).bind fun y324 => (if y321.length + y324.length < 17592186044416 then ((some (y321 ++ y324 : List Int)).bind fun y328 => ((some (bt314.2.1.take ((Int.tmod (wrap64 (a1)) (bt314.2.1.length : Int)) : Int).toNat : List Int)).bind fun y331 => (if y328.length + y331.length < 17592186044416 then ((some (y328 ++ y331 : List Int)).bind fun y335 => ((normal_Gap.f k bt314.1 bt314.2.1).bind fun bt338 => ((normal_Gap.f k bt314.1 y335).bind fun bt342 => ((normal_Product.f k bt314.1 bt314.2.1).bind fun bt346 => ((normal_Product.f k bt314.1 y335).bind fun bt348 => (if bt338.2.2 = 0 then (if bt342.2.2 = 0 then (if bt346.2 = 0 then (if bt348.2 = 0 then ((shapesearchlaw13_spread.f k bt314.1).bind fun t350 => (if t350 = true then ((shapesearchlaw13_spread.f k bt314.2.1).bind fun t351 => (shapesearchlaw13_NormalOrders.j0 k bt338.2.2 bt342.2.2 bt346.1 bt346.2 bt348.1 bt348.2 (!t351) bt338.1 bt338.2.1 bt342.1 bt342.2.1)) else (shapesearchlaw13_NormalOrders.j0 k bt338.2.2 bt342.2.2 bt346.1 bt346.2 bt348.1 bt348.2 true bt338.1 bt338.2.1 bt342.1 bt342.2.1))) else (shapesearchlaw13_NormalOrders.j0 k bt338.2.2 bt342.2.2 bt346.1 bt346.2 bt348.1 bt348.2 true bt338.1 bt338.2.1 bt342.1 bt342.2.1)) else (shapesearchlaw13_NormalOrders.j0 k bt338.2.2 bt342.2.2 bt346.1 bt346.2 bt348.1 bt348.2 true bt338.1 bt338.2.1 bt342.1 bt342.2.1)) else (shapesearchlaw13_NormalOrders.j0 k bt338.2.2 bt342.2.2 bt346.1 bt346.2 bt348.1 bt348.2 true bt338.1 bt338.2.1 bt342.1 bt342.2.1)) else (shapesearchlaw13_NormalOrders.j0 k bt338.2.2 bt342.2.2 bt346.1 bt346.2 bt348.1 bt348.2 true bt338.1 bt338.2.1 bt342.1 bt342.2.1))))))) else (none)))) else (none))) else (none)) else (none))))) = some r := H
  have A3 := Aside0.mk A30
  clear A30
  replace H := Option.bind_eq_some_iff.mp H
  obtain ⟨⟨t314, t317, t320⟩, A40, H⟩ := H
  replace H : (if (t317.length : Int) = 0 then (none) else ((some (([] : List Int) : List Int)).bind fun y321 => (if 0 ≤ (Int.tmod (wrap64 (a1)) (t317.length : Int)) then (if (Int.tmod (wrap64 (a1)) (t317.length : Int)) ≤ (t317.length : Int) then ((some (t317.drop ((Int.tmod (wrap64 (a1)) (t317.length : Int)) : Int).toNat : List Int)).bind fun y324 => (if y321.length + y324.length < 17592186044416 then ((some (y321 ++ y324 : List Int)).bind fun y328 => ((some (t317.take ((Int.tmod (wrap64 (a1)) (t317.length : Int)) : Int).toNat : List Int)).bind fun y331 => (if y328.length + y331.length < 17592186044416 then ((some (y328 ++ y331 : List Int)).bind fun y335 => ((normal_Gap.f k t314 t317).bind fun bt338 => ((normal_Gap.f k t314 y335).bind fun bt342 => ((normal_Product.f k t314 t317).bind fun bt346 => ((normal_Product.f k t314 y335).bind fun bt348 => (if bt338.2.2 = 0 then (if bt342.2.2 = 0 then (if bt346.2 = 0 then (if bt348.2 = 0 then ((shapesearchlaw13_spread.f k t314).bind fun t350 => (if t350 = true then ((shapesearchlaw13_spread.f k t317).bind fun t351 => (shapesearchlaw13_NormalOrders.j0 k bt338.2.2 bt342.2.2 bt346.1 bt346.2 bt348.1 bt348.2 (!t351) bt338.1 bt338.2.1 bt342.1 bt342.2.1)) else (shapesearchlaw13_NormalOrders.j0 k bt338.2.2 bt342.2.2 bt346.1 bt346.2 bt348.1 bt348.2 true bt338.1 bt338.2.1 bt342.1 bt342.2.1))) else (shapesearchlaw13_NormalOrders.j0 k bt338.2.2 bt342.2.2 bt346.1 bt346.2 bt348.1 bt348.2 true bt338.1 bt338.2.1 bt342.1 bt342.2.1)) else (shapesearchlaw13_NormalOrders.j0 k bt338.2.2 bt342.2.2 bt346.1 bt346.2 bt348.1 bt348.2 true bt338.1 bt338.2.1 bt342.1 bt342.2.1)) else (shapesearchlaw13_NormalOrders.j0 k bt338.2.2 bt342.2.2 bt346.1 bt346.2 bt348.1 bt348.2 true bt338.1 bt338.2.1 bt342.1 bt342.2.1)) else (shapesearchlaw13_NormalOrders.j0 k bt338.2.2 bt342.2.2 bt346.1 bt346.2 bt348.1 bt348.2 true bt338.1 bt338.2.1 bt342.1 bt342.2.1))))))) else (none)))) else (none))) else (none)) else (none)))) = some r := H
  have A4 := Aside0.mk A40
  clear A40
  by_cases c5 : (t317.length : Int) = 0
  · rw [if_pos c5] at H
    exact absurd H (by simp)
  · rw [if_neg c5] at H
    have c5b0 : ((t317.length : Int) == 0) = false := beq_eq_false_iff_ne.mpr c5
    have c5b1 : ((t317.length : Int) != 0) = true := bne_iff_ne.mpr c5
    have c5b2 : ¬ (t317 = []) := fun h_ => c5 (by rw [h_]; rfl)
    obtain ⟨y321, hy321⟩ : ∃ y_ : List Int, y_ = (([] : List Int)) := ⟨_, rfl⟩
    replace H : (if 0 ≤ (Int.tmod (wrap64 (a1)) (t317.length : Int)) then (if (Int.tmod (wrap64 (a1)) (t317.length : Int)) ≤ (t317.length : Int) then ((some (t317.drop ((Int.tmod (wrap64 (a1)) (t317.length : Int)) : Int).toNat : List Int)).bind fun y324 => (if y321.length + y324.length < 17592186044416 then ((some (y321 ++ y324 : List Int)).bind fun y328 => ((some (t317.take ((Int.tmod (wrap64 (a1)) (t317.length : Int)) : Int).toNat : List Int)).bind fun y331 => (if y328.length + y331.length < 17592186044416 then ((some (y328 ++ y331 : List Int)).bind fun y335 => ((normal_Gap.f k t314 t317).bind fun bt338 => ((normal_Gap.f k t314 y335).bind fun bt342 => ((normal_Product.f k t314 t317).bind fun bt346 => ((normal_Product.f k t314 y335).bind fun bt348 => (if bt338.2.2 = 0 then (if bt342.2.2 = 0 then (if bt346.2 = 0 then (if bt348.2 = 0 then ((shapesearchlaw13_spread.f k t314).bind fun t350 => (if t350 = true then ((shapesearchlaw13_spread.f k t317).bind fun t351 => (shapesearchlaw13_NormalOrders.j0 k bt338.2.2 bt342.2.2 bt346.1 bt346.2 bt348.1 bt348.2 (!t351) bt338.1 bt338.2.1 bt342.1 bt342.2.1)) else (shapesearchlaw13_NormalOrders.j0 k bt338.2.2 bt342.2.2 bt346.1 bt346.2 bt348.1 bt348.2 true bt338.1 bt338.2.1 bt342.1 bt342.2.1))) else (shapesearchlaw13_NormalOrders.j0 k bt338.2.2 bt342.2.2 bt346.1 bt346.2 bt348.1 bt348.2 true bt338.1 bt338.2.1 bt342.1 bt342.2.1)) else (shapesearchlaw13_NormalOrders.j0 k bt338.2.2 bt342.2.2 bt346.1 bt346.2 bt348.1 bt348.2 true bt338.1 bt338.2.1 bt342.1 bt342.2.1)) else (shapesearchlaw13_NormalOrders.j0 k bt338.2.2 bt342.2.2 bt346.1 bt346.2 bt348.1 bt348.2 true bt338.1 bt338.2.1 bt342.1 bt342.2.1)) else (shapesearchlaw13_NormalOrders.j0 k bt338.2.2 bt342.2.2 bt346.1 bt346.2 bt348.1 bt348.2 true bt338.1 bt338.2.1 bt342.1 bt342.2.1))))))) else (none)))) else (none))) else (none)) else (none)) = some r := by first | (rw [hy321]; with_reducible exact H) | (have H2_ := (Option.bind_some _ _).symm.trans H; rw [hy321]; with_reducible exact H2_) | (have H2_ := (Option.bind_some _ _).symm.trans H; with_reducible exact H2_) | with_reducible exact H | (rw [hy321]; exact H) | exact H
    have Ny321 := Aside0.mk hy321
    clear hy321
    obtain ⟨ji6, hji6⟩ : ∃ j_ : Int, (Int.tmod (wrap64 (a1)) (t317.length : Int)) = j_ := ⟨_, rfl⟩
    replace H : (if 0 ≤ (ji6) then (if (ji6) ≤ (t317.length : Int) then ((some (t317.drop ((ji6) : Int).toNat : List Int)).bind fun y324 => (if y321.length + y324.length < 17592186044416 then ((some (y321 ++ y324 : List Int)).bind fun y328 => ((some (t317.take ((ji6) : Int).toNat : List Int)).bind fun y331 => (if y328.length + y331.length < 17592186044416 then ((some (y328 ++ y331 : List Int)).bind fun y335 => ((normal_Gap.f k t314 t317).bind fun bt338 => ((normal_Gap.f k t314 y335).bind fun bt342 => ((normal_Product.f k t314 t317).bind fun bt346 => ((normal_Product.f k t314 y335).bind fun bt348 => (if bt338.2.2 = 0 then (if bt342.2.2 = 0 then (if bt346.2 = 0 then (if bt348.2 = 0 then ((shapesearchlaw13_spread.f k t314).bind fun t350 => (if t350 = true then ((shapesearchlaw13_spread.f k t317).bind fun t351 => (shapesearchlaw13_NormalOrders.j0 k bt338.2.2 bt342.2.2 bt346.1 bt346.2 bt348.1 bt348.2 (!t351) bt338.1 bt338.2.1 bt342.1 bt342.2.1)) else (shapesearchlaw13_NormalOrders.j0 k bt338.2.2 bt342.2.2 bt346.1 bt346.2 bt348.1 bt348.2 true bt338.1 bt338.2.1 bt342.1 bt342.2.1))) else (shapesearchlaw13_NormalOrders.j0 k bt338.2.2 bt342.2.2 bt346.1 bt346.2 bt348.1 bt348.2 true bt338.1 bt338.2.1 bt342.1 bt342.2.1)) else (shapesearchlaw13_NormalOrders.j0 k bt338.2.2 bt342.2.2 bt346.1 bt346.2 bt348.1 bt348.2 true bt338.1 bt338.2.1 bt342.1 bt342.2.1)) else (shapesearchlaw13_NormalOrders.j0 k bt338.2.2 bt342.2.2 bt346.1 bt346.2 bt348.1 bt348.2 true bt338.1 bt338.2.1 bt342.1 bt342.2.1)) else (shapesearchlaw13_NormalOrders.j0 k bt338.2.2 bt342.2.2 bt346.1 bt346.2 bt348.1 bt348.2 true bt338.1 bt338.2.1 bt342.1 bt342.2.1))))))) else (none)))) else (none))) else (none)) else (none)) = some r := by first | (rw [hji6] at H; exact H) | (simp only [hji6] at H ⊢; exact H)
    (try rw [hji6] at A3)
    (try rw [hji6] at A4)
    by_cases c7 : 0 ≤ (ji6)
    · rw [if_pos c7] at H
      have c7b0 := eq_true c7
      have c7b1 : decide (0 ≤ (ji6)) = true := decide_eq_true c7
      clear c7
      by_cases c8 : (ji6) ≤ (t317.length : Int)
      · rw [if_pos c8] at H
        have c8b0 := eq_true c8
        have c8b1 : decide ((ji6) ≤ (t317.length : Int)) = true := decide_eq_true c8
        clear c8
        obtain ⟨y324, hy324⟩ : ∃ y_ : List Int, y_ = (t317.drop ((ji6) : Int).toNat) := ⟨_, rfl⟩
        replace H : (if y321.length + y324.length < 17592186044416 then ((some (y321 ++ y324 : List Int)).bind fun y328 => ((some (t317.take ((ji6) : Int).toNat : List Int)).bind fun y331 => (if y328.length + y331.length < 17592186044416 then ((some (y328 ++ y331 : List Int)).bind fun y335 => ((normal_Gap.f k t314 t317).bind fun bt338 => ((normal_Gap.f k t314 y335).bind fun bt342 => ((normal_Product.f k t314 t317).bind fun bt346 => ((normal_Product.f k t314 y335).bind fun bt348 => (if bt338.2.2 = 0 then (if bt342.2.2 = 0 then (if bt346.2 = 0 then (if bt348.2 = 0 then ((shapesearchlaw13_spread.f k t314).bind fun t350 => (if t350 = true then ((shapesearchlaw13_spread.f k t317).bind fun t351 => (shapesearchlaw13_NormalOrders.j0 k bt338.2.2 bt342.2.2 bt346.1 bt346.2 bt348.1 bt348.2 (!t351) bt338.1 bt338.2.1 bt342.1 bt342.2.1)) else (shapesearchlaw13_NormalOrders.j0 k bt338.2.2 bt342.2.2 bt346.1 bt346.2 bt348.1 bt348.2 true bt338.1 bt338.2.1 bt342.1 bt342.2.1))) else (shapesearchlaw13_NormalOrders.j0 k bt338.2.2 bt342.2.2 bt346.1 bt346.2 bt348.1 bt348.2 true bt338.1 bt338.2.1 bt342.1 bt342.2.1)) else (shapesearchlaw13_NormalOrders.j0 k bt338.2.2 bt342.2.2 bt346.1 bt346.2 bt348.1 bt348.2 true bt338.1 bt338.2.1 bt342.1 bt342.2.1)) else (shapesearchlaw13_NormalOrders.j0 k bt338.2.2 bt342.2.2 bt346.1 bt346.2 bt348.1 bt348.2 true bt338.1 bt338.2.1 bt342.1 bt342.2.1)) else (shapesearchlaw13_NormalOrders.j0 k bt338.2.2 bt342.2.2 bt346.1 bt346.2 bt348.1 bt348.2 true bt338.1 bt338.2.1 bt342.1 bt342.2.1))))))) else (none)))) else (none)) = some r := by first | (rw [hy324]; with_reducible exact H) | (have H2_ := (Option.bind_some _ _).symm.trans H; rw [hy324]; with_reducible exact H2_) | (have H2_ := (Option.bind_some _ _).symm.trans H; with_reducible exact H2_) | with_reducible exact H | (rw [hy324]; exact H) | exact H
        have Ny324 := Aside0.mk hy324
        clear hy324
        by_cases c9 : y321.length + y324.length < 17592186044416
        · rw [if_pos c9] at H
          have LMc9 := Aside0.mk c9
          clear c9
          obtain ⟨y328, hy328⟩ : ∃ y_ : List Int, y_ = (y321 ++ y324) := ⟨_, rfl⟩
          replace H : ((some (t317.take ((ji6) : Int).toNat : List Int)).bind fun y331 => (if y328.length + y331.length < 17592186044416 then ((some (y328 ++ y331 : List Int)).bind fun y335 => ((normal_Gap.f k t314 t317).bind fun bt338 => ((normal_Gap.f k t314 y335).bind fun bt342 => ((normal_Product.f k t314 t317).bind fun bt346 => ((normal_Product.f k t314 y335).bind fun bt348 => (if bt338.2.2 = 0 then (if bt342.2.2 = 0 then (if bt346.2 = 0 then (if bt348.2 = 0 then ((shapesearchlaw13_spread.f k t314).bind fun t350 => (if t350 = true then ((shapesearchlaw13_spread.f k t317).bind fun t351 => (shapesearchlaw13_NormalOrders.j0 k bt338.2.2 bt342.2.2 bt346.1 bt346.2 bt348.1 bt348.2 (!t351) bt338.1 bt338.2.1 bt342.1 bt342.2.1)) else (shapesearchlaw13_NormalOrders.j0 k bt338.2.2 bt342.2.2 bt346.1 bt346.2 bt348.1 bt348.2 true bt338.1 bt338.2.1 bt342.1 bt342.2.1))) else (shapesearchlaw13_NormalOrders.j0 k bt338.2.2 bt342.2.2 bt346.1 bt346.2 bt348.1 bt348.2 true bt338.1 bt338.2.1 bt342.1 bt342.2.1)) else (shapesearchlaw13_NormalOrders.j0 k bt338.2.2 bt342.2.2 bt346.1 bt346.2 bt348.1 bt348.2 true bt338.1 bt338.2.1 bt342.1 bt342.2.1)) else (shapesearchlaw13_NormalOrders.j0 k bt338.2.2 bt342.2.2 bt346.1 bt346.2 bt348.1 bt348.2 true bt338.1 bt338.2.1 bt342.1 bt342.2.1)) else (shapesearchlaw13_NormalOrders.j0 k bt338.2.2 bt342.2.2 bt346.1 bt346.2 bt348.1 bt348.2 true bt338.1 bt338.2.1 bt342.1 bt342.2.1))))))) else (none))) = some r := by first | (rw [hy328]; with_reducible exact H) | (have H2_ := (Option.bind_some _ _).symm.trans H; rw [hy328]; with_reducible exact H2_) | (have H2_ := (Option.bind_some _ _).symm.trans H; with_reducible exact H2_) | with_reducible exact H | (rw [hy328]; exact H) | exact H
          have Ny328 := Aside0.mk hy328
          clear hy328
          have c10b0 := eq_true (of_decide_eq_true (by first | (with_reducible assumption) | assumption) : 0 ≤ (ji6))
          have c11b0 := eq_true (of_decide_eq_true (by first | (with_reducible assumption) | assumption) : (ji6) ≤ (t317.length : Int))
          obtain ⟨y331, hy331⟩ : ∃ y_ : List Int, y_ = (t317.take ((ji6) : Int).toNat) := ⟨_, rfl⟩
          replace H : (if y328.length + y331.length < 17592186044416 then ((some (y328 ++ y331 : List Int)).bind fun y335 => ((normal_Gap.f k t314 t317).bind fun bt338 => ((normal_Gap.f k t314 y335).bind fun bt342 => ((normal_Product.f k t314 t317).bind fun bt346 => ((normal_Product.f k t314 y335).bind fun bt348 => (if bt338.2.2 = 0 then (if bt342.2.2 = 0 then (if bt346.2 = 0 then (if bt348.2 = 0 then ((shapesearchlaw13_spread.f k t314).bind fun t350 => (if t350 = true then ((shapesearchlaw13_spread.f k t317).bind fun t351 => (shapesearchlaw13_NormalOrders.j0 k bt338.2.2 bt342.2.2 bt346.1 bt346.2 bt348.1 bt348.2 (!t351) bt338.1 bt338.2.1 bt342.1 bt342.2.1)) else (shapesearchlaw13_NormalOrders.j0 k bt338.2.2 bt342.2.2 bt346.1 bt346.2 bt348.1 bt348.2 true bt338.1 bt338.2.1 bt342.1 bt342.2.1))) else (shapesearchlaw13_NormalOrders.j0 k bt338.2.2 bt342.2.2 bt346.1 bt346.2 bt348.1 bt348.2 true bt338.1 bt338.2.1 bt342.1 bt342.2.1)) else (shapesearchlaw13_NormalOrders.j0 k bt338.2.2 bt342.2.2 bt346.1 bt346.2 bt348.1 bt348.2 true bt338.1 bt338.2.1 bt342.1 bt342.2.1)) else (shapesearchlaw13_NormalOrders.j0 k bt338.2.2 bt342.2.2 bt346.1 bt346.2 bt348.1 bt348.2 true bt338.1 bt338.2.1 bt342.1 bt342.2.1)) else (shapesearchlaw13_NormalOrders.j0 k bt338.2.2 bt342.2.2 bt346.1 bt346.2 bt348.1 bt348.2 true bt338.1 bt338.2.1 bt342.1 bt342.2.1))))))) else (none)) = some r := by first | (rw [hy331]; with_reducible exact H) | (have H2_ := (Option.bind_some _ _).symm.trans H; rw [hy331]; with_reducible exact H2_) | (have H2_ := (Option.bind_some _ _).symm.trans H; with_reducible exact H2_) | with_reducible exact H | (rw [hy331]; exact H) | exact H
          have Ny331 := Aside0.mk hy331
          clear hy331
          by_cases c12 : y328.length + y331.length < 17592186044416
          · rw [if_pos c12] at H
            have LMc12 := Aside0.mk c12
            clear c12
            obtain ⟨y335, hy335⟩ : ∃ y_ : List Int, y_ = (y328 ++ y331) := ⟨_, rfl⟩
            replace H : ((normal_Gap.f k t314 t317).bind fun bt338 => ((normal_Gap.f k t314 y335).bind fun bt342 => ((normal_Product.f k t314 t317).bind fun bt346 => ((normal_Product.f k t314 y335).bind fun bt348 => (if bt338.2.2 = 0 then (if bt342.2.2 = 0 then (if bt346.2 = 0 then (if bt348.2 = 0 then ((shapesearchlaw13_spread.f k t314).bind fun t350 => (if t350 = true then ((shapesearchlaw13_spread.f k t317).bind fun t351 => (shapesearchlaw13_NormalOrders.j0 k bt338.2.2 bt342.2.2 bt346.1 bt346.2 bt348.1 bt348.2 (!t351) bt338.1 bt338.2.1 bt342.1 bt342.2.1)) else (shapesearchlaw13_NormalOrders.j0 k bt338.2.2 bt342.2.2 bt346.1 bt346.2 bt348.1 bt348.2 true bt338.1 bt338.2.1 bt342.1 bt342.2.1))) else (shapesearchlaw13_NormalOrders.j0 k bt338.2.2 bt342.2.2 bt346.1 bt346.2 bt348.1 bt348.2 true bt338.1 bt338.2.1 bt342.1 bt342.2.1)) else (shapesearchlaw13_NormalOrders.j0 k bt338.2.2 bt342.2.2 bt346.1 bt346.2 bt348.1 bt348.2 true bt338.1 bt338.2.1 bt342.1 bt342.2.1)) else (shapesearchlaw13_NormalOrders.j0 k bt338.2.2 bt342.2.2 bt346.1 bt346.2 bt348.1 bt348.2 true bt338.1 bt338.2.1 bt342.1 bt342.2.1)) else (shapesearchlaw13_NormalOrders.j0 k bt338.2.2 bt342.2.2 bt346.1 bt346.2 bt348.1 bt348.2 true bt338.1 bt338.2.1 bt342.1 bt342.2.1)))))) = some r := by first | (rw [hy335]; with_reducible exact H) | (have H2_ := (Option.bind_some _ _).symm.trans H; rw [hy335]; with_reducible exact H2_) | (have H2_ := (Option.bind_some _ _).symm.trans H; with_reducible exact H2_) | with_reducible exact H | (rw [hy335]; exact H) | exact H
            have Ny335 := Aside0.mk hy335
            clear hy335
            replace H := Option.bind_eq_some_iff.mp H
            obtain ⟨⟨t338, t339, t340⟩, A130, H⟩ := H
            replace H : ((normal_Gap.f k t314 y335).bind fun bt342 => ((normal_Product.f k t314 t317).bind fun bt346 => ((normal_Product.f k t314 y335).bind fun bt348 => (if t340 = 0 then (if bt342.2.2 = 0 then (if bt346.2 = 0 then (if bt348.2 = 0 then ((shapesearchlaw13_spread.f k t314).bind fun t350 => (if t350 = true then ((shapesearchlaw13_spread.f k t317).bind fun t351 => (shapesearchlaw13_NormalOrders.j0 k t340 bt342.2.2 bt346.1 bt346.2 bt348.1 bt348.2 (!t351) t338 t339 bt342.1 bt342.2.1)) else (shapesearchlaw13_NormalOrders.j0 k t340 bt342.2.2 bt346.1 bt346.2 bt348.1 bt348.2 true t338 t339 bt342.1 bt342.2.1))) else (shapesearchlaw13_NormalOrders.j0 k t340 bt342.2.2 bt346.1 bt346.2 bt348.1 bt348.2 true t338 t339 bt342.1 bt342.2.1)) else (shapesearchlaw13_NormalOrders.j0 k t340 bt342.2.2 bt346.1 bt346.2 bt348.1 bt348.2 true t338 t339 bt342.1 bt342.2.1)) else (shapesearchlaw13_NormalOrders.j0 k t340 bt342.2.2 bt346.1 bt346.2 bt348.1 bt348.2 true t338 t339 bt342.1 bt342.2.1)) else (shapesearchlaw13_NormalOrders.j0 k t340 bt342.2.2 bt346.1 bt346.2 bt348.1 bt348.2 true t338 t339 bt342.1 bt342.2.1))))) = some r := H
            have A13 := Aside0.mk A130
            clear A130
            replace H := Option.bind_eq_some_iff.mp H
            obtain ⟨⟨t342, t343, t344⟩, A140, H⟩ := H
            replace H : ((normal_Product.f k t314 t317).bind fun bt346 => ((normal_Product.f k t314 y335).bind fun bt348 => (if t340 = 0 then (if t344 = 0 then (if bt346.2 = 0 then (if bt348.2 = 0 then ((shapesearchlaw13_spread.f k t314).bind fun t350 => (if t350 = true then ((shapesearchlaw13_spread.f k t317).bind fun t351 => (shapesearchlaw13_NormalOrders.j0 k t340 t344 bt346.1 bt346.2 bt348.1 bt348.2 (!t351) t338 t339 t342 t343)) else (shapesearchlaw13_NormalOrders.j0 k t340 t344 bt346.1 bt346.2 bt348.1 bt348.2 true t338 t339 t342 t343))) else (shapesearchlaw13_NormalOrders.j0 k t340 t344 bt346.1 bt346.2 bt348.1 bt348.2 true t338 t339 t342 t343)) else (shapesearchlaw13_NormalOrders.j0 k t340 t344 bt346.1 bt346.2 bt348.1 bt348.2 true t338 t339 t342 t343)) else (shapesearchlaw13_NormalOrders.j0 k t340 t344 bt346.1 bt346.2 bt348.1 bt348.2 true t338 t339 t342 t343)) else (shapesearchlaw13_NormalOrders.j0 k t340 t344 bt346.1 bt346.2 bt348.1 bt348.2 true t338 t339 t342 t343)))) = some r := H
            have A14 := Aside0.mk A140
            clear A140
            replace H := Option.bind_eq_some_iff.mp H
            obtain ⟨⟨t346, t347⟩, A150, H⟩ := H
            replace H : ((normal_Product.f k t314 y335).bind fun bt348 => (if t340 = 0 then (if t344 = 0 then (if t347 = 0 then (if bt348.2 = 0 then ((shapesearchlaw13_spread.f k t314).bind fun t350 => (if t350 = true then ((shapesearchlaw13_spread.f k t317).bind fun t351 => (shapesearchlaw13_NormalOrders.j0 k t340 t344 t346 t347 bt348.1 bt348.2 (!t351) t338 t339 t342 t343)) else (shapesearchlaw13_NormalOrders.j0 k t340 t344 t346 t347 bt348.1 bt348.2 true t338 t339 t342 t343))) else (shapesearchlaw13_NormalOrders.j0 k t340 t344 t346 t347 bt348.1 bt348.2 true t338 t339 t342 t343)) else (shapesearchlaw13_NormalOrders.j0 k t340 t344 t346 t347 bt348.1 bt348.2 true t338 t339 t342 t343)) else (shapesearchlaw13_NormalOrders.j0 k t340 t344 t346 t347 bt348.1 bt348.2 true t338 t339 t342 t343)) else (shapesearchlaw13_NormalOrders.j0 k t340 t344 t346 t347 bt348.1 bt348.2 true t338 t339 t342 t343))) = some r := H
            have A15 := Aside0.mk A150
            clear A150
            replace H := Option.bind_eq_some_iff.mp H
            obtain ⟨⟨t348, t349⟩, A160, H⟩ := H
            replace H : (if t340 = 0 then (if t344 = 0 then (if t347 = 0 then (if t349 = 0 then ((shapesearchlaw13_spread.f k t314).bind fun t350 => (if t350 = true then ((shapesearchlaw13_spread.f k t317).bind fun t351 => (shapesearchlaw13_NormalOrders.j0 k t340 t344 t346 t347 t348 t349 (!t351) t338 t339 t342 t343)) else (shapesearchlaw13_NormalOrders.j0 k t340 t344 t346 t347 t348 t349 true t338 t339 t342 t343))) else (shapesearchlaw13_NormalOrders.j0 k t340 t344 t346 t347 t348 t349 true t338 t339 t342 t343)) else (shapesearchlaw13_NormalOrders.j0 k t340 t344 t346 t347 t348 t349 true t338 t339 t342 t343)) else (shapesearchlaw13_NormalOrders.j0 k t340 t344 t346 t347 t348 t349 true t338 t339 t342 t343)) else (shapesearchlaw13_NormalOrders.j0 k t340 t344 t346 t347 t348 t349 true t338 t339 t342 t343)) = some r := H
            have A16 := Aside0.mk A160
            clear A160
            have HC17 := Aside0.mk H
            clear H
            go_enter Try.func6, Try.ntmps6
            try go_wp2_with (first | ((with_reducible refine gate_callee (f := 9) rfl ?_); refine goesL_ (some 19) rfl rfl Try.func9 (by kernel_rfl) rfl #[.slice A0 l0.length c0] rfl (by (try simp only [List.map_toArray, List.map_cons, List.map_nil]); first | done | rfl | (simp only [List.length_drop, List.length_take]; rfl) | ((try rw [KY22.out]); (try rw [KY23.out]); rfl)) ?_; (with_reducible refine (shapesearchkeep_New.calls _ _ l0 t311 t312 w _ ?side1 ?side2 ?side3 A3.out).mono ?_); (case side1 => repeat (first | (with_reducible first | exact HB.out | apply below_alloc | apply pw_below_drewN | apply below_drew1) | exact HB.out)); (case side2 => exact HR0.out); (case side3 => exact HC0.out); rintro e w18 ⟨g313, rfl, hi, hb, hb2⟩; refine ⟨_, rfl, ?_⟩; have n0_ := Aside0.mk (hb); have n1_ := Aside0.mk (hi); clear HB; have HB := n0_; have HI313 := n1_; clear n0_ n1_; (try clear hb); (try clear hb2); (try clear hk); (try clear hi)) | ((with_reducible refine gate_callee (f := 10) rfl ?_); refine goesL_ (some 22) rfl rfl Try.func10 (by kernel_rfl) rfl #[.pointer (some ⟨g313, 0, none⟩)] rfl (by (try simp only [List.map_toArray, List.map_cons, List.map_nil]); first | done | rfl | (simp only [List.length_drop, List.length_take]; rfl) | ((try rw [KY22.out]); (try rw [KY23.out]); rfl)) ?_; (with_reducible refine (shapesearchkeep_Src_Pair.calls k g313 t311 t312 t314 t317 t320 w _ ?side1 ?side2 A4.out).mono ?_); (case side1 => repeat (first | (with_reducible first | exact HI313.out | apply IsS58.alloc | apply IsS58.drewN | apply IsS58.drew | apply IsS58.set_1) | exact HI313.out)); (case side2 => repeat (first | (with_reducible first | exact HB.out | apply below_alloc | apply pw_below_drewN | apply below_drew1 | refine below_set ?_ (IsS58.ge HI313.out)) | exact HB.out)); rintro e w19 ⟨v315, v318, rfl, ho0, ho1, hi, hb, hk⟩; refine ⟨_, rfl, ?_⟩; have n0_ := Aside0.mk (Kd.R_lower ho0 (below_size (by repeat (first | (with_reducible first | exact HB.out | apply below_alloc | apply pw_below_drewN | apply below_drew1 | refine below_set ?_ (IsS58.ge HI313.out)) | exact HB.out)))); have n1_ := Aside0.mk (Kd.R_lower ho1 (below_size (by repeat (first | (with_reducible first | exact HB.out | apply below_alloc | apply pw_below_drewN | apply below_drew1 | refine below_set ?_ (IsS58.ge HI313.out)) | exact HB.out)))); have n2_ := Aside0.mk (hb); have n3_ := Aside0.mk (hi); clear HB; clear HI313; have HO316 := n0_; have HO319 := n1_; have HB := n2_; have HI313 := n3_; clear n0_ n1_ n2_ n3_; (try clear hb); (try clear hb2); (try clear hk); (try clear hi); (try clear ho0); (try clear ho1); obtain ⟨Ao20, co20, eo20⟩ := Kd.R_slice HO319.out; subst eo20))
            have n0_ := Aside0.mk (Kd.R_drew HO316.out)
            have n1_ := Aside0.mk (Kd.R_drew HO319.out)
            have n2_ := Aside0.mk (IsS58.drew HI313.out)
            have n3_ := Aside0.mk (below_drew1 HB.out)
            clear HO316
            clear HO319
            clear HI313
            clear HB
            have HO316 := n0_
            have HO319 := n1_
            have HI313 := n2_
            have HB := n3_
            clear n0_ n1_ n2_ n3_
            have q22 : ((ji6) : Int) ≤ ((t317.length : Int) : Int) := of_decide_eq_true (by first | (with_reducible assumption) | assumption)
            obtain ⟨i022, hi022, _, hsz22, _⟩ := info_parts info3
            have hroom22 : t317.length ≤ co20 := (Kd.R_reads' HO319.out).2.1
            have hC22 : Kd.C (Kd.int .i64) _ Ao20 t317.length t317 := (Kd.R_reads' HO319.out).2.2
            have q022 : (0 : Int) ≤ ((ji6) : Int) := of_decide_eq_true (by first | (with_reducible assumption) | assumption)
            have hcut22 := cut_from (P := Try.prog) 22 3 .i64 Try.underlying22 hi022 1 hsz22 Ao20 t317.length co20 (ji6) q022 q22
            have hr22 := Kd.C_drop (m := ((ji6) : Int).toNat) (c := co20) hC22 (by omega) hroom22
            obtain ⟨A22, hA22⟩ : ∃ A1, A1 = (if co20 = ((ji6) : Int).toNat then Ao20 else (Ao20 : Option Addr).map (·.add (((ji6) : Int).toNat * 1))) := ⟨_, rfl⟩
            obtain ⟨c22, hc22⟩ : ∃ c1, c1 = co20 - ((ji6) : Int).toNat := ⟨_, rfl⟩
            have hy22 : y324.length = t317.length - ((ji6) : Int).toNat := (by rw [Ny324.out, List.length_drop] <;> omega)
            rw [show (t317).drop ((ji6) : Int).toNat = y324 from Ny324.out.symm] at hr22
            replace hr22 : Kd.C (Kd.int .i64) _ A22 y324.length y324 := (by rw [hA22]; exact hr22)
            rw [← hy22, ← hA22, ← hc22] at hcut22
            have HR327 := Aside0.mk hr22
            have HC327 := Aside0.mk (show y324.length ≤ c22 from by rw [hy22, hc22]; exact Nat.sub_le_sub_right hroom22 _)
            clear hr22 hC22 hroom22 hi022 hsz22 hc22
            have KY22 := Aside0.mk hy22
            have KA22 := Aside0.mk hA22
            clear hy22 hA22
            have KL22 := Aside0.mk (show ((ji6) : Int).toNat ≤ t317.length from by omega)
            replace q22 := eq_true q22
            have q23 : ((ji6) : Int) ≤ ((t317.length : Int) : Int) := of_decide_eq_true (by first | (with_reducible assumption) | assumption)
            obtain ⟨i023, hi023, _, hsz23, _⟩ := info_parts info3
            have hroom23 : t317.length ≤ co20 := (Kd.R_reads' HO319.out).2.1
            have hC23 : Kd.C (Kd.int .i64) _ Ao20 t317.length t317 := (Kd.R_reads' HO319.out).2.2
            have hcut23 := cut_to (P := Try.prog) 22 3 .i64 Try.underlying22 hi023 Ao20 t317.length co20 (ji6) (of_decide_eq_true (by first | (with_reducible assumption) | assumption)) q23 hroom23
            have hr23 := Kd.C_take (m := ((ji6) : Int).toNat) hC23 (by omega)
            have hy23 : y331.length = ((ji6) : Int).toNat := (by rw [Ny331.out, List.length_take]; omega)
            rw [← Ny331.out] at hr23
            rw [← hy23] at hcut23
            have HR334 := Aside0.mk hr23
            have HC334 := Aside0.mk (show y331.length ≤ co20 from by omega)
            clear hr23 hC23 hroom23 hi023 hsz23
            have KY23 := Aside0.mk hy23
            clear hy23
            have KL23 := Aside0.mk (show ((ji6) : Int).toNat ≤ t317.length from by omega)
            replace q23 := eq_true q23
            refine start_ (n := 10) (S := fun w' => True) (ds := []) #[false, false, false, false, false, false, false, false, false, false] (by kernel_rfl) rfl rfl trivial (fun hHeld => ?_); refine with_tabW shapesearchlaw13_NormalOrders.tab4 shapesearchlaw13_NormalOrders.bits4 (fun HT_ HW_ => ?_)
            generalize w19.drew = w21 at HO316 HO319 HI313 HB HR327 HR334 hHeld ⊢
            refine pure_ (i := 1) (N := some 31) (v := ?_) (a' := ?_) #[false, true, false, false, false, false, false, false, false, false] rfl rfl (any_of HT_.out (by kernel_rfl)) (fun _ _ _ h => h) (Or.inl ⟨by rfl, ?_⟩) ?_ ?_
            rotate_left
            · intro w'
              go_simp
              with_reducible rfl
            rotate_left
            · simp only [Act.put, List.setIfInBounds_toArray, List.set_cons_zero, List.set_cons_succ, i64_w, i32_w]
              rfl
            refine pure_ (i := 2) (N := some 32) (v := ?_) (a' := ?_) #[false, true, true, false, false, false, false, false, false, false] rfl rfl (any_of HT_.out (by kernel_rfl)) (fun _ _ _ h => h) (Or.inl ⟨by rfl, ?_⟩) ?_ ?_
            rotate_left
            · intro w'
              go_simp
              with_reducible rfl
            rotate_left
            · simp only [Act.put, List.setIfInBounds_toArray, List.set_cons_zero, List.set_cons_succ, i64_w, i32_w]
              rfl
            refine pure_ (i := 3) (N := some 33) (v := ?_) (a' := ?_) #[false, true, true, true, false, false, false, false, false, false] rfl rfl (any_of HT_.out (by kernel_rfl)) (fun _ _ _ h => h) (Or.inl ⟨by rfl, ?_⟩) ?_ ?_
            rotate_left
            · intro w'
              go_simp
              with_reducible rfl
            rotate_left
            · simp only [Act.put, List.setIfInBounds_toArray, List.set_cons_zero, List.set_cons_succ, i64_w, i32_w]
              rfl
            refine pure_ (i := 5) (N := some 35) (v := ?_) (a' := ?_) #[false, true, true, true, false, true, false, false, false, false] rfl rfl (any_of HT_.out (by kernel_rfl)) (fun _ _ _ h => h) (Or.inl ⟨by rfl, ?_⟩) ?_ ?_
            rotate_left
            · intro w'
              go_simp
              with_reducible rfl
            rotate_left
            · simp only [Act.put, List.setIfInBounds_toArray, List.set_cons_zero, List.set_cons_succ, i64_w, i32_w]
              rfl
            refine pure_ (i := 6) (N := some 36) (v := ?_) (a' := ?_) #[false, true, true, true, false, true, true, false, false, false] rfl rfl (any_of HT_.out (by kernel_rfl)) (fun _ _ _ h => h) (Or.inl ⟨by rfl, ?_⟩) ?_ ?_
            rotate_left
            · intro w'
              go_simp
              with_reducible rfl
            rotate_left
            · simp only [Act.put, List.setIfInBounds_toArray, List.set_cons_zero, List.set_cons_succ, i64_w, i32_w]
              rfl
            refine pure_ (i := 7) (N := some 37) (v := ?_) (a' := ?_) #[false, true, true, true, false, true, true, true, false, false] rfl rfl (any_of HT_.out (by kernel_rfl)) (fun _ _ _ h => h) (Or.inl ⟨by rfl, ?_⟩) ?_ ?_
            rotate_left
            · intro w'
              go_simp
              with_reducible rfl
            rotate_left
            · simp only [Act.put, List.setIfInBounds_toArray, List.set_cons_zero, List.set_cons_succ, i64_w, i32_w]
              rfl
            refine one_ (i := 0) (N := some 30) #[true, true, true, true, false, true, true, true, false, false] rfl rfl (one_of HT_.out (by kernel_rfl)) (by decide) (fun K hK => ?_)
            refine Kd.R_lit_step (Kd.int .i64) _ 3 ?hg (N := 30) ?hd (xs := ([] : List Int)) (inner := []) (ok := fun _ => True) (okp := fun _ => True) ?hr ?hp (fun _ hk => hk) trivial (Below.refl _ _) (Nat.le_refl _) (by simp) ?_; (case hd => rfl); (case hg => rfl); (case hr => first | (go_simp; done) | (go_simp; rfl)); (case hp => exact (Reps.none _ _))
            intro v322 w24 ho25 hb hg_ hnew_
            clear hg_ hnew_
            (first | rw [← Ny321.out] at ho25 | (simp only [Int.reduceToNat] at ho25; rw [← Ny321.out] at ho25))
            have n0_ := Aside0.mk (Kd.R_elder' (by (with_reducible repeat (first | apply Kd.R_alloc | apply Kd.R_drewN | apply Kd.R_drew)); exact HO316.out) (Kd.R_base ho25) hb)
            have n1_ := Aside0.mk (Kd.R_elder' (by (with_reducible repeat (first | apply Kd.R_alloc | apply Kd.R_drewN | apply Kd.R_drew)); exact HO319.out) (Kd.R_base ho25) hb)
            have n2_ := Aside0.mk (Kd.R_lower (Kd.R_new' (Kd.R_new' ho25 (Kd.R_lt (by (with_reducible repeat (first | apply Kd.R_alloc | apply Kd.R_drewN | apply Kd.R_drew)); exact HO316.out))) (Kd.R_lt (by (with_reducible repeat (first | apply Kd.R_alloc | apply Kd.R_drewN | apply Kd.R_drew)); exact HO319.out))) (below_size (by repeat (first | (with_reducible first | exact HB.out | apply below_alloc | apply pw_below_drewN | apply below_drew1 | refine below_set ?_ (IsS58.ge HI313.out)) | exact HB.out))))
            have n3_ := Aside0.mk (IsS58.below (by repeat (first | (with_reducible first | exact HI313.out | apply IsS58.alloc | apply IsS58.drewN | apply IsS58.drew | apply IsS58.set_1) | exact HI313.out)) hb)
            have n4_ := Aside0.mk (Kd.C_below (by repeat (first | (with_reducible exact HR327.out) | (with_reducible refine Kd.C_alloc ?_ _) | (with_reducible refine Kd.C_drewN ?_ _) | (with_reducible refine Kd.C_drew ?_) | exact HR327.out)) hb)
            have n5_ := Aside0.mk (Kd.C_below (by repeat (first | (with_reducible exact HR334.out) | (with_reducible refine Kd.C_alloc ?_ _) | (with_reducible refine Kd.C_drewN ?_ _) | (with_reducible refine Kd.C_drew ?_) | exact HR334.out)) hb)
            have n6_ := Aside0.mk (below_step (by repeat (first | (with_reducible first | exact HB.out | apply below_alloc | apply pw_below_drewN | apply below_drew1 | refine below_set ?_ (IsS58.ge HI313.out)) | exact HB.out)) hb)
            clear HO316
            clear HO319
            clear HI313
            clear HR327
            clear HR334
            clear HB
            have HO316 := n0_
            have HO319 := n1_
            have HO323 := n2_
            have HI313 := n3_
            have HR327 := n4_
            have HR334 := n5_
            have HB := n6_
            clear n0_ n1_ n2_ n3_ n4_ n5_ n6_
            clear hb ho25
            refine hK.out _ _ trivial (fun hHeld => ?_)
            clear hK K
            refine norm_ (a' := ?_) ?_ ?_
            rotate_left
            · show Act.put _ (some 30) _ = _
              simp only [Act.put, List.setIfInBounds_toArray, List.set_cons_zero, List.set_cons_succ, i64_w, i32_w]
              rfl
            refine one_ (i := 4) (N := some 34) #[true, true, true, true, true, true, true, true, false, false] rfl rfl (one_of HT_.out (by kernel_rfl)) (by decide) (fun K hK => ?_)
            refine Kd.R_append_rows_step (Kd.int .i64) (w0 := w) w.heap.size (by rfl) (.tmp 30) (.tmp 33) 22 3 (.int .i64 0) 8 rfl Try.underlying22 info3 rfl (by decide) (by omega) v322 y321 y324 _ _ _ (fun k_ => some k_ ≠ (v315 : Value).ownBlock ∧ some k_ ≠ (.slice Ao20 t317.length co20 : Value).ownBlock) (fun _ => False) rfl rfl ?aO ?aR (fun _ _ h => h) (fun _ h => h.elim) ?aF ?aB ?aS ?aL ?_
            (case aR => repeat (first | exact (by repeat (first | (with_reducible exact HR327.out) | (with_reducible refine Kd.C_alloc ?_ _) | (with_reducible refine Kd.C_drewN ?_ _) | (with_reducible refine Kd.C_drew ?_) | exact HR327.out)) | (with_reducible refine Kd.C_alloc ?_ _) | (with_reducible refine Kd.C_drewN ?_ _) | (with_reducible refine Kd.C_drew ?_)))
            (case aB => exact (by repeat (first | (with_reducible first | exact HB.out | apply below_alloc | apply pw_below_drewN | apply below_drew1 | refine below_set ?_ (IsS58.ge HI313.out)) | exact HB.out)))
            (case aF => exact (fun k_ hk => ⟨Kd.fresh' (Kd.R_lt (by (with_reducible repeat (first | apply Kd.R_alloc | apply Kd.R_drewN | apply Kd.R_drew)); exact HO316.out)) k_ hk, Kd.fresh' (Kd.R_lt (by (with_reducible repeat (first | apply Kd.R_alloc | apply Kd.R_drewN | apply Kd.R_drew)); exact HO319.out)) k_ hk⟩))
            (case aO => exact (by (with_reducible repeat (first | apply Kd.R_alloc | apply Kd.R_drewN | apply Kd.R_drew)); exact Kd.R_mono HO323.out (fun _ hk => ⟨hk.1.2, hk.2⟩)))
            (case aS => exact (below_size (by repeat (first | (with_reducible first | exact HB.out | apply below_alloc | apply pw_below_drewN | apply below_drew1 | refine below_set ?_ (IsS58.ge HI313.out)) | exact HB.out))))
            (case aL => have := LMc9.out; omega)
            intro v329 w26 ho hb hg hat
            rw [← Ny328.out] at ho
            have n0_ := Aside0.mk (IsS58.grown (by repeat (first | (with_reducible first | exact HI313.out | apply IsS58.alloc | apply IsS58.drewN | apply IsS58.drew | apply IsS58.set_1) | exact HI313.out)) hg (IsS58.own_ne HI313.out HO323.out (by decide)))
            have n1_ := Aside0.mk (Kd.R_after (ok := (fun k_ => some k_ ≠ (.slice Ao20 t317.length co20 : Value).ownBlock)) (by (with_reducible repeat (first | apply Kd.R_alloc | apply Kd.R_drewN | apply Kd.R_drew)); exact HO316.out) hg hat)
            have n2_ := Aside0.mk (Kd.R_after (ok := (fun k_ => some k_ ≠ (v315 : Value).ownBlock)) (by (with_reducible repeat (first | apply Kd.R_alloc | apply Kd.R_drewN | apply Kd.R_drew)); exact HO319.out) hg hat)
            have n3_ := Aside0.mk (hb)
            have n4_ := Aside0.mk ((show Kd.C (Kd.int .i64) w26 A22 y324.length y324 from by rw [Ny324.out, KA22.out]; exact Kd.C_drop (m := ((ji6) : Int).toNat) (c := co20) ((Kd.R_reads' (Kd.R_after (ok := (fun k_ => some k_ ≠ (v315 : Value).ownBlock)) (by (with_reducible repeat (first | apply Kd.R_alloc | apply Kd.R_drewN | apply Kd.R_drew)); exact HO319.out) hg hat)).2.2) KL22.out ((Kd.R_reads' (Kd.R_after (ok := (fun k_ => some k_ ≠ (v315 : Value).ownBlock)) (by (with_reducible repeat (first | apply Kd.R_alloc | apply Kd.R_drewN | apply Kd.R_drew)); exact HO319.out) hg hat)).2.1)))
            have n5_ := Aside0.mk ((show Kd.C (Kd.int .i64) w26 Ao20 y331.length y331 from by rw [Ny331.out]; exact Kd.C_take (m := ((ji6) : Int).toNat) ((Kd.R_reads' (Kd.R_after (ok := (fun k_ => some k_ ≠ (v315 : Value).ownBlock)) (by (with_reducible repeat (first | apply Kd.R_alloc | apply Kd.R_drewN | apply Kd.R_drew)); exact HO319.out) hg hat)).2.2) KL23.out))
            have n6_ := Aside0.mk (ho)
            clear HI313
            clear HO316
            clear HO319
            clear HB
            clear HR327
            clear HR334
            clear HO323
            have HI313 := n0_
            have HO316 := n1_
            have HO319 := n2_
            have HB := n3_
            have HR327 := n4_
            have HR334 := n5_
            have HO330 := n6_
            clear n0_ n1_ n2_ n3_ n4_ n5_ n6_
            clear ho hb hg hat
            refine hK.out _ _ trivial (fun hHeld => ?_)
            clear hK K
            refine norm_ (a' := ?_) ?_ ?_
            rotate_left
            · show Act.put _ (some 34) _ = _
              simp only [Act.put, List.setIfInBounds_toArray, List.set_cons_zero, List.set_cons_succ, i64_w, i32_w]
              rfl
            refine one_ (i := 8) (N := some 38) #[true, true, true, true, true, true, true, true, true, false] rfl rfl (one_of HT_.out (by kernel_rfl)) (by decide) (fun K hK => ?_)
            refine Kd.R_append_rows_step (Kd.int .i64) (w0 := w) w.heap.size (by rfl) (.tmp 34) (.tmp 37) 22 3 (.int .i64 0) 8 rfl Try.underlying22 info3 rfl (by decide) (by omega) v329 y328 y331 _ _ _ (fun k_ => some k_ ≠ (v315 : Value).ownBlock ∧ some k_ ≠ (.slice Ao20 t317.length co20 : Value).ownBlock) (fun _ => False) rfl rfl ?aO ?aR (fun _ _ h => h) (fun _ h => h.elim) ?aF ?aB ?aS ?aL ?_
            (case aR => repeat (first | exact (by repeat (first | (with_reducible exact HR334.out) | (with_reducible refine Kd.C_alloc ?_ _) | (with_reducible refine Kd.C_drewN ?_ _) | (with_reducible refine Kd.C_drew ?_) | exact HR334.out)) | (with_reducible refine Kd.C_alloc ?_ _) | (with_reducible refine Kd.C_drewN ?_ _) | (with_reducible refine Kd.C_drew ?_)))
            (case aB => exact (by repeat (first | (with_reducible first | exact HB.out | apply below_alloc | apply pw_below_drewN | apply below_drew1 | refine below_set ?_ (IsS58.ge HI313.out)) | exact HB.out)))
            (case aF => exact (fun k_ hk => ⟨Kd.fresh' (Kd.R_lt (by (with_reducible repeat (first | apply Kd.R_alloc | apply Kd.R_drewN | apply Kd.R_drew)); exact HO316.out)) k_ hk, Kd.fresh' (Kd.R_lt (by (with_reducible repeat (first | apply Kd.R_alloc | apply Kd.R_drewN | apply Kd.R_drew)); exact HO319.out)) k_ hk⟩))
            (case aO => exact (by (with_reducible repeat (first | apply Kd.R_alloc | apply Kd.R_drewN | apply Kd.R_drew)); exact HO330.out))
            (case aS => exact (below_size (by repeat (first | (with_reducible first | exact HB.out | apply below_alloc | apply pw_below_drewN | apply below_drew1 | refine below_set ?_ (IsS58.ge HI313.out)) | exact HB.out))))
            (case aL => have := LMc12.out; omega)
            intro v336 w27 ho hb hg hat
            rw [← Ny335.out] at ho
            have n0_ := Aside0.mk (IsS58.grown (by repeat (first | (with_reducible first | exact HI313.out | apply IsS58.alloc | apply IsS58.drewN | apply IsS58.drew | apply IsS58.set_1) | exact HI313.out)) hg (IsS58.own_ne HI313.out HO330.out (by decide)))
            have n1_ := Aside0.mk (Kd.R_after (ok := (fun k_ => some k_ ≠ (.slice Ao20 t317.length co20 : Value).ownBlock)) (by (with_reducible repeat (first | apply Kd.R_alloc | apply Kd.R_drewN | apply Kd.R_drew)); exact HO316.out) hg hat)
            have n2_ := Aside0.mk (Kd.R_after (ok := (fun k_ => some k_ ≠ (v315 : Value).ownBlock)) (by (with_reducible repeat (first | apply Kd.R_alloc | apply Kd.R_drewN | apply Kd.R_drew)); exact HO319.out) hg hat)
            have n3_ := Aside0.mk (hb)
            have n4_ := Aside0.mk ((show Kd.C (Kd.int .i64) w27 A22 y324.length y324 from by rw [Ny324.out, KA22.out]; exact Kd.C_drop (m := ((ji6) : Int).toNat) (c := co20) ((Kd.R_reads' (Kd.R_after (ok := (fun k_ => some k_ ≠ (v315 : Value).ownBlock)) (by (with_reducible repeat (first | apply Kd.R_alloc | apply Kd.R_drewN | apply Kd.R_drew)); exact HO319.out) hg hat)).2.2) KL22.out ((Kd.R_reads' (Kd.R_after (ok := (fun k_ => some k_ ≠ (v315 : Value).ownBlock)) (by (with_reducible repeat (first | apply Kd.R_alloc | apply Kd.R_drewN | apply Kd.R_drew)); exact HO319.out) hg hat)).2.1)))
            have n5_ := Aside0.mk ((show Kd.C (Kd.int .i64) w27 Ao20 y331.length y331 from by rw [Ny331.out]; exact Kd.C_take (m := ((ji6) : Int).toNat) ((Kd.R_reads' (Kd.R_after (ok := (fun k_ => some k_ ≠ (v315 : Value).ownBlock)) (by (with_reducible repeat (first | apply Kd.R_alloc | apply Kd.R_drewN | apply Kd.R_drew)); exact HO319.out) hg hat)).2.2) KL23.out))
            have n6_ := Aside0.mk (ho)
            clear HI313
            clear HO316
            clear HO319
            clear HB
            clear HR327
            clear HR334
            clear HO330
            have HI313 := n0_
            have HO316 := n1_
            have HO319 := n2_
            have HB := n3_
            have HR327 := n4_
            have HR334 := n5_
            have HO337 := n6_
            clear n0_ n1_ n2_ n3_ n4_ n5_ n6_
            clear ho hb hg hat
            refine hK.out _ _ trivial (fun hHeld => ?_)
            clear hK K
            refine norm_ (a' := ?_) ?_ ?_
            rotate_left
            · show Act.put _ (some 38) _ = _
              simp only [Act.put, List.setIfInBounds_toArray, List.set_cons_zero, List.set_cons_succ, i64_w, i32_w]
              rfl
            refine pure_ (i := 9) (N := some 9) (v := ?_) (a' := ?_) #[true, true, true, true, true, true, true, true, true, true] rfl rfl (any_of HT_.out (by kernel_rfl)) (fun _ _ _ h => h) (Or.inl ⟨by rfl, ?_⟩) ?_ ?_
            rotate_left
            · intro w'
              go_simp
              with_reducible rfl
            rotate_left
            · simp only [Act.put, List.setIfInBounds_toArray, List.set_cons_zero, List.set_cons_succ, i64_w, i32_w]
              rfl
            refine done_ (done_of HT_.out (by kernel_rfl)) ?_
            obtain ⟨Ao28, co28, eo28⟩ := Kd.R_slice HO316.out
            subst eo28
            go_upto_region 9 with (first | ((with_reducible refine gate_callee (f := 11) rfl ?_); refine goesL_ (some 42) rfl rfl Try.func11 (by kernel_rfl) rfl #[.slice Ao28 t314.length co28, .slice Ao20 t317.length co20] rfl (by (try simp only [List.map_toArray, List.map_cons, List.map_nil]); first | done | rfl | (simp only [List.length_drop, List.length_take]; rfl) | ((try rw [KY22.out]); (try rw [KY23.out]); rfl)) ?_; (with_reducible refine (normal_Gap.calls k _ _ t314 _ _ t317 t338 t339 t340 _ ?side1 ?side2 ?side3 ?side4 A13.out).mono ?_); (case side1 => repeat (first | exact (Kd.R_reads' HO316.out).2.2 | (with_reducible refine Kd.C_alloc ?_ _) | (with_reducible refine Kd.C_drewN ?_ _) | (with_reducible refine Kd.C_drew ?_))); (case side2 => exact (Kd.R_reads' HO316.out).2.1); (case side3 => repeat (first | exact (Kd.R_reads' HO319.out).2.2 | (with_reducible refine Kd.C_alloc ?_ _) | (with_reducible refine Kd.C_drewN ?_ _) | (with_reducible refine Kd.C_drew ?_))); (case side4 => exact (Kd.R_reads' HO319.out).2.1); rintro e w29 ⟨rfl, hb⟩; refine ⟨_, rfl, ?_⟩; have n0_ := Aside0.mk (Kd.R_below (by (with_reducible repeat (first | apply Kd.R_alloc | apply Kd.R_drewN | apply Kd.R_drew)); exact HO316.out) hb); have n1_ := Aside0.mk (Kd.R_below (by (with_reducible repeat (first | apply Kd.R_alloc | apply Kd.R_drewN | apply Kd.R_drew)); exact HO319.out) hb); have n2_ := Aside0.mk (Kd.R_below (by (with_reducible repeat (first | apply Kd.R_alloc | apply Kd.R_drewN | apply Kd.R_drew)); exact HO337.out) hb); have n3_ := Aside0.mk (IsS58.below (by repeat (first | (with_reducible first | exact HI313.out | apply IsS58.alloc | apply IsS58.drewN | apply IsS58.drew | apply IsS58.set_1) | exact HI313.out)) hb); have n4_ := Aside0.mk (Kd.C_below (by repeat (first | (with_reducible exact HR327.out) | (with_reducible refine Kd.C_alloc ?_ _) | (with_reducible refine Kd.C_drewN ?_ _) | (with_reducible refine Kd.C_drew ?_) | exact HR327.out)) hb); have n5_ := Aside0.mk (Kd.C_below (by repeat (first | (with_reducible exact HR334.out) | (with_reducible refine Kd.C_alloc ?_ _) | (with_reducible refine Kd.C_drewN ?_ _) | (with_reducible refine Kd.C_drew ?_) | exact HR334.out)) hb); have n6_ := Aside0.mk (below_step (by repeat (first | (with_reducible first | exact HB.out | apply below_alloc | apply pw_below_drewN | apply below_drew1 | refine below_set ?_ (IsS58.ge HI313.out)) | exact HB.out)) hb); clear HO316; clear HO319; clear HO337; clear HI313; clear HR327; clear HR334; clear HB; have HO316 := n0_; have HO319 := n1_; have HO337 := n2_; have HI313 := n3_; have HR327 := n4_; have HR334 := n5_; have HB := n6_; clear n0_ n1_ n2_ n3_ n4_ n5_ n6_; (try clear hb); (try clear hb2); (try clear hk); (try clear hi)) | ((with_reducible refine gate_dst (N := 10) rfl ?_); refine box_event ?hg (N := 10) ?hd (cs := #[.int .i64 0, .int .i64 0]) (t := 29) ?hr ?_; (case hd => rfl); (case hg => rfl); (case hr => first | (go_simp; done) | (go_simp; rfl)); intro gb341 hg w30 hbox hb; have n0_ := Aside0.mk (Kd.R_below (by (with_reducible repeat (first | apply Kd.R_alloc | apply Kd.R_drewN | apply Kd.R_drew)); exact HO316.out) hb); have n1_ := Aside0.mk (Kd.R_below (by (with_reducible repeat (first | apply Kd.R_alloc | apply Kd.R_drewN | apply Kd.R_drew)); exact HO319.out) hb); have n2_ := Aside0.mk (Kd.R_below (by (with_reducible repeat (first | apply Kd.R_alloc | apply Kd.R_drewN | apply Kd.R_drew)); exact HO337.out) hb); have n3_ := Aside0.mk (IsS58.below (by repeat (first | (with_reducible first | exact HI313.out | apply IsS58.alloc | apply IsS58.drewN | apply IsS58.drew | apply IsS58.set_1) | exact HI313.out)) hb); have n4_ := Aside0.mk (Kd.C_below (by repeat (first | (with_reducible exact HR327.out) | (with_reducible refine Kd.C_alloc ?_ _) | (with_reducible refine Kd.C_drewN ?_ _) | (with_reducible refine Kd.C_drew ?_) | exact HR327.out)) hb); have n5_ := Aside0.mk (Kd.C_below (by repeat (first | (with_reducible exact HR334.out) | (with_reducible refine Kd.C_alloc ?_ _) | (with_reducible refine Kd.C_drewN ?_ _) | (with_reducible refine Kd.C_drew ?_) | exact HR334.out)) hb); have n6_ := Aside0.mk (below_step (by repeat (first | (with_reducible first | exact HB.out | apply below_alloc | apply pw_below_drewN | apply below_drew1 | refine below_set ?_ (IsS58.ge HI313.out)) | exact HB.out)) hb); have n7_ := Aside0.mk (hbox); have n8_ := Aside0.mk ((by rw [hg]; exact (below_size (by repeat (first | (with_reducible first | exact HB.out | apply below_alloc | apply pw_below_drewN | apply below_drew1 | refine below_set ?_ (IsS58.ge HI313.out)) | exact HB.out))) : w.heap.size ≤ gb341)); have n9_ := Aside0.mk ((by rw [hg]; exact (below_size (by repeat (first | (with_reducible first | exact HB.out | apply below_alloc | apply pw_below_drewN | apply below_drew1 | refine below_set ?_ (IsS58.ge HI313.out)) | exact HB.out))) : w.heap.size ≤ gb341)); have n10_ := Aside0.mk ((by rw [hg]; exact Nat.ne_of_lt (IsS58.lt (show IsS58 w _ g313 t311 t320 from by repeat (first | (with_reducible first | exact HI313.out | apply IsS58.alloc | apply IsS58.drewN | apply IsS58.drew | apply IsS58.set_1) | exact HI313.out))) : g313 ≠ gb341)); have n11_ := Aside0.mk ((by rw [hg]; exact Nat.ne_of_gt (IsS58.lt (show IsS58 w _ g313 t311 t320 from by repeat (first | (with_reducible first | exact HI313.out | apply IsS58.alloc | apply IsS58.drewN | apply IsS58.drew | apply IsS58.set_1) | exact HI313.out))) : gb341 ≠ g313)); clear HO316; clear HO319; clear HO337; clear HI313; clear HR327; clear HR334; clear HB; have HO316 := n0_; have HO319 := n1_; have HO337 := n2_; have HI313 := n3_; have HR327 := n4_; have HR334 := n5_; have HB := n6_; have BK341 := n7_; have GW341 := n8_; have GE341 := n9_; have NB313_341 := n10_; have NB341_313 := n11_; clear n0_ n1_ n2_ n3_ n4_ n5_ n6_ n7_ n8_ n9_ n10_ n11_; clear hb hbox hg; have hnb31 := NB341_313.out; have hnc31 := NB313_341.out; have hcz32_0 : w30.cell? ⟨gb341, 0, none⟩ = some (.int .i64 0) := (blk_cell BK341.out 0).trans rfl; have hcz32_1 : w30.cell? ⟨gb341, 1, none⟩ = some (.int .i64 0) := (blk_cell BK341.out 1).trans rfl; have hfz32_0 := blk_frozen BK341.out 0; have hfz32_1 := blk_frozen BK341.out 1; obtain ⟨Ao33, co33, eo33⟩ := Kd.R_slice HO337.out; subst eo33) | ((with_reducible refine gate_callee (f := 11) rfl ?_); refine goesL_ (some 48) rfl rfl Try.func11 (by kernel_rfl) rfl #[.slice Ao28 t314.length co28, .slice Ao33 y335.length co33] rfl (by (try simp only [List.map_toArray, List.map_cons, List.map_nil]); first | done | rfl | (simp only [List.length_drop, List.length_take]; rfl) | ((try rw [KY22.out]); (try rw [KY23.out]); rfl)) ?_; (with_reducible refine (normal_Gap.calls k _ _ t314 _ _ y335 t342 t343 t344 _ ?side1 ?side2 ?side3 ?side4 A14.out).mono ?_); (case side1 => refine (Kd.R_reads' (e := 3) (base := w.heap.size) (ok := fun k_ => (some k_ ≠ (.slice Ao20 t317.length co20 : Value).ownBlock ∧ some k_ ≠ (.slice Ao33 y335.length co33 : Value).ownBlock)) (n := t314.length) (c := co28) ?_).2.2; exact (by (with_reducible repeat (first | apply Kd.R_alloc | apply Kd.R_drewN | apply Kd.R_drew)); exact (Kd.R_mono (Kd.R_far (p := ⟨gb341, 1, none⟩) (Kd.R_far (p := ⟨gb341, 0, none⟩) (Kd.R_types HO316.out BK341.out (by decide)) (fun _ hk => hk.2) (.int .i64 t338)) (fun _ hk => hk.2) (.int .i64 t339)) (fun _ h_ => h_.1)))); (case side2 => exact (Kd.R_reads' HO316.out).2.1); (case side3 => refine (Kd.R_reads' (e := 3) (base := w.heap.size) (ok := fun k_ => (some k_ ≠ (.slice Ao28 t314.length co28 : Value).ownBlock ∧ some k_ ≠ (.slice Ao20 t317.length co20 : Value).ownBlock)) (n := y335.length) (c := co33) ?_).2.2; exact (by (with_reducible repeat (first | apply Kd.R_alloc | apply Kd.R_drewN | apply Kd.R_drew)); exact (Kd.R_mono (Kd.R_far (p := ⟨gb341, 1, none⟩) (Kd.R_far (p := ⟨gb341, 0, none⟩) (Kd.R_types HO337.out BK341.out (by decide)) (fun _ hk => hk.2) (.int .i64 t338)) (fun _ hk => hk.2) (.int .i64 t339)) (fun _ h_ => h_.1)))); (case side4 => exact (Kd.R_reads' HO337.out).2.1); rintro e w34 ⟨rfl, hb⟩; refine ⟨_, rfl, ?_⟩; have n0_ := Aside0.mk (Kd.R_below (by (with_reducible repeat (first | apply Kd.R_alloc | apply Kd.R_drewN | apply Kd.R_drew)); exact (Kd.R_mono (Kd.R_far (p := ⟨gb341, 1, none⟩) (Kd.R_far (p := ⟨gb341, 0, none⟩) (Kd.R_types HO316.out BK341.out (by decide)) (fun _ hk => hk.2) (.int .i64 t338)) (fun _ hk => hk.2) (.int .i64 t339)) (fun _ h_ => h_.1))) hb); have n1_ := Aside0.mk (Kd.R_below (by (with_reducible repeat (first | apply Kd.R_alloc | apply Kd.R_drewN | apply Kd.R_drew)); exact (Kd.R_mono (Kd.R_far (p := ⟨gb341, 1, none⟩) (Kd.R_far (p := ⟨gb341, 0, none⟩) (Kd.R_types HO319.out BK341.out (by decide)) (fun _ hk => hk.2) (.int .i64 t338)) (fun _ hk => hk.2) (.int .i64 t339)) (fun _ h_ => h_.1))) hb); have n2_ := Aside0.mk (Kd.R_below (by (with_reducible repeat (first | apply Kd.R_alloc | apply Kd.R_drewN | apply Kd.R_drew)); exact (Kd.R_mono (Kd.R_far (p := ⟨gb341, 1, none⟩) (Kd.R_far (p := ⟨gb341, 0, none⟩) (Kd.R_types HO337.out BK341.out (by decide)) (fun _ hk => hk.2) (.int .i64 t338)) (fun _ hk => hk.2) (.int .i64 t339)) (fun _ h_ => h_.1))) hb); have n3_ := Aside0.mk (IsS58.below (show IsS58 w ((w30.setCell ⟨gb341, 0, none⟩ (.int .i64 t338)).setCell ⟨gb341, 1, none⟩ (.int .i64 t339)) g313 t311 t320 from by repeat (first | (with_reducible first | exact HI313.out | apply IsS58.alloc | apply IsS58.drewN | apply IsS58.drew | apply IsS58.set_1 | refine IsS58.far ?_ NB313_341.out _) | exact HI313.out)) hb); have n4_ := Aside0.mk (blk_below (g := gb341) (o := .cells #[.int .i64 t338, .int .i64 t339] 29 (0, 0)) (by (with_reducible repeat (first | refine blk_drewN ?_ _ | refine blk_drew ?_ | refine blk_alloc ?_ _)); refine blk_put (cs := #[.int .i64 t338, .int .i64 0]) ?_ 1 _ rfl; (with_reducible repeat (first | refine blk_drewN ?_ _ | refine blk_drew ?_ | refine blk_alloc ?_ _)); refine blk_put (cs := #[.int .i64 0, .int .i64 0]) ?_ 0 _ rfl; (with_reducible repeat (first | refine blk_drewN ?_ _ | refine blk_drew ?_ | refine blk_alloc ?_ _)); exact BK341.out) hb); have n5_ := Aside0.mk (below_step (by repeat (first | (with_reducible first | exact HB.out | apply below_alloc | apply pw_below_drewN | apply below_drew1 | refine below_set ?_ (IsS58.ge HI313.out) | refine below_set ?_ GE341.out) | exact HB.out)) hb); clear HO316; clear HO319; clear HO337; clear HI313; clear BK341; clear HB; have HO316 := n0_; have HO319 := n1_; have HO337 := n2_; have HI313 := n3_; have BK341 := n4_; have HB := n5_; clear n0_ n1_ n2_ n3_ n4_ n5_; (try clear hb); (try clear hb2); (try clear hk); (try clear hi)) | ((with_reducible refine gate_dst (N := 12) rfl ?_); refine box_event ?hg (N := 12) ?hd (cs := #[.int .i64 0, .int .i64 0]) (t := 29) ?hr ?_; (case hd => rfl); (case hg => rfl); (case hr => first | (go_simp; done) | (go_simp; rfl)); intro gb345 hg w35 hbox hb; have n0_ := Aside0.mk (Kd.R_below (by (with_reducible repeat (first | apply Kd.R_alloc | apply Kd.R_drewN | apply Kd.R_drew)); exact HO316.out) hb); have n1_ := Aside0.mk (Kd.R_below (by (with_reducible repeat (first | apply Kd.R_alloc | apply Kd.R_drewN | apply Kd.R_drew)); exact HO319.out) hb); have n2_ := Aside0.mk (Kd.R_below (by (with_reducible repeat (first | apply Kd.R_alloc | apply Kd.R_drewN | apply Kd.R_drew)); exact HO337.out) hb); have n3_ := Aside0.mk (IsS58.below (by repeat (first | (with_reducible first | exact HI313.out | apply IsS58.alloc | apply IsS58.drewN | apply IsS58.drew | apply IsS58.set_1 | refine IsS58.far ?_ NB313_341.out _) | exact HI313.out)) hb); have n4_ := Aside0.mk (blk_below (g := gb341) (o := .cells #[.int .i64 t338, .int .i64 t339] 29 (0, 0)) (by (with_reducible repeat (first | refine blk_drewN ?_ _ | refine blk_drew ?_ | refine blk_alloc ?_ _)); exact BK341.out) hb); have n5_ := Aside0.mk (below_step (by repeat (first | (with_reducible first | exact HB.out | apply below_alloc | apply pw_below_drewN | apply below_drew1 | refine below_set ?_ (IsS58.ge HI313.out) | refine below_set ?_ GE341.out) | exact HB.out)) hb); have n6_ := Aside0.mk (hbox); have n7_ := Aside0.mk ((by rw [hg]; exact (below_size (by repeat (first | (with_reducible first | exact HB.out | apply below_alloc | apply pw_below_drewN | apply below_drew1 | refine below_set ?_ (IsS58.ge HI313.out) | refine below_set ?_ GE341.out) | exact HB.out))) : w.heap.size ≤ gb345)); have n8_ := Aside0.mk ((by rw [hg]; exact (below_size (by repeat (first | (with_reducible first | exact HB.out | apply below_alloc | apply pw_below_drewN | apply below_drew1 | refine below_set ?_ (IsS58.ge HI313.out) | refine below_set ?_ GE341.out) | exact HB.out))) : w.heap.size ≤ gb345)); have n9_ := Aside0.mk ((by rw [hg]; exact Nat.ne_of_lt (blk_lt (g := gb341) (o := .cells #[.int .i64 t338, .int .i64 t339] 29 (0, 0)) (by (with_reducible repeat (first | refine blk_drewN ?_ _ | refine blk_drew ?_ | refine blk_alloc ?_ _)); exact BK341.out)) : gb341 ≠ gb345)); have n10_ := Aside0.mk ((by rw [hg]; exact Nat.ne_of_gt (blk_lt (g := gb341) (o := .cells #[.int .i64 t338, .int .i64 t339] 29 (0, 0)) (by (with_reducible repeat (first | refine blk_drewN ?_ _ | refine blk_drew ?_ | refine blk_alloc ?_ _)); exact BK341.out)) : gb345 ≠ gb341)); have n11_ := Aside0.mk ((by rw [hg]; exact Nat.ne_of_lt (IsS58.lt (show IsS58 w _ g313 t311 t320 from by repeat (first | (with_reducible first | exact HI313.out | apply IsS58.alloc | apply IsS58.drewN | apply IsS58.drew | apply IsS58.set_1 | refine IsS58.far ?_ NB313_341.out _) | exact HI313.out))) : g313 ≠ gb345)); have n12_ := Aside0.mk ((by rw [hg]; exact Nat.ne_of_gt (IsS58.lt (show IsS58 w _ g313 t311 t320 from by repeat (first | (with_reducible first | exact HI313.out | apply IsS58.alloc | apply IsS58.drewN | apply IsS58.drew | apply IsS58.set_1 | refine IsS58.far ?_ NB313_341.out _) | exact HI313.out))) : gb345 ≠ g313)); clear HO316; clear HO319; clear HO337; clear HI313; clear BK341; clear HB; have HO316 := n0_; have HO319 := n1_; have HO337 := n2_; have HI313 := n3_; have BK341 := n4_; have HB := n5_; have BK345 := n6_; have GW345 := n7_; have GE345 := n8_; have NB341_345 := n9_; have NB345_341 := n10_; have NB313_345 := n11_; have NB345_313 := n12_; clear n0_ n1_ n2_ n3_ n4_ n5_ n6_ n7_ n8_ n9_ n10_ n11_ n12_; clear hb hbox hg; have hnb36 := NB345_341.out; have hnc36 := NB341_345.out; have hnb37 := NB345_313.out; have hnc37 := NB313_345.out; have hcz38_0 : w35.cell? ⟨gb345, 0, none⟩ = some (.int .i64 0) := (blk_cell BK345.out 0).trans rfl; have hcz38_1 : w35.cell? ⟨gb345, 1, none⟩ = some (.int .i64 0) := (blk_cell BK345.out 1).trans rfl; have hfz38_0 := blk_frozen BK345.out 0; have hfz38_1 := blk_frozen BK345.out 1) | ((with_reducible refine gate_callee (f := 15) rfl ?_); refine goesL_ (some 54) rfl rfl Try.func15 (by kernel_rfl) rfl #[.slice Ao28 t314.length co28, .slice Ao20 t317.length co20] rfl (by (try simp only [List.map_toArray, List.map_cons, List.map_nil]); first | done | rfl | (simp only [List.length_drop, List.length_take]; rfl) | ((try rw [KY22.out]); (try rw [KY23.out]); rfl)) ?_; (with_reducible refine (normal_Product.calls k _ _ t314 _ _ t317 t346 t347 _ ?side1 ?side2 ?side3 ?side4 A15.out).mono ?_); (case side1 => refine (Kd.R_reads' (e := 3) (base := w.heap.size) (ok := fun k_ => (some k_ ≠ (.slice Ao20 t317.length co20 : Value).ownBlock ∧ some k_ ≠ (.slice Ao33 y335.length co33 : Value).ownBlock)) (n := t314.length) (c := co28) ?_).2.2; exact (by (with_reducible repeat (first | apply Kd.R_alloc | apply Kd.R_drewN | apply Kd.R_drew)); exact (Kd.R_mono (Kd.R_far (p := ⟨gb345, 1, none⟩) (Kd.R_far (p := ⟨gb345, 0, none⟩) (Kd.R_types HO316.out BK345.out (by decide)) (fun _ hk => hk.2) (.int .i64 t342)) (fun _ hk => hk.2) (.int .i64 t343)) (fun _ h_ => h_.1)))); (case side2 => exact (Kd.R_reads' HO316.out).2.1); (case side3 => refine (Kd.R_reads' (e := 3) (base := w.heap.size) (ok := fun k_ => (some k_ ≠ (.slice Ao28 t314.length co28 : Value).ownBlock ∧ some k_ ≠ (.slice Ao33 y335.length co33 : Value).ownBlock)) (n := t317.length) (c := co20) ?_).2.2; exact (by (with_reducible repeat (first | apply Kd.R_alloc | apply Kd.R_drewN | apply Kd.R_drew)); exact (Kd.R_mono (Kd.R_far (p := ⟨gb345, 1, none⟩) (Kd.R_far (p := ⟨gb345, 0, none⟩) (Kd.R_types HO319.out BK345.out (by decide)) (fun _ hk => hk.2) (.int .i64 t342)) (fun _ hk => hk.2) (.int .i64 t343)) (fun _ h_ => h_.1)))); (case side4 => exact (Kd.R_reads' HO319.out).2.1); rintro e w' ⟨rfl, ⟨nd, rfl⟩⟩; refine ⟨_, rfl, ?_⟩) | ((with_reducible refine gate_callee (f := 15) rfl ?_); refine goesL_ (some 60) rfl rfl Try.func15 (by kernel_rfl) rfl #[.slice Ao28 t314.length co28, .slice Ao33 y335.length co33] rfl (by (try simp only [List.map_toArray, List.map_cons, List.map_nil]); first | done | rfl | (simp only [List.length_drop, List.length_take]; rfl) | ((try rw [KY22.out]); (try rw [KY23.out]); rfl)) ?_; (with_reducible refine (normal_Product.calls k _ _ t314 _ _ y335 t348 t349 _ ?side1 ?side2 ?side3 ?side4 A16.out).mono ?_); (case side1 => refine (Kd.R_reads' (e := 3) (base := w.heap.size) (ok := fun k_ => (some k_ ≠ (.slice Ao20 t317.length co20 : Value).ownBlock ∧ some k_ ≠ (.slice Ao33 y335.length co33 : Value).ownBlock)) (n := t314.length) (c := co28) ?_).2.2; exact (by (with_reducible repeat (first | apply Kd.R_alloc | apply Kd.R_drewN | apply Kd.R_drew)); exact (Kd.R_mono (Kd.R_far (p := ⟨gb345, 1, none⟩) (Kd.R_far (p := ⟨gb345, 0, none⟩) (Kd.R_types HO316.out BK345.out (by decide)) (fun _ hk => hk.2) (.int .i64 t342)) (fun _ hk => hk.2) (.int .i64 t343)) (fun _ h_ => h_.1)))); (case side2 => exact (Kd.R_reads' HO316.out).2.1); (case side3 => refine (Kd.R_reads' (e := 3) (base := w.heap.size) (ok := fun k_ => (some k_ ≠ (.slice Ao28 t314.length co28 : Value).ownBlock ∧ some k_ ≠ (.slice Ao20 t317.length co20 : Value).ownBlock)) (n := y335.length) (c := co33) ?_).2.2; exact (by (with_reducible repeat (first | apply Kd.R_alloc | apply Kd.R_drewN | apply Kd.R_drew)); exact (Kd.R_mono (Kd.R_far (p := ⟨gb345, 1, none⟩) (Kd.R_far (p := ⟨gb345, 0, none⟩) (Kd.R_types HO337.out BK345.out (by decide)) (fun _ hk => hk.2) (.int .i64 t342)) (fun _ hk => hk.2) (.int .i64 t343)) (fun _ h_ => h_.1)))); (case side4 => exact (Kd.R_reads' HO337.out).2.1); rintro e w' ⟨rfl, ⟨nd, rfl⟩⟩; refine ⟨_, rfl, ?_⟩))
            (try simp only [Act.put, List.setIfInBounds_toArray, List.set_cons_zero, List.set_cons_succ])
            go_cut [86] (fun v86 wc => ∃ (kq : Nat) (x86_16 : Bool), v86 = .bool x86_16 ∧ Aside0 (shapesearchlaw13_NormalOrders.j0 kq t340 t344 t346 t347 t348 t349 x86_16 t338 t339 t342 t343 = some r) ∧ Aside0 (kq ≤ k) ∧ Aside0 (wc.heap[gb341]? = some (.cells #[.int .i64 t338, .int .i64 t339] 29 (0, 0))) ∧ Aside0 (wc.heap[gb345]? = some (.cells #[.int .i64 t342, .int .i64 t343] 29 (0, 0))) ∧ Aside0 (Below w.heap.size w wc))
            case first =>
              have H := HC17.out
              clear HC17
              by_cases c39 : t340 = 0
              · rw [if_pos c39] at H
                have c39b0 : (t340 == 0) = true := beq_iff_eq.mpr c39
                have c39b1 : (t340 != 0) = false := bne_eq_false_iff_eq.mpr c39
                clear c39
                (first | rw [c39b0] | (simp only [i64_w, i32_w]; rw [c39b0]) | skip)
                by_cases c40 : t344 = 0
                · rw [if_pos c40] at H
                  have c40b0 : (t344 == 0) = true := beq_iff_eq.mpr c40
                  have c40b1 : (t344 != 0) = false := bne_eq_false_iff_eq.mpr c40
                  clear c40
                  by_cases c41 : t347 = 0
                  · rw [if_pos c41] at H
                    have c41b0 : (t347 == 0) = true := beq_iff_eq.mpr c41
                    have c41b1 : (t347 != 0) = false := bne_eq_false_iff_eq.mpr c41
                    clear c41
                    by_cases c42 : t349 = 0
                    · rw [if_pos c42] at H
                      have c42b0 : (t349 == 0) = true := beq_iff_eq.mpr c42
                      have c42b1 : (t349 != 0) = false := bne_eq_false_iff_eq.mpr c42
                      clear c42
                      replace H := Option.bind_eq_some_iff.mp H
                      obtain ⟨t350, A430, H⟩ := H
                      replace H : (if t350 = true then ((shapesearchlaw13_spread.f k t317).bind fun t351 => (shapesearchlaw13_NormalOrders.j0 k t340 t344 t346 t347 t348 t349 (!t351) t338 t339 t342 t343)) else (shapesearchlaw13_NormalOrders.j0 k t340 t344 t346 t347 t348 t349 true t338 t339 t342 t343)) = some r := H
                      have A43 := Aside0.mk A430
                      clear A430
                      by_cases c44 : t350 = true
                      · subst c44
                        have H1 : ((shapesearchlaw13_spread.f k t317).bind fun t351 => (shapesearchlaw13_NormalOrders.j0 k t340 t344 t346 t347 t348 t349 (!t351) t338 t339 t342 t343)) = some r := by rw [if_pos rfl] at H; exact H
                        clear H
                        have H := H1
                        clear H1
                        replace H := Option.bind_eq_some_iff.mp H
                        obtain ⟨t351, A450, H⟩ := H
                        replace H : (shapesearchlaw13_NormalOrders.j0 k t340 t344 t346 t347 t348 t349 (!t351) t338 t339 t342 t343) = some r := H
                        have A45 := Aside0.mk A450
                        clear A450
                        have H' := Aside0.mk H
                        clear H
                        go_wp2_with (first | (go_at_call 12; (with_reducible refine (shapesearchlaw13_spread.calls k _ _ t314 true _ ?side1 ?side2 A43.out).mono ?_); (case side1 => refine (Kd.R_reads' (e := 3) (base := w.heap.size) (ok := fun k_ => (some k_ ≠ (.slice Ao20 t317.length co20 : Value).ownBlock ∧ some k_ ≠ (.slice Ao33 y335.length co33 : Value).ownBlock)) (n := t314.length) (c := co28) ?_).2.2; exact (by (with_reducible repeat (first | apply Kd.R_alloc | apply Kd.R_drewN | apply Kd.R_drew)); exact (Kd.R_mono (Kd.R_far (p := ⟨gb345, 1, none⟩) (Kd.R_far (p := ⟨gb345, 0, none⟩) (Kd.R_types HO316.out BK345.out (by decide)) (fun _ hk => hk.2) (.int .i64 t342)) (fun _ hk => hk.2) (.int .i64 t343)) (fun _ h_ => h_.1)))); (case side2 => exact (Kd.R_reads' HO316.out).2.1); rintro e w' ⟨rfl, ⟨nd, rfl⟩⟩) | (go_at_call 12; (with_reducible refine (shapesearchlaw13_spread.calls k _ _ t317 t351 _ ?side1 ?side2 A45.out).mono ?_); (case side1 => refine (Kd.R_reads' (e := 3) (base := w.heap.size) (ok := fun k_ => (some k_ ≠ (.slice Ao28 t314.length co28 : Value).ownBlock ∧ some k_ ≠ (.slice Ao33 y335.length co33 : Value).ownBlock)) (n := t317.length) (c := co20) ?_).2.2; exact (by (with_reducible repeat (first | apply Kd.R_alloc | apply Kd.R_drewN | apply Kd.R_drew)); exact (Kd.R_mono (Kd.R_far (p := ⟨gb345, 1, none⟩) (Kd.R_far (p := ⟨gb345, 0, none⟩) (Kd.R_types HO319.out BK345.out (by decide)) (fun _ hk => hk.2) (.int .i64 t342)) (fun _ hk => hk.2) (.int .i64 t343)) (fun _ h_ => h_.1)))); (case side2 => exact (Kd.R_reads' HO319.out).2.1); rintro e w' ⟨rfl, ⟨nd, rfl⟩⟩))
                        go_meet
                        case rel => exact ⟨_, (!t351), (by first | rfl | (simp; done) | (simp [*]; done)), H', ⟨by first | omega | exact Nat.le_refl _⟩, ⟨by (with_reducible repeat (first | refine blk_drewN ?_ _ | refine blk_drew ?_ | refine blk_alloc ?_ _)); refine blk_far ?_ NB341_345.out _; (with_reducible repeat (first | refine blk_drewN ?_ _ | refine blk_drew ?_ | refine blk_alloc ?_ _)); refine blk_far ?_ NB341_345.out _; (with_reducible repeat (first | refine blk_drewN ?_ _ | refine blk_drew ?_ | refine blk_alloc ?_ _)); exact BK341.out⟩, ⟨by (with_reducible repeat (first | refine blk_drewN ?_ _ | refine blk_drew ?_ | refine blk_alloc ?_ _)); refine blk_put (cs := #[.int .i64 t342, .int .i64 0]) ?_ 1 _ rfl; (with_reducible repeat (first | refine blk_drewN ?_ _ | refine blk_drew ?_ | refine blk_alloc ?_ _)); refine blk_put (cs := #[.int .i64 0, .int .i64 0]) ?_ 0 _ rfl; (with_reducible repeat (first | refine blk_drewN ?_ _ | refine blk_drew ?_ | refine blk_alloc ?_ _)); exact BK345.out⟩, ⟨by repeat (first | (with_reducible first | exact HB.out | apply below_alloc | apply pw_below_drewN | apply below_drew1 | refine below_set ?_ (IsS58.ge HI313.out) | refine below_set ?_ GE341.out | refine below_set ?_ GE345.out) | exact HB.out)⟩⟩
                      · replace c44 := Bool.eq_false_iff.mpr c44
                        subst c44
                        have H1 : (shapesearchlaw13_NormalOrders.j0 k t340 t344 t346 t347 t348 t349 true t338 t339 t342 t343) = some r := by rw [if_neg (show ¬ (false = true) by decide)] at H; exact H
                        clear H
                        have H := H1
                        clear H1
                        have H' := Aside0.mk H
                        clear H
                        go_wp2_with (first | (go_at_call 12; (with_reducible refine (shapesearchlaw13_spread.calls k _ _ t314 false _ ?side1 ?side2 A43.out).mono ?_); (case side1 => refine (Kd.R_reads' (e := 3) (base := w.heap.size) (ok := fun k_ => (some k_ ≠ (.slice Ao20 t317.length co20 : Value).ownBlock ∧ some k_ ≠ (.slice Ao33 y335.length co33 : Value).ownBlock)) (n := t314.length) (c := co28) ?_).2.2; exact (by (with_reducible repeat (first | apply Kd.R_alloc | apply Kd.R_drewN | apply Kd.R_drew)); exact (Kd.R_mono (Kd.R_far (p := ⟨gb345, 1, none⟩) (Kd.R_far (p := ⟨gb345, 0, none⟩) (Kd.R_types HO316.out BK345.out (by decide)) (fun _ hk => hk.2) (.int .i64 t342)) (fun _ hk => hk.2) (.int .i64 t343)) (fun _ h_ => h_.1)))); (case side2 => exact (Kd.R_reads' HO316.out).2.1); rintro e w' ⟨rfl, ⟨nd, rfl⟩⟩))
                        go_meet
                        case rel => exact ⟨_, (true), (by first | rfl | (simp; done) | (simp [*]; done)), H', ⟨by first | omega | exact Nat.le_refl _⟩, ⟨by (with_reducible repeat (first | refine blk_drewN ?_ _ | refine blk_drew ?_ | refine blk_alloc ?_ _)); refine blk_far ?_ NB341_345.out _; (with_reducible repeat (first | refine blk_drewN ?_ _ | refine blk_drew ?_ | refine blk_alloc ?_ _)); refine blk_far ?_ NB341_345.out _; (with_reducible repeat (first | refine blk_drewN ?_ _ | refine blk_drew ?_ | refine blk_alloc ?_ _)); exact BK341.out⟩, ⟨by (with_reducible repeat (first | refine blk_drewN ?_ _ | refine blk_drew ?_ | refine blk_alloc ?_ _)); refine blk_put (cs := #[.int .i64 t342, .int .i64 0]) ?_ 1 _ rfl; (with_reducible repeat (first | refine blk_drewN ?_ _ | refine blk_drew ?_ | refine blk_alloc ?_ _)); refine blk_put (cs := #[.int .i64 0, .int .i64 0]) ?_ 0 _ rfl; (with_reducible repeat (first | refine blk_drewN ?_ _ | refine blk_drew ?_ | refine blk_alloc ?_ _)); exact BK345.out⟩, ⟨by repeat (first | (with_reducible first | exact HB.out | apply below_alloc | apply pw_below_drewN | apply below_drew1 | refine below_set ?_ (IsS58.ge HI313.out) | refine below_set ?_ GE341.out | refine below_set ?_ GE345.out) | exact HB.out)⟩⟩
                    · rw [if_neg c42] at H
                      have c42b0 : (t349 == 0) = false := beq_eq_false_iff_ne.mpr c42
                      have c42b1 : (t349 != 0) = true := bne_iff_ne.mpr c42
                      have H' := Aside0.mk H
                      clear H
                      go_wp2
                      go_meet
                      case rel => exact ⟨_, (true), (by first | rfl | (simp; done) | (simp [*]; done)), H', ⟨by first | omega | exact Nat.le_refl _⟩, ⟨by (with_reducible repeat (first | refine blk_drewN ?_ _ | refine blk_drew ?_ | refine blk_alloc ?_ _)); refine blk_far ?_ NB341_345.out _; (with_reducible repeat (first | refine blk_drewN ?_ _ | refine blk_drew ?_ | refine blk_alloc ?_ _)); refine blk_far ?_ NB341_345.out _; (with_reducible repeat (first | refine blk_drewN ?_ _ | refine blk_drew ?_ | refine blk_alloc ?_ _)); exact BK341.out⟩, ⟨by (with_reducible repeat (first | refine blk_drewN ?_ _ | refine blk_drew ?_ | refine blk_alloc ?_ _)); refine blk_put (cs := #[.int .i64 t342, .int .i64 0]) ?_ 1 _ rfl; (with_reducible repeat (first | refine blk_drewN ?_ _ | refine blk_drew ?_ | refine blk_alloc ?_ _)); refine blk_put (cs := #[.int .i64 0, .int .i64 0]) ?_ 0 _ rfl; (with_reducible repeat (first | refine blk_drewN ?_ _ | refine blk_drew ?_ | refine blk_alloc ?_ _)); exact BK345.out⟩, ⟨by repeat (first | (with_reducible first | exact HB.out | apply below_alloc | apply pw_below_drewN | apply below_drew1 | refine below_set ?_ (IsS58.ge HI313.out) | refine below_set ?_ GE341.out | refine below_set ?_ GE345.out) | exact HB.out)⟩⟩
                  · rw [if_neg c41] at H
                    have c41b0 : (t347 == 0) = false := beq_eq_false_iff_ne.mpr c41
                    have c41b1 : (t347 != 0) = true := bne_iff_ne.mpr c41
                    have H' := Aside0.mk H
                    clear H
                    go_wp2
                    go_meet
                    case rel => exact ⟨_, (true), (by first | rfl | (simp; done) | (simp [*]; done)), H', ⟨by first | omega | exact Nat.le_refl _⟩, ⟨by (with_reducible repeat (first | refine blk_drewN ?_ _ | refine blk_drew ?_ | refine blk_alloc ?_ _)); refine blk_far ?_ NB341_345.out _; (with_reducible repeat (first | refine blk_drewN ?_ _ | refine blk_drew ?_ | refine blk_alloc ?_ _)); refine blk_far ?_ NB341_345.out _; (with_reducible repeat (first | refine blk_drewN ?_ _ | refine blk_drew ?_ | refine blk_alloc ?_ _)); exact BK341.out⟩, ⟨by (with_reducible repeat (first | refine blk_drewN ?_ _ | refine blk_drew ?_ | refine blk_alloc ?_ _)); refine blk_put (cs := #[.int .i64 t342, .int .i64 0]) ?_ 1 _ rfl; (with_reducible repeat (first | refine blk_drewN ?_ _ | refine blk_drew ?_ | refine blk_alloc ?_ _)); refine blk_put (cs := #[.int .i64 0, .int .i64 0]) ?_ 0 _ rfl; (with_reducible repeat (first | refine blk_drewN ?_ _ | refine blk_drew ?_ | refine blk_alloc ?_ _)); exact BK345.out⟩, ⟨by repeat (first | (with_reducible first | exact HB.out | apply below_alloc | apply pw_below_drewN | apply below_drew1 | refine below_set ?_ (IsS58.ge HI313.out) | refine below_set ?_ GE341.out | refine below_set ?_ GE345.out) | exact HB.out)⟩⟩
                · rw [if_neg c40] at H
                  have c40b0 : (t344 == 0) = false := beq_eq_false_iff_ne.mpr c40
                  have c40b1 : (t344 != 0) = true := bne_iff_ne.mpr c40
                  have H' := Aside0.mk H
                  clear H
                  go_wp2
                  go_meet
                  case rel => exact ⟨_, (true), (by first | rfl | (simp; done) | (simp [*]; done)), H', ⟨by first | omega | exact Nat.le_refl _⟩, ⟨by (with_reducible repeat (first | refine blk_drewN ?_ _ | refine blk_drew ?_ | refine blk_alloc ?_ _)); refine blk_far ?_ NB341_345.out _; (with_reducible repeat (first | refine blk_drewN ?_ _ | refine blk_drew ?_ | refine blk_alloc ?_ _)); refine blk_far ?_ NB341_345.out _; (with_reducible repeat (first | refine blk_drewN ?_ _ | refine blk_drew ?_ | refine blk_alloc ?_ _)); exact BK341.out⟩, ⟨by (with_reducible repeat (first | refine blk_drewN ?_ _ | refine blk_drew ?_ | refine blk_alloc ?_ _)); refine blk_put (cs := #[.int .i64 t342, .int .i64 0]) ?_ 1 _ rfl; (with_reducible repeat (first | refine blk_drewN ?_ _ | refine blk_drew ?_ | refine blk_alloc ?_ _)); refine blk_put (cs := #[.int .i64 0, .int .i64 0]) ?_ 0 _ rfl; (with_reducible repeat (first | refine blk_drewN ?_ _ | refine blk_drew ?_ | refine blk_alloc ?_ _)); exact BK345.out⟩, ⟨by repeat (first | (with_reducible first | exact HB.out | apply below_alloc | apply pw_below_drewN | apply below_drew1 | refine below_set ?_ (IsS58.ge HI313.out) | refine below_set ?_ GE341.out | refine below_set ?_ GE345.out) | exact HB.out)⟩⟩
              · rw [if_neg c39] at H
                have c39b0 : (t340 == 0) = false := beq_eq_false_iff_ne.mpr c39
                have c39b1 : (t340 != 0) = true := bne_iff_ne.mpr c39
                (first | rw [c39b0] | (simp only [i64_w, i32_w]; rw [c39b0]) | skip)
                have H' := Aside0.mk H
                clear H
                go_wp2
                go_meet
                case rel => exact ⟨_, (true), (by first | rfl | (simp; done) | (simp [*]; done)), H', ⟨by first | omega | exact Nat.le_refl _⟩, ⟨by (with_reducible repeat (first | refine blk_drewN ?_ _ | refine blk_drew ?_ | refine blk_alloc ?_ _)); refine blk_far ?_ NB341_345.out _; (with_reducible repeat (first | refine blk_drewN ?_ _ | refine blk_drew ?_ | refine blk_alloc ?_ _)); refine blk_far ?_ NB341_345.out _; (with_reducible repeat (first | refine blk_drewN ?_ _ | refine blk_drew ?_ | refine blk_alloc ?_ _)); exact BK341.out⟩, ⟨by (with_reducible repeat (first | refine blk_drewN ?_ _ | refine blk_drew ?_ | refine blk_alloc ?_ _)); refine blk_put (cs := #[.int .i64 t342, .int .i64 0]) ?_ 1 _ rfl; (with_reducible repeat (first | refine blk_drewN ?_ _ | refine blk_drew ?_ | refine blk_alloc ?_ _)); refine blk_put (cs := #[.int .i64 0, .int .i64 0]) ?_ 0 _ rfl; (with_reducible repeat (first | refine blk_drewN ?_ _ | refine blk_drew ?_ | refine blk_alloc ?_ _)); exact BK345.out⟩, ⟨by repeat (first | (with_reducible first | exact HB.out | apply below_alloc | apply pw_below_drewN | apply below_drew1 | refine below_set ?_ (IsS58.ge HI313.out) | refine below_set ?_ GE341.out | refine below_set ?_ GE345.out) | exact HB.out)⟩⟩
            case rest =>
              clear HC17
              try clear c1
              try clear c2
              try clear p2
              try clear q2
              try clear c3
              try clear c4
              try clear c5
              try clear c5b0
              try clear c5b1
              try clear c5b2
              try clear c6
              try clear p6
              try clear c7
              try clear c7b0
              try clear c7b1
              try clear c8
              try clear c8b0
              try clear c8b1
              try clear c9
              try clear c10
              try clear c10b0
              try clear c11
              try clear c11b0
              try clear c12
              try clear c15
              try clear c22
              try clear q22
              try clear q23
              try clear c31
              try clear c36
              try clear c37
              try clear c39
              try clear c39b0
              try clear c39b1
              try clear c40
              try clear c40b0
              try clear c40b1
              try clear c41
              try clear c41b0
              try clear c41b1
              try clear c42
              try clear c42b0
              try clear c42b1
              try clear c44
              try clear hcz32_0
              try clear hcz32_1
              try clear hcz38_0
              try clear hcz38_1
              try clear hfz32_0
              try clear hfz32_1
              try clear hfz38_0
              try clear hfz38_1
              try clear q022
              try clear q22
              try clear q23
              obtain ⟨kq, x86_16, rfl, HA, HJ16, BK341, BK345, HB⟩ := hcut
              cases kq with
              | zero => exact absurd HA.out (by simp [shapesearchlaw13_NormalOrders.j0])
              | succ kj16 =>
                have H := HA.out
                clear HA
                simp only [shapesearchlaw13_NormalOrders.j0] at H
                by_cases c46 : x86_16 = true
                · subst c46
                  have H1 : (if t340 = 0 then (if t344 = 0 then (if t347 = 0 then (if t349 = 0 then ((shapesearchlaw13_awake.f kj16).bind fun t352 => (some t352)) else (some false)) else (some false)) else (some false)) else (some false)) = some r := by rw [if_pos rfl] at H; exact H
                  clear H
                  have H := H1
                  clear H1
                  by_cases c47 : t340 = 0
                  · rw [if_pos c47] at H
                    have c47b0 : (t340 == 0) = true := beq_iff_eq.mpr c47
                    have c47b1 : (t340 != 0) = false := bne_eq_false_iff_eq.mpr c47
                    clear c47
                    by_cases c48 : t344 = 0
                    · rw [if_pos c48] at H
                      have c48b0 : (t344 == 0) = true := beq_iff_eq.mpr c48
                      have c48b1 : (t344 != 0) = false := bne_eq_false_iff_eq.mpr c48
                      clear c48
                      by_cases c49 : t347 = 0
                      · rw [if_pos c49] at H
                        have c49b0 : (t347 == 0) = true := beq_iff_eq.mpr c49
                        have c49b1 : (t347 != 0) = false := bne_eq_false_iff_eq.mpr c49
                        clear c49
                        by_cases c50 : t349 = 0
                        · rw [if_pos c50] at H
                          have c50b0 : (t349 == 0) = true := beq_iff_eq.mpr c50
                          have c50b1 : (t349 != 0) = false := bne_eq_false_iff_eq.mpr c50
                          clear c50
                          replace H := Option.bind_eq_some_iff.mp H
                          obtain ⟨t352, A510, H⟩ := H
                          replace H : (some t352) = some r := H
                          have A51 := Aside0.mk A510
                          clear A510
                          obtain rfl := Option.some.inj H
                          go_wp2_with (first | (go_at_call 13; (with_reducible refine (shapesearchlaw13_awake.calls kj16  t352 _ A51.out).mono ?_); rintro e w52 ⟨rfl, hb⟩; have n0_ := Aside0.mk (blk_below (g := gb341) (o := .cells #[.int .i64 t338, .int .i64 t339] 29 (0, 0)) (by (with_reducible repeat (first | refine blk_drewN ?_ _ | refine blk_drew ?_ | refine blk_alloc ?_ _)); exact BK341.out) hb); have n1_ := Aside0.mk (blk_below (g := gb345) (o := .cells #[.int .i64 t342, .int .i64 t343] 29 (0, 0)) (by (with_reducible repeat (first | refine blk_drewN ?_ _ | refine blk_drew ?_ | refine blk_alloc ?_ _)); exact BK345.out) hb); have n2_ := Aside0.mk (below_step (by repeat (first | (with_reducible first | exact HB.out | apply below_alloc | apply pw_below_drewN | apply below_drew1 | refine below_set ?_ GE341.out | refine below_set ?_ GE345.out) | exact HB.out)) hb); clear BK341; clear BK345; clear HB; have BK341 := n0_; have BK345 := n1_; have HB := n2_; clear n0_ n1_ n2_; (try clear hb); (try clear hb2); (try clear hk); (try clear hi)))
                          go_ret
                          exact ⟨by first | rfl | (simp [errW_none, errW_some] <;> rfl) | (simp only [← hji6]; first | rfl | (simp [errW_none, errW_some] <;> rfl)) | (simp [*, errW_none, errW_some] <;> rfl), by repeat (first | (with_reducible first | exact HB.out | apply below_alloc | apply pw_below_drewN | apply below_drew1 | refine below_set ?_ GE341.out | refine below_set ?_ GE345.out) | exact HB.out)⟩
                        · rw [if_neg c50] at H
                          have c50b0 : (t349 == 0) = false := beq_eq_false_iff_ne.mpr c50
                          have c50b1 : (t349 != 0) = true := bne_iff_ne.mpr c50
                          obtain rfl := Option.some.inj H
                          go_wp2
                          go_ret
                          exact ⟨by first | rfl | (simp [errW_none, errW_some] <;> rfl) | (simp only [← hji6]; first | rfl | (simp [errW_none, errW_some] <;> rfl)) | (simp [*, errW_none, errW_some] <;> rfl), by repeat (first | (with_reducible first | exact HB.out | apply below_alloc | apply pw_below_drewN | apply below_drew1 | refine below_set ?_ GE341.out | refine below_set ?_ GE345.out) | exact HB.out)⟩
                      · rw [if_neg c49] at H
                        have c49b0 : (t347 == 0) = false := beq_eq_false_iff_ne.mpr c49
                        have c49b1 : (t347 != 0) = true := bne_iff_ne.mpr c49
                        obtain rfl := Option.some.inj H
                        go_wp2
                        go_ret
                        exact ⟨by first | rfl | (simp [errW_none, errW_some] <;> rfl) | (simp only [← hji6]; first | rfl | (simp [errW_none, errW_some] <;> rfl)) | (simp [*, errW_none, errW_some] <;> rfl), by repeat (first | (with_reducible first | exact HB.out | apply below_alloc | apply pw_below_drewN | apply below_drew1 | refine below_set ?_ GE341.out | refine below_set ?_ GE345.out) | exact HB.out)⟩
                    · rw [if_neg c48] at H
                      have c48b0 : (t344 == 0) = false := beq_eq_false_iff_ne.mpr c48
                      have c48b1 : (t344 != 0) = true := bne_iff_ne.mpr c48
                      obtain rfl := Option.some.inj H
                      go_wp2
                      go_ret
                      exact ⟨by first | rfl | (simp [errW_none, errW_some] <;> rfl) | (simp only [← hji6]; first | rfl | (simp [errW_none, errW_some] <;> rfl)) | (simp [*, errW_none, errW_some] <;> rfl), by repeat (first | (with_reducible first | exact HB.out | apply below_alloc | apply pw_below_drewN | apply below_drew1 | refine below_set ?_ GE341.out | refine below_set ?_ GE345.out) | exact HB.out)⟩
                  · rw [if_neg c47] at H
                    have c47b0 : (t340 == 0) = false := beq_eq_false_iff_ne.mpr c47
                    have c47b1 : (t340 != 0) = true := bne_iff_ne.mpr c47
                    obtain rfl := Option.some.inj H
                    go_wp2
                    go_ret
                    exact ⟨by first | rfl | (simp [errW_none, errW_some] <;> rfl) | (simp only [← hji6]; first | rfl | (simp [errW_none, errW_some] <;> rfl)) | (simp [*, errW_none, errW_some] <;> rfl), by repeat (first | (with_reducible first | exact HB.out | apply below_alloc | apply pw_below_drewN | apply below_drew1 | refine below_set ?_ GE341.out | refine below_set ?_ GE345.out) | exact HB.out)⟩
                · replace c46 := Bool.eq_false_iff.mpr c46
                  subst c46
                  have H1 : ((shapesearchref01_Less.f kj16 t338 t339 t342 t343).bind fun t353 => (if ((decide (t346 > t348)) == t353) = true then (if ((t346 == t348) == (t338 == t342 && (t339 == t343))) = true then ((shapesearchlaw13_awake.f kj16).bind fun t354 => (some t354)) else (some false)) else (some false))) = some r := by rw [if_neg (show ¬ (false = true) by decide)] at H; exact H
                  clear H
                  have H := H1
                  clear H1
                  replace H := Option.bind_eq_some_iff.mp H
                  obtain ⟨t353, A530, H⟩ := H
                  replace H : (if ((decide (t346 > t348)) == t353) = true then (if ((t346 == t348) == (t338 == t342 && (t339 == t343))) = true then ((shapesearchlaw13_awake.f kj16).bind fun t354 => (some t354)) else (some false)) else (some false)) = some r := H
                  have A53 := Aside0.mk A530
                  clear A530
                  by_cases c54 : ((decide (t346 > t348)) == t353) = true
                  · rw [if_pos c54] at H
                    have c54b0 : ((decide (t346 > t348)) == t353) = true := c54
                    (try (have c54b1 : decide ((decide (t346 > t348)) = t353) = true := by simpa using c54))
                    (try (have c54b2 : ((decide (t346 > t348)) == t353) = true := by simpa using c54))
                    clear c54
                    by_cases c55 : ((t346 == t348) == (t338 == t342 && (t339 == t343))) = true
                    · rw [if_pos c55] at H
                      have c55b0 : ((t346 == t348) == (t338 == t342 && (t339 == t343))) = true := c55
                      (try (have c55b1 : decide ((t346 == t348) = (t338 == t342 && (t339 == t343))) = true := by simpa using c55))
                      (try (have c55b2 : ((t346 == t348) == (t338 == t342 && (t339 == t343))) = true := by simpa using c55))
                      clear c55
                      replace H := Option.bind_eq_some_iff.mp H
                      obtain ⟨t354, A560, H⟩ := H
                      replace H : (some t354) = some r := H
                      have A56 := Aside0.mk A560
                      clear A560
                      obtain rfl := Option.some.inj H
                      have hnb57 := NB341_345.out
                      have hnc57 := NB345_341.out
                      have hcz58_0 : wc.cell? ⟨gb341, 0, none⟩ = some (.int .i64 t338) := (blk_cell BK341.out 0).trans rfl
                      have hcz58_1 : wc.cell? ⟨gb341, 1, none⟩ = some (.int .i64 t339) := (blk_cell BK341.out 1).trans rfl
                      have hfz58_0 := blk_frozen BK341.out 0
                      have hfz58_1 := blk_frozen BK341.out 1
                      have hcz59_0 : wc.cell? ⟨gb345, 0, none⟩ = some (.int .i64 t342) := (blk_cell BK345.out 0).trans rfl
                      have hcz59_1 : wc.cell? ⟨gb345, 1, none⟩ = some (.int .i64 t343) := (blk_cell BK345.out 1).trans rfl
                      have hfz59_0 := blk_frozen BK345.out 0
                      have hfz59_1 := blk_frozen BK345.out 1
                      go_wp2_with (first | ((with_reducible refine gate_callee (f := 18) rfl ?_); refine goesL_ (some 109) rfl rfl Try.func18 (by kernel_rfl) rfl #[.agg #[.int .i64 t338, .int .i64 t339], .agg #[.int .i64 t342, .int .i64 t343]] rfl (by (try simp only [List.map_toArray, List.map_cons, List.map_nil]); first | done | rfl | (simp only [List.length_drop, List.length_take]; rfl) | ((try rw [KY22.out]); (try rw [KY23.out]); rfl)) ?_; (with_reducible refine (shapesearchref01_Less.calls kj16 t338 t339 t342 t343 t353 _ A53.out).mono ?_); rintro e w60 ⟨rfl, hb⟩; refine ⟨_, rfl, ?_⟩; have n0_ := Aside0.mk (blk_below (g := gb341) (o := .cells #[.int .i64 t338, .int .i64 t339] 29 (0, 0)) (by (with_reducible repeat (first | refine blk_drewN ?_ _ | refine blk_drew ?_ | refine blk_alloc ?_ _)); exact BK341.out) hb); have n1_ := Aside0.mk (blk_below (g := gb345) (o := .cells #[.int .i64 t342, .int .i64 t343] 29 (0, 0)) (by (with_reducible repeat (first | refine blk_drewN ?_ _ | refine blk_drew ?_ | refine blk_alloc ?_ _)); exact BK345.out) hb); have n2_ := Aside0.mk (below_step (by repeat (first | (with_reducible first | exact HB.out | apply below_alloc | apply pw_below_drewN | apply below_drew1 | refine below_set ?_ GE341.out | refine below_set ?_ GE345.out) | exact HB.out)) hb); clear BK341; clear BK345; clear HB; have BK341 := n0_; have BK345 := n1_; have HB := n2_; clear n0_ n1_ n2_; (try clear hb); (try clear hb2); (try clear hk); (try clear hi); have hcz61_0 : w60.cell? ⟨gb341, 0, none⟩ = some (.int .i64 t338) := (blk_cell BK341.out 0).trans rfl; have hcz61_1 : w60.cell? ⟨gb341, 1, none⟩ = some (.int .i64 t339) := (blk_cell BK341.out 1).trans rfl; have hfz61_0 := blk_frozen BK341.out 0; have hfz61_1 := blk_frozen BK341.out 1; have hcz62_0 : w60.cell? ⟨gb345, 0, none⟩ = some (.int .i64 t342) := (blk_cell BK345.out 0).trans rfl; have hcz62_1 : w60.cell? ⟨gb345, 1, none⟩ = some (.int .i64 t343) := (blk_cell BK345.out 1).trans rfl; have hfz62_0 := blk_frozen BK345.out 0; have hfz62_1 := blk_frozen BK345.out 1) | (go_at_call 13; (with_reducible refine (shapesearchlaw13_awake.calls kj16  t354 _ A56.out).mono ?_); rintro e w63 ⟨rfl, hb⟩; have n0_ := Aside0.mk (blk_below (g := gb341) (o := .cells #[.int .i64 t338, .int .i64 t339] 29 (0, 0)) (by (with_reducible repeat (first | refine blk_drewN ?_ _ | refine blk_drew ?_ | refine blk_alloc ?_ _)); exact BK341.out) hb); have n1_ := Aside0.mk (blk_below (g := gb345) (o := .cells #[.int .i64 t342, .int .i64 t343] 29 (0, 0)) (by (with_reducible repeat (first | refine blk_drewN ?_ _ | refine blk_drew ?_ | refine blk_alloc ?_ _)); exact BK345.out) hb); have n2_ := Aside0.mk (below_step (by repeat (first | (with_reducible first | exact HB.out | apply below_alloc | apply pw_below_drewN | apply below_drew1 | refine below_set ?_ GE341.out | refine below_set ?_ GE345.out) | exact HB.out)) hb); clear BK341; clear BK345; clear HB; have BK341 := n0_; have BK345 := n1_; have HB := n2_; clear n0_ n1_ n2_; (try clear hb); (try clear hb2); (try clear hk); (try clear hi)))
                      go_ret
                      exact ⟨by first | rfl | (simp [errW_none, errW_some] <;> rfl) | (simp only [← hji6]; first | rfl | (simp [errW_none, errW_some] <;> rfl)) | (simp [*, errW_none, errW_some] <;> rfl), by repeat (first | (with_reducible first | exact HB.out | apply below_alloc | apply pw_below_drewN | apply below_drew1 | refine below_set ?_ GE341.out | refine below_set ?_ GE345.out) | exact HB.out)⟩
                    · rw [if_neg c55] at H
                      have c55b0 : ((t346 == t348) == (t338 == t342 && (t339 == t343))) = false := by simpa using c55
                      (try (have c55b1 : decide ((t346 == t348) = (t338 == t342 && (t339 == t343))) = false := by simpa using c55))
                      (try (have c55b2 : ((t346 == t348) == (t338 == t342 && (t339 == t343))) = false := by simpa using c55))
                      (try (have c55b3 : ¬ ((t346 == t348) = (t338 == t342 && (t339 == t343))) := by simpa using c55))
                      clear c55
                      obtain rfl := Option.some.inj H
                      have hnb64 := NB341_345.out
                      have hnc64 := NB345_341.out
                      have hcz65_0 : wc.cell? ⟨gb341, 0, none⟩ = some (.int .i64 t338) := (blk_cell BK341.out 0).trans rfl
                      have hcz65_1 : wc.cell? ⟨gb341, 1, none⟩ = some (.int .i64 t339) := (blk_cell BK341.out 1).trans rfl
                      have hfz65_0 := blk_frozen BK341.out 0
                      have hfz65_1 := blk_frozen BK341.out 1
                      have hcz66_0 : wc.cell? ⟨gb345, 0, none⟩ = some (.int .i64 t342) := (blk_cell BK345.out 0).trans rfl
                      have hcz66_1 : wc.cell? ⟨gb345, 1, none⟩ = some (.int .i64 t343) := (blk_cell BK345.out 1).trans rfl
                      have hfz66_0 := blk_frozen BK345.out 0
                      have hfz66_1 := blk_frozen BK345.out 1
                      go_wp2_with (first | ((with_reducible refine gate_callee (f := 18) rfl ?_); refine goesL_ (some 109) rfl rfl Try.func18 (by kernel_rfl) rfl #[.agg #[.int .i64 t338, .int .i64 t339], .agg #[.int .i64 t342, .int .i64 t343]] rfl (by (try simp only [List.map_toArray, List.map_cons, List.map_nil]); first | done | rfl | (simp only [List.length_drop, List.length_take]; rfl) | ((try rw [KY22.out]); (try rw [KY23.out]); rfl)) ?_; (with_reducible refine (shapesearchref01_Less.calls kj16 t338 t339 t342 t343 t353 _ A53.out).mono ?_); rintro e w67 ⟨rfl, hb⟩; refine ⟨_, rfl, ?_⟩; have n0_ := Aside0.mk (blk_below (g := gb341) (o := .cells #[.int .i64 t338, .int .i64 t339] 29 (0, 0)) (by (with_reducible repeat (first | refine blk_drewN ?_ _ | refine blk_drew ?_ | refine blk_alloc ?_ _)); exact BK341.out) hb); have n1_ := Aside0.mk (blk_below (g := gb345) (o := .cells #[.int .i64 t342, .int .i64 t343] 29 (0, 0)) (by (with_reducible repeat (first | refine blk_drewN ?_ _ | refine blk_drew ?_ | refine blk_alloc ?_ _)); exact BK345.out) hb); have n2_ := Aside0.mk (below_step (by repeat (first | (with_reducible first | exact HB.out | apply below_alloc | apply pw_below_drewN | apply below_drew1 | refine below_set ?_ GE341.out | refine below_set ?_ GE345.out) | exact HB.out)) hb); clear BK341; clear BK345; clear HB; have BK341 := n0_; have BK345 := n1_; have HB := n2_; clear n0_ n1_ n2_; (try clear hb); (try clear hb2); (try clear hk); (try clear hi); have hcz68_0 : w67.cell? ⟨gb341, 0, none⟩ = some (.int .i64 t338) := (blk_cell BK341.out 0).trans rfl; have hcz68_1 : w67.cell? ⟨gb341, 1, none⟩ = some (.int .i64 t339) := (blk_cell BK341.out 1).trans rfl; have hfz68_0 := blk_frozen BK341.out 0; have hfz68_1 := blk_frozen BK341.out 1; have hcz69_0 : w67.cell? ⟨gb345, 0, none⟩ = some (.int .i64 t342) := (blk_cell BK345.out 0).trans rfl; have hcz69_1 : w67.cell? ⟨gb345, 1, none⟩ = some (.int .i64 t343) := (blk_cell BK345.out 1).trans rfl; have hfz69_0 := blk_frozen BK345.out 0; have hfz69_1 := blk_frozen BK345.out 1))
                      go_ret
                      exact ⟨by first | rfl | (simp [errW_none, errW_some] <;> rfl) | (simp only [← hji6]; first | rfl | (simp [errW_none, errW_some] <;> rfl)) | (simp [*, errW_none, errW_some] <;> rfl), by repeat (first | (with_reducible first | exact HB.out | apply below_alloc | apply pw_below_drewN | apply below_drew1 | refine below_set ?_ GE341.out | refine below_set ?_ GE345.out) | exact HB.out)⟩
                  · rw [if_neg c54] at H
                    have c54b0 : ((decide (t346 > t348)) == t353) = false := by simpa using c54
                    (try (have c54b1 : decide ((decide (t346 > t348)) = t353) = false := by simpa using c54))
                    (try (have c54b2 : ((decide (t346 > t348)) == t353) = false := by simpa using c54))
                    (try (have c54b3 : ¬ ((decide (t346 > t348)) = t353) := by simpa using c54))
                    clear c54
                    obtain rfl := Option.some.inj H
                    have hnb70 := NB341_345.out
                    have hnc70 := NB345_341.out
                    have hcz71_0 : wc.cell? ⟨gb341, 0, none⟩ = some (.int .i64 t338) := (blk_cell BK341.out 0).trans rfl
                    have hcz71_1 : wc.cell? ⟨gb341, 1, none⟩ = some (.int .i64 t339) := (blk_cell BK341.out 1).trans rfl
                    have hfz71_0 := blk_frozen BK341.out 0
                    have hfz71_1 := blk_frozen BK341.out 1
                    have hcz72_0 : wc.cell? ⟨gb345, 0, none⟩ = some (.int .i64 t342) := (blk_cell BK345.out 0).trans rfl
                    have hcz72_1 : wc.cell? ⟨gb345, 1, none⟩ = some (.int .i64 t343) := (blk_cell BK345.out 1).trans rfl
                    have hfz72_0 := blk_frozen BK345.out 0
                    have hfz72_1 := blk_frozen BK345.out 1
                    go_wp2_with (first | ((with_reducible refine gate_callee (f := 18) rfl ?_); refine goesL_ (some 109) rfl rfl Try.func18 (by kernel_rfl) rfl #[.agg #[.int .i64 t338, .int .i64 t339], .agg #[.int .i64 t342, .int .i64 t343]] rfl (by (try simp only [List.map_toArray, List.map_cons, List.map_nil]); first | done | rfl | (simp only [List.length_drop, List.length_take]; rfl) | ((try rw [KY22.out]); (try rw [KY23.out]); rfl)) ?_; (with_reducible refine (shapesearchref01_Less.calls kj16 t338 t339 t342 t343 t353 _ A53.out).mono ?_); rintro e w73 ⟨rfl, hb⟩; refine ⟨_, rfl, ?_⟩; have n0_ := Aside0.mk (blk_below (g := gb341) (o := .cells #[.int .i64 t338, .int .i64 t339] 29 (0, 0)) (by (with_reducible repeat (first | refine blk_drewN ?_ _ | refine blk_drew ?_ | refine blk_alloc ?_ _)); exact BK341.out) hb); have n1_ := Aside0.mk (blk_below (g := gb345) (o := .cells #[.int .i64 t342, .int .i64 t343] 29 (0, 0)) (by (with_reducible repeat (first | refine blk_drewN ?_ _ | refine blk_drew ?_ | refine blk_alloc ?_ _)); exact BK345.out) hb); have n2_ := Aside0.mk (below_step (by repeat (first | (with_reducible first | exact HB.out | apply below_alloc | apply pw_below_drewN | apply below_drew1 | refine below_set ?_ GE341.out | refine below_set ?_ GE345.out) | exact HB.out)) hb); clear BK341; clear BK345; clear HB; have BK341 := n0_; have BK345 := n1_; have HB := n2_; clear n0_ n1_ n2_; (try clear hb); (try clear hb2); (try clear hk); (try clear hi)))
                    go_ret
                    exact ⟨by first | rfl | (simp [errW_none, errW_some] <;> rfl) | (simp only [← hji6]; first | rfl | (simp [errW_none, errW_some] <;> rfl)) | (simp [*, errW_none, errW_some] <;> rfl), by repeat (first | (with_reducible first | exact HB.out | apply below_alloc | apply pw_below_drewN | apply below_drew1 | refine below_set ?_ GE341.out | refine below_set ?_ GE345.out) | exact HB.out)⟩
          · rw [if_neg c12] at H
            exact absurd H (by simp)
        · rw [if_neg c9] at H
          exact absurd H (by simp)
      · rw [if_neg c8] at H
        exact absurd H (by simp)
    · rw [if_neg c7] at H
      exact absurd H (by simp)

/-- THE ONE PURE STATEMENT of shapesearchlaw13_NormalOrders: yours. -/
def shapesearchlaw13_NormalOrders.Pure : Prop := ∀ (l0 : List Int) (a1 : Int), l0.length ≤ maxLen → l0.length * 8 ≤ 140737488351232 → (∀ x ∈ l0, (Lit.int .i64 x).wf = true) → (Lit.int .u8 a1).wf = true → ∃ k, shapesearchlaw13_NormalOrders.f k l0 a1 = some true
theorem shapesearchlaw13_NormalOrders.walk (P : shapesearchlaw13_NormalOrders.Pure) (a0 : Option Addr) (len0 cap0 : Nat) (z0 : List Int) (a1 : Int) (w : World) (w0 : (a0 = none ∧ len0 = 0 ∧ cap0 = 0 ∧ z0 = []) ∨ ∃ x, a0 = some x ∧ len0 ≤ cap0 ∧ cap0 ≤ maxLen ∧ z0.length = cap0 ∧ (∀ i, i < z0.length → w.cell? (x.add i) = some (.int .i64 (z0.getD i 0))) ∧ ∀ n ∈ z0, (Lit.int .i64 n).wf = true) (y0 : len0 * 8 ≤ 140737488351232) (w1 : (Lit.int .u8 a1).wf = true) :
    Calls Try.prog 6 #[.slice a0 len0 cap0, .int .u8 a1] w fun e w' => e = .returned (.bool true) ∧ Below w.heap.size w w' := by
  obtain ⟨l0, rfl, hr0, hm0, hw0, hc0⟩ := ReadsInt.ofRowC w0
  obtain ⟨k, h⟩ := P l0 a1 hm0 y0 hw0 w1
  refine (shapesearchlaw13_NormalOrders.calls k _ _ l0 a1 true w (Kd.C_of_reads (d := (0 : Int)) (h1 := fun _ => rfl) hr0) hc0 h).mono ?_
  rintro e w' ⟨rfl, hd⟩
  exact ⟨rfl, hd⟩

end Go.Proofs.Ytmckmjpfcgmalaa.PNormalOrders
