/- This file proves, function by function, what the Go functions that one law uses compute; most of it was printed by a program (wip/tools of this session, over the kit's print). -/
import Derived.Test.YtmckmjpfcgmalaaPNormalRangex0
import Derived.Test.YtmckmjpfcgmalaaPNormalRangex1
import Derived.Test.YtmckmjpfcgmalaaPNormalRangex2
import Derived.Test.YtmckmjpfcgmalaaPNormalRangex3
import Derived.Test.YtmckmjpfcgmalaaPNormalRangex5
import Derived.Test.YtmckmjpfcgmalaaPNormalRangex6
import Derived.Test.YtmckmjpfcgmalaaPNormalRangex7
namespace Go.Proofs.Ytmckmjpfcgmalaa.PNormalRange
open Go.RowKit Go.Proofs.YtmckmjpfcgmalaaW.PrintWords Go.Proofs.YtmckmjpfcgmalaaW.PrintLast Go.Proofs.YtmckmjpfcgmalaaW.PrintMore
attribute [local go_sem] max2_int min2_int max_two min_two max_three min_three max_four min_four   -- for this text's walks alone
set_option linter.unusedVariables false
set_option linter.unusedSimpArgs false

attribute [local go_sem high] eqA29
/-! ### shapesearchlaw13_NormalRange: function 5 -/
def shapesearchlaw13_NormalRange.l0 : Nat → List Int → List Int → List Int → List Int → Int → Int → Option (Bool)
 | 0,_,_,_,_,_,_=>none
 | k + 1,x4,x5,x6,x7,x26,x27=>if x27 < x26 then (if 0 ≤ (wrap64 ((wrap64 ((x4.length : Int) - 1)) - x27)) then (if (wrap64 ((wrap64 ((x4.length : Int) - 1)) - x27)) < (x4.length : Int) then ((some (([rd x4 (wrap64 ((wrap64 ((x4.length : Int) - 1)) - x27))] : List Int) : List Int)).bind fun y322=>(if x6.length + y322.length < 17592186044416 then (if (wrap64 ((wrap64 ((x4.length : Int) - 1)) - x27)) < (x5.length : Int) then ((some (([rd x5 (wrap64 ((wrap64 ((x4.length : Int) - 1)) - x27))] : List Int) : List Int)).bind fun y329=>(if x7.length + y329.length < 17592186044416 then (shapesearchlaw13_NormalRange.l0 k x4 x5 (x6 ++ y322) (x7 ++ y329) x26 (wrap64 (x27 + 1))) else (none))) else (none)) else (none))) else (none)) else (none)) else ((normal_Gap.f k x4 x5).bind fun bt335=>((normal_Gap.f k x5 x4).bind fun bt339=>((normal_Gap.f k x6 x7).bind fun bt343=>((normal_Product.f k x4 x5).bind fun bt347=>(if bt335.2.2 = 0 then (if bt339.2.2 = 0 then (if bt343.2.2 = 0 then (if bt347.2 = 0 then (if (bt335.1 == bt339.1 && (bt335.2.1 == bt339.2.1)) = true then (if (bt335.1 == bt343.1 && (bt335.2.1 == bt343.2.1)) = true then ((shapesearchref01_Valid.f k bt335.1 bt335.2.1).bind fun t350=>(if t350 = true then ((shapesearchref01_Cmp.f k bt335.1 bt335.2.1 2 1).bind fun t351=>(if t351 ≤ 0 then (if bt347.1 = 0 then ((shapesearchlaw13_spread.f k x4).bind fun t352=>(if t352 = true then (if ((bt335.1 == 1 && (bt335.2.1 == 1)) == true) = true then ((shapesearchref01_Less.f k bt335.1 bt335.2.1 1 1).bind fun t353=>(if bt347.1 > 0 then (if (t353 == true) = true then ((shapesearchlaw13_awake.f k).bind fun t354=>(some t354)) else (some false)) else ((shapesearchlaw13_spread.f k x4).bind fun t355=>(if t355 = true then (if (t353 == false) = true then ((shapesearchlaw13_awake.f k).bind fun t356=>(some t356)) else (some false)) else ((shapesearchlaw13_spread.f k x5).bind fun t357=>(if (t353 == (!t357)) = true then ((shapesearchlaw13_awake.f k).bind fun t358=>(some t358)) else (some false))))))) else (some false)) else ((shapesearchlaw13_spread.f k x5).bind fun t359=>(if ((bt335.1 == 1 && (bt335.2.1 == 1)) == t359) = true then ((shapesearchref01_Less.f k bt335.1 bt335.2.1 1 1).bind fun t360=>(if bt347.1 > 0 then (if (t360 == true) = true then ((shapesearchlaw13_awake.f k).bind fun t361=>(some t361)) else (some false)) else ((shapesearchlaw13_spread.f k x4).bind fun t362=>(if t362 = true then (if (t360 == false) = true then ((shapesearchlaw13_awake.f k).bind fun t363=>(some t363)) else (some false)) else ((shapesearchlaw13_spread.f k x5).bind fun t364=>(if (t360 == (!t364)) = true then ((shapesearchlaw13_awake.f k).bind fun t365=>(some t365)) else (some false))))))) else (some false))))) else (if ((bt335.1 == 1 && (bt335.2.1 == 1)) == false) = true then ((shapesearchref01_Less.f k bt335.1 bt335.2.1 1 1).bind fun t366=>(if bt347.1 > 0 then (if (t366 == true) = true then ((shapesearchlaw13_awake.f k).bind fun t367=>(some t367)) else (some false)) else ((shapesearchlaw13_spread.f k x4).bind fun t368=>(if t368 = true then (if (t366 == false) = true then ((shapesearchlaw13_awake.f k).bind fun t369=>(some t369)) else (some false)) else ((shapesearchlaw13_spread.f k x5).bind fun t370=>(if (t366 == (!t370)) = true then ((shapesearchlaw13_awake.f k).bind fun t371=>(some t371)) else (some false))))))) else (some false))) else (some false))) else (some false))) else (some false)) else (some false)) else (some false)) else (some false)) else (some false)) else (some false))))))
def shapesearchlaw13_NormalRange.f (k : Nat) (l0 : List Int) : Option (Bool):=(shapesearchkeep_New.f l0).bind fun bt311=>((shapesearchkeep_Src_Pair.f k bt311.1 bt311.2).bind fun bt314=>(shapesearchlaw13_NormalRange.l0 k bt314.1 bt314.2.1 ([] : List Int) ([] : List Int) (bt314.1.length : Int) 0))
theorem shapesearchlaw13_NormalRange.mono_l : ∀ k,(∀ y0 y1 y2 y3 y4 y5,LeO (shapesearchlaw13_NormalRange.l0 k y0 y1 y2 y3 y4 y5) (shapesearchlaw13_NormalRange.l0 (k + 1) y0 y1 y2 y3 y4 y5))
 | 0=>fun _ _ _ _ _ _ r h=>by simp [shapesearchlaw13_NormalRange.l0] at h
 | k + 1=>by
  have ih0:=shapesearchlaw13_NormalRange.mono_l k
  ·
   intro y0 y1 y2 y3 y4 y5
   unfold shapesearchlaw13_NormalRange.l0
   repeat' first
   | (with_reducible exact ih0 _ _ _ _ _ _)
   | (with_reducible exact normal_Gap.mono _ _ _)
   | (with_reducible exact normal_Product.mono _ _ _)
   | (with_reducible exact shapesearchkeep_Src_Pair.mono _ _ _)
   | (with_reducible exact shapesearchlaw13_awake.mono _)
   | (with_reducible exact shapesearchlaw13_spread.mono _ _)
   | (with_reducible exact shapesearchref01_Cmp.mono _ _ _ _ _)
   | (with_reducible exact shapesearchref01_Less.mono _ _ _ _ _)
   | (with_reducible exact shapesearchref01_Valid.mono _ _ _)
   | (with_reducible exact LeO.refl _)
   | (with_reducible exact LeO.none _)
   | (with_reducible refine LeO.ite ?_ ?_)
   | (with_reducible refine LeO.bind ?_ (fun _=>?_))
   | exact ih0 _ _ _ _ _ _
   | exact normal_Gap.mono _ _ _
   | exact normal_Product.mono _ _ _
   | exact shapesearchkeep_Src_Pair.mono _ _ _
   | exact shapesearchlaw13_awake.mono _
   | exact shapesearchlaw13_spread.mono _ _
   | exact shapesearchref01_Cmp.mono _ _ _ _ _
   | exact shapesearchref01_Less.mono _ _ _ _ _
   | exact shapesearchref01_Valid.mono _ _ _
   | exact LeO.none _
   | refine LeO.ite ?_ ?_
   | refine LeO.bind ?_ (fun _=>?_)
theorem shapesearchlaw13_NormalRange.mono : ∀ a0 k,LeO (shapesearchlaw13_NormalRange.f k a0) (shapesearchlaw13_NormalRange.f (k + 1) a0):=by
 intro a0 k
 have ih0:=shapesearchlaw13_NormalRange.mono_l k
 unfold shapesearchlaw13_NormalRange.f
 repeat' first
   | (with_reducible exact ih0 _ _ _ _ _ _)
   | (with_reducible exact normal_Gap.mono _ _ _)
   | (with_reducible exact normal_Product.mono _ _ _)
   | (with_reducible exact shapesearchkeep_Src_Pair.mono _ _ _)
   | (with_reducible exact shapesearchlaw13_awake.mono _)
   | (with_reducible exact shapesearchlaw13_spread.mono _ _)
   | (with_reducible exact shapesearchref01_Cmp.mono _ _ _ _ _)
   | (with_reducible exact shapesearchref01_Less.mono _ _ _ _ _)
   | (with_reducible exact shapesearchref01_Valid.mono _ _ _)
   | (with_reducible exact LeO.refl _)
   | (with_reducible exact LeO.none _)
   | (with_reducible refine LeO.ite ?_ ?_)
   | (with_reducible refine LeO.bind ?_ (fun _=>?_))
   | exact ih0 _ _ _ _ _ _
   | exact normal_Gap.mono _ _ _
   | exact normal_Product.mono _ _ _
   | exact shapesearchkeep_Src_Pair.mono _ _ _
   | exact shapesearchlaw13_awake.mono _
   | exact shapesearchlaw13_spread.mono _ _
   | exact shapesearchref01_Cmp.mono _ _ _ _ _
   | exact shapesearchref01_Less.mono _ _ _ _ _
   | exact shapesearchref01_Valid.mono _ _ _
   | exact LeO.none _
   | refine LeO.ite ?_ ?_
   | refine LeO.bind ?_ (fun _=>?_)
def shapesearchlaw13_NormalRange.T7 : Bool × List (List Nat × List Nat):=(true,[([],[]),([],[]),([],[]),([2],[2]),([3],[3]),([],[]),([4,5],[4,5]),([1,6],[1,6]),([7],[7]),([8],[8]),([0,9],[0,9]),([],[]),([],[]),([],[]),([13],[13]),([14],[14]),([],[]),([15,16],[15,16]),([12,17],[12,17]),([18],[18]),([19],[19]),([11,20,10],[11,20]),([10,21,0,1,2,3,4,5,6,7,8,9,10],[0,10]),([21,22,0,1,2,3,4,5,6,7,8,9,10,11,12,13,14,15,16,17,18,19,20,21,22],[11,21])])
def shapesearchlaw13_NormalRange.B7 : List Nat:=[0,0,0,4,12,0,60,126,254,510,1023,0,0,0,8192,24576,0,122880,258048,520192,1044480,2097151,4194303,8388607]
theorem shapesearchlaw13_NormalRange.tab7 : rtab .any (opsOf Try.f5 7) = shapesearchlaw13_NormalRange.T7:=by kernel_rfl
theorem shapesearchlaw13_NormalRange.bits7 : waitsOk shapesearchlaw13_NormalRange.T7.2 shapesearchlaw13_NormalRange.B7 = true:=by kernel_rfl
def shapesearchlaw13_NormalRange.T14 : Bool × List (List Nat × List Nat):=(true,[([],[]),([0],[0]),([1],[1]),([2],[2]),([3,2],[2,3]),([2,4],[2,4]),([5,2],[5]),([6],[6]),([7,6],[6,7]),([6,8],[6,8]),([9,6],[9]),([10],[10]),([11,10],[10,11]),([10,12],[10,12]),([13,10],[13]),([14],[14]),([14],[14]),([15,16,14],[14,15,16]),([14,17],[14,17]),([18,14],[18]),([19],[19]),([19],[19]),([20,21,19],[19,20,21]),([19,22],[19,22]),([23,19],[23]),([24],[24]),([25,24,24],[24,25]),([24,26],[24,26]),([27,26],[27]),([28],[28]),([28],[28]),([29,30,28,28],[28,29,30]),([31,28],[28,31]),([28,32],[28,32]),([33,31],[33]),([34],[34]),([34],[34]),([35,36,34],[34,35,36]),([34],[34]),([38,34],[34,38]),([39,34,34],[34,39]),([40],[40]),([41,40,40],[40,41]),([42,42,40],[40,42]),([43],[43]),([44,43,43],[43,44]),([43,45,40],[40,43,45]),([40,46,34],[34,40,46]),([37,47,34],[34,37,47]),([34,48],[34,48]),([49,45],[49]),([50],[50]),([50],[50]),([51,52,50,50],[50,51,52]),([50],[50]),([54,50],[50,54]),([55,53,50],[50,55]),([56],[56]),([57,56,56],[56,57]),([58,56],[56,58]),([59,58,56],[56,59]),([60],[60]),([61,60,60],[60,61]),([62,60],[60,62]),([60,63,56],[56,60,63]),([56,64,50],[50,56,64]),([53,65,50],[50,53,65]),([50,66],[50,66]),([67,62],[67]),([68,68],[68]),([68,69],[68,69]),([70,69,0,1,2,3,4,5,6,7,8,9,10,11,12,13,14,15,16,17,18,19,20,21,22,23,24,25,26,27,28,29,30,31,32,33,34,35,36,37,38,39,40,41,42,43,44,45,46,47,48,49,50,51,52,53,54,55,56,57,58,59,60,61,62,63,64,65,66,67,68,69,70],[70])])
def shapesearchlaw13_NormalRange.B14 : List Nat:=[0,1,3,7,15,31,63,127,255,511,1023,2047,4095,8191,16383,32767,32767,131071,262143,524287,1048575,1048575,4194303,8388607,16777215,33554431,67108863,134217727,268435455,536870911,536870911,2147483647,4294967295,8589934591,17179869183,34359738367,34359738367,137438953471,34359738367,309237645311,858993459199,1958505086975,4157528342527,8555574853631,17351667875839,34943853920255,70128226009087,140496970186751,281474976710655,562949953421311,1125899906842623,2251799813685247,2251799813685247,9007199254740991,2251799813685247,20266198323167231,72057594037927935,144115188075855871,288230376151711743,576460752303423487,1152921504606846975,2305843009213693951,4611686018427387903,9223372036854775807,18446744073709551615,36893488147419103231,73786976294838206463,147573952589676412927,295147905179352825855,590295810358705651711,1180591620717411303423,2361183241434822606847]
theorem shapesearchlaw13_NormalRange.tab14 : rtab .any (opsOf Try.f5 14) = shapesearchlaw13_NormalRange.T14:=by kernel_rfl
theorem shapesearchlaw13_NormalRange.bits14 : waitsOk shapesearchlaw13_NormalRange.T14.2 shapesearchlaw13_NormalRange.B14 = true:=by kernel_rfl
structure shapesearchlaw13_NormalRange.BN (w : World) (g1 g2 g3 g4 : Nat) (p q p2 q2 p3 q3 : Int) (Ax : Option Addr) (x : List Int) (Ay : Option Addr) (y : List Int) (W : World) : Prop where
 below : Below w.heap.size w W
 b1 : W.heap[g1]? = some (.cells #[.int .i64 p,.int .i64 q] 29 (0,0))
 b2 : W.heap[g2]? = some (.cells #[.int .i64 p2,.int .i64 q2] 29 (0,0))
 b3 : W.heap[g3]? = some (.cells #[.int .i64 p3,.int .i64 q3] 29 (0,0))
 b4 : W.heap[g4]? = some (.cells #[.int .i64 1,.int .i64 1] 29 (0,0))
 cx : Kd.C (Kd.int .i64) W Ax x.length x
 cy : Kd.C (Kd.int .i64) W Ay y.length y
section
variable {w W W1 : World} {g1 g2 g3 g4 : Nat} {p q p2 q2 p3 q3 : Int} {Ax Ay : Option Addr} {x y : List Int}
theorem shapesearchlaw13_NormalRange.BN.step (h : shapesearchlaw13_NormalRange.BN w g1 g2 g3 g4 p q p2 q2 p3 q3 Ax x Ay y W) (hb : Below W.heap.size W W1) : shapesearchlaw13_NormalRange.BN w g1 g2 g3 g4 p q p2 q2 p3 q3 Ax x Ay y W1:=⟨below_step h.below hb,blk_below h.b1 hb,blk_below h.b2 hb,blk_below h.b3 hb,blk_below h.b4 hb,cl h.cx hb,cl h.cy hb⟩
theorem shapesearchlaw13_NormalRange.BN.drewN (h : shapesearchlaw13_NormalRange.BN w g1 g2 g3 g4 p q p2 q2 p3 q3 Ax x Ay y W) (n : Nat) : shapesearchlaw13_NormalRange.BN w g1 g2 g3 g4 p q p2 q2 p3 q3 Ax x Ay y (W.drewN n):=h.step (pw_below_drewN (Below.refl _ _) n)
theorem shapesearchlaw13_NormalRange.BN.drew (h : shapesearchlaw13_NormalRange.BN w g1 g2 g3 g4 p q p2 q2 p3 q3 Ax x Ay y W) : shapesearchlaw13_NormalRange.BN w g1 g2 g3 g4 p q p2 q2 p3 q3 Ax x Ay y W.drew:=h.step (below_drew (Below.refl _ _))
theorem shapesearchlaw13_NormalRange.BN.cells (h : shapesearchlaw13_NormalRange.BN w g1 g2 g3 g4 p q p2 q2 p3 q3 Ax x Ay y W) : W.cell? ⟨g1,0,none⟩ = some (.int .i64 p)∧W.cell? ⟨g1,1,none⟩ = some (.int .i64 q)∧W.cell? ⟨g2,0,none⟩ = some (.int .i64 p2)∧W.cell? ⟨g2,1,none⟩ = some (.int .i64 q2)∧W.cell? ⟨g3,0,none⟩ = some (.int .i64 p3)∧W.cell? ⟨g3,1,none⟩ = some (.int .i64 q3)∧W.cell? ⟨g4,0,none⟩ = some (.int .i64 1)∧W.cell? ⟨g4,1,none⟩ = some (.int .i64 1) :=
 ⟨(blk_cell h.b1 0).trans rfl,(blk_cell h.b1 1).trans rfl,(blk_cell h.b2 0).trans rfl,(blk_cell h.b2 1).trans rfl,(blk_cell h.b3 0).trans rfl,(blk_cell h.b3 1).trans rfl,(blk_cell h.b4 0).trans rfl,(blk_cell h.b4 1).trans rfl⟩
end
theorem shapesearchlaw13_NormalRange.ways5 {k : Nat} {x4 x5 : List Int} {t335 t336 t347 : Int} {r : Bool} {C : Prop} (H : (if t347 = 0 then ((shapesearchlaw13_spread.f k x4).bind fun t352=>(if t352 = true then (if ((t335 == 1 && (t336 == 1)) == true) = true then ((shapesearchref01_Less.f k t335 t336 1 1).bind fun t353=>(if t347 > 0 then (if (t353 == true) = true then ((shapesearchlaw13_awake.f k).bind fun t354=>(some t354)) else (some false)) else ((shapesearchlaw13_spread.f k x4).bind fun t355=>(if t355 = true then (if (t353 == false) = true then ((shapesearchlaw13_awake.f k).bind fun t356=>(some t356)) else (some false)) else ((shapesearchlaw13_spread.f k x5).bind fun t357=>(if (t353 == (!t357)) = true then ((shapesearchlaw13_awake.f k).bind fun t358=>(some t358)) else (some false))))))) else (some false)) else ((shapesearchlaw13_spread.f k x5).bind fun t359=>(if ((t335 == 1 && (t336 == 1)) == t359) = true then ((shapesearchref01_Less.f k t335 t336 1 1).bind fun t360=>(if t347 > 0 then (if (t360 == true) = true then ((shapesearchlaw13_awake.f k).bind fun t361=>(some t361)) else (some false)) else ((shapesearchlaw13_spread.f k x4).bind fun t362=>(if t362 = true then (if (t360 == false) = true then ((shapesearchlaw13_awake.f k).bind fun t363=>(some t363)) else (some false)) else ((shapesearchlaw13_spread.f k x5).bind fun t364=>(if (t360 == (!t364)) = true then ((shapesearchlaw13_awake.f k).bind fun t365=>(some t365)) else (some false))))))) else (some false))))) else (if ((t335 == 1 && (t336 == 1)) == false) = true then ((shapesearchref01_Less.f k t335 t336 1 1).bind fun t366=>(if t347 > 0 then (if (t366 == true) = true then ((shapesearchlaw13_awake.f k).bind fun t367=>(some t367)) else (some false)) else ((shapesearchlaw13_spread.f k x4).bind fun t368=>(if t368 = true then (if (t366 == false) = true then ((shapesearchlaw13_awake.f k).bind fun t369=>(some t369)) else (some false)) else ((shapesearchlaw13_spread.f k x5).bind fun t370=>(if (t366 == (!t370)) = true then ((shapesearchlaw13_awake.f k).bind fun t371=>(some t371)) else (some false))))))) else (some false))) = some r) (hr : r = true)
  (w1 : (t347 == 0) = true → decide (0 < t347) = false → decide (t347 > 0) = false → (t335 == 1 && (t336 == 1)) = true → Aside0 (shapesearchlaw13_spread.f k x4 = some true) → Aside0 (shapesearchref01_Less.f k t335 t336 1 1 = some false) → Aside0 (shapesearchlaw13_awake.f k = some r) → C)
  (w2 : ∀ ty : Bool,(t347 == 0) = true → decide (0 < t347) = false → decide (t347 > 0) = false → (t335 == 1 && (t336 == 1)) = ty → Aside0 (shapesearchlaw13_spread.f k x4 = some false) → Aside0 (shapesearchlaw13_spread.f k x5 = some ty) → Aside0 (shapesearchref01_Less.f k t335 t336 1 1 = some (!ty)) → Aside0 (shapesearchlaw13_awake.f k = some r) → C)
  (w3 : (t347 == 0) = false → decide (0 < t347) = true → decide (t347 > 0) = true → (t335 == 1 && (t336 == 1)) = false → Aside0 (shapesearchref01_Less.f k t335 t336 1 1 = some true) → Aside0 (shapesearchlaw13_awake.f k = some r) → C)
  (w4 : (t347 == 0) = false → decide (0 < t347) = false → decide (t347 > 0) = false → (t335 == 1 && (t336 == 1)) = false → Aside0 (shapesearchlaw13_spread.f k x4 = some true) → Aside0 (shapesearchref01_Less.f k t335 t336 1 1 = some false) → Aside0 (shapesearchlaw13_awake.f k = some r) → C)
  (w5 : ∀ ty : Bool,(t347 == 0) = false → decide (0 < t347) = false → decide (t347 > 0) = false → (t335 == 1 && (t336 == 1)) = false → Aside0 (shapesearchlaw13_spread.f k x4 = some false) → Aside0 (shapesearchlaw13_spread.f k x5 = some ty) → Aside0 (shapesearchref01_Less.f k t335 t336 1 1 = some (!ty)) → Aside0 (shapesearchlaw13_awake.f k = some r) → C) : C:=by
 by_cases c8 : t347 = 0
 ·
  rw [if_pos c8] at H
  replace H:=Option.bind_eq_some_iff.mp H
  obtain ⟨tx,ASX0,H⟩:=H
  cases tx with
  | true =>
   rw [if_pos rfl] at H
   by_cases hpq : ((t335 == 1 && (t336 == 1)) == true) = true
   rotate_left
   ·
    rw [if_neg hpq] at H
    exact absurd ((Option.some.inj H).trans hr) (by decide)
   rw [if_pos hpq] at H
   replace hpq:=eq_of_beq hpq
   replace H:=Option.bind_eq_some_iff.mp H
   obtain ⟨tl,AL0,H⟩:=H
   rw [if_neg (by omega)] at H
   replace H:=Option.bind_eq_some_iff.mp H
   obtain ⟨tsx,AS20,H⟩:=H
   obtain rfl : true = tsx:=Option.some.inj (ASX0.symm.trans AS20)
   rw [if_pos rfl] at H
   by_cases htl : (tl == false) = true
   rotate_left
   ·
    rw [if_neg htl] at H
    exact absurd ((Option.some.inj H).trans hr) (by decide)
   rw [if_pos htl] at H
   replace htl:=eq_of_beq htl
   subst htl
   replace H:=Option.bind_eq_some_iff.mp H
   obtain ⟨ta,AA0,H⟩:=H
   obtain rfl:=Option.some.inj H
   exact w1 (by simp [c8]) (decide_eq_false (by omega)) (decide_eq_false (by omega)) hpq ⟨ASX0⟩ ⟨AL0⟩ ⟨AA0⟩
  | false =>
   rw [if_neg (by decide)] at H
   replace H:=Option.bind_eq_some_iff.mp H
   obtain ⟨ty,ASY0,H⟩:=H
   by_cases hpq : ((t335 == 1 && (t336 == 1)) == ty) = true
   rotate_left
   ·
    rw [if_neg hpq] at H
    exact absurd ((Option.some.inj H).trans hr) (by decide)
   rw [if_pos hpq] at H
   replace hpq:=eq_of_beq hpq
   replace H:=Option.bind_eq_some_iff.mp H
   obtain ⟨tl,AL0,H⟩:=H
   rw [if_neg (by omega)] at H
   replace H:=Option.bind_eq_some_iff.mp H
   obtain ⟨tsx,AS20,H⟩:=H
   obtain rfl : false = tsx:=Option.some.inj (ASX0.symm.trans AS20)
   rw [if_neg (by decide)] at H
   replace H:=Option.bind_eq_some_iff.mp H
   obtain ⟨tsy,AS30,H⟩:=H
   have e3_ : tsy = ty:=Option.some.inj (AS30.symm.trans ASY0)
   subst e3_
   by_cases htl : (tl == (!tsy)) = true
   rotate_left
   ·
    rw [if_neg htl] at H
    exact absurd ((Option.some.inj H).trans hr) (by decide)
   rw [if_pos htl] at H
   replace htl:=eq_of_beq htl
   subst htl
   replace H:=Option.bind_eq_some_iff.mp H
   obtain ⟨ta,AA0,H⟩:=H
   obtain rfl:=Option.some.inj H
   exact w2 tsy (by simp [c8]) (decide_eq_false (by omega)) (decide_eq_false (by omega)) hpq ⟨ASX0⟩ ⟨ASY0⟩ ⟨AL0⟩ ⟨AA0⟩
 ·
  rw [if_neg c8] at H
  by_cases hpq : ((t335 == 1 && (t336 == 1)) == false) = true
  rotate_left
  ·
   rw [if_neg hpq] at H
   exact absurd ((Option.some.inj H).trans hr) (by decide)
  rw [if_pos hpq] at H
  replace hpq:=eq_of_beq hpq
  replace H:=Option.bind_eq_some_iff.mp H
  obtain ⟨tl,AL0,H⟩:=H
  by_cases c9 : t347 > 0
  ·
   rw [if_pos c9] at H
   by_cases htl : (tl == true) = true
   rotate_left
   ·
    rw [if_neg htl] at H
    exact absurd ((Option.some.inj H).trans hr) (by decide)
   rw [if_pos htl] at H
   replace htl:=eq_of_beq htl
   subst htl
   replace H:=Option.bind_eq_some_iff.mp H
   obtain ⟨ta,AA0,H⟩:=H
   obtain rfl:=Option.some.inj H
   exact w3 (by simp [c8]) (decide_eq_true c9) (decide_eq_true c9) hpq ⟨AL0⟩ ⟨AA0⟩
  ·
   rw [if_neg c9] at H
   replace H:=Option.bind_eq_some_iff.mp H
   obtain ⟨tx,ASX0,H⟩:=H
   cases tx with
   | true =>
    rw [if_pos rfl] at H
    by_cases htl : (tl == false) = true
    rotate_left
    ·
     rw [if_neg htl] at H
     exact absurd ((Option.some.inj H).trans hr) (by decide)
    rw [if_pos htl] at H
    replace htl:=eq_of_beq htl
    subst htl
    replace H:=Option.bind_eq_some_iff.mp H
    obtain ⟨ta,AA0,H⟩:=H
    obtain rfl:=Option.some.inj H
    exact w4 (by simp [c8]) (decide_eq_false c9) (decide_eq_false c9) hpq ⟨ASX0⟩ ⟨AL0⟩ ⟨AA0⟩
   | false =>
    rw [if_neg (by decide)] at H
    replace H:=Option.bind_eq_some_iff.mp H
    obtain ⟨ty,ASY0,H⟩:=H
    by_cases htl : (tl == (!ty)) = true
    rotate_left
    ·
     rw [if_neg htl] at H
     exact absurd ((Option.some.inj H).trans hr) (by decide)
    rw [if_pos htl] at H
    replace htl:=eq_of_beq htl
    subst htl
    replace H:=Option.bind_eq_some_iff.mp H
    obtain ⟨ta,AA0,H⟩:=H
    obtain rfl:=Option.some.inj H
    exact w5 ty (by simp [c8]) (decide_eq_false c9) (decide_eq_false c9) hpq ⟨ASX0⟩ ⟨ASY0⟩ ⟨AL0⟩ ⟨AA0⟩
set_option maxHeartbeats 16000000 in
set_option maxRecDepth 100000 in
theorem shapesearchlaw13_NormalRange.calls (k : Nat) (A0 : Option Addr) (c0 : Nat) (l0 : List Int) (r : Bool) (w : World) (hr0 : Kd.C (Kd.int .i64) w A0 l0.length l0) (hc0 : l0.length ≤ c0) (h : shapesearchlaw13_NormalRange.f k l0 = some r) (hT_ : r = true) :
  Calls Try.prog 5 #[.slice A0 l0.length c0] w fun e w'=>e = .returned (.bool r)∧Below w.heap.size w w':=by
 have HTR_:=A_ hT_
 clear hT_
 have hu29:=Try.underlying29
 have HR0:=A_ hr0
 have HC0:=A_ hc0
 clear hr0 hc0
 have HB:=A_ (Below.refl w.heap.size w)
 have H : ((shapesearchkeep_New.f l0).bind fun bt311=>((shapesearchkeep_Src_Pair.f k bt311.1 bt311.2).bind fun bt314=>(shapesearchlaw13_NormalRange.l0 k bt314.1 bt314.2.1 ([] : List Int) ([] : List Int) (bt314.1.length : Int) 0))) = some r:=h
 clear h
 replace H:=Option.bind_eq_some_iff.mp H
 obtain ⟨⟨t311,t312⟩,A20,H⟩:=H
 replace H : ((shapesearchkeep_Src_Pair.f k t311 t312).bind fun bt314=>(shapesearchlaw13_NormalRange.l0 k bt314.1 bt314.2.1 ([] : List Int) ([] : List Int) (bt314.1.length : Int) 0)) = some r:=H
 have A2:=A_ A20
 clear A20
 replace H:=Option.bind_eq_some_iff.mp H
 obtain ⟨⟨t314,t317,t320⟩,A30,H⟩:=H
 replace H : (shapesearchlaw13_NormalRange.l0 k t314 t317 ([] : List Int) ([] : List Int) (t314.length : Int) 0) = some r:=H
 have A3:=A_ A30
 clear A30
 have H':=A_ H
 clear H
 go_enter Try.func5,Try.ntmps5
 go_wp2_with (first|((with_reducible refine gate_callee (f:=9) rfl ?_);refine goesL_ (some 19) rfl rfl Try.func9 (by kernel_rfl) rfl #[.slice A0 l0.length c0] rfl (by (try simp only [List.map_toArray,List.map_cons,List.map_nil]);first|done|rfl|(simp only [List.length_drop,List.length_take];rfl)) ?_;(with_reducible refine (shapesearchkeep_New.calls _ _ l0 t311 t312 w _ ?side1 ?side2 ?side3 A2.out).mono ?_);(case side1=>repeat (first|(with_reducible first|exact HB.out|apply ba|apply bb|apply bc)|exact HB.out));(case side2=>exact HR0.out);(case side3=>exact HC0.out);rintro e w4 ⟨g313,rfl,hi,hb,hb2⟩;refine ⟨_,rfl,?_⟩;have n0_:=A_ (hb);have n1_:=A_ (hi);clear HB;have HB:=n0_;have HI313:=n1_;clear n0_ n1_;(try clear hb);(try clear hb2);(try clear hk);(try clear hi))|((with_reducible refine gate_callee (f:=10) rfl ?_);refine goesL_ (some 22) rfl rfl Try.func10 (by kernel_rfl) rfl #[.pointer (some ⟨g313,0,none⟩)] rfl (by (try simp only [List.map_toArray,List.map_cons,List.map_nil]);first|done|rfl|(simp only [List.length_drop,List.length_take];rfl)) ?_;(with_reducible refine (shapesearchkeep_Src_Pair.calls k g313 t311 t312 t314 t317 t320 w _ ?side1 ?side2 A3.out).mono ?_);(case side1=>repeat (first|(with_reducible first|exact HI313.out|apply IsS58.alloc|apply IsS58.drewN|apply IsS58.drew|apply IsS58.set_1)|exact HI313.out));(case side2=>repeat (first|(with_reducible first|exact HB.out|apply ba|apply bb|apply bc|refine below_set ?_ (IsS58.ge HI313.out))|exact HB.out));rintro e w5 ⟨v315,v318,rfl,ho0,ho1,hi,hb,hk⟩;refine ⟨_,rfl,?_⟩;have n0_:=A_ (Kd.R_lower ho0 (below_size (by repeat (first|(with_reducible first|exact HB.out|apply ba|apply bb|apply bc|refine below_set ?_ (IsS58.ge HI313.out))|exact HB.out))));have n1_:=A_ (Kd.R_lower ho1 (below_size (by repeat (first|(with_reducible first|exact HB.out|apply ba|apply bb|apply bc|refine below_set ?_ (IsS58.ge HI313.out))|exact HB.out))));have n2_:=A_ (hb);have n3_:=A_ (hi);clear HB;clear HI313;have HO316:=n0_;have HO319:=n1_;have HB:=n2_;have HI313:=n3_;clear n0_ n1_ n2_ n3_;(try clear hb);(try clear hb2);(try clear hk);(try clear hi);(try clear ho0);(try clear ho1);obtain ⟨Ao6,co6,eo6⟩:=Kd.R_slice HO316.out;subst eo6))
 go_loopg [6,7,27] k (fun kq v6 v7 v27 w'=>∃ (x6_1 : List Int) (x7_1 : List Int) (x27_1 : Int),v27 = .int .i64 x27_1∧Aside0 (shapesearchlaw13_NormalRange.l0 kq t314 t317 x6_1 x7_1 (t314.length : Int) x27_1 = some r)∧Aside0 (kq ≤ k)∧Aside0 (Kd.R (Kd.int .i64) 3 w' w.heap.size (fun k_=>nb k_ v318∧nb k_ v6∧nb k_ v7) (.slice Ao6 t314.length co6) t314)∧Aside0 (Kd.R (Kd.int .i64) 3 w' w.heap.size (fun k_=>some k_≠((.slice Ao6 t314.length co6) : Value).ownBlock∧nb k_ v6∧nb k_ v7) v318 t317)∧Aside0 (Kd.R (Kd.int .i64) 3 w' w.heap.size (fun k_=>some k_≠((.slice Ao6 t314.length co6) : Value).ownBlock∧nb k_ v318∧nb k_ v7) v6 x6_1)∧Aside0 (Kd.R (Kd.int .i64) 3 w' w.heap.size (fun k_=>some k_≠((.slice Ao6 t314.length co6) : Value).ownBlock∧nb k_ v318∧nb k_ v6) v7 x7_1)∧Aside0 (Below w.heap.size w w'))
 case atStart=>exact ⟨(([] : List Int)),(([] : List Int)),(0),(by first|rfl|(simp;done)|(simp [*];done)),H',⟨Nat.le_refl _⟩,⟨by (with_reducible repeat (first|apply ra|apply rb|apply rc));exact rm HO316.out (fun _ hk=>⟨hk,⟨(by simp [Value.ownBlock]),(by simp [Value.ownBlock])⟩⟩)⟩,⟨by (with_reducible repeat (first|apply ra|apply rb|apply rc));exact rm HO319.out (fun _ hk=>⟨hk,⟨(by simp [Value.ownBlock]),(by simp [Value.ownBlock])⟩⟩)⟩,⟨by first|exact Kd.R_nil _ _ _ _ _|exact Kd.N_nil _ _ _ _ _|exact Kd.V_nil _ _ _ _ _|exact Kd.Q_nil _ _ _ _ _|exact Kd.S_nil _ _ _ _ _⟩,⟨by first|exact Kd.R_nil _ _ _ _ _|exact Kd.N_nil _ _ _ _ _|exact Kd.V_nil _ _ _ _ _|exact Kd.Q_nil _ _ _ _ _|exact Kd.S_nil _ _ _ _ _⟩,⟨by repeat (first|(with_reducible first|exact HB.out|apply ba|apply bb|apply bc|refine below_set ?_ (IsS58.ge HI313.out))|exact HB.out)⟩⟩
 case round =>
  clear H'
  try clear c1
  try clear p2
  try clear c5
  obtain ⟨x6_1,x7_1,x27_1,rfl,HA,HK1,HO_4,HO_5,HO_6,HO_7,HB⟩:=hrel
  cases gk with
  | zero=>exact absurd HA.out (by simp [shapesearchlaw13_NormalRange.l0])
  | succ k1 =>
   have H:=HA.out
   clear HA
   simp only [shapesearchlaw13_NormalRange.l0] at H
   by_cases c7 : x27_1 < (t314.length : Int)
   ·
    rw [if_pos c7] at H
    have c7b0 : decide (x27_1 < (t314.length : Int)) = true:=decide_eq_true c7
    clear c7
    obtain ⟨ji8,hji8⟩ : ∃ j_ : Int,(wrap64 ((wrap64 ((t314.length : Int) - 1)) - x27_1)) = j_:=⟨_,rfl⟩
    replace H : (if 0 ≤ (ji8) then (if (ji8) < (t314.length : Int) then ((some (([rd t314 (ji8)] : List Int) : List Int)).bind fun y322=>(if x6_1.length + y322.length < 17592186044416 then (if (ji8) < (t317.length : Int) then ((some (([rd t317 (ji8)] : List Int) : List Int)).bind fun y329=>(if x7_1.length + y329.length < 17592186044416 then (shapesearchlaw13_NormalRange.l0 k1 t314 t317 (x6_1 ++ y322) (x7_1 ++ y329) (t314.length : Int) (wrap64 (x27_1 + 1))) else (none))) else (none)) else (none))) else (none)) else (none)) = some r:=by first|(rw [hji8] at H;exact H)|(simp only [hji8] at H ⊢;exact H)
    have hji8w : (IntKind.i64.wrap ((wrap64 ((t314.length : Int) - 1)) - x27_1)) = ji8:=(i64_w _).trans hji8
    by_cases c9 : 0 ≤ (ji8)
    ·
     rw [if_pos c9] at H
     have c9b0 : decide (0 ≤ (ji8)) = true:=decide_eq_true c9
     clear c9
     by_cases c10 : (ji8) < (t314.length : Int)
     ·
      rw [if_pos c10] at H
      have c10b0 : decide ((ji8) < (t314.length : Int)) = true:=decide_eq_true c10
      clear c10
      obtain ⟨y322,hy322⟩ : ∃ y_ : List Int,y_ = (([rd t314 (ji8)] : List Int)):=⟨_,rfl⟩
      replace H : (if x6_1.length + y322.length < 17592186044416 then (if (ji8) < (t317.length : Int) then ((some (([rd t317 (ji8)] : List Int) : List Int)).bind fun y329=>(if x7_1.length + y329.length < 17592186044416 then (shapesearchlaw13_NormalRange.l0 k1 t314 t317 (x6_1 ++ y322) (x7_1 ++ y329) (t314.length : Int) (wrap64 (x27_1 + 1))) else (none))) else (none)) else (none)) = some r:=by first|(rw [hy322];with_reducible exact H)|(have H2_:=(Option.bind_some _ _).symm.trans H;rw [hy322];with_reducible exact H2_)|(have H2_:=(Option.bind_some _ _).symm.trans H;with_reducible exact H2_)|with_reducible exact H|(rw [hy322];exact H)|exact H
      have Ny322:=A_ hy322
      clear hy322
      by_cases c11 : x6_1.length + y322.length < 17592186044416
      ·
       rw [if_pos c11] at H
       have LMc11:=A_ c11
       clear c11
       obtain ⟨y325,hy325⟩ : ∃ y_ : List Int,y_ = (x6_1 ++ y322):=⟨_,rfl⟩
       replace H : (if (ji8) < (t317.length : Int) then ((some (([rd t317 (ji8)] : List Int) : List Int)).bind fun y329=>(if x7_1.length + y329.length < 17592186044416 then (shapesearchlaw13_NormalRange.l0 k1 t314 t317 y325 (x7_1 ++ y329) (t314.length : Int) (wrap64 (x27_1 + 1))) else (none))) else (none)) = some r:=by first|(rw [hy325];with_reducible exact H)|(have H2_:=(Option.bind_some _ _).symm.trans H;rw [hy325];with_reducible exact H2_)|(have H2_:=(Option.bind_some _ _).symm.trans H;with_reducible exact H2_)|with_reducible exact H|(rw [hy325];exact H)|exact H
       have Ny325:=A_ hy325
       clear hy325
       by_cases c12 : (ji8) < (t317.length : Int)
       ·
        rw [if_pos c12] at H
        have c12b0 : decide ((ji8) < (t317.length : Int)) = true:=decide_eq_true c12
        clear c12
        obtain ⟨y329,hy329⟩ : ∃ y_ : List Int,y_ = (([rd t317 (ji8)] : List Int)):=⟨_,rfl⟩
        replace H : (if x7_1.length + y329.length < 17592186044416 then (shapesearchlaw13_NormalRange.l0 k1 t314 t317 y325 (x7_1 ++ y329) (t314.length : Int) (wrap64 (x27_1 + 1))) else (none)) = some r:=by first|(rw [hy329];with_reducible exact H)|(have H2_:=(Option.bind_some _ _).symm.trans H;rw [hy329];with_reducible exact H2_)|(have H2_:=(Option.bind_some _ _).symm.trans H;with_reducible exact H2_)|with_reducible exact H|(rw [hy329];exact H)|exact H
        have Ny329:=A_ hy329
        clear hy329
        by_cases c13 : x7_1.length + y329.length < 17592186044416
        ·
         rw [if_pos c13] at H
         have LMc13:=A_ c13
         clear c13
         obtain ⟨y332,hy332⟩ : ∃ y_ : List Int,y_ = (x7_1 ++ y329):=⟨_,rfl⟩
         replace H : (shapesearchlaw13_NormalRange.l0 k1 t314 t317 y325 y332 (t314.length : Int) (wrap64 (x27_1 + 1))) = some r:=by first|(rw [hy332];with_reducible exact H)|(have H2_:=(Option.bind_some _ _).symm.trans H;rw [hy332];with_reducible exact H2_)|(have H2_:=(Option.bind_some _ _).symm.trans H;with_reducible exact H2_)|with_reducible exact H|(rw [hy332];exact H)|exact H
         have Ny332:=A_ hy332
         clear hy332
         have H':=A_ H
         clear H
         obtain ⟨Ao14,co14,eo14⟩:=Kd.R_slice HO_6.out
         subst eo14
         obtain ⟨Ao15,co15,eo15⟩:=Kd.R_slice HO_7.out
         subst eo15
         try go_wp2
         have n0_:=A_ (Kd.R_drew HO_4.out)
         have n1_:=A_ (Kd.R_drew HO_5.out)
         have n2_:=A_ (Kd.R_drew HO_6.out)
         have n3_:=A_ (Kd.R_drew HO_7.out)
         have n4_:=A_ (below_drew1 HB.out)
         clear HO_4
         clear HO_5
         clear HO_6
         clear HO_7
         clear HB
         have HO_4:=n0_
         have HO_5:=n1_
         have HO_6:=n2_
         have HO_7:=n3_
         have HB:=n4_
         clear n0_ n1_ n2_ n3_ n4_
         have p321 : 0 ≤ ((ji8) : Int):=of_decide_eq_true (by first|(with_reducible assumption)|assumption)
         have q321 : (ji8) < (t314.length : Int):=of_decide_eq_true (by first|(with_reducible assumption)|assumption)
         obtain ⟨ad321,e321,hx321_0⟩:=Kd.at_int (rd_ HO_4.out).2.2 (ji8) p321 q321
         cases e321
         replace p321:=eq_true p321
         replace q321:=eq_true q321
         obtain ⟨Ao17,co17,eo17⟩:=Kd.R_slice HO_5.out
         (first|subst eo17|(injection eo17 with f1_ f2_ f3_;have f4_:=f1_.symm;have f5_:=f3_.symm;clear f1_ f2_ f3_;subst f4_;subst f5_))
         have p328 : 0 ≤ ((ji8) : Int):=of_decide_eq_true (by first|(with_reducible assumption)|assumption)
         have q328 : (ji8) < (t317.length : Int):=of_decide_eq_true (by first|(with_reducible assumption)|assumption)
         obtain ⟨ad328,e328,hx328_0⟩:=Kd.at_int (rd_ HO_5.out).2.2 (ji8) p328 q328
         cases e328
         replace p328:=eq_true p328
         replace q328:=eq_true q328
         refine start_ (n:=24) (S:=fun w'=>w'.cell? (ad321.add ((ji8)).toNat) = some (.int .i64 (rd t314 (ji8)))∧w'.cell? (ad328.add ((ji8)).toNat) = some (.int .i64 (rd t317 (ji8)))) (ds:=[]) #[false,false,false,false,false,false,false,false,false,false,false,false,false,false,false,false,false,false,false,false,false,false,false,false] (by kernel_rfl) rfl rfl ⟨hx321_0,hx328_0⟩ (fun hHeld=>?_);refine with_tabW shapesearchlaw13_NormalRange.tab7 shapesearchlaw13_NormalRange.bits7 (fun HT_ HW_=>?_)
         generalize wr.drew = w16 at HO_4 HO_5 HO_6 HO_7 HB hx321_0 hx328_0 hHeld ⊢
         refine pure_ (i:=0) (N:=some 30) (v:=?_) (a':=?_) #[true,false,false,false,false,false,false,false,false,false,false,false,false,false,false,false,false,false,false,false,false,false,false,false] rfl rfl (any_of HT_.out (by kernel_rfl)) (fun _ _ _ h=>h) (Or.inl ⟨by rfl,?_⟩) ?_ ?_
         rotate_left
         ·
          intro w'
          go_simp
          with_reducible rfl
         rotate_left
         ·
          simp only [Act.put,sa,sb,sc,i64_w,i32_w]
          rfl
         refine pure_ (i:=1) (N:=some 31) (v:=?_) (a':=?_) #[true,true,false,false,false,false,false,false,false,false,false,false,false,false,false,false,false,false,false,false,false,false,false,false] rfl rfl (any_of HT_.out (by kernel_rfl)) (fun _ _ _ h=>h) (Or.inl ⟨by rfl,?_⟩) ?_ ?_
         rotate_left
         ·
          intro w'
          go_simp
          with_reducible rfl
         rotate_left
         ·
          simp only [Act.put,sa,sb,sc,i64_w,i32_w]
          rfl
         refine pure_ (i:=2) (N:=some 32) (v:=?_) (a':=?_) #[true,true,true,false,false,false,false,false,false,false,false,false,false,false,false,false,false,false,false,false,false,false,false,false] rfl rfl (any_of HT_.out (by kernel_rfl)) (fun _ _ _ h=>h) (Or.inl ⟨by rfl,?_⟩) ?_ ?_
         rotate_left
         ·
          intro w'
          go_simp
          with_reducible rfl
         rotate_left
         ·
          simp only [Act.put,sa,sb,sc,i64_w,i32_w]
          rfl
         refine pure_ (i:=3) (N:=some 33) (v:=?_) (a':=?_) #[true,true,true,true,false,false,false,false,false,false,false,false,false,false,false,false,false,false,false,false,false,false,false,false] rfl rfl (any_of HT_.out (by kernel_rfl)) (fun _ _ _ h=>h) (Or.inl ⟨by rfl,?_⟩) ?_ ?_
         rotate_left
         ·
          intro w'
          go_simp
          with_reducible rfl
         rotate_left
         ·
          simp only [Act.put,sa,sb,sc,i64_w,i32_w]
          rfl
         refine pure_ (i:=4) (N:=some 34) (v:=?_) (a':=?_) #[true,true,true,true,true,false,false,false,false,false,false,false,false,false,false,false,false,false,false,false,false,false,false,false] rfl rfl (any_of HT_.out (by kernel_rfl)) (fun _ _ _ h=>h) (Or.inl ⟨by rfl,?_⟩) ?_ ?_
         rotate_left
         ·
          intro w'
          go_simp
          with_reducible rfl
         rotate_left
         ·
          simp only [Act.put,sa,sb,sc,i64_w,i32_w]
          rfl
         refine pure_ (i:=5) (N:=some 35) (v:=?_) (a':=?_) #[true,true,true,true,true,true,false,false,false,false,false,false,false,false,false,false,false,false,false,false,false,false,false,false] rfl rfl (any_of HT_.out (by kernel_rfl)) (fun _ _ _ h=>h) (Or.inl ⟨by rfl,?_⟩) ?_ ?_
         rotate_left
         ·
          intro w'
          go_simp
          with_reducible rfl
         rotate_left
         ·
          simp only [Act.put,sa,sb,sc,i64_w,i32_w]
          rfl
         refine pure_ (i:=6) (N:=some 36) (v:=?_) (a':=?_) #[true,true,true,true,true,true,true,false,false,false,false,false,false,false,false,false,false,false,false,false,false,false,false,false] rfl rfl (any_of HT_.out (by kernel_rfl)) (fun _ _ _ h=>h) (Or.inl ⟨by rfl,?_⟩) ?_ ?_
         rotate_left
         ·
          intro w'
          go_simp
          with_reducible rfl
         rotate_left
         ·
          simp only [Act.put,sa,sb,sc,i64_w,i32_w]
          rfl
         refine pure_ (i:=7) (N:=some 37) (v:=?_) (a':=?_) #[true,true,true,true,true,true,true,true,false,false,false,false,false,false,false,false,false,false,false,false,false,false,false,false] rfl rfl (any_of HT_.out (by kernel_rfl)) (fun _ _ _ h=>h) (Or.inl ⟨by rfl,?_⟩) ?_ ?_
         rotate_left
         ·
          intro w'
          go_simp
          with_reducible rfl
         rotate_left
         ·
          simp only [Act.put,sa,sb,sc,i64_w,i32_w]
          rfl
         refine pure_ (i:=11) (N:=some 41) (v:=?_) (a':=?_) #[true,true,true,true,true,true,true,true,false,false,false,true,false,false,false,false,false,false,false,false,false,false,false,false] rfl rfl (any_of HT_.out (by kernel_rfl)) (fun _ _ _ h=>h) (Or.inl ⟨by rfl,?_⟩) ?_ ?_
         rotate_left
         ·
          intro w'
          go_simp
          with_reducible rfl
         rotate_left
         ·
          simp only [Act.put,sa,sb,sc,i64_w,i32_w]
          rfl
         refine pure_ (i:=12) (N:=some 42) (v:=?_) (a':=?_) #[true,true,true,true,true,true,true,true,false,false,false,true,true,false,false,false,false,false,false,false,false,false,false,false] rfl rfl (any_of HT_.out (by kernel_rfl)) (fun _ _ _ h=>h) (Or.inl ⟨by rfl,?_⟩) ?_ ?_
         rotate_left
         ·
          intro w'
          go_simp
          with_reducible rfl
         rotate_left
         ·
          simp only [Act.put,sa,sb,sc,i64_w,i32_w]
          rfl
         refine pure_ (i:=13) (N:=some 43) (v:=?_) (a':=?_) #[true,true,true,true,true,true,true,true,false,false,false,true,true,true,false,false,false,false,false,false,false,false,false,false] rfl rfl (any_of HT_.out (by kernel_rfl)) (fun _ _ _ h=>h) (Or.inl ⟨by rfl,?_⟩) ?_ ?_
         rotate_left
         ·
          intro w'
          go_simp
          with_reducible rfl
         rotate_left
         ·
          simp only [Act.put,sa,sb,sc,i64_w,i32_w]
          rfl
         refine pure_ (i:=14) (N:=some 44) (v:=?_) (a':=?_) #[true,true,true,true,true,true,true,true,false,false,false,true,true,true,true,false,false,false,false,false,false,false,false,false] rfl rfl (any_of HT_.out (by kernel_rfl)) (fun _ _ _ h=>h) (Or.inl ⟨by rfl,?_⟩) ?_ ?_
         rotate_left
         ·
          intro w'
          go_simp
          with_reducible rfl
         rotate_left
         ·
          simp only [Act.put,sa,sb,sc,i64_w,i32_w]
          rfl
         refine pure_ (i:=15) (N:=some 45) (v:=?_) (a':=?_) #[true,true,true,true,true,true,true,true,false,false,false,true,true,true,true,true,false,false,false,false,false,false,false,false] rfl rfl (any_of HT_.out (by kernel_rfl)) (fun _ _ _ h=>h) (Or.inl ⟨by rfl,?_⟩) ?_ ?_
         rotate_left
         ·
          intro w'
          go_simp
          with_reducible rfl
         rotate_left
         ·
          simp only [Act.put,sa,sb,sc,i64_w,i32_w]
          rfl
         refine pure_ (i:=16) (N:=some 46) (v:=?_) (a':=?_) #[true,true,true,true,true,true,true,true,false,false,false,true,true,true,true,true,true,false,false,false,false,false,false,false] rfl rfl (any_of HT_.out (by kernel_rfl)) (fun _ _ _ h=>h) (Or.inl ⟨by rfl,?_⟩) ?_ ?_
         rotate_left
         ·
          intro w'
          go_simp
          with_reducible rfl
         rotate_left
         ·
          simp only [Act.put,sa,sb,sc,i64_w,i32_w]
          rfl
         refine pure_ (i:=17) (N:=some 47) (v:=?_) (a':=?_) #[true,true,true,true,true,true,true,true,false,false,false,true,true,true,true,true,true,true,false,false,false,false,false,false] rfl rfl (any_of HT_.out (by kernel_rfl)) (fun _ _ _ h=>h) (Or.inl ⟨by rfl,?_⟩) ?_ ?_
         rotate_left
         ·
          intro w'
          go_simp
          with_reducible rfl
         rotate_left
         ·
          simp only [Act.put,sa,sb,sc,i64_w,i32_w]
          rfl
         refine pure_ (i:=18) (N:=some 48) (v:=?_) (a':=?_) #[true,true,true,true,true,true,true,true,false,false,false,true,true,true,true,true,true,true,true,false,false,false,false,false] rfl rfl (any_of HT_.out (by kernel_rfl)) (fun _ _ _ h=>h) (Or.inl ⟨by rfl,?_⟩) ?_ ?_
         rotate_left
         ·
          intro w'
          go_simp
          with_reducible rfl
         rotate_left
         ·
          simp only [Act.put,sa,sb,sc,i64_w,i32_w]
          rfl
         refine take_ (i:=8) (N:=some 38) (v:=?_) (a':=?_) #[true,true,true,true,true,true,true,true,true,false,false,true,true,true,true,true,true,true,true,false,false,false,false,false] rfl rfl (take_ofW HT_.out HW_.out (by kernel_rfl)) (fun _ _ _ h=>h) (Or.inl ⟨by rfl,?_⟩) hHeld ?_ ?_
         rotate_left
         ·
          rintro w' ⟨s0,s1⟩
          go_simp
          with_reducible rfl
         rotate_left
         ·
          simp only [Act.put,sa,sb,sc,i64_w,i32_w]
          rfl
         refine take_ (i:=19) (N:=some 49) (v:=?_) (a':=?_) #[true,true,true,true,true,true,true,true,true,false,false,true,true,true,true,true,true,true,true,true,false,false,false,false] rfl rfl (take_ofW HT_.out HW_.out (by kernel_rfl)) (fun _ _ _ h=>h) (Or.inl ⟨by rfl,?_⟩) hHeld ?_ ?_
         rotate_left
         ·
          rintro w' ⟨s0,s1⟩
          go_simp
          with_reducible rfl
         rotate_left
         ·
          simp only [Act.put,sa,sb,sc,i64_w,i32_w]
          rfl
         refine join_ (σ:=Value × Value × Value) 3 #[true,true,true,true,true,true,true,true,true,true,true,true,true,true,true,true,true,true,true,true,true,false,false,false] (fun s_=>[(39,s_.1),(40,s_.2.1),(50,s_.2.2)]) (fun s_ w'=>(w'.cell? (ad321.add ((ji8)).toNat) = some (.int .i64 (rd t314 (ji8)))∧w'.cell? (ad328.add ((ji8)).toNat) = some (.int .i64 (rd t317 (ji8))))∧(Kd.R (Kd.int .i64) 3 w' w.heap.size (fun k_=>some k_≠(s_.2.1 : Value).ownBlock∧some k_≠(s_.2.2 : Value).ownBlock∧some k_≠(.slice (some ad321) t314.length co6 : Value).ownBlock∧some k_≠(.slice (some ad328) t317.length co17 : Value).ownBlock∧nb k_ (.slice Ao15 x7_1.length co15)) s_.1 y322)∧(Kd.R (Kd.int .i64) 3 w' w.heap.size (fun k_=>some k_≠(s_.1 : Value).ownBlock∧some k_≠(s_.2.2 : Value).ownBlock∧some k_≠(.slice (some ad321) t314.length co6 : Value).ownBlock∧some k_≠(.slice (some ad328) t317.length co17 : Value).ownBlock∧nb k_ (.slice Ao15 x7_1.length co15)) s_.2.1 y325)∧(Kd.R (Kd.int .i64) 3 w' w.heap.size (fun k_=>some k_≠(s_.1 : Value).ownBlock∧some k_≠(s_.2.1 : Value).ownBlock∧some k_≠(.slice (some ad321) t314.length co6 : Value).ownBlock∧some k_≠(.slice (some ad328) t317.length co17 : Value).ownBlock∧nb k_ (.slice Ao15 x7_1.length co15)) s_.2.2 y329)∧(Kd.R (Kd.int .i64) 3 w' w.heap.size (fun k_=>some k_≠(s_.1 : Value).ownBlock∧some k_≠(s_.2.1 : Value).ownBlock∧some k_≠(s_.2.2 : Value).ownBlock∧some k_≠(.slice (some ad328) t317.length co17 : Value).ownBlock∧nb k_ (.slice Ao15 x7_1.length co15)) (.slice (some ad321) t314.length co6) t314)∧(Kd.R (Kd.int .i64) 3 w' w.heap.size (fun k_=>some k_≠(s_.1 : Value).ownBlock∧some k_≠(s_.2.1 : Value).ownBlock∧some k_≠(s_.2.2 : Value).ownBlock∧some k_≠(.slice (some ad321) t314.length co6 : Value).ownBlock∧nb k_ (.slice Ao15 x7_1.length co15)) (.slice (some ad328) t317.length co17) t317)∧(Kd.R (Kd.int .i64) 3 w' w.heap.size (fun k_=>some k_≠(s_.1 : Value).ownBlock∧some k_≠(s_.2.1 : Value).ownBlock∧some k_≠(s_.2.2 : Value).ownBlock∧some k_≠(.slice (some ad321) t314.length co6 : Value).ownBlock∧some k_≠(.slice (some ad328) t317.length co17 : Value).ownBlock) (.slice Ao15 x7_1.length co15) x7_1)∧(Below w.heap.size w w')) ?_ ?_
         rotate_left
         ·
          intro hCont
          refine two_ (i:=9) (j:=20) (Ni:=some 39) (Nj:=some 50) #[true,true,true,true,true,true,true,true,true,true,false,true,true,true,true,true,true,true,true,true,false,false,false,false] #[true,true,true,true,true,true,true,true,true,false,false,true,true,true,true,true,true,true,true,true,true,false,false,false] rfl rfl rfl rfl (two_of HT_.out (by kernel_rfl)) (by decide) (by decide) (fun K hK=>?_) (fun K hK=>?_)
          ·
           skip
           refine Kd.R_lit_step (Kd.int .i64) _ 3 ?hg (N:=39) ?hd (xs:=([rd t314 (ji8)] : List Int)) (inner:=[.int .i64 (rd t314 (ji8))]) (ok:=fun _=>True) (okp:=fun _=>True) ?hr ?hp (fun _ hk=>hk) trivial (Below.refl _ _) (Nat.le_refl _) (by simp) ?_;(case hd=>rfl);(case hg=>rfl);(case hr=>first|(go_simp;done)|(go_simp;rfl));(case hp=>exact (Reps.one (show Kd.M (Kd.int .i64) _ _ _ (rd t314 (ji8)) [.int .i64 (rd t314 (ji8))] from rfl) (Reps.none _ _)))
           intro v323 w18 ho19 hb hg_ hnew_
           have HS0_:=(hb.cell (World.block_lt_of_cell? _ _ (hHeld.1))).trans (hHeld.1)
           have HS1_:=(hb.cell (World.block_lt_of_cell? _ _ (hHeld.2))).trans (hHeld.2)
           clear hg_ hnew_
           (first|rw [← Ny322.out] at ho19|(simp only [Int.reduceToNat] at ho19;rw [← Ny322.out] at ho19))
           have n0_:=A_ (re (by (with_reducible repeat (first|apply ra|apply rb|apply rc));exact HO_4.out) (rs ho19) hb)
           have n1_:=A_ (re (by (with_reducible repeat (first|apply ra|apply rb|apply rc));exact HO_5.out) (rs ho19) hb)
           have n2_:=A_ (re (by (with_reducible repeat (first|apply ra|apply rb|apply rc));exact HO_6.out) (rs ho19) hb)
           have n3_:=A_ (re (by (with_reducible repeat (first|apply ra|apply rb|apply rc));exact HO_7.out) (rs ho19) hb)
           have n4_:=A_ (Kd.R_lower (rn (rn (rn (rn ho19 (rl (by (with_reducible repeat (first|apply ra|apply rb|apply rc));exact HO_4.out))) (rl (by (with_reducible repeat (first|apply ra|apply rb|apply rc));exact HO_5.out))) (rl (by (with_reducible repeat (first|apply ra|apply rb|apply rc));exact HO_6.out))) (rl (by (with_reducible repeat (first|apply ra|apply rb|apply rc));exact HO_7.out))) (below_size (by repeat (first|(with_reducible first|exact HB.out|apply ba|apply bb|apply bc)|exact HB.out))))
           have n5_:=A_ (below_step (by repeat (first|(with_reducible first|exact HB.out|apply ba|apply bb|apply bc)|exact HB.out)) hb)
           clear HO_4
           clear HO_5
           clear HO_6
           clear HO_7
           clear HB
           have HO_4:=n0_
           have HO_5:=n1_
           have HO_6:=n2_
           have HO_7:=n3_
           have HO324:=n4_
           have HB:=n5_
           clear n0_ n1_ n2_ n3_ n4_ n5_
           clear hb ho19
           obtain ⟨Ao21,co21,eo21⟩:=Kd.R_slice HO324.out
           (first|subst eo21|(injection eo21 with f1_ f2_ f3_;have f4_:=f1_.symm;have f5_:=f3_.symm;clear f1_ f2_ f3_;subst f4_;subst f5_))
           refine hK.out _ _ ⟨HS0_,HS1_⟩ (fun hHeld=>?_)
           clear hK K
           refine norm_ (a':=?_) ?_ ?_
           rotate_left
           ·
            show Act.put _ (some 39) _ = _
            simp only [Act.put,sa,sb,sc,i64_w,i32_w]
            rfl
           refine two_ (i:=10) (j:=20) (Ni:=some 40) (Nj:=some 50) #[true,true,true,true,true,true,true,true,true,true,true,true,true,true,true,true,true,true,true,true,false,false,false,false] #[true,true,true,true,true,true,true,true,true,true,false,true,true,true,true,true,true,true,true,true,true,false,false,false] rfl rfl rfl rfl (two_of HT_.out (by kernel_rfl)) (by decide) (by decide) (fun K hK=>?_) (fun K hK=>?_)
           ·
            skip
            refine Kd.R_append_rows_step (Kd.int .i64) (w0:=w) w.heap.size (by rfl) (.tmp 30) (.tmp 39) 22 3 (.int .i64 0) 8 rfl Try.underlying22 info3 rfl (by decide) (by omega) (.slice Ao14 x6_1.length co14) x6_1 y322 _ _ _ (fun k_=>some k_≠(.slice (some ad321) t314.length co6 : Value).ownBlock∧some k_≠(.slice (some ad328) t317.length co17 : Value).ownBlock∧nb k_ (.slice Ao15 x7_1.length co15)∧nb k_ (.slice Ao21 y322.length co21)) (fun _=>False) rfl rfl ?aO ?aR (fun _ _ h=>h) (fun _ h=>h.elim) ?aF ?aB ?aS ?aL ?_
            (case aR=>repeat (first|exact (rd_ HO324.out).2.2|(with_reducible refine ca ?_ _)|(with_reducible refine cb ?_ _)|(with_reducible refine cc ?_)))
            (case aB=>exact (by repeat (first|(with_reducible first|exact HB.out|apply ba|apply bb|apply bc)|exact HB.out)))
            (case aF=>exact (fun k_ hk=>⟨rh (rl (by (with_reducible repeat (first|apply ra|apply rb|apply rc));exact HO_4.out)) k_ hk,rh (rl (by (with_reducible repeat (first|apply ra|apply rb|apply rc));exact HO_5.out)) k_ hk,rh (rl (by (with_reducible repeat (first|apply ra|apply rb|apply rc));exact HO_7.out)) k_ hk,rh (rl (by (with_reducible repeat (first|apply ra|apply rb|apply rc));exact HO324.out)) k_ hk⟩))
            (case aO=>exact (by (with_reducible repeat (first|apply ra|apply rb|apply rc));exact rm HO_6.out (fun _ hk=>⟨hk.1.1,⟨hk.1.2.1,⟨hk.1.2.2,hk.2⟩⟩⟩)))
            (case aS=>exact (below_size (by repeat (first|(with_reducible first|exact HB.out|apply ba|apply bb|apply bc)|exact HB.out))))
            (case aL=>have:=LMc11.out;omega)
            intro v326 w20 ho hb hg hat
            (first|have HS0_:=cell_grown hg (hHeld.1) (by first|(rw [add_block];exact (fun e_=>((HO_6.out.1 _ e_.symm).1.1) rfl))|(show some (Addr.add _ _).block≠_;rw [add_block];exact (fun e_=>((HO_6.out.1 _ e_.symm).1.1) rfl))|exact (fun e_=>((HO_6.out.1 _ e_.symm).1.1) rfl))|have HS0_:=cell_grown hg (cell_unalloc (hHeld.1) (by first|(rw [add_block];exact rl HO_4.out _ rfl)|(show (Addr.add _ _).block < _;rw [add_block];exact rl HO_4.out _ rfl)|exact rl HO_4.out _ rfl)) (by first|(rw [add_block];exact (fun e_=>((HO_6.out.1 _ e_.symm).1.1) rfl))|(show some (Addr.add _ _).block≠_;rw [add_block];exact (fun e_=>((HO_6.out.1 _ e_.symm).1.1) rfl))|exact (fun e_=>((HO_6.out.1 _ e_.symm).1.1) rfl)))
            (first|have HS1_:=cell_grown hg (hHeld.2) (by first|(rw [add_block];exact (fun e_=>((HO_6.out.1 _ e_.symm).1.2.1) rfl))|(show some (Addr.add _ _).block≠_;rw [add_block];exact (fun e_=>((HO_6.out.1 _ e_.symm).1.2.1) rfl))|exact (fun e_=>((HO_6.out.1 _ e_.symm).1.2.1) rfl))|have HS1_:=cell_grown hg (cell_unalloc (hHeld.2) (by first|(rw [add_block];exact rl HO_5.out _ rfl)|(show (Addr.add _ _).block < _;rw [add_block];exact rl HO_5.out _ rfl)|exact rl HO_5.out _ rfl)) (by first|(rw [add_block];exact (fun e_=>((HO_6.out.1 _ e_.symm).1.2.1) rfl))|(show some (Addr.add _ _).block≠_;rw [add_block];exact (fun e_=>((HO_6.out.1 _ e_.symm).1.2.1) rfl))|exact (fun e_=>((HO_6.out.1 _ e_.symm).1.2.1) rfl)))
            rw [← Ny325.out] at ho
            have n0_:=A_ (rf (ok:=(fun k_=>some k_≠(.slice (some ad328) t317.length co17 : Value).ownBlock∧nb k_ (.slice Ao15 x7_1.length co15)∧nb k_ (.slice Ao21 y322.length co21))) (by (with_reducible repeat (first|apply ra|apply rb|apply rc));exact rm HO_4.out (fun _ hk=>⟨⟨hk.1.1,⟨hk.1.2.2,hk.2⟩⟩,hk.1.2.1⟩)) hg hat)
            have n1_:=A_ (rf (ok:=(fun k_=>some k_≠(.slice (some ad321) t314.length co6 : Value).ownBlock∧nb k_ (.slice Ao15 x7_1.length co15)∧nb k_ (.slice Ao21 y322.length co21))) (by (with_reducible repeat (first|apply ra|apply rb|apply rc));exact rm HO_5.out (fun _ hk=>⟨⟨hk.1.1,⟨hk.1.2.2,hk.2⟩⟩,hk.1.2.1⟩)) hg hat)
            have n2_:=A_ (rf (ok:=(fun k_=>some k_≠(.slice (some ad321) t314.length co6 : Value).ownBlock∧some k_≠(.slice (some ad328) t317.length co17 : Value).ownBlock∧nb k_ (.slice Ao21 y322.length co21))) (by (with_reducible repeat (first|apply ra|apply rb|apply rc));exact rm HO_7.out (fun _ hk=>⟨⟨hk.1.1,⟨hk.1.2.1,hk.2⟩⟩,hk.1.2.2⟩)) hg hat)
            have n3_:=A_ (rf (ok:=(fun k_=>some k_≠(.slice (some ad321) t314.length co6 : Value).ownBlock∧some k_≠(.slice (some ad328) t317.length co17 : Value).ownBlock∧nb k_ (.slice Ao15 x7_1.length co15))) (by (with_reducible repeat (first|apply ra|apply rb|apply rc));exact rm HO324.out (fun _ hk=>⟨⟨hk.1.1.1.2,⟨hk.1.1.2,hk.2⟩⟩,hk.1.2⟩)) hg hat)
            have n4_:=A_ (hb)
            have n5_:=A_ (ho)
            clear HO_4
            clear HO_5
            clear HO_7
            clear HO324
            clear HB
            clear HO_6
            have HO_4:=n0_
            have HO_5:=n1_
            have HO_7:=n2_
            have HO324:=n3_
            have HB:=n4_
            have HO327:=n5_
            clear n0_ n1_ n2_ n3_ n4_ n5_
            clear ho hb hg hat
            refine hK.out _ _ ⟨HS0_,HS1_⟩ (fun hHeld=>?_)
            clear hK K
            refine norm_ (a':=?_) ?_ ?_
            rotate_left
            ·
             show Act.put _ (some 40) _ = _
             simp only [Act.put,sa,sb,sc,i64_w,i32_w]
             rfl
            refine one_ (i:=20) (N:=some 50) #[true,true,true,true,true,true,true,true,true,true,true,true,true,true,true,true,true,true,true,true,true,false,false,false] rfl rfl (one_of HT_.out (by kernel_rfl)) (by decide) (fun K hK=>?_)
            refine Kd.R_lit_step (Kd.int .i64) _ 3 ?hg (N:=50) ?hd (xs:=([rd t317 (ji8)] : List Int)) (inner:=[.int .i64 (rd t317 (ji8))]) (ok:=fun _=>True) (okp:=fun _=>True) ?hr ?hp (fun _ hk=>hk) trivial (Below.refl _ _) (Nat.le_refl _) (by simp) ?_;(case hd=>rfl);(case hg=>rfl);(case hr=>first|(go_simp;done)|(go_simp;rfl));(case hp=>exact (Reps.one (show Kd.M (Kd.int .i64) _ _ _ (rd t317 (ji8)) [.int .i64 (rd t317 (ji8))] from rfl) (Reps.none _ _)))
            intro v330 w22 ho23 hb hg_ hnew_
            have HS0_:=(hb.cell (World.block_lt_of_cell? _ _ (hHeld.1))).trans (hHeld.1)
            have HS1_:=(hb.cell (World.block_lt_of_cell? _ _ (hHeld.2))).trans (hHeld.2)
            clear hg_ hnew_
            (first|rw [← Ny329.out] at ho23|(simp only [Int.reduceToNat] at ho23;rw [← Ny329.out] at ho23))
            have n0_:=A_ (re (by (with_reducible repeat (first|apply ra|apply rb|apply rc));exact HO_4.out) (rs ho23) hb)
            have n1_:=A_ (re (by (with_reducible repeat (first|apply ra|apply rb|apply rc));exact HO_5.out) (rs ho23) hb)
            have n2_:=A_ (re (by (with_reducible repeat (first|apply ra|apply rb|apply rc));exact HO_7.out) (rs ho23) hb)
            have n3_:=A_ (re (by (with_reducible repeat (first|apply ra|apply rb|apply rc));exact HO324.out) (rs ho23) hb)
            have n4_:=A_ (re (by (with_reducible repeat (first|apply ra|apply rb|apply rc));exact HO327.out) (rs ho23) hb)
            have n5_:=A_ (Kd.R_lower (rn (rn (rn (rn (rn ho23 (rl (by (with_reducible repeat (first|apply ra|apply rb|apply rc));exact HO_4.out))) (rl (by (with_reducible repeat (first|apply ra|apply rb|apply rc));exact HO_5.out))) (rl (by (with_reducible repeat (first|apply ra|apply rb|apply rc));exact HO_7.out))) (rl (by (with_reducible repeat (first|apply ra|apply rb|apply rc));exact HO324.out))) (rl (by (with_reducible repeat (first|apply ra|apply rb|apply rc));exact HO327.out))) (below_size (by repeat (first|(with_reducible first|exact HB.out|apply ba|apply bb|apply bc)|exact HB.out))))
            have n6_:=A_ (below_step (by repeat (first|(with_reducible first|exact HB.out|apply ba|apply bb|apply bc)|exact HB.out)) hb)
            clear HO_4
            clear HO_5
            clear HO_7
            clear HO324
            clear HO327
            clear HB
            have HO_4:=n0_
            have HO_5:=n1_
            have HO_7:=n2_
            have HO324:=n3_
            have HO327:=n4_
            have HO331:=n5_
            have HB:=n6_
            clear n0_ n1_ n2_ n3_ n4_ n5_ n6_
            clear hb ho23
            refine hK.out _ _ ⟨HS0_,HS1_⟩ (fun hHeld=>?_)
            clear hK K
            refine norm_ (a':=?_) ?_ ?_
            rotate_left
            ·
             show Act.put _ (some 50) _ = _
             simp only [Act.put,sa,sb,sc,i64_w,i32_w]
             rfl
            exact norm_ (by simp only [putAll,Act.put,List.setIfInBounds_toArray,List.set_cons_zero,List.set_cons_succ]) (hCont (.slice Ao21 y322.length co21,v326,v330) _ ⟨hHeld,(by (with_reducible repeat (first|apply ra|apply rb|apply rc));exact rm HO324.out (fun _ hk=>⟨hk.1.2,⟨hk.2,⟨hk.1.1.1,⟨hk.1.1.2.1,hk.1.1.2.2⟩⟩⟩⟩)),(by (with_reducible repeat (first|apply ra|apply rb|apply rc));exact rm HO327.out (fun _ hk=>⟨hk.1.2.2.2,⟨hk.2,⟨hk.1.1,⟨hk.1.2.1,hk.1.2.2.1⟩⟩⟩⟩)),(by (with_reducible repeat (first|apply ra|apply rb|apply rc));exact rm HO331.out (fun _ hk=>⟨hk.1.2,⟨hk.2,⟨hk.1.1.1.1.2,⟨hk.1.1.1.2,hk.1.1.2⟩⟩⟩⟩)),(by (with_reducible repeat (first|apply ra|apply rb|apply rc));exact rm HO_4.out (fun _ hk=>⟨hk.1.1.2.2,⟨hk.1.2,⟨hk.2,⟨hk.1.1.1,hk.1.1.2.1⟩⟩⟩⟩)),(by (with_reducible repeat (first|apply ra|apply rb|apply rc));exact rm HO_5.out (fun _ hk=>⟨hk.1.1.2.2,⟨hk.1.2,⟨hk.2,⟨hk.1.1.1,hk.1.1.2.1⟩⟩⟩⟩)),(by (with_reducible repeat (first|apply ra|apply rb|apply rc));exact rm HO_7.out (fun _ hk=>⟨hk.1.1.2.2,⟨hk.1.2,⟨hk.2,⟨hk.1.1.1,hk.1.1.2.1⟩⟩⟩⟩)),(by repeat (first|(with_reducible first|exact HB.out|apply ba|apply bb|apply bc)|exact HB.out))⟩)
           ·
            skip
            refine Kd.R_lit_step (Kd.int .i64) _ 3 ?hg (N:=50) ?hd (xs:=([rd t317 (ji8)] : List Int)) (inner:=[.int .i64 (rd t317 (ji8))]) (ok:=fun _=>True) (okp:=fun _=>True) ?hr ?hp (fun _ hk=>hk) trivial (Below.refl _ _) (Nat.le_refl _) (by simp) ?_;(case hd=>rfl);(case hg=>rfl);(case hr=>first|(go_simp;done)|(go_simp;rfl));(case hp=>exact (Reps.one (show Kd.M (Kd.int .i64) _ _ _ (rd t317 (ji8)) [.int .i64 (rd t317 (ji8))] from rfl) (Reps.none _ _)))
            intro v330 w20 ho21 hb hg_ hnew_
            have HS0_:=(hb.cell (World.block_lt_of_cell? _ _ (hHeld.1))).trans (hHeld.1)
            have HS1_:=(hb.cell (World.block_lt_of_cell? _ _ (hHeld.2))).trans (hHeld.2)
            clear hg_ hnew_
            (first|rw [← Ny329.out] at ho21|(simp only [Int.reduceToNat] at ho21;rw [← Ny329.out] at ho21))
            have n0_:=A_ (re (by (with_reducible repeat (first|apply ra|apply rb|apply rc));exact HO_4.out) (rs ho21) hb)
            have n1_:=A_ (re (by (with_reducible repeat (first|apply ra|apply rb|apply rc));exact HO_5.out) (rs ho21) hb)
            have n2_:=A_ (re (by (with_reducible repeat (first|apply ra|apply rb|apply rc));exact HO_6.out) (rs ho21) hb)
            have n3_:=A_ (re (by (with_reducible repeat (first|apply ra|apply rb|apply rc));exact HO_7.out) (rs ho21) hb)
            have n4_:=A_ (re (by (with_reducible repeat (first|apply ra|apply rb|apply rc));exact HO324.out) (rs ho21) hb)
            have n5_:=A_ (Kd.R_lower (rn (rn (rn (rn (rn ho21 (rl (by (with_reducible repeat (first|apply ra|apply rb|apply rc));exact HO_4.out))) (rl (by (with_reducible repeat (first|apply ra|apply rb|apply rc));exact HO_5.out))) (rl (by (with_reducible repeat (first|apply ra|apply rb|apply rc));exact HO_6.out))) (rl (by (with_reducible repeat (first|apply ra|apply rb|apply rc));exact HO_7.out))) (rl (by (with_reducible repeat (first|apply ra|apply rb|apply rc));exact HO324.out))) (below_size (by repeat (first|(with_reducible first|exact HB.out|apply ba|apply bb|apply bc)|exact HB.out))))
            have n6_:=A_ (below_step (by repeat (first|(with_reducible first|exact HB.out|apply ba|apply bb|apply bc)|exact HB.out)) hb)
            clear HO_4
            clear HO_5
            clear HO_6
            clear HO_7
            clear HO324
            clear HB
            have HO_4:=n0_
            have HO_5:=n1_
            have HO_6:=n2_
            have HO_7:=n3_
            have HO324:=n4_
            have HO331:=n5_
            have HB:=n6_
            clear n0_ n1_ n2_ n3_ n4_ n5_ n6_
            clear hb ho21
            obtain ⟨Ao23,co23,eo23⟩:=Kd.R_slice HO324.out
            (first|subst eo23|(injection eo23 with f1_ f2_ f3_;have f4_:=f1_.symm;have f5_:=f3_.symm;clear f1_ f2_ f3_;subst f4_;subst f5_))
            refine hK.out _ _ ⟨HS0_,HS1_⟩ (fun hHeld=>?_)
            clear hK K
            refine norm_ (a':=?_) ?_ ?_
            rotate_left
            ·
             show Act.put _ (some 50) _ = _
             simp only [Act.put,sa,sb,sc,i64_w,i32_w]
             rfl
            refine one_ (i:=10) (N:=some 40) #[true,true,true,true,true,true,true,true,true,true,true,true,true,true,true,true,true,true,true,true,true,false,false,false] rfl rfl (one_of HT_.out (by kernel_rfl)) (by decide) (fun K hK=>?_)
            refine Kd.R_append_rows_step (Kd.int .i64) (w0:=w) w.heap.size (by rfl) (.tmp 30) (.tmp 39) 22 3 (.int .i64 0) 8 rfl Try.underlying22 info3 rfl (by decide) (by omega) (.slice Ao14 x6_1.length co14) x6_1 y322 _ _ _ (fun k_=>some k_≠(.slice (some ad321) t314.length co6 : Value).ownBlock∧some k_≠(.slice (some ad328) t317.length co17 : Value).ownBlock∧nb k_ (.slice Ao15 x7_1.length co15)∧nb k_ (.slice Ao23 y322.length co23)∧nb k_ v330) (fun _=>False) rfl rfl ?aO ?aR (fun _ _ h=>h) (fun _ h=>h.elim) ?aF ?aB ?aS ?aL ?_
            (case aR=>repeat (first|exact (rd_ HO324.out).2.2|(with_reducible refine ca ?_ _)|(with_reducible refine cb ?_ _)|(with_reducible refine cc ?_)))
            (case aB=>exact (by repeat (first|(with_reducible first|exact HB.out|apply ba|apply bb|apply bc)|exact HB.out)))
            (case aF=>exact (fun k_ hk=>⟨rh (rl (by (with_reducible repeat (first|apply ra|apply rb|apply rc));exact HO_4.out)) k_ hk,rh (rl (by (with_reducible repeat (first|apply ra|apply rb|apply rc));exact HO_5.out)) k_ hk,rh (rl (by (with_reducible repeat (first|apply ra|apply rb|apply rc));exact HO_7.out)) k_ hk,rh (rl (by (with_reducible repeat (first|apply ra|apply rb|apply rc));exact HO324.out)) k_ hk,rh (rl (by (with_reducible repeat (first|apply ra|apply rb|apply rc));exact HO331.out)) k_ hk⟩))
            (case aO=>exact (by (with_reducible repeat (first|apply ra|apply rb|apply rc));exact rm HO_6.out (fun _ hk=>⟨hk.1.1.1,⟨hk.1.1.2.1,⟨hk.1.1.2.2,⟨hk.1.2,hk.2⟩⟩⟩⟩)))
            (case aS=>exact (below_size (by repeat (first|(with_reducible first|exact HB.out|apply ba|apply bb|apply bc)|exact HB.out))))
            (case aL=>have:=LMc11.out;omega)
            intro v326 w22 ho hb hg hat
            (first|have HS0_:=cell_grown hg (hHeld.1) (by first|(rw [add_block];exact (fun e_=>((HO_6.out.1 _ e_.symm).1.1.1) rfl))|(show some (Addr.add _ _).block≠_;rw [add_block];exact (fun e_=>((HO_6.out.1 _ e_.symm).1.1.1) rfl))|exact (fun e_=>((HO_6.out.1 _ e_.symm).1.1.1) rfl))|have HS0_:=cell_grown hg (cell_unalloc (hHeld.1) (by first|(rw [add_block];exact rl HO_4.out _ rfl)|(show (Addr.add _ _).block < _;rw [add_block];exact rl HO_4.out _ rfl)|exact rl HO_4.out _ rfl)) (by first|(rw [add_block];exact (fun e_=>((HO_6.out.1 _ e_.symm).1.1.1) rfl))|(show some (Addr.add _ _).block≠_;rw [add_block];exact (fun e_=>((HO_6.out.1 _ e_.symm).1.1.1) rfl))|exact (fun e_=>((HO_6.out.1 _ e_.symm).1.1.1) rfl)))
            (first|have HS1_:=cell_grown hg (hHeld.2) (by first|(rw [add_block];exact (fun e_=>((HO_6.out.1 _ e_.symm).1.1.2.1) rfl))|(show some (Addr.add _ _).block≠_;rw [add_block];exact (fun e_=>((HO_6.out.1 _ e_.symm).1.1.2.1) rfl))|exact (fun e_=>((HO_6.out.1 _ e_.symm).1.1.2.1) rfl))|have HS1_:=cell_grown hg (cell_unalloc (hHeld.2) (by first|(rw [add_block];exact rl HO_5.out _ rfl)|(show (Addr.add _ _).block < _;rw [add_block];exact rl HO_5.out _ rfl)|exact rl HO_5.out _ rfl)) (by first|(rw [add_block];exact (fun e_=>((HO_6.out.1 _ e_.symm).1.1.2.1) rfl))|(show some (Addr.add _ _).block≠_;rw [add_block];exact (fun e_=>((HO_6.out.1 _ e_.symm).1.1.2.1) rfl))|exact (fun e_=>((HO_6.out.1 _ e_.symm).1.1.2.1) rfl)))
            rw [← Ny325.out] at ho
            have n0_:=A_ (rf (ok:=(fun k_=>some k_≠(.slice (some ad328) t317.length co17 : Value).ownBlock∧nb k_ (.slice Ao15 x7_1.length co15)∧nb k_ (.slice Ao23 y322.length co23)∧nb k_ v330)) (by (with_reducible repeat (first|apply ra|apply rb|apply rc));exact rm HO_4.out (fun _ hk=>⟨⟨hk.1.1.1,⟨hk.1.1.2.2,⟨hk.1.2,hk.2⟩⟩⟩,hk.1.1.2.1⟩)) hg hat)
            have n1_:=A_ (rf (ok:=(fun k_=>some k_≠(.slice (some ad321) t314.length co6 : Value).ownBlock∧nb k_ (.slice Ao15 x7_1.length co15)∧nb k_ (.slice Ao23 y322.length co23)∧nb k_ v330)) (by (with_reducible repeat (first|apply ra|apply rb|apply rc));exact rm HO_5.out (fun _ hk=>⟨⟨hk.1.1.1,⟨hk.1.1.2.2,⟨hk.1.2,hk.2⟩⟩⟩,hk.1.1.2.1⟩)) hg hat)
            have n2_:=A_ (rf (ok:=(fun k_=>some k_≠(.slice (some ad321) t314.length co6 : Value).ownBlock∧some k_≠(.slice (some ad328) t317.length co17 : Value).ownBlock∧nb k_ (.slice Ao23 y322.length co23)∧nb k_ v330)) (by (with_reducible repeat (first|apply ra|apply rb|apply rc));exact rm HO_7.out (fun _ hk=>⟨⟨hk.1.1.1,⟨hk.1.1.2.1,⟨hk.1.2,hk.2⟩⟩⟩,hk.1.1.2.2⟩)) hg hat)
            have n3_:=A_ (rf (ok:=(fun k_=>some k_≠(.slice (some ad321) t314.length co6 : Value).ownBlock∧some k_≠(.slice (some ad328) t317.length co17 : Value).ownBlock∧nb k_ (.slice Ao15 x7_1.length co15)∧nb k_ v330)) (by (with_reducible repeat (first|apply ra|apply rb|apply rc));exact rm HO324.out (fun _ hk=>⟨⟨hk.1.1.1.1.2,⟨hk.1.1.1.2,⟨hk.1.2,hk.2⟩⟩⟩,hk.1.1.2⟩)) hg hat)
            have n4_:=A_ (rf (ok:=(fun k_=>some k_≠(.slice (some ad321) t314.length co6 : Value).ownBlock∧some k_≠(.slice (some ad328) t317.length co17 : Value).ownBlock∧nb k_ (.slice Ao15 x7_1.length co15)∧nb k_ (.slice Ao23 y322.length co23))) (by (with_reducible repeat (first|apply ra|apply rb|apply rc));exact rm HO331.out (fun _ hk=>⟨⟨hk.1.1.1.1.2,⟨hk.1.1.1.2,⟨hk.1.2,hk.2⟩⟩⟩,hk.1.1.2⟩)) hg hat)
            have n5_:=A_ (hb)
            have n6_:=A_ (ho)
            clear HO_4
            clear HO_5
            clear HO_7
            clear HO324
            clear HO331
            clear HB
            clear HO_6
            have HO_4:=n0_
            have HO_5:=n1_
            have HO_7:=n2_
            have HO324:=n3_
            have HO331:=n4_
            have HB:=n5_
            have HO327:=n6_
            clear n0_ n1_ n2_ n3_ n4_ n5_ n6_
            clear ho hb hg hat
            refine hK.out _ _ ⟨HS0_,HS1_⟩ (fun hHeld=>?_)
            clear hK K
            refine norm_ (a':=?_) ?_ ?_
            rotate_left
            ·
             show Act.put _ (some 40) _ = _
             simp only [Act.put,sa,sb,sc,i64_w,i32_w]
             rfl
            exact norm_ (by simp only [putAll,Act.put,List.setIfInBounds_toArray,List.set_cons_zero,List.set_cons_succ]) (hCont (.slice Ao23 y322.length co23,v326,v330) _ ⟨hHeld,(by (with_reducible repeat (first|apply ra|apply rb|apply rc));exact rm HO324.out (fun _ hk=>⟨hk.2,⟨hk.1.2.2.2,⟨hk.1.1,⟨hk.1.2.1,hk.1.2.2.1⟩⟩⟩⟩)),(by (with_reducible repeat (first|apply ra|apply rb|apply rc));exact rm HO327.out (fun _ hk=>⟨hk.2.2.2.1,⟨hk.2.2.2.2,⟨hk.1,⟨hk.2.1,hk.2.2.1⟩⟩⟩⟩)),(by (with_reducible repeat (first|apply ra|apply rb|apply rc));exact rm HO331.out (fun _ hk=>⟨hk.1.2.2.2,⟨hk.2,⟨hk.1.1,⟨hk.1.2.1,hk.1.2.2.1⟩⟩⟩⟩)),(by (with_reducible repeat (first|apply ra|apply rb|apply rc));exact rm HO_4.out (fun _ hk=>⟨hk.1.2.2.1,⟨hk.2,⟨hk.1.2.2.2,⟨hk.1.1,hk.1.2.1⟩⟩⟩⟩)),(by (with_reducible repeat (first|apply ra|apply rb|apply rc));exact rm HO_5.out (fun _ hk=>⟨hk.1.2.2.1,⟨hk.2,⟨hk.1.2.2.2,⟨hk.1.1,hk.1.2.1⟩⟩⟩⟩)),(by (with_reducible repeat (first|apply ra|apply rb|apply rc));exact rm HO_7.out (fun _ hk=>⟨hk.1.2.2.1,⟨hk.2,⟨hk.1.2.2.2,⟨hk.1.1,hk.1.2.1⟩⟩⟩⟩)),(by repeat (first|(with_reducible first|exact HB.out|apply ba|apply bb|apply bc)|exact HB.out))⟩)
          ·
           skip
           refine Kd.R_lit_step (Kd.int .i64) _ 3 ?hg (N:=50) ?hd (xs:=([rd t317 (ji8)] : List Int)) (inner:=[.int .i64 (rd t317 (ji8))]) (ok:=fun _=>True) (okp:=fun _=>True) ?hr ?hp (fun _ hk=>hk) trivial (Below.refl _ _) (Nat.le_refl _) (by simp) ?_;(case hd=>rfl);(case hg=>rfl);(case hr=>first|(go_simp;done)|(go_simp;rfl));(case hp=>exact (Reps.one (show Kd.M (Kd.int .i64) _ _ _ (rd t317 (ji8)) [.int .i64 (rd t317 (ji8))] from rfl) (Reps.none _ _)))
           intro v330 w18 ho19 hb hg_ hnew_
           have HS0_:=(hb.cell (World.block_lt_of_cell? _ _ (hHeld.1))).trans (hHeld.1)
           have HS1_:=(hb.cell (World.block_lt_of_cell? _ _ (hHeld.2))).trans (hHeld.2)
           clear hg_ hnew_
           (first|rw [← Ny329.out] at ho19|(simp only [Int.reduceToNat] at ho19;rw [← Ny329.out] at ho19))
           have n0_:=A_ (re (by (with_reducible repeat (first|apply ra|apply rb|apply rc));exact HO_4.out) (rs ho19) hb)
           have n1_:=A_ (re (by (with_reducible repeat (first|apply ra|apply rb|apply rc));exact HO_5.out) (rs ho19) hb)
           have n2_:=A_ (re (by (with_reducible repeat (first|apply ra|apply rb|apply rc));exact HO_6.out) (rs ho19) hb)
           have n3_:=A_ (re (by (with_reducible repeat (first|apply ra|apply rb|apply rc));exact HO_7.out) (rs ho19) hb)
           have n4_:=A_ (Kd.R_lower (rn (rn (rn (rn ho19 (rl (by (with_reducible repeat (first|apply ra|apply rb|apply rc));exact HO_4.out))) (rl (by (with_reducible repeat (first|apply ra|apply rb|apply rc));exact HO_5.out))) (rl (by (with_reducible repeat (first|apply ra|apply rb|apply rc));exact HO_6.out))) (rl (by (with_reducible repeat (first|apply ra|apply rb|apply rc));exact HO_7.out))) (below_size (by repeat (first|(with_reducible first|exact HB.out|apply ba|apply bb|apply bc)|exact HB.out))))
           have n5_:=A_ (below_step (by repeat (first|(with_reducible first|exact HB.out|apply ba|apply bb|apply bc)|exact HB.out)) hb)
           clear HO_4
           clear HO_5
           clear HO_6
           clear HO_7
           clear HB
           have HO_4:=n0_
           have HO_5:=n1_
           have HO_6:=n2_
           have HO_7:=n3_
           have HO331:=n4_
           have HB:=n5_
           clear n0_ n1_ n2_ n3_ n4_ n5_
           clear hb ho19
           refine hK.out _ _ ⟨HS0_,HS1_⟩ (fun hHeld=>?_)
           clear hK K
           refine norm_ (a':=?_) ?_ ?_
           rotate_left
           ·
            show Act.put _ (some 50) _ = _
            simp only [Act.put,sa,sb,sc,i64_w,i32_w]
            rfl
           refine one_ (i:=9) (N:=some 39) #[true,true,true,true,true,true,true,true,true,true,false,true,true,true,true,true,true,true,true,true,true,false,false,false] rfl rfl (one_of HT_.out (by kernel_rfl)) (by decide) (fun K hK=>?_)
           refine Kd.R_lit_step (Kd.int .i64) _ 3 ?hg (N:=39) ?hd (xs:=([rd t314 (ji8)] : List Int)) (inner:=[.int .i64 (rd t314 (ji8))]) (ok:=fun _=>True) (okp:=fun _=>True) ?hr ?hp (fun _ hk=>hk) trivial (Below.refl _ _) (Nat.le_refl _) (by simp) ?_;(case hd=>rfl);(case hg=>rfl);(case hr=>first|(go_simp;done)|(go_simp;rfl));(case hp=>exact (Reps.one (show Kd.M (Kd.int .i64) _ _ _ (rd t314 (ji8)) [.int .i64 (rd t314 (ji8))] from rfl) (Reps.none _ _)))
           intro v323 w20 ho21 hb hg_ hnew_
           have HS0_:=(hb.cell (World.block_lt_of_cell? _ _ (hHeld.1))).trans (hHeld.1)
           have HS1_:=(hb.cell (World.block_lt_of_cell? _ _ (hHeld.2))).trans (hHeld.2)
           clear hg_ hnew_
           (first|rw [← Ny322.out] at ho21|(simp only [Int.reduceToNat] at ho21;rw [← Ny322.out] at ho21))
           have n0_:=A_ (re (by (with_reducible repeat (first|apply ra|apply rb|apply rc));exact HO_4.out) (rs ho21) hb)
           have n1_:=A_ (re (by (with_reducible repeat (first|apply ra|apply rb|apply rc));exact HO_5.out) (rs ho21) hb)
           have n2_:=A_ (re (by (with_reducible repeat (first|apply ra|apply rb|apply rc));exact HO_6.out) (rs ho21) hb)
           have n3_:=A_ (re (by (with_reducible repeat (first|apply ra|apply rb|apply rc));exact HO_7.out) (rs ho21) hb)
           have n4_:=A_ (re (by (with_reducible repeat (first|apply ra|apply rb|apply rc));exact HO331.out) (rs ho21) hb)
           have n5_:=A_ (Kd.R_lower (rn (rn (rn (rn (rn ho21 (rl (by (with_reducible repeat (first|apply ra|apply rb|apply rc));exact HO_4.out))) (rl (by (with_reducible repeat (first|apply ra|apply rb|apply rc));exact HO_5.out))) (rl (by (with_reducible repeat (first|apply ra|apply rb|apply rc));exact HO_6.out))) (rl (by (with_reducible repeat (first|apply ra|apply rb|apply rc));exact HO_7.out))) (rl (by (with_reducible repeat (first|apply ra|apply rb|apply rc));exact HO331.out))) (below_size (by repeat (first|(with_reducible first|exact HB.out|apply ba|apply bb|apply bc)|exact HB.out))))
           have n6_:=A_ (below_step (by repeat (first|(with_reducible first|exact HB.out|apply ba|apply bb|apply bc)|exact HB.out)) hb)
           clear HO_4
           clear HO_5
           clear HO_6
           clear HO_7
           clear HO331
           clear HB
           have HO_4:=n0_
           have HO_5:=n1_
           have HO_6:=n2_
           have HO_7:=n3_
           have HO331:=n4_
           have HO324:=n5_
           have HB:=n6_
           clear n0_ n1_ n2_ n3_ n4_ n5_ n6_
           clear hb ho21
           obtain ⟨Ao23,co23,eo23⟩:=Kd.R_slice HO324.out
           (first|subst eo23|(injection eo23 with f1_ f2_ f3_;have f4_:=f1_.symm;have f5_:=f3_.symm;clear f1_ f2_ f3_;subst f4_;subst f5_))
           refine hK.out _ _ ⟨HS0_,HS1_⟩ (fun hHeld=>?_)
           clear hK K
           refine norm_ (a':=?_) ?_ ?_
           rotate_left
           ·
            show Act.put _ (some 39) _ = _
            simp only [Act.put,sa,sb,sc,i64_w,i32_w]
            rfl
           refine one_ (i:=10) (N:=some 40) #[true,true,true,true,true,true,true,true,true,true,true,true,true,true,true,true,true,true,true,true,true,false,false,false] rfl rfl (one_of HT_.out (by kernel_rfl)) (by decide) (fun K hK=>?_)
           refine Kd.R_append_rows_step (Kd.int .i64) (w0:=w) w.heap.size (by rfl) (.tmp 30) (.tmp 39) 22 3 (.int .i64 0) 8 rfl Try.underlying22 info3 rfl (by decide) (by omega) (.slice Ao14 x6_1.length co14) x6_1 y322 _ _ _ (fun k_=>some k_≠(.slice (some ad321) t314.length co6 : Value).ownBlock∧some k_≠(.slice (some ad328) t317.length co17 : Value).ownBlock∧nb k_ (.slice Ao15 x7_1.length co15)∧nb k_ v330∧nb k_ (.slice Ao23 y322.length co23)) (fun _=>False) rfl rfl ?aO ?aR (fun _ _ h=>h) (fun _ h=>h.elim) ?aF ?aB ?aS ?aL ?_
           (case aR=>repeat (first|exact (rd_ HO324.out).2.2|(with_reducible refine ca ?_ _)|(with_reducible refine cb ?_ _)|(with_reducible refine cc ?_)))
           (case aB=>exact (by repeat (first|(with_reducible first|exact HB.out|apply ba|apply bb|apply bc)|exact HB.out)))
           (case aF=>exact (fun k_ hk=>⟨rh (rl (by (with_reducible repeat (first|apply ra|apply rb|apply rc));exact HO_4.out)) k_ hk,rh (rl (by (with_reducible repeat (first|apply ra|apply rb|apply rc));exact HO_5.out)) k_ hk,rh (rl (by (with_reducible repeat (first|apply ra|apply rb|apply rc));exact HO_7.out)) k_ hk,rh (rl (by (with_reducible repeat (first|apply ra|apply rb|apply rc));exact HO331.out)) k_ hk,rh (rl (by (with_reducible repeat (first|apply ra|apply rb|apply rc));exact HO324.out)) k_ hk⟩))
           (case aO=>exact (by (with_reducible repeat (first|apply ra|apply rb|apply rc));exact rm HO_6.out (fun _ hk=>⟨hk.1.1.1,⟨hk.1.1.2.1,⟨hk.1.1.2.2,⟨hk.1.2,hk.2⟩⟩⟩⟩)))
           (case aS=>exact (below_size (by repeat (first|(with_reducible first|exact HB.out|apply ba|apply bb|apply bc)|exact HB.out))))
           (case aL=>have:=LMc11.out;omega)
           intro v326 w22 ho hb hg hat
           (first|have HS0_:=cell_grown hg (hHeld.1) (by first|(rw [add_block];exact (fun e_=>((HO_6.out.1 _ e_.symm).1.1.1) rfl))|(show some (Addr.add _ _).block≠_;rw [add_block];exact (fun e_=>((HO_6.out.1 _ e_.symm).1.1.1) rfl))|exact (fun e_=>((HO_6.out.1 _ e_.symm).1.1.1) rfl))|have HS0_:=cell_grown hg (cell_unalloc (hHeld.1) (by first|(rw [add_block];exact rl HO_4.out _ rfl)|(show (Addr.add _ _).block < _;rw [add_block];exact rl HO_4.out _ rfl)|exact rl HO_4.out _ rfl)) (by first|(rw [add_block];exact (fun e_=>((HO_6.out.1 _ e_.symm).1.1.1) rfl))|(show some (Addr.add _ _).block≠_;rw [add_block];exact (fun e_=>((HO_6.out.1 _ e_.symm).1.1.1) rfl))|exact (fun e_=>((HO_6.out.1 _ e_.symm).1.1.1) rfl)))
           (first|have HS1_:=cell_grown hg (hHeld.2) (by first|(rw [add_block];exact (fun e_=>((HO_6.out.1 _ e_.symm).1.1.2.1) rfl))|(show some (Addr.add _ _).block≠_;rw [add_block];exact (fun e_=>((HO_6.out.1 _ e_.symm).1.1.2.1) rfl))|exact (fun e_=>((HO_6.out.1 _ e_.symm).1.1.2.1) rfl))|have HS1_:=cell_grown hg (cell_unalloc (hHeld.2) (by first|(rw [add_block];exact rl HO_5.out _ rfl)|(show (Addr.add _ _).block < _;rw [add_block];exact rl HO_5.out _ rfl)|exact rl HO_5.out _ rfl)) (by first|(rw [add_block];exact (fun e_=>((HO_6.out.1 _ e_.symm).1.1.2.1) rfl))|(show some (Addr.add _ _).block≠_;rw [add_block];exact (fun e_=>((HO_6.out.1 _ e_.symm).1.1.2.1) rfl))|exact (fun e_=>((HO_6.out.1 _ e_.symm).1.1.2.1) rfl)))
           rw [← Ny325.out] at ho
           have n0_:=A_ (rf (ok:=(fun k_=>some k_≠(.slice (some ad328) t317.length co17 : Value).ownBlock∧nb k_ (.slice Ao15 x7_1.length co15)∧nb k_ v330∧nb k_ (.slice Ao23 y322.length co23))) (by (with_reducible repeat (first|apply ra|apply rb|apply rc));exact rm HO_4.out (fun _ hk=>⟨⟨hk.1.1.1,⟨hk.1.1.2.2,⟨hk.1.2,hk.2⟩⟩⟩,hk.1.1.2.1⟩)) hg hat)
           have n1_:=A_ (rf (ok:=(fun k_=>some k_≠(.slice (some ad321) t314.length co6 : Value).ownBlock∧nb k_ (.slice Ao15 x7_1.length co15)∧nb k_ v330∧nb k_ (.slice Ao23 y322.length co23))) (by (with_reducible repeat (first|apply ra|apply rb|apply rc));exact rm HO_5.out (fun _ hk=>⟨⟨hk.1.1.1,⟨hk.1.1.2.2,⟨hk.1.2,hk.2⟩⟩⟩,hk.1.1.2.1⟩)) hg hat)
           have n2_:=A_ (rf (ok:=(fun k_=>some k_≠(.slice (some ad321) t314.length co6 : Value).ownBlock∧some k_≠(.slice (some ad328) t317.length co17 : Value).ownBlock∧nb k_ v330∧nb k_ (.slice Ao23 y322.length co23))) (by (with_reducible repeat (first|apply ra|apply rb|apply rc));exact rm HO_7.out (fun _ hk=>⟨⟨hk.1.1.1,⟨hk.1.1.2.1,⟨hk.1.2,hk.2⟩⟩⟩,hk.1.1.2.2⟩)) hg hat)
           have n3_:=A_ (rf (ok:=(fun k_=>some k_≠(.slice (some ad321) t314.length co6 : Value).ownBlock∧some k_≠(.slice (some ad328) t317.length co17 : Value).ownBlock∧nb k_ (.slice Ao15 x7_1.length co15)∧nb k_ (.slice Ao23 y322.length co23))) (by (with_reducible repeat (first|apply ra|apply rb|apply rc));exact rm HO331.out (fun _ hk=>⟨⟨hk.1.1.1.1.2,⟨hk.1.1.1.2,⟨hk.1.2,hk.2⟩⟩⟩,hk.1.1.2⟩)) hg hat)
           have n4_:=A_ (rf (ok:=(fun k_=>some k_≠(.slice (some ad321) t314.length co6 : Value).ownBlock∧some k_≠(.slice (some ad328) t317.length co17 : Value).ownBlock∧nb k_ (.slice Ao15 x7_1.length co15)∧nb k_ v330)) (by (with_reducible repeat (first|apply ra|apply rb|apply rc));exact rm HO324.out (fun _ hk=>⟨⟨hk.1.1.1.1.2,⟨hk.1.1.1.2,⟨hk.1.2,hk.2⟩⟩⟩,hk.1.1.2⟩)) hg hat)
           have n5_:=A_ (hb)
           have n6_:=A_ (ho)
           clear HO_4
           clear HO_5
           clear HO_7
           clear HO331
           clear HO324
           clear HB
           clear HO_6
           have HO_4:=n0_
           have HO_5:=n1_
           have HO_7:=n2_
           have HO331:=n3_
           have HO324:=n4_
           have HB:=n5_
           have HO327:=n6_
           clear n0_ n1_ n2_ n3_ n4_ n5_ n6_
           clear ho hb hg hat
           refine hK.out _ _ ⟨HS0_,HS1_⟩ (fun hHeld=>?_)
           clear hK K
           refine norm_ (a':=?_) ?_ ?_
           rotate_left
           ·
            show Act.put _ (some 40) _ = _
            simp only [Act.put,sa,sb,sc,i64_w,i32_w]
            rfl
           exact norm_ (by simp only [putAll,Act.put,List.setIfInBounds_toArray,List.set_cons_zero,List.set_cons_succ]) (hCont (.slice Ao23 y322.length co23,v326,v330) _ ⟨hHeld,(by (with_reducible repeat (first|apply ra|apply rb|apply rc));exact rm HO324.out (fun _ hk=>⟨hk.2,⟨hk.1.2.2.2,⟨hk.1.1,⟨hk.1.2.1,hk.1.2.2.1⟩⟩⟩⟩)),(by (with_reducible repeat (first|apply ra|apply rb|apply rc));exact rm HO327.out (fun _ hk=>⟨hk.2.2.2.2,⟨hk.2.2.2.1,⟨hk.1,⟨hk.2.1,hk.2.2.1⟩⟩⟩⟩)),(by (with_reducible repeat (first|apply ra|apply rb|apply rc));exact rm HO331.out (fun _ hk=>⟨hk.1.2.2.2,⟨hk.2,⟨hk.1.1,⟨hk.1.2.1,hk.1.2.2.1⟩⟩⟩⟩)),(by (with_reducible repeat (first|apply ra|apply rb|apply rc));exact rm HO_4.out (fun _ hk=>⟨hk.1.2.2.2,⟨hk.2,⟨hk.1.2.2.1,⟨hk.1.1,hk.1.2.1⟩⟩⟩⟩)),(by (with_reducible repeat (first|apply ra|apply rb|apply rc));exact rm HO_5.out (fun _ hk=>⟨hk.1.2.2.2,⟨hk.2,⟨hk.1.2.2.1,⟨hk.1.1,hk.1.2.1⟩⟩⟩⟩)),(by (with_reducible repeat (first|apply ra|apply rb|apply rc));exact rm HO_7.out (fun _ hk=>⟨hk.1.2.2.2,⟨hk.2,⟨hk.1.2.2.1,⟨hk.1.1,hk.1.2.1⟩⟩⟩⟩)),(by repeat (first|(with_reducible first|exact HB.out|apply ba|apply bb|apply bc)|exact HB.out))⟩)
         rintro ⟨v323,v326,v330⟩ w24 ⟨hS_,h0_,h1_,h2_,h3_,h4_,h5_,h6_⟩
         have n0_ : Aside0 (Kd.R (Kd.int .i64) 3 w24 w.heap.size (fun k_=>nb k_ v326∧nb k_ v330∧some k_≠(.slice (some ad321) t314.length co6 : Value).ownBlock∧some k_≠(.slice (some ad328) t317.length co17 : Value).ownBlock∧nb k_ (.slice Ao15 x7_1.length co15)) v323 y322):=⟨h0_⟩
         have n1_ : Aside0 (Kd.R (Kd.int .i64) 3 w24 w.heap.size (fun k_=>nb k_ v323∧nb k_ v330∧some k_≠(.slice (some ad321) t314.length co6 : Value).ownBlock∧some k_≠(.slice (some ad328) t317.length co17 : Value).ownBlock∧nb k_ (.slice Ao15 x7_1.length co15)) v326 y325):=⟨h1_⟩
         have n2_ : Aside0 (Kd.R (Kd.int .i64) 3 w24 w.heap.size (fun k_=>nb k_ v323∧nb k_ v326∧some k_≠(.slice (some ad321) t314.length co6 : Value).ownBlock∧some k_≠(.slice (some ad328) t317.length co17 : Value).ownBlock∧nb k_ (.slice Ao15 x7_1.length co15)) v330 y329):=⟨h2_⟩
         have n3_ : Aside0 (Kd.R (Kd.int .i64) 3 w24 w.heap.size (fun k_=>nb k_ v323∧nb k_ v326∧nb k_ v330∧some k_≠(.slice (some ad328) t317.length co17 : Value).ownBlock∧nb k_ (.slice Ao15 x7_1.length co15)) (.slice (some ad321) t314.length co6) t314):=⟨h3_⟩
         have n4_ : Aside0 (Kd.R (Kd.int .i64) 3 w24 w.heap.size (fun k_=>nb k_ v323∧nb k_ v326∧nb k_ v330∧some k_≠(.slice (some ad321) t314.length co6 : Value).ownBlock∧nb k_ (.slice Ao15 x7_1.length co15)) (.slice (some ad328) t317.length co17) t317):=⟨h4_⟩
         have n5_ : Aside0 (Kd.R (Kd.int .i64) 3 w24 w.heap.size (fun k_=>nb k_ v323∧nb k_ v326∧nb k_ v330∧some k_≠(.slice (some ad321) t314.length co6 : Value).ownBlock∧some k_≠(.slice (some ad328) t317.length co17 : Value).ownBlock) (.slice Ao15 x7_1.length co15) x7_1):=⟨h5_⟩
         have n6_ : Aside0 (Below w.heap.size w w24):=⟨h6_⟩
         clear HO_4
         clear HO_5
         clear HO_6
         clear HO_7
         clear HB
         clear h0_ h1_ h2_ h3_ h4_ h5_ h6_
         have HO324:=n0_
         have HO327:=n1_
         have HO331:=n2_
         have HO_4:=n3_
         have HO_5:=n4_
         have HO_7:=n5_
         have HB:=n6_
         clear n0_ n1_ n2_ n3_ n4_ n5_ n6_
         have hHeld : w24.cell? (ad321.add ((ji8)).toNat) = some (.int .i64 (rd t314 (ji8)))∧w24.cell? (ad328.add ((ji8)).toNat) = some (.int .i64 (rd t317 (ji8))):=hS_
         obtain ⟨Ao26,co26,eo26⟩:=Kd.R_slice HO331.out
         (first|subst eo26|(injection eo26 with f1_ f2_ f3_;have f4_:=f1_.symm;have f5_:=f3_.symm;clear f1_ f2_ f3_;subst f4_;subst f5_))
         refine norm_ (a':=?_) ?_ ?_
         rotate_left
         ·
          simp only [putAll,Act.put,List.setIfInBounds_toArray,List.set_cons_zero,List.set_cons_succ]
          rfl
         refine one_ (i:=21) (N:=some 51) #[true,true,true,true,true,true,true,true,true,true,true,true,true,true,true,true,true,true,true,true,true,true,false,false] rfl rfl (one_of HT_.out (by kernel_rfl)) (by decide) (fun K hK=>?_)
         refine Kd.R_append_rows_step (Kd.int .i64) (w0:=w) w.heap.size (by rfl) (.tmp 41) (.tmp 50) 22 3 (.int .i64 0) 8 rfl Try.underlying22 info3 rfl (by decide) (by omega) (.slice Ao15 x7_1.length co15) x7_1 y329 _ _ _ (fun k_=>some k_≠(.slice (some ad321) t314.length co6 : Value).ownBlock∧some k_≠(.slice (some ad328) t317.length co17 : Value).ownBlock∧nb k_ v323∧nb k_ v326∧nb k_ (.slice Ao26 y329.length co26)) (fun _=>False) rfl rfl ?aO ?aR (fun _ _ h=>h) (fun _ h=>h.elim) ?aF ?aB ?aS ?aL ?_
         (case aR=>repeat (first|exact (rd_ HO331.out).2.2|(with_reducible refine ca ?_ _)|(with_reducible refine cb ?_ _)|(with_reducible refine cc ?_)))
         (case aB=>exact (by repeat (first|(with_reducible first|exact HB.out|apply ba|apply bb|apply bc)|exact HB.out)))
         (case aF=>exact (fun k_ hk=>⟨rh (rl (by (with_reducible repeat (first|apply ra|apply rb|apply rc));exact HO_4.out)) k_ hk,rh (rl (by (with_reducible repeat (first|apply ra|apply rb|apply rc));exact HO_5.out)) k_ hk,rh (rl (by (with_reducible repeat (first|apply ra|apply rb|apply rc));exact HO324.out)) k_ hk,rh (rl (by (with_reducible repeat (first|apply ra|apply rb|apply rc));exact HO327.out)) k_ hk,rh (rl (by (with_reducible repeat (first|apply ra|apply rb|apply rc));exact HO331.out)) k_ hk⟩))
         (case aO=>exact (by (with_reducible repeat (first|apply ra|apply rb|apply rc));exact rm HO_7.out (fun _ hk=>⟨hk.2.2.2.1,⟨hk.2.2.2.2,⟨hk.1,⟨hk.2.1,hk.2.2.1⟩⟩⟩⟩)))
         (case aS=>exact (below_size (by repeat (first|(with_reducible first|exact HB.out|apply ba|apply bb|apply bc)|exact HB.out))))
         (case aL=>have:=LMc13.out;omega)
         intro v333 w25 ho hb hg hat
         (first|have HS0_:=cell_grown hg (hHeld.1) (by first|(rw [add_block];exact (fun e_=>((HO_7.out.1 _ e_.symm).2.2.2.1) rfl))|(show some (Addr.add _ _).block≠_;rw [add_block];exact (fun e_=>((HO_7.out.1 _ e_.symm).2.2.2.1) rfl))|exact (fun e_=>((HO_7.out.1 _ e_.symm).2.2.2.1) rfl))|have HS0_:=cell_grown hg (cell_unalloc (hHeld.1) (by first|(rw [add_block];exact rl HO_4.out _ rfl)|(show (Addr.add _ _).block < _;rw [add_block];exact rl HO_4.out _ rfl)|exact rl HO_4.out _ rfl)) (by first|(rw [add_block];exact (fun e_=>((HO_7.out.1 _ e_.symm).2.2.2.1) rfl))|(show some (Addr.add _ _).block≠_;rw [add_block];exact (fun e_=>((HO_7.out.1 _ e_.symm).2.2.2.1) rfl))|exact (fun e_=>((HO_7.out.1 _ e_.symm).2.2.2.1) rfl)))
         (first|have HS1_:=cell_grown hg (hHeld.2) (by first|(rw [add_block];exact (fun e_=>((HO_7.out.1 _ e_.symm).2.2.2.2) rfl))|(show some (Addr.add _ _).block≠_;rw [add_block];exact (fun e_=>((HO_7.out.1 _ e_.symm).2.2.2.2) rfl))|exact (fun e_=>((HO_7.out.1 _ e_.symm).2.2.2.2) rfl))|have HS1_:=cell_grown hg (cell_unalloc (hHeld.2) (by first|(rw [add_block];exact rl HO_5.out _ rfl)|(show (Addr.add _ _).block < _;rw [add_block];exact rl HO_5.out _ rfl)|exact rl HO_5.out _ rfl)) (by first|(rw [add_block];exact (fun e_=>((HO_7.out.1 _ e_.symm).2.2.2.2) rfl))|(show some (Addr.add _ _).block≠_;rw [add_block];exact (fun e_=>((HO_7.out.1 _ e_.symm).2.2.2.2) rfl))|exact (fun e_=>((HO_7.out.1 _ e_.symm).2.2.2.2) rfl)))
         rw [← Ny332.out] at ho
         have n0_:=A_ (rf (ok:=(fun k_=>some k_≠(.slice (some ad328) t317.length co17 : Value).ownBlock∧nb k_ v323∧nb k_ v326∧nb k_ (.slice Ao26 y329.length co26))) (by (with_reducible repeat (first|apply ra|apply rb|apply rc));exact rm HO_4.out (fun _ hk=>⟨⟨hk.2.2.2.1,⟨hk.1,⟨hk.2.1,hk.2.2.1⟩⟩⟩,hk.2.2.2.2⟩)) hg hat)
         have n1_:=A_ (rf (ok:=(fun k_=>some k_≠(.slice (some ad321) t314.length co6 : Value).ownBlock∧nb k_ v323∧nb k_ v326∧nb k_ (.slice Ao26 y329.length co26))) (by (with_reducible repeat (first|apply ra|apply rb|apply rc));exact rm HO_5.out (fun _ hk=>⟨⟨hk.2.2.2.1,⟨hk.1,⟨hk.2.1,hk.2.2.1⟩⟩⟩,hk.2.2.2.2⟩)) hg hat)
         have n2_:=A_ (rf (ok:=(fun k_=>some k_≠(.slice (some ad321) t314.length co6 : Value).ownBlock∧some k_≠(.slice (some ad328) t317.length co17 : Value).ownBlock∧nb k_ v326∧nb k_ (.slice Ao26 y329.length co26))) (by (with_reducible repeat (first|apply ra|apply rb|apply rc));exact rm HO324.out (fun _ hk=>⟨⟨hk.2.2.1,⟨hk.2.2.2.1,⟨hk.1,hk.2.1⟩⟩⟩,hk.2.2.2.2⟩)) hg hat)
         have n3_:=A_ (rf (ok:=(fun k_=>some k_≠(.slice (some ad321) t314.length co6 : Value).ownBlock∧some k_≠(.slice (some ad328) t317.length co17 : Value).ownBlock∧nb k_ v323∧nb k_ (.slice Ao26 y329.length co26))) (by (with_reducible repeat (first|apply ra|apply rb|apply rc));exact rm HO327.out (fun _ hk=>⟨⟨hk.2.2.1,⟨hk.2.2.2.1,⟨hk.1,hk.2.1⟩⟩⟩,hk.2.2.2.2⟩)) hg hat)
         have n4_:=A_ (rf (ok:=(fun k_=>some k_≠(.slice (some ad321) t314.length co6 : Value).ownBlock∧some k_≠(.slice (some ad328) t317.length co17 : Value).ownBlock∧nb k_ v323∧nb k_ v326)) (by (with_reducible repeat (first|apply ra|apply rb|apply rc));exact rm HO331.out (fun _ hk=>⟨⟨hk.2.2.1,⟨hk.2.2.2.1,⟨hk.1,hk.2.1⟩⟩⟩,hk.2.2.2.2⟩)) hg hat)
         have n5_:=A_ (hb)
         have n6_:=A_ (ho)
         clear HO_4
         clear HO_5
         clear HO324
         clear HO327
         clear HO331
         clear HB
         clear HO_7
         have HO_4:=n0_
         have HO_5:=n1_
         have HO324:=n2_
         have HO327:=n3_
         have HO331:=n4_
         have HB:=n5_
         have HO334:=n6_
         clear n0_ n1_ n2_ n3_ n4_ n5_ n6_
         clear ho hb hg hat
         refine hK.out _ _ ⟨HS0_,HS1_⟩ (fun hHeld=>?_)
         clear hK K
         refine norm_ (a':=?_) ?_ ?_
         rotate_left
         ·
          show Act.put _ (some 51) _ = _
          simp only [Act.put,sa,sb,sc,i64_w,i32_w]
          rfl
         refine pure_ (i:=22) (N:=some 6) (v:=?_) (a':=?_) #[true,true,true,true,true,true,true,true,true,true,true,true,true,true,true,true,true,true,true,true,true,true,true,false] rfl rfl (any_of HT_.out (by kernel_rfl)) (fun _ _ _ h=>h) (Or.inl ⟨by rfl,?_⟩) ?_ ?_
         rotate_left
         ·
          intro w'
          go_simp
          with_reducible rfl
         rotate_left
         ·
          simp only [Act.put,sa,sb,sc,i64_w,i32_w]
          rfl
         refine pure_ (i:=23) (N:=some 7) (v:=?_) (a':=?_) #[true,true,true,true,true,true,true,true,true,true,true,true,true,true,true,true,true,true,true,true,true,true,true,true] rfl rfl (any_of HT_.out (by kernel_rfl)) (fun _ _ _ h=>h) (Or.inl ⟨by rfl,?_⟩) ?_ ?_
         rotate_left
         ·
          intro w'
          go_simp
          with_reducible rfl
         rotate_left
         ·
          simp only [Act.put,sa,sb,sc,i64_w,i32_w]
          rfl
         refine done_ (done_of HT_.out (by kernel_rfl)) ?_
         try go_wp2
         go_roundg k1
         case measure=>have:=HK1.out;omega
         case rel=>exact ⟨(y325),(y332),(wrap64 (x27_1 + 1)),(by first|rfl|(simp;done)|(simp [*];done)),H',⟨by have:=HK1.out;omega⟩,⟨by (with_reducible repeat (first|apply ra|apply rb|apply rc));exact rm HO_4.out (fun _ hk=>⟨hk.1.1,⟨hk.1.2.2.1,hk.2⟩⟩)⟩,⟨by (with_reducible repeat (first|apply ra|apply rb|apply rc));exact rm HO_5.out (fun _ hk=>⟨hk.1.1,⟨hk.1.2.2.1,hk.2⟩⟩)⟩,⟨by (with_reducible repeat (first|apply ra|apply rb|apply rc));exact rm HO327.out (fun _ hk=>⟨hk.1.1,⟨hk.1.2.1,hk.2⟩⟩)⟩,⟨by (with_reducible repeat (first|apply ra|apply rb|apply rc));exact rm HO334.out (fun _ hk=>⟨hk.1,⟨hk.2.1,hk.2.2.2.1⟩⟩)⟩,⟨by repeat (first|(with_reducible first|exact HB.out|apply ba|apply bb|apply bc)|exact HB.out)⟩⟩
        ·
         rw [if_neg c13] at H
         exact absurd H (by simp)
       ·
        rw [if_neg c12] at H
        exact absurd H (by simp)
      ·
       rw [if_neg c11] at H
       exact absurd H (by simp)
     ·
      rw [if_neg c10] at H
      exact absurd H (by simp)
    ·
     rw [if_neg c9] at H
     exact absurd H (by simp)
   ·
    rw [if_neg c7] at H
    have c7b0 : decide (x27_1 < (t314.length : Int)) = false:=decide_eq_false c7
    clear c7
    replace H:=Option.bind_eq_some_iff.mp H
    obtain ⟨⟨t335,t336,t337⟩,A270,H⟩:=H
    replace H : ((normal_Gap.f k1 t317 t314).bind fun bt339=>((normal_Gap.f k1 x6_1 x7_1).bind fun bt343=>((normal_Product.f k1 t314 t317).bind fun bt347=>(if t337 = 0 then (if bt339.2.2 = 0 then (if bt343.2.2 = 0 then (if bt347.2 = 0 then (if (t335 == bt339.1 && (t336 == bt339.2.1)) = true then (if (t335 == bt343.1 && (t336 == bt343.2.1)) = true then ((shapesearchref01_Valid.f k1 t335 t336).bind fun t350=>(if t350 = true then ((shapesearchref01_Cmp.f k1 t335 t336 2 1).bind fun t351=>(if t351 ≤ 0 then (if bt347.1 = 0 then ((shapesearchlaw13_spread.f k1 t314).bind fun t352=>(if t352 = true then (if ((t335 == 1 && (t336 == 1)) == true) = true then ((shapesearchref01_Less.f k1 t335 t336 1 1).bind fun t353=>(if bt347.1 > 0 then (if (t353 == true) = true then ((shapesearchlaw13_awake.f k1).bind fun t354=>(some t354)) else (some false)) else ((shapesearchlaw13_spread.f k1 t314).bind fun t355=>(if t355 = true then (if (t353 == false) = true then ((shapesearchlaw13_awake.f k1).bind fun t356=>(some t356)) else (some false)) else ((shapesearchlaw13_spread.f k1 t317).bind fun t357=>(if (t353 == (!t357)) = true then ((shapesearchlaw13_awake.f k1).bind fun t358=>(some t358)) else (some false))))))) else (some false)) else ((shapesearchlaw13_spread.f k1 t317).bind fun t359=>(if ((t335 == 1 && (t336 == 1)) == t359) = true then ((shapesearchref01_Less.f k1 t335 t336 1 1).bind fun t360=>(if bt347.1 > 0 then (if (t360 == true) = true then ((shapesearchlaw13_awake.f k1).bind fun t361=>(some t361)) else (some false)) else ((shapesearchlaw13_spread.f k1 t314).bind fun t362=>(if t362 = true then (if (t360 == false) = true then ((shapesearchlaw13_awake.f k1).bind fun t363=>(some t363)) else (some false)) else ((shapesearchlaw13_spread.f k1 t317).bind fun t364=>(if (t360 == (!t364)) = true then ((shapesearchlaw13_awake.f k1).bind fun t365=>(some t365)) else (some false))))))) else (some false))))) else (if ((t335 == 1 && (t336 == 1)) == false) = true then ((shapesearchref01_Less.f k1 t335 t336 1 1).bind fun t366=>(if bt347.1 > 0 then (if (t366 == true) = true then ((shapesearchlaw13_awake.f k1).bind fun t367=>(some t367)) else (some false)) else ((shapesearchlaw13_spread.f k1 t314).bind fun t368=>(if t368 = true then (if (t366 == false) = true then ((shapesearchlaw13_awake.f k1).bind fun t369=>(some t369)) else (some false)) else ((shapesearchlaw13_spread.f k1 t317).bind fun t370=>(if (t366 == (!t370)) = true then ((shapesearchlaw13_awake.f k1).bind fun t371=>(some t371)) else (some false))))))) else (some false))) else (some false))) else (some false))) else (some false)) else (some false)) else (some false)) else (some false)) else (some false)) else (some false))))) = some r:=H
    have A27:=A_ A270
    clear A270
    replace H:=Option.bind_eq_some_iff.mp H
    obtain ⟨⟨t339,t340,t341⟩,A280,H⟩:=H
    replace H : ((normal_Gap.f k1 x6_1 x7_1).bind fun bt343=>((normal_Product.f k1 t314 t317).bind fun bt347=>(if t337 = 0 then (if t341 = 0 then (if bt343.2.2 = 0 then (if bt347.2 = 0 then (if (t335 == t339 && (t336 == t340)) = true then (if (t335 == bt343.1 && (t336 == bt343.2.1)) = true then ((shapesearchref01_Valid.f k1 t335 t336).bind fun t350=>(if t350 = true then ((shapesearchref01_Cmp.f k1 t335 t336 2 1).bind fun t351=>(if t351 ≤ 0 then (if bt347.1 = 0 then ((shapesearchlaw13_spread.f k1 t314).bind fun t352=>(if t352 = true then (if ((t335 == 1 && (t336 == 1)) == true) = true then ((shapesearchref01_Less.f k1 t335 t336 1 1).bind fun t353=>(if bt347.1 > 0 then (if (t353 == true) = true then ((shapesearchlaw13_awake.f k1).bind fun t354=>(some t354)) else (some false)) else ((shapesearchlaw13_spread.f k1 t314).bind fun t355=>(if t355 = true then (if (t353 == false) = true then ((shapesearchlaw13_awake.f k1).bind fun t356=>(some t356)) else (some false)) else ((shapesearchlaw13_spread.f k1 t317).bind fun t357=>(if (t353 == (!t357)) = true then ((shapesearchlaw13_awake.f k1).bind fun t358=>(some t358)) else (some false))))))) else (some false)) else ((shapesearchlaw13_spread.f k1 t317).bind fun t359=>(if ((t335 == 1 && (t336 == 1)) == t359) = true then ((shapesearchref01_Less.f k1 t335 t336 1 1).bind fun t360=>(if bt347.1 > 0 then (if (t360 == true) = true then ((shapesearchlaw13_awake.f k1).bind fun t361=>(some t361)) else (some false)) else ((shapesearchlaw13_spread.f k1 t314).bind fun t362=>(if t362 = true then (if (t360 == false) = true then ((shapesearchlaw13_awake.f k1).bind fun t363=>(some t363)) else (some false)) else ((shapesearchlaw13_spread.f k1 t317).bind fun t364=>(if (t360 == (!t364)) = true then ((shapesearchlaw13_awake.f k1).bind fun t365=>(some t365)) else (some false))))))) else (some false))))) else (if ((t335 == 1 && (t336 == 1)) == false) = true then ((shapesearchref01_Less.f k1 t335 t336 1 1).bind fun t366=>(if bt347.1 > 0 then (if (t366 == true) = true then ((shapesearchlaw13_awake.f k1).bind fun t367=>(some t367)) else (some false)) else ((shapesearchlaw13_spread.f k1 t314).bind fun t368=>(if t368 = true then (if (t366 == false) = true then ((shapesearchlaw13_awake.f k1).bind fun t369=>(some t369)) else (some false)) else ((shapesearchlaw13_spread.f k1 t317).bind fun t370=>(if (t366 == (!t370)) = true then ((shapesearchlaw13_awake.f k1).bind fun t371=>(some t371)) else (some false))))))) else (some false))) else (some false))) else (some false))) else (some false)) else (some false)) else (some false)) else (some false)) else (some false)) else (some false)))) = some r:=H
    have A28:=A_ A280
    clear A280
    replace H:=Option.bind_eq_some_iff.mp H
    obtain ⟨⟨t343,t344,t345⟩,A290,H⟩:=H
    replace H : ((normal_Product.f k1 t314 t317).bind fun bt347=>(if t337 = 0 then (if t341 = 0 then (if t345 = 0 then (if bt347.2 = 0 then (if (t335 == t339 && (t336 == t340)) = true then (if (t335 == t343 && (t336 == t344)) = true then ((shapesearchref01_Valid.f k1 t335 t336).bind fun t350=>(if t350 = true then ((shapesearchref01_Cmp.f k1 t335 t336 2 1).bind fun t351=>(if t351 ≤ 0 then (if bt347.1 = 0 then ((shapesearchlaw13_spread.f k1 t314).bind fun t352=>(if t352 = true then (if ((t335 == 1 && (t336 == 1)) == true) = true then ((shapesearchref01_Less.f k1 t335 t336 1 1).bind fun t353=>(if bt347.1 > 0 then (if (t353 == true) = true then ((shapesearchlaw13_awake.f k1).bind fun t354=>(some t354)) else (some false)) else ((shapesearchlaw13_spread.f k1 t314).bind fun t355=>(if t355 = true then (if (t353 == false) = true then ((shapesearchlaw13_awake.f k1).bind fun t356=>(some t356)) else (some false)) else ((shapesearchlaw13_spread.f k1 t317).bind fun t357=>(if (t353 == (!t357)) = true then ((shapesearchlaw13_awake.f k1).bind fun t358=>(some t358)) else (some false))))))) else (some false)) else ((shapesearchlaw13_spread.f k1 t317).bind fun t359=>(if ((t335 == 1 && (t336 == 1)) == t359) = true then ((shapesearchref01_Less.f k1 t335 t336 1 1).bind fun t360=>(if bt347.1 > 0 then (if (t360 == true) = true then ((shapesearchlaw13_awake.f k1).bind fun t361=>(some t361)) else (some false)) else ((shapesearchlaw13_spread.f k1 t314).bind fun t362=>(if t362 = true then (if (t360 == false) = true then ((shapesearchlaw13_awake.f k1).bind fun t363=>(some t363)) else (some false)) else ((shapesearchlaw13_spread.f k1 t317).bind fun t364=>(if (t360 == (!t364)) = true then ((shapesearchlaw13_awake.f k1).bind fun t365=>(some t365)) else (some false))))))) else (some false))))) else (if ((t335 == 1 && (t336 == 1)) == false) = true then ((shapesearchref01_Less.f k1 t335 t336 1 1).bind fun t366=>(if bt347.1 > 0 then (if (t366 == true) = true then ((shapesearchlaw13_awake.f k1).bind fun t367=>(some t367)) else (some false)) else ((shapesearchlaw13_spread.f k1 t314).bind fun t368=>(if t368 = true then (if (t366 == false) = true then ((shapesearchlaw13_awake.f k1).bind fun t369=>(some t369)) else (some false)) else ((shapesearchlaw13_spread.f k1 t317).bind fun t370=>(if (t366 == (!t370)) = true then ((shapesearchlaw13_awake.f k1).bind fun t371=>(some t371)) else (some false))))))) else (some false))) else (some false))) else (some false))) else (some false)) else (some false)) else (some false)) else (some false)) else (some false)) else (some false))) = some r:=H
    have A29:=A_ A290
    clear A290
    replace H:=Option.bind_eq_some_iff.mp H
    obtain ⟨⟨t347,t348⟩,A300,H⟩:=H
    replace H : (if t337 = 0 then (if t341 = 0 then (if t345 = 0 then (if t348 = 0 then (if (t335 == t339 && (t336 == t340)) = true then (if (t335 == t343 && (t336 == t344)) = true then ((shapesearchref01_Valid.f k1 t335 t336).bind fun t350=>(if t350 = true then ((shapesearchref01_Cmp.f k1 t335 t336 2 1).bind fun t351=>(if t351 ≤ 0 then (if t347 = 0 then ((shapesearchlaw13_spread.f k1 t314).bind fun t352=>(if t352 = true then (if ((t335 == 1 && (t336 == 1)) == true) = true then ((shapesearchref01_Less.f k1 t335 t336 1 1).bind fun t353=>(if t347 > 0 then (if (t353 == true) = true then ((shapesearchlaw13_awake.f k1).bind fun t354=>(some t354)) else (some false)) else ((shapesearchlaw13_spread.f k1 t314).bind fun t355=>(if t355 = true then (if (t353 == false) = true then ((shapesearchlaw13_awake.f k1).bind fun t356=>(some t356)) else (some false)) else ((shapesearchlaw13_spread.f k1 t317).bind fun t357=>(if (t353 == (!t357)) = true then ((shapesearchlaw13_awake.f k1).bind fun t358=>(some t358)) else (some false))))))) else (some false)) else ((shapesearchlaw13_spread.f k1 t317).bind fun t359=>(if ((t335 == 1 && (t336 == 1)) == t359) = true then ((shapesearchref01_Less.f k1 t335 t336 1 1).bind fun t360=>(if t347 > 0 then (if (t360 == true) = true then ((shapesearchlaw13_awake.f k1).bind fun t361=>(some t361)) else (some false)) else ((shapesearchlaw13_spread.f k1 t314).bind fun t362=>(if t362 = true then (if (t360 == false) = true then ((shapesearchlaw13_awake.f k1).bind fun t363=>(some t363)) else (some false)) else ((shapesearchlaw13_spread.f k1 t317).bind fun t364=>(if (t360 == (!t364)) = true then ((shapesearchlaw13_awake.f k1).bind fun t365=>(some t365)) else (some false))))))) else (some false))))) else (if ((t335 == 1 && (t336 == 1)) == false) = true then ((shapesearchref01_Less.f k1 t335 t336 1 1).bind fun t366=>(if t347 > 0 then (if (t366 == true) = true then ((shapesearchlaw13_awake.f k1).bind fun t367=>(some t367)) else (some false)) else ((shapesearchlaw13_spread.f k1 t314).bind fun t368=>(if t368 = true then (if (t366 == false) = true then ((shapesearchlaw13_awake.f k1).bind fun t369=>(some t369)) else (some false)) else ((shapesearchlaw13_spread.f k1 t317).bind fun t370=>(if (t366 == (!t370)) = true then ((shapesearchlaw13_awake.f k1).bind fun t371=>(some t371)) else (some false))))))) else (some false))) else (some false))) else (some false))) else (some false)) else (some false)) else (some false)) else (some false)) else (some false)) else (some false)) = some r:=H
    have A30:=A_ A300
    clear A300
    have HC31:=A_ H
    clear H
    obtain ⟨Ao32,co32,eo32⟩:=Kd.R_slice HO_5.out
    subst eo32
    go_upto_region 14 with (first|((with_reducible refine gate_callee (f:=11) rfl ?_);refine goesL_ (some 56) rfl rfl Try.func11 (by kernel_rfl) rfl #[.slice Ao6 t314.length co6,.slice Ao32 t317.length co32] rfl (by (try simp only [List.map_toArray,List.map_cons,List.map_nil]);first|done|rfl|(simp only [List.length_drop,List.length_take];rfl)) ?_;(with_reducible refine (normal_Gap.calls k1 _ _ t314 _ _ t317 t335 t336 t337 _ ?side1 ?side2 ?side3 ?side4 A27.out).mono ?_);(case side1=>repeat (first|exact (rd_ HO_4.out).2.2|(with_reducible refine ca ?_ _)|(with_reducible refine cb ?_ _)|(with_reducible refine cc ?_)));(case side2=>exact (rd_ HO_4.out).2.1);(case side3=>repeat (first|exact (rd_ HO_5.out).2.2|(with_reducible refine ca ?_ _)|(with_reducible refine cb ?_ _)|(with_reducible refine cc ?_)));(case side4=>exact (rd_ HO_5.out).2.1);rintro e w33 ⟨rfl,hb⟩;refine ⟨_,rfl,?_⟩;have n0_:=A_ (rw_ (by (with_reducible repeat (first|apply ra|apply rb|apply rc));exact HO_4.out) hb);have n1_:=A_ (rw_ (by (with_reducible repeat (first|apply ra|apply rb|apply rc));exact HO_5.out) hb);have n2_:=A_ (rw_ (by (with_reducible repeat (first|apply ra|apply rb|apply rc));exact HO_6.out) hb);have n3_:=A_ (rw_ (by (with_reducible repeat (first|apply ra|apply rb|apply rc));exact HO_7.out) hb);have n4_:=A_ (below_step (by repeat (first|(with_reducible first|exact HB.out|apply ba|apply bb|apply bc)|exact HB.out)) hb);clear HO_4;clear HO_5;clear HO_6;clear HO_7;clear HB;have HO_4:=n0_;have HO_5:=n1_;have HO_6:=n2_;have HO_7:=n3_;have HB:=n4_;clear n0_ n1_ n2_ n3_ n4_;(try clear hb);(try clear hb2);(try clear hk);(try clear hi))|((with_reducible refine gate_dst (N:=9) rfl ?_);refine box_event ?hg (N:=9) ?hd (cs:=#[.int .i64 0,.int .i64 0]) (t:=29) ?hr ?_;(case hd=>rfl);(case hg=>rfl);(case hr=>first|(go_simp;done)|(go_simp;rfl));intro gb338 hg w34 hbox hb;have n0_:=A_ (rw_ (by (with_reducible repeat (first|apply ra|apply rb|apply rc));exact HO_4.out) hb);have n1_:=A_ (rw_ (by (with_reducible repeat (first|apply ra|apply rb|apply rc));exact HO_5.out) hb);have n2_:=A_ (rw_ (by (with_reducible repeat (first|apply ra|apply rb|apply rc));exact HO_6.out) hb);have n3_:=A_ (rw_ (by (with_reducible repeat (first|apply ra|apply rb|apply rc));exact HO_7.out) hb);have n4_:=A_ (below_step (by repeat (first|(with_reducible first|exact HB.out|apply ba|apply bb|apply bc)|exact HB.out)) hb);have n5_:=A_ (hbox);have n6_:=A_ ((by rw [hg];exact (below_size (by repeat (first|(with_reducible first|exact HB.out|apply ba|apply bb|apply bc)|exact HB.out))) : w.heap.size ≤ gb338));have n7_:=A_ ((by rw [hg];exact (below_size (by repeat (first|(with_reducible first|exact HB.out|apply ba|apply bb|apply bc)|exact HB.out))) : w.heap.size ≤ gb338));clear HO_4;clear HO_5;clear HO_6;clear HO_7;clear HB;have HO_4:=n0_;have HO_5:=n1_;have HO_6:=n2_;have HO_7:=n3_;have HB:=n4_;have BK338:=n5_;have GW338:=n6_;have GE338:=n7_;clear n0_ n1_ n2_ n3_ n4_ n5_ n6_ n7_;clear hb hbox hg;have hcz35_0 : w34.cell? ⟨gb338,0,none⟩ = some (.int .i64 0):=(blk_cell BK338.out 0).trans rfl;have hcz35_1 : w34.cell? ⟨gb338,1,none⟩ = some (.int .i64 0):=(blk_cell BK338.out 1).trans rfl;have hfz35_0:=blk_frozen BK338.out 0;have hfz35_1:=blk_frozen BK338.out 1)|((with_reducible refine gate_callee (f:=11) rfl ?_);refine goesL_ (some 62) rfl rfl Try.func11 (by kernel_rfl) rfl #[.slice Ao32 t317.length co32,.slice Ao6 t314.length co6] rfl (by (try simp only [List.map_toArray,List.map_cons,List.map_nil]);first|done|rfl|(simp only [List.length_drop,List.length_take];rfl)) ?_;(with_reducible refine (normal_Gap.calls k1 _ _ t317 _ _ t314 t339 t340 t341 _ ?side1 ?side2 ?side3 ?side4 A28.out).mono ?_);(case side1=>refine (rd_ (e:=3) (base:=w.heap.size) (ok:=fun k_=>(nb k_ (.slice Ao6 t314.length co6)∧(some k_≠(u6 : Value).ownBlock∧some k_≠(u7 : Value).ownBlock))) (n:=t317.length) (c:=co32) ?_).2.2;exact (by (with_reducible repeat (first|apply ra|apply rb|apply rc));exact (rm (Kd.R_far (p:=⟨gb338,1,none⟩) (Kd.R_far (p:=⟨gb338,0,none⟩) (Kd.R_types HO_5.out BK338.out (by decide)) (fun _ hk=>hk.2) (.int .i64 t335)) (fun _ hk=>hk.2) (.int .i64 t336)) (fun _ h_=>h_.1))));(case side2=>exact (rd_ HO_5.out).2.1);(case side3=>refine (rd_ (e:=3) (base:=w.heap.size) (ok:=fun k_=>(nb k_ (.slice Ao32 t317.length co32)∧(some k_≠(u6 : Value).ownBlock∧some k_≠(u7 : Value).ownBlock))) (n:=t314.length) (c:=co6) ?_).2.2;exact (by (with_reducible repeat (first|apply ra|apply rb|apply rc));exact (rm (Kd.R_far (p:=⟨gb338,1,none⟩) (Kd.R_far (p:=⟨gb338,0,none⟩) (Kd.R_types HO_4.out BK338.out (by decide)) (fun _ hk=>hk.2) (.int .i64 t335)) (fun _ hk=>hk.2) (.int .i64 t336)) (fun _ h_=>h_.1))));(case side4=>exact (rd_ HO_4.out).2.1);rintro e w36 ⟨rfl,hb⟩;refine ⟨_,rfl,?_⟩;have n0_:=A_ (rw_ (by (with_reducible repeat (first|apply ra|apply rb|apply rc));exact (rm (Kd.R_far (p:=⟨gb338,1,none⟩) (Kd.R_far (p:=⟨gb338,0,none⟩) (Kd.R_types HO_4.out BK338.out (by decide)) (fun _ hk=>hk.2) (.int .i64 t335)) (fun _ hk=>hk.2) (.int .i64 t336)) (fun _ h_=>h_.1))) hb);have n1_:=A_ (rw_ (by (with_reducible repeat (first|apply ra|apply rb|apply rc));exact (rm (Kd.R_far (p:=⟨gb338,1,none⟩) (Kd.R_far (p:=⟨gb338,0,none⟩) (Kd.R_types HO_5.out BK338.out (by decide)) (fun _ hk=>hk.2) (.int .i64 t335)) (fun _ hk=>hk.2) (.int .i64 t336)) (fun _ h_=>h_.1))) hb);have n2_:=A_ (rw_ (by (with_reducible repeat (first|apply ra|apply rb|apply rc));exact (rm (Kd.R_far (p:=⟨gb338,1,none⟩) (Kd.R_far (p:=⟨gb338,0,none⟩) (Kd.R_types HO_6.out BK338.out (by decide)) (fun _ hk=>hk.2) (.int .i64 t335)) (fun _ hk=>hk.2) (.int .i64 t336)) (fun _ h_=>h_.1))) hb);have n3_:=A_ (rw_ (by (with_reducible repeat (first|apply ra|apply rb|apply rc));exact (rm (Kd.R_far (p:=⟨gb338,1,none⟩) (Kd.R_far (p:=⟨gb338,0,none⟩) (Kd.R_types HO_7.out BK338.out (by decide)) (fun _ hk=>hk.2) (.int .i64 t335)) (fun _ hk=>hk.2) (.int .i64 t336)) (fun _ h_=>h_.1))) hb);have n4_:=A_ (blk_below (g:=gb338) (o:=.cells #[.int .i64 t335,.int .i64 t336] 29 (0,0)) (by (with_reducible repeat (first|refine blk_drewN ?_ _|refine blk_drew ?_|refine blk_alloc ?_ _));refine blk_put (cs:=#[.int .i64 t335,.int .i64 0]) ?_ 1 _ rfl;(with_reducible repeat (first|refine blk_drewN ?_ _|refine blk_drew ?_|refine blk_alloc ?_ _));refine blk_put (cs:=#[.int .i64 0,.int .i64 0]) ?_ 0 _ rfl;(with_reducible repeat (first|refine blk_drewN ?_ _|refine blk_drew ?_|refine blk_alloc ?_ _));exact BK338.out) hb);have n5_:=A_ (below_step (by repeat (first|(with_reducible first|exact HB.out|apply ba|apply bb|apply bc|refine below_set ?_ GE338.out)|exact HB.out)) hb);clear HO_4;clear HO_5;clear HO_6;clear HO_7;clear BK338;clear HB;have HO_4:=n0_;have HO_5:=n1_;have HO_6:=n2_;have HO_7:=n3_;have BK338:=n4_;have HB:=n5_;clear n0_ n1_ n2_ n3_ n4_ n5_;(try clear hb);(try clear hb2);(try clear hk);(try clear hi))|((with_reducible refine gate_dst (N:=11) rfl ?_);refine box_event ?hg (N:=11) ?hd (cs:=#[.int .i64 0,.int .i64 0]) (t:=29) ?hr ?_;(case hd=>rfl);(case hg=>rfl);(case hr=>first|(go_simp;done)|(go_simp;rfl));intro gb342 hg w37 hbox hb;have n0_:=A_ (rw_ (by (with_reducible repeat (first|apply ra|apply rb|apply rc));exact HO_4.out) hb);have n1_:=A_ (rw_ (by (with_reducible repeat (first|apply ra|apply rb|apply rc));exact HO_5.out) hb);have n2_:=A_ (rw_ (by (with_reducible repeat (first|apply ra|apply rb|apply rc));exact HO_6.out) hb);have n3_:=A_ (rw_ (by (with_reducible repeat (first|apply ra|apply rb|apply rc));exact HO_7.out) hb);have n4_:=A_ (blk_below (g:=gb338) (o:=.cells #[.int .i64 t335,.int .i64 t336] 29 (0,0)) (by (with_reducible repeat (first|refine blk_drewN ?_ _|refine blk_drew ?_|refine blk_alloc ?_ _));exact BK338.out) hb);have n5_:=A_ (below_step (by repeat (first|(with_reducible first|exact HB.out|apply ba|apply bb|apply bc|refine below_set ?_ GE338.out)|exact HB.out)) hb);have n6_:=A_ (hbox);have n7_:=A_ ((by rw [hg];exact (below_size (by repeat (first|(with_reducible first|exact HB.out|apply ba|apply bb|apply bc|refine below_set ?_ GE338.out)|exact HB.out))) : w.heap.size ≤ gb342));have n8_:=A_ ((by rw [hg];exact (below_size (by repeat (first|(with_reducible first|exact HB.out|apply ba|apply bb|apply bc|refine below_set ?_ GE338.out)|exact HB.out))) : w.heap.size ≤ gb342));have n9_:=A_ ((by rw [hg];exact Nat.ne_of_lt (blk_lt (g:=gb338) (o:=.cells #[.int .i64 t335,.int .i64 t336] 29 (0,0)) (by (with_reducible repeat (first|refine blk_drewN ?_ _|refine blk_drew ?_|refine blk_alloc ?_ _));exact BK338.out)) : gb338≠gb342));have n10_:=A_ ((by rw [hg];exact Nat.ne_of_gt (blk_lt (g:=gb338) (o:=.cells #[.int .i64 t335,.int .i64 t336] 29 (0,0)) (by (with_reducible repeat (first|refine blk_drewN ?_ _|refine blk_drew ?_|refine blk_alloc ?_ _));exact BK338.out)) : gb342≠gb338));clear HO_4;clear HO_5;clear HO_6;clear HO_7;clear BK338;clear HB;have HO_4:=n0_;have HO_5:=n1_;have HO_6:=n2_;have HO_7:=n3_;have BK338:=n4_;have HB:=n5_;have BK342:=n6_;have GW342:=n7_;have GE342:=n8_;have NB338_342:=n9_;have NB342_338:=n10_;clear n0_ n1_ n2_ n3_ n4_ n5_ n6_ n7_ n8_ n9_ n10_;clear hb hbox hg;have hnb38:=NB342_338.out;have hnc38:=NB338_342.out;have hcz39_0 : w37.cell? ⟨gb342,0,none⟩ = some (.int .i64 0):=(blk_cell BK342.out 0).trans rfl;have hcz39_1 : w37.cell? ⟨gb342,1,none⟩ = some (.int .i64 0):=(blk_cell BK342.out 1).trans rfl;have hfz39_0:=blk_frozen BK342.out 0;have hfz39_1:=blk_frozen BK342.out 1;obtain ⟨Ao40,co40,eo40⟩:=Kd.R_slice HO_6.out;subst eo40;obtain ⟨Ao41,co41,eo41⟩:=Kd.R_slice HO_7.out;subst eo41)|((with_reducible refine gate_callee (f:=11) rfl ?_);refine goesL_ (some 68) rfl rfl Try.func11 (by kernel_rfl) rfl #[.slice Ao40 x6_1.length co40,.slice Ao41 x7_1.length co41] rfl (by (try simp only [List.map_toArray,List.map_cons,List.map_nil]);first|done|rfl|(simp only [List.length_drop,List.length_take];rfl)) ?_;(with_reducible refine (normal_Gap.calls k1 _ _ x6_1 _ _ x7_1 t343 t344 t345 _ ?side1 ?side2 ?side3 ?side4 A29.out).mono ?_);(case side1=>refine (rd_ (e:=3) (base:=w.heap.size) (ok:=fun k_=>(nb k_ (.slice Ao6 t314.length co6)∧(nb k_ (.slice Ao32 t317.length co32)∧nb k_ (.slice Ao41 x7_1.length co41)))) (n:=x6_1.length) (c:=co40) ?_).2.2;exact (by (with_reducible repeat (first|apply ra|apply rb|apply rc));exact (rm (Kd.R_far (p:=⟨gb342,1,none⟩) (Kd.R_far (p:=⟨gb342,0,none⟩) (Kd.R_types HO_6.out BK342.out (by decide)) (fun _ hk=>hk.2) (.int .i64 t339)) (fun _ hk=>hk.2) (.int .i64 t340)) (fun _ h_=>h_.1))));(case side2=>exact (rd_ HO_6.out).2.1);(case side3=>refine (rd_ (e:=3) (base:=w.heap.size) (ok:=fun k_=>(nb k_ (.slice Ao6 t314.length co6)∧(nb k_ (.slice Ao32 t317.length co32)∧nb k_ (.slice Ao40 x6_1.length co40)))) (n:=x7_1.length) (c:=co41) ?_).2.2;exact (by (with_reducible repeat (first|apply ra|apply rb|apply rc));exact (rm (Kd.R_far (p:=⟨gb342,1,none⟩) (Kd.R_far (p:=⟨gb342,0,none⟩) (Kd.R_types HO_7.out BK342.out (by decide)) (fun _ hk=>hk.2) (.int .i64 t339)) (fun _ hk=>hk.2) (.int .i64 t340)) (fun _ h_=>h_.1))));(case side4=>exact (rd_ HO_7.out).2.1);rintro e w42 ⟨rfl,hb⟩;refine ⟨_,rfl,?_⟩;have n0_:=A_ (rw_ (by (with_reducible repeat (first|apply ra|apply rb|apply rc));exact (rm (Kd.R_far (p:=⟨gb342,1,none⟩) (Kd.R_far (p:=⟨gb342,0,none⟩) (Kd.R_types HO_4.out BK342.out (by decide)) (fun _ hk=>hk.2) (.int .i64 t339)) (fun _ hk=>hk.2) (.int .i64 t340)) (fun _ h_=>h_.1))) hb);have n1_:=A_ (rw_ (by (with_reducible repeat (first|apply ra|apply rb|apply rc));exact (rm (Kd.R_far (p:=⟨gb342,1,none⟩) (Kd.R_far (p:=⟨gb342,0,none⟩) (Kd.R_types HO_5.out BK342.out (by decide)) (fun _ hk=>hk.2) (.int .i64 t339)) (fun _ hk=>hk.2) (.int .i64 t340)) (fun _ h_=>h_.1))) hb);have n2_:=A_ (rw_ (by (with_reducible repeat (first|apply ra|apply rb|apply rc));exact (rm (Kd.R_far (p:=⟨gb342,1,none⟩) (Kd.R_far (p:=⟨gb342,0,none⟩) (Kd.R_types HO_6.out BK342.out (by decide)) (fun _ hk=>hk.2) (.int .i64 t339)) (fun _ hk=>hk.2) (.int .i64 t340)) (fun _ h_=>h_.1))) hb);have n3_:=A_ (rw_ (by (with_reducible repeat (first|apply ra|apply rb|apply rc));exact (rm (Kd.R_far (p:=⟨gb342,1,none⟩) (Kd.R_far (p:=⟨gb342,0,none⟩) (Kd.R_types HO_7.out BK342.out (by decide)) (fun _ hk=>hk.2) (.int .i64 t339)) (fun _ hk=>hk.2) (.int .i64 t340)) (fun _ h_=>h_.1))) hb);have n4_:=A_ (blk_below (g:=gb338) (o:=.cells #[.int .i64 t335,.int .i64 t336] 29 (0,0)) (by (with_reducible repeat (first|refine blk_drewN ?_ _|refine blk_drew ?_|refine blk_alloc ?_ _));refine blk_far ?_ NB338_342.out _;(with_reducible repeat (first|refine blk_drewN ?_ _|refine blk_drew ?_|refine blk_alloc ?_ _));refine blk_far ?_ NB338_342.out _;(with_reducible repeat (first|refine blk_drewN ?_ _|refine blk_drew ?_|refine blk_alloc ?_ _));exact BK338.out) hb);have n5_:=A_ (blk_below (g:=gb342) (o:=.cells #[.int .i64 t339,.int .i64 t340] 29 (0,0)) (by (with_reducible repeat (first|refine blk_drewN ?_ _|refine blk_drew ?_|refine blk_alloc ?_ _));refine blk_put (cs:=#[.int .i64 t339,.int .i64 0]) ?_ 1 _ rfl;(with_reducible repeat (first|refine blk_drewN ?_ _|refine blk_drew ?_|refine blk_alloc ?_ _));refine blk_put (cs:=#[.int .i64 0,.int .i64 0]) ?_ 0 _ rfl;(with_reducible repeat (first|refine blk_drewN ?_ _|refine blk_drew ?_|refine blk_alloc ?_ _));exact BK342.out) hb);have n6_:=A_ (below_step (by repeat (first|(with_reducible first|exact HB.out|apply ba|apply bb|apply bc|refine below_set ?_ GE338.out|refine below_set ?_ GE342.out)|exact HB.out)) hb);clear HO_4;clear HO_5;clear HO_6;clear HO_7;clear BK338;clear BK342;clear HB;have HO_4:=n0_;have HO_5:=n1_;have HO_6:=n2_;have HO_7:=n3_;have BK338:=n4_;have BK342:=n5_;have HB:=n6_;clear n0_ n1_ n2_ n3_ n4_ n5_ n6_;(try clear hb);(try clear hb2);(try clear hk);(try clear hi))|((with_reducible refine gate_dst (N:=13) rfl ?_);refine box_event ?hg (N:=13) ?hd (cs:=#[.int .i64 0,.int .i64 0]) (t:=29) ?hr ?_;(case hd=>rfl);(case hg=>rfl);(case hr=>first|(go_simp;done)|(go_simp;rfl));intro gb346 hg w43 hbox hb;have n0_:=A_ (rw_ (by (with_reducible repeat (first|apply ra|apply rb|apply rc));exact HO_4.out) hb);have n1_:=A_ (rw_ (by (with_reducible repeat (first|apply ra|apply rb|apply rc));exact HO_5.out) hb);have n2_:=A_ (rw_ (by (with_reducible repeat (first|apply ra|apply rb|apply rc));exact HO_6.out) hb);have n3_:=A_ (rw_ (by (with_reducible repeat (first|apply ra|apply rb|apply rc));exact HO_7.out) hb);have n4_:=A_ (blk_below (g:=gb338) (o:=.cells #[.int .i64 t335,.int .i64 t336] 29 (0,0)) (by (with_reducible repeat (first|refine blk_drewN ?_ _|refine blk_drew ?_|refine blk_alloc ?_ _));exact BK338.out) hb);have n5_:=A_ (blk_below (g:=gb342) (o:=.cells #[.int .i64 t339,.int .i64 t340] 29 (0,0)) (by (with_reducible repeat (first|refine blk_drewN ?_ _|refine blk_drew ?_|refine blk_alloc ?_ _));exact BK342.out) hb);have n6_:=A_ (below_step (by repeat (first|(with_reducible first|exact HB.out|apply ba|apply bb|apply bc|refine below_set ?_ GE338.out|refine below_set ?_ GE342.out)|exact HB.out)) hb);have n7_:=A_ (hbox);have n8_:=A_ ((by rw [hg];exact (below_size (by repeat (first|(with_reducible first|exact HB.out|apply ba|apply bb|apply bc|refine below_set ?_ GE338.out|refine below_set ?_ GE342.out)|exact HB.out))) : w.heap.size ≤ gb346));have n9_:=A_ ((by rw [hg];exact (below_size (by repeat (first|(with_reducible first|exact HB.out|apply ba|apply bb|apply bc|refine below_set ?_ GE338.out|refine below_set ?_ GE342.out)|exact HB.out))) : w.heap.size ≤ gb346));have n10_:=A_ ((by rw [hg];exact Nat.ne_of_lt (blk_lt (g:=gb338) (o:=.cells #[.int .i64 t335,.int .i64 t336] 29 (0,0)) (by (with_reducible repeat (first|refine blk_drewN ?_ _|refine blk_drew ?_|refine blk_alloc ?_ _));exact BK338.out)) : gb338≠gb346));have n11_:=A_ ((by rw [hg];exact Nat.ne_of_gt (blk_lt (g:=gb338) (o:=.cells #[.int .i64 t335,.int .i64 t336] 29 (0,0)) (by (with_reducible repeat (first|refine blk_drewN ?_ _|refine blk_drew ?_|refine blk_alloc ?_ _));exact BK338.out)) : gb346≠gb338));have n12_:=A_ ((by rw [hg];exact Nat.ne_of_lt (blk_lt (g:=gb342) (o:=.cells #[.int .i64 t339,.int .i64 t340] 29 (0,0)) (by (with_reducible repeat (first|refine blk_drewN ?_ _|refine blk_drew ?_|refine blk_alloc ?_ _));exact BK342.out)) : gb342≠gb346));have n13_:=A_ ((by rw [hg];exact Nat.ne_of_gt (blk_lt (g:=gb342) (o:=.cells #[.int .i64 t339,.int .i64 t340] 29 (0,0)) (by (with_reducible repeat (first|refine blk_drewN ?_ _|refine blk_drew ?_|refine blk_alloc ?_ _));exact BK342.out)) : gb346≠gb342));clear HO_4;clear HO_5;clear HO_6;clear HO_7;clear BK338;clear BK342;clear HB;have HO_4:=n0_;have HO_5:=n1_;have HO_6:=n2_;have HO_7:=n3_;have BK338:=n4_;have BK342:=n5_;have HB:=n6_;have BK346:=n7_;have GW346:=n8_;have GE346:=n9_;have NB338_346:=n10_;have NB346_338:=n11_;have NB342_346:=n12_;have NB346_342:=n13_;clear n0_ n1_ n2_ n3_ n4_ n5_ n6_ n7_ n8_ n9_ n10_ n11_ n12_ n13_;clear hb hbox hg;have hnb44:=NB346_338.out;have hnc44:=NB338_346.out;have hnb45:=NB346_342.out;have hnc45:=NB342_346.out;have hcz46_0 : w43.cell? ⟨gb346,0,none⟩ = some (.int .i64 0):=(blk_cell BK346.out 0).trans rfl;have hcz46_1 : w43.cell? ⟨gb346,1,none⟩ = some (.int .i64 0):=(blk_cell BK346.out 1).trans rfl;have hfz46_0:=blk_frozen BK346.out 0;have hfz46_1:=blk_frozen BK346.out 1)|((with_reducible refine gate_callee (f:=15) rfl ?_);refine goesL_ (some 74) rfl rfl Try.func15 (by kernel_rfl) rfl #[.slice Ao6 t314.length co6,.slice Ao32 t317.length co32] rfl (by (try simp only [List.map_toArray,List.map_cons,List.map_nil]);first|done|rfl|(simp only [List.length_drop,List.length_take];rfl)) ?_;(with_reducible refine (normal_Product.calls k1 _ _ t314 _ _ t317 t347 t348 _ ?side1 ?side2 ?side3 ?side4 A30.out).mono ?_);(case side1=>refine (rd_ (e:=3) (base:=w.heap.size) (ok:=fun k_=>(nb k_ (.slice Ao32 t317.length co32)∧(nb k_ (.slice Ao40 x6_1.length co40)∧nb k_ (.slice Ao41 x7_1.length co41)))) (n:=t314.length) (c:=co6) ?_).2.2;exact (by (with_reducible repeat (first|apply ra|apply rb|apply rc));exact (rm (Kd.R_far (p:=⟨gb346,1,none⟩) (Kd.R_far (p:=⟨gb346,0,none⟩) (Kd.R_types HO_4.out BK346.out (by decide)) (fun _ hk=>hk.2) (.int .i64 t343)) (fun _ hk=>hk.2) (.int .i64 t344)) (fun _ h_=>h_.1))));(case side2=>exact (rd_ HO_4.out).2.1);(case side3=>refine (rd_ (e:=3) (base:=w.heap.size) (ok:=fun k_=>(nb k_ (.slice Ao6 t314.length co6)∧(nb k_ (.slice Ao40 x6_1.length co40)∧nb k_ (.slice Ao41 x7_1.length co41)))) (n:=t317.length) (c:=co32) ?_).2.2;exact (by (with_reducible repeat (first|apply ra|apply rb|apply rc));exact (rm (Kd.R_far (p:=⟨gb346,1,none⟩) (Kd.R_far (p:=⟨gb346,0,none⟩) (Kd.R_types HO_5.out BK346.out (by decide)) (fun _ hk=>hk.2) (.int .i64 t343)) (fun _ hk=>hk.2) (.int .i64 t344)) (fun _ h_=>h_.1))));(case side4=>exact (rd_ HO_5.out).2.1);rintro e w' ⟨rfl,⟨nd,rfl⟩⟩;refine ⟨_,rfl,?_⟩)|((with_reducible refine gate_dst (N:=17) rfl ?_);refine box_event ?hg (N:=17) ?hd (cs:=#[.int .i64 0,.int .i64 0]) (t:=29) ?hr ?_;(case hd=>rfl);(case hg=>rfl);(case hr=>first|(go_simp;done)|(go_simp;rfl));intro gb349 hg w47 hbox hb;have n0_:=A_ (rw_ (by (with_reducible repeat (first|apply ra|apply rb|apply rc));exact (rm (Kd.R_far (p:=⟨gb346,1,none⟩) (Kd.R_far (p:=⟨gb346,0,none⟩) (Kd.R_types HO_4.out BK346.out (by decide)) (fun _ hk=>hk.2) (.int .i64 t343)) (fun _ hk=>hk.2) (.int .i64 t344)) (fun _ h_=>h_.1))) hb);have n1_:=A_ (rw_ (by (with_reducible repeat (first|apply ra|apply rb|apply rc));exact (rm (Kd.R_far (p:=⟨gb346,1,none⟩) (Kd.R_far (p:=⟨gb346,0,none⟩) (Kd.R_types HO_5.out BK346.out (by decide)) (fun _ hk=>hk.2) (.int .i64 t343)) (fun _ hk=>hk.2) (.int .i64 t344)) (fun _ h_=>h_.1))) hb);have n2_:=A_ (rw_ (by (with_reducible repeat (first|apply ra|apply rb|apply rc));exact (rm (Kd.R_far (p:=⟨gb346,1,none⟩) (Kd.R_far (p:=⟨gb346,0,none⟩) (Kd.R_types HO_6.out BK346.out (by decide)) (fun _ hk=>hk.2) (.int .i64 t343)) (fun _ hk=>hk.2) (.int .i64 t344)) (fun _ h_=>h_.1))) hb);have n3_:=A_ (rw_ (by (with_reducible repeat (first|apply ra|apply rb|apply rc));exact (rm (Kd.R_far (p:=⟨gb346,1,none⟩) (Kd.R_far (p:=⟨gb346,0,none⟩) (Kd.R_types HO_7.out BK346.out (by decide)) (fun _ hk=>hk.2) (.int .i64 t343)) (fun _ hk=>hk.2) (.int .i64 t344)) (fun _ h_=>h_.1))) hb);have n4_:=A_ (blk_below (g:=gb338) (o:=.cells #[.int .i64 t335,.int .i64 t336] 29 (0,0)) (by (with_reducible repeat (first|refine blk_drewN ?_ _|refine blk_drew ?_|refine blk_alloc ?_ _));refine blk_far ?_ NB338_346.out _;(with_reducible repeat (first|refine blk_drewN ?_ _|refine blk_drew ?_|refine blk_alloc ?_ _));refine blk_far ?_ NB338_346.out _;(with_reducible repeat (first|refine blk_drewN ?_ _|refine blk_drew ?_|refine blk_alloc ?_ _));exact BK338.out) hb);have n5_:=A_ (blk_below (g:=gb342) (o:=.cells #[.int .i64 t339,.int .i64 t340] 29 (0,0)) (by (with_reducible repeat (first|refine blk_drewN ?_ _|refine blk_drew ?_|refine blk_alloc ?_ _));refine blk_far ?_ NB342_346.out _;(with_reducible repeat (first|refine blk_drewN ?_ _|refine blk_drew ?_|refine blk_alloc ?_ _));refine blk_far ?_ NB342_346.out _;(with_reducible repeat (first|refine blk_drewN ?_ _|refine blk_drew ?_|refine blk_alloc ?_ _));exact BK342.out) hb);have n6_:=A_ (blk_below (g:=gb346) (o:=.cells #[.int .i64 t343,.int .i64 t344] 29 (0,0)) (by (with_reducible repeat (first|refine blk_drewN ?_ _|refine blk_drew ?_|refine blk_alloc ?_ _));refine blk_put (cs:=#[.int .i64 t343,.int .i64 0]) ?_ 1 _ rfl;(with_reducible repeat (first|refine blk_drewN ?_ _|refine blk_drew ?_|refine blk_alloc ?_ _));refine blk_put (cs:=#[.int .i64 0,.int .i64 0]) ?_ 0 _ rfl;(with_reducible repeat (first|refine blk_drewN ?_ _|refine blk_drew ?_|refine blk_alloc ?_ _));exact BK346.out) hb);have n7_:=A_ (below_step (by repeat (first|(with_reducible first|exact HB.out|apply ba|apply bb|apply bc|refine below_set ?_ GE338.out|refine below_set ?_ GE342.out|refine below_set ?_ GE346.out)|exact HB.out)) hb);have n8_:=A_ (hbox);have n9_:=A_ ((by rw [hg];exact (below_size (by repeat (first|(with_reducible first|exact HB.out|apply ba|apply bb|apply bc|refine below_set ?_ GE338.out|refine below_set ?_ GE342.out|refine below_set ?_ GE346.out)|exact HB.out))) : w.heap.size ≤ gb349));have n10_:=A_ ((by rw [hg];exact (below_size (by repeat (first|(with_reducible first|exact HB.out|apply ba|apply bb|apply bc|refine below_set ?_ GE338.out|refine below_set ?_ GE342.out|refine below_set ?_ GE346.out)|exact HB.out))) : w.heap.size ≤ gb349));have n11_:=A_ ((by rw [hg];exact Nat.ne_of_lt (blk_lt (g:=gb338) (o:=.cells #[.int .i64 t335,.int .i64 t336] 29 (0,0)) (by (with_reducible repeat (first|refine blk_drewN ?_ _|refine blk_drew ?_|refine blk_alloc ?_ _));refine blk_far ?_ NB338_346.out _;(with_reducible repeat (first|refine blk_drewN ?_ _|refine blk_drew ?_|refine blk_alloc ?_ _));refine blk_far ?_ NB338_346.out _;(with_reducible repeat (first|refine blk_drewN ?_ _|refine blk_drew ?_|refine blk_alloc ?_ _));exact BK338.out)) : gb338≠gb349));have n12_:=A_ ((by rw [hg];exact Nat.ne_of_gt (blk_lt (g:=gb338) (o:=.cells #[.int .i64 t335,.int .i64 t336] 29 (0,0)) (by (with_reducible repeat (first|refine blk_drewN ?_ _|refine blk_drew ?_|refine blk_alloc ?_ _));refine blk_far ?_ NB338_346.out _;(with_reducible repeat (first|refine blk_drewN ?_ _|refine blk_drew ?_|refine blk_alloc ?_ _));refine blk_far ?_ NB338_346.out _;(with_reducible repeat (first|refine blk_drewN ?_ _|refine blk_drew ?_|refine blk_alloc ?_ _));exact BK338.out)) : gb349≠gb338));have n13_:=A_ ((by rw [hg];exact Nat.ne_of_lt (blk_lt (g:=gb342) (o:=.cells #[.int .i64 t339,.int .i64 t340] 29 (0,0)) (by (with_reducible repeat (first|refine blk_drewN ?_ _|refine blk_drew ?_|refine blk_alloc ?_ _));refine blk_far ?_ NB342_346.out _;(with_reducible repeat (first|refine blk_drewN ?_ _|refine blk_drew ?_|refine blk_alloc ?_ _));refine blk_far ?_ NB342_346.out _;(with_reducible repeat (first|refine blk_drewN ?_ _|refine blk_drew ?_|refine blk_alloc ?_ _));exact BK342.out)) : gb342≠gb349));have n14_:=A_ ((by rw [hg];exact Nat.ne_of_gt (blk_lt (g:=gb342) (o:=.cells #[.int .i64 t339,.int .i64 t340] 29 (0,0)) (by (with_reducible repeat (first|refine blk_drewN ?_ _|refine blk_drew ?_|refine blk_alloc ?_ _));refine blk_far ?_ NB342_346.out _;(with_reducible repeat (first|refine blk_drewN ?_ _|refine blk_drew ?_|refine blk_alloc ?_ _));refine blk_far ?_ NB342_346.out _;(with_reducible repeat (first|refine blk_drewN ?_ _|refine blk_drew ?_|refine blk_alloc ?_ _));exact BK342.out)) : gb349≠gb342));have n15_:=A_ ((by rw [hg];exact Nat.ne_of_lt (blk_lt (g:=gb346) (o:=.cells #[.int .i64 t343,.int .i64 t344] 29 (0,0)) (by (with_reducible repeat (first|refine blk_drewN ?_ _|refine blk_drew ?_|refine blk_alloc ?_ _));refine blk_put (cs:=#[.int .i64 t343,.int .i64 0]) ?_ 1 _ rfl;(with_reducible repeat (first|refine blk_drewN ?_ _|refine blk_drew ?_|refine blk_alloc ?_ _));refine blk_put (cs:=#[.int .i64 0,.int .i64 0]) ?_ 0 _ rfl;(with_reducible repeat (first|refine blk_drewN ?_ _|refine blk_drew ?_|refine blk_alloc ?_ _));exact BK346.out)) : gb346≠gb349));have n16_:=A_ ((by rw [hg];exact Nat.ne_of_gt (blk_lt (g:=gb346) (o:=.cells #[.int .i64 t343,.int .i64 t344] 29 (0,0)) (by (with_reducible repeat (first|refine blk_drewN ?_ _|refine blk_drew ?_|refine blk_alloc ?_ _));refine blk_put (cs:=#[.int .i64 t343,.int .i64 0]) ?_ 1 _ rfl;(with_reducible repeat (first|refine blk_drewN ?_ _|refine blk_drew ?_|refine blk_alloc ?_ _));refine blk_put (cs:=#[.int .i64 0,.int .i64 0]) ?_ 0 _ rfl;(with_reducible repeat (first|refine blk_drewN ?_ _|refine blk_drew ?_|refine blk_alloc ?_ _));exact BK346.out)) : gb349≠gb346));clear HO_4;clear HO_5;clear HO_6;clear HO_7;clear BK338;clear BK342;clear BK346;clear HB;have HO_4:=n0_;have HO_5:=n1_;have HO_6:=n2_;have HO_7:=n3_;have BK338:=n4_;have BK342:=n5_;have BK346:=n6_;have HB:=n7_;have BK349:=n8_;have GW349:=n9_;have GE349:=n10_;have NB338_349:=n11_;have NB349_338:=n12_;have NB342_349:=n13_;have NB349_342:=n14_;have NB346_349:=n15_;have NB349_346:=n16_;clear n0_ n1_ n2_ n3_ n4_ n5_ n6_ n7_ n8_ n9_ n10_ n11_ n12_ n13_ n14_ n15_ n16_;clear hb hbox hg;have hnb48:=NB349_338.out;have hnc48:=NB338_349.out;have hnb49:=NB349_342.out;have hnc49:=NB342_349.out;have hnb50:=NB349_346.out;have hnc50:=NB346_349.out;have hcz51_0 : w47.cell? ⟨gb349,0,none⟩ = some (.int .i64 0):=(blk_cell BK349.out 0).trans rfl;have hcz51_1 : w47.cell? ⟨gb349,1,none⟩ = some (.int .i64 0):=(blk_cell BK349.out 1).trans rfl;have hfz51_0:=blk_frozen BK349.out 0;have hfz51_1:=blk_frozen BK349.out 1))
    (try simp only [Act.put,List.setIfInBounds_toArray,List.set_cons_zero,List.set_cons_succ])
    have n0_ : Aside0 (Kd.R (Kd.int .i64) 3 ((w47.setCell ⟨gb349,0,none⟩ (.int .i64 1)).setCell ⟨gb349,1,none⟩ (.int .i64 1)) w.heap.size (fun k_=>nb k_ (.slice Ao32 t317.length co32)∧nb k_ (.slice Ao40 x6_1.length co40)∧nb k_ (.slice Ao41 x7_1.length co41)) (.slice Ao6 t314.length co6) t314):=⟨by (with_reducible repeat (first|apply ra|apply rb|apply rc));exact rm (Kd.R_far (p:=⟨gb349,1,none⟩) (Kd.R_far (p:=⟨gb349,0,none⟩) (Kd.R_types HO_4.out BK349.out (by decide)) (fun _ hk=>hk.2) (.int .i64 1)) (fun _ hk=>hk.2) (.int .i64 1)) (fun _ hk=>⟨hk.1.1,⟨hk.1.2.1,hk.1.2.2⟩⟩)⟩
    have n1_ : Aside0 (Kd.R (Kd.int .i64) 3 ((w47.setCell ⟨gb349,0,none⟩ (.int .i64 1)).setCell ⟨gb349,1,none⟩ (.int .i64 1)) w.heap.size (fun k_=>nb k_ (.slice Ao6 t314.length co6)∧nb k_ (.slice Ao40 x6_1.length co40)∧nb k_ (.slice Ao41 x7_1.length co41)) (.slice Ao32 t317.length co32) t317):=⟨by (with_reducible repeat (first|apply ra|apply rb|apply rc));exact rm (Kd.R_far (p:=⟨gb349,1,none⟩) (Kd.R_far (p:=⟨gb349,0,none⟩) (Kd.R_types HO_5.out BK349.out (by decide)) (fun _ hk=>hk.2) (.int .i64 1)) (fun _ hk=>hk.2) (.int .i64 1)) (fun _ hk=>⟨hk.1.1,⟨hk.1.2.1,hk.1.2.2⟩⟩)⟩
    have n2_ : Aside0 (Kd.R (Kd.int .i64) 3 ((w47.setCell ⟨gb349,0,none⟩ (.int .i64 1)).setCell ⟨gb349,1,none⟩ (.int .i64 1)) w.heap.size (fun k_=>nb k_ (.slice Ao6 t314.length co6)∧nb k_ (.slice Ao32 t317.length co32)∧nb k_ (.slice Ao41 x7_1.length co41)) (.slice Ao40 x6_1.length co40) x6_1):=⟨by (with_reducible repeat (first|apply ra|apply rb|apply rc));exact rm (Kd.R_far (p:=⟨gb349,1,none⟩) (Kd.R_far (p:=⟨gb349,0,none⟩) (Kd.R_types HO_6.out BK349.out (by decide)) (fun _ hk=>hk.2) (.int .i64 1)) (fun _ hk=>hk.2) (.int .i64 1)) (fun _ hk=>⟨hk.1.1,⟨hk.1.2.1,hk.1.2.2⟩⟩)⟩
    have n3_ : Aside0 (Kd.R (Kd.int .i64) 3 ((w47.setCell ⟨gb349,0,none⟩ (.int .i64 1)).setCell ⟨gb349,1,none⟩ (.int .i64 1)) w.heap.size (fun k_=>nb k_ (.slice Ao6 t314.length co6)∧nb k_ (.slice Ao32 t317.length co32)∧nb k_ (.slice Ao40 x6_1.length co40)) (.slice Ao41 x7_1.length co41) x7_1):=⟨by (with_reducible repeat (first|apply ra|apply rb|apply rc));exact rm (Kd.R_far (p:=⟨gb349,1,none⟩) (Kd.R_far (p:=⟨gb349,0,none⟩) (Kd.R_types HO_7.out BK349.out (by decide)) (fun _ hk=>hk.2) (.int .i64 1)) (fun _ hk=>hk.2) (.int .i64 1)) (fun _ hk=>⟨hk.1.1,⟨hk.1.2.1,hk.1.2.2⟩⟩)⟩
    have n4_ : Aside0 (((w47.setCell ⟨gb349,0,none⟩ (.int .i64 1)).setCell ⟨gb349,1,none⟩ (.int .i64 1)).heap[gb338]? = some (.cells #[.int .i64 t335,.int .i64 t336] 29 (0,0))):=⟨by (with_reducible repeat (first|refine blk_drewN ?_ _|refine blk_drew ?_|refine blk_alloc ?_ _));refine blk_far ?_ NB338_349.out _;(with_reducible repeat (first|refine blk_drewN ?_ _|refine blk_drew ?_|refine blk_alloc ?_ _));refine blk_far ?_ NB338_349.out _;(with_reducible repeat (first|refine blk_drewN ?_ _|refine blk_drew ?_|refine blk_alloc ?_ _));exact BK338.out⟩
    have n5_ : Aside0 (((w47.setCell ⟨gb349,0,none⟩ (.int .i64 1)).setCell ⟨gb349,1,none⟩ (.int .i64 1)).heap[gb342]? = some (.cells #[.int .i64 t339,.int .i64 t340] 29 (0,0))):=⟨by (with_reducible repeat (first|refine blk_drewN ?_ _|refine blk_drew ?_|refine blk_alloc ?_ _));refine blk_far ?_ NB342_349.out _;(with_reducible repeat (first|refine blk_drewN ?_ _|refine blk_drew ?_|refine blk_alloc ?_ _));refine blk_far ?_ NB342_349.out _;(with_reducible repeat (first|refine blk_drewN ?_ _|refine blk_drew ?_|refine blk_alloc ?_ _));exact BK342.out⟩
    have n6_ : Aside0 (((w47.setCell ⟨gb349,0,none⟩ (.int .i64 1)).setCell ⟨gb349,1,none⟩ (.int .i64 1)).heap[gb346]? = some (.cells #[.int .i64 t343,.int .i64 t344] 29 (0,0))):=⟨by (with_reducible repeat (first|refine blk_drewN ?_ _|refine blk_drew ?_|refine blk_alloc ?_ _));refine blk_far ?_ NB346_349.out _;(with_reducible repeat (first|refine blk_drewN ?_ _|refine blk_drew ?_|refine blk_alloc ?_ _));refine blk_far ?_ NB346_349.out _;(with_reducible repeat (first|refine blk_drewN ?_ _|refine blk_drew ?_|refine blk_alloc ?_ _));exact BK346.out⟩
    have n7_ : Aside0 (((w47.setCell ⟨gb349,0,none⟩ (.int .i64 1)).setCell ⟨gb349,1,none⟩ (.int .i64 1)).heap[gb349]? = some (.cells #[.int .i64 1,.int .i64 1] 29 (0,0))):=⟨by (with_reducible repeat (first|refine blk_drewN ?_ _|refine blk_drew ?_|refine blk_alloc ?_ _));refine blk_put (cs:=#[.int .i64 1,.int .i64 0]) ?_ 1 _ rfl;(with_reducible repeat (first|refine blk_drewN ?_ _|refine blk_drew ?_|refine blk_alloc ?_ _));refine blk_put (cs:=#[.int .i64 0,.int .i64 0]) ?_ 0 _ rfl;(with_reducible repeat (first|refine blk_drewN ?_ _|refine blk_drew ?_|refine blk_alloc ?_ _));exact BK349.out⟩
    have n8_ : Aside0 (Below w.heap.size w ((w47.setCell ⟨gb349,0,none⟩ (.int .i64 1)).setCell ⟨gb349,1,none⟩ (.int .i64 1))):=⟨by repeat (first|(with_reducible first|exact HB.out|apply ba|apply bb|apply bc|refine below_set ?_ GE338.out|refine below_set ?_ GE342.out|refine below_set ?_ GE346.out|refine below_set ?_ GE349.out)|exact HB.out)⟩
    (try clear HO_4)
    (try clear HO_5)
    (try clear HO_6)
    (try clear HO_7)
    (try clear BK338)
    (try clear BK342)
    (try clear BK346)
    (try clear BK349)
    (try clear HB)
    generalize ((w47.setCell ⟨gb349,0,none⟩ (.int .i64 1)).setCell ⟨gb349,1,none⟩ (.int .i64 1)) = w70 at n0_ n1_ n2_ n3_ n4_ n5_ n6_ n7_ n8_ ⊢
    have HO_4:=n0_
    have HO_5:=n1_
    have HO_6:=n2_
    have HO_7:=n3_
    have BK338:=n4_
    have BK342:=n5_
    have BK346:=n6_
    have BK349:=n7_
    have HB:=n8_
    clear n0_ n1_ n2_ n3_ n4_ n5_ n6_ n7_ n8_
    have HX:=A_ (rd_ HO_4.out)
    have HY:=A_ (rd_ HO_5.out)
    have HN0:=A_ (shapesearchlaw13_NormalRange.BN.mk HB.out BK338.out BK342.out BK346.out BK349.out HX.out.2.2 HY.out.2.2)
    clear HO_4 HO_5 HO_6 HO_7 BK338 BK342 BK346 BK349 HB
    have H:=HC31.out
    clear HC31
    by_cases c1 : t337 = 0
    rotate_left
    ·
     rw [if_neg c1] at H
     exact absurd ((Option.some.inj H).trans HTR_.out) (by decide)
    rw [if_pos c1] at H
    subst c1
    by_cases c2 : t341 = 0
    rotate_left
    ·
     rw [if_neg c2] at H
     exact absurd ((Option.some.inj H).trans HTR_.out) (by decide)
    rw [if_pos c2] at H
    subst c2
    by_cases c3 : t345 = 0
    rotate_left
    ·
     rw [if_neg c3] at H
     exact absurd ((Option.some.inj H).trans HTR_.out) (by decide)
    rw [if_pos c3] at H
    subst c3
    by_cases c4 : t348 = 0
    rotate_left
    ·
     rw [if_neg c4] at H
     exact absurd ((Option.some.inj H).trans HTR_.out) (by decide)
    rw [if_pos c4] at H
    subst c4
    by_cases c5 : (t335 == t339 && (t336 == t340)) = true
    rotate_left
    ·
     rw [if_neg c5] at H
     exact absurd ((Option.some.inj H).trans HTR_.out) (by decide)
    rw [if_pos c5] at H
    by_cases c6 : (t335 == t343 && (t336 == t344)) = true
    rotate_left
    ·
     rw [if_neg c6] at H
     exact absurd ((Option.some.inj H).trans HTR_.out) (by decide)
    rw [if_pos c6] at H
    obtain ⟨e1,e2⟩ : t335 = t339∧t336 = t340:=by simpa using c5
    obtain ⟨e3,e4⟩ : t335 = t343∧t336 = t344:=by simpa using c6
    clear c5 c6
    rw [← e1,← e2,← e3,← e4] at HN0
    clear e1 e2 e3 e4
    replace H:=Option.bind_eq_some_iff.mp H
    obtain ⟨t350,AV0,H⟩:=H
    cases t350
    ·
     rw [if_neg (by decide)] at H
     exact absurd ((Option.some.inj H).trans HTR_.out) (by decide)
    rw [if_pos rfl] at H
    have AV:=A_ AV0
    clear AV0
    replace H:=Option.bind_eq_some_iff.mp H
    obtain ⟨t351,AC0,H⟩:=H
    by_cases c7 : t351 ≤ 0
    rotate_left
    ·
     rw [if_neg c7] at H
     exact absurd ((Option.some.inj H).trans HTR_.out) (by decide)
    rw [if_pos c7] at H
    have c7b : decide (t351 ≤ 0) = true:=decide_eq_true c7
    have AC:=A_ AC0
    clear AC0 c7
    refine shapesearchlaw13_NormalRange.ways5 H HTR_.out (fun hn0 hn1 hn2 hpq ASX AL AA=>?_) (fun ty hn0 hn1 hn2 hpq ASX ASY AL AA=>?_) (fun hn0 hn1 hn2 hpq AL AA=>?_) (fun hn0 hn1 hn2 hpq ASX AL AA=>?_) (fun ty hn0 hn1 hn2 hpq ASX ASY AL AA=>?_)
    all_goals have hU_ : undef = Value.tuple #[]:=rfl
    all_goals clear H
    all_goals (try (have CX_:=A_ (fun (W : World) (h : Kd.C (Kd.int .i64) W Ao6 t314.length t314)=>shapesearchlaw13_spread.calls _ _ _ t314 _ _ h HX.out.2.1 ASX.out)))
    all_goals (try (have CY_:=A_ (fun (W : World) (h : Kd.C (Kd.int .i64) W Ao32 t317.length t317)=>shapesearchlaw13_spread.calls _ _ _ t317 _ _ h HY.out.2.1 ASY.out)))
    all_goals dsimp only [List.append]
    all_goals (refine wp_region_held_drew (S:=(fun W=>W.cell? ⟨gb338,0,none⟩ = some (.int .i64 t335)∧W.cell? ⟨gb338,1,none⟩ = some (.int .i64 t336)∧W.cell? ⟨gb342,0,none⟩ = some (.int .i64 t335)∧W.cell? ⟨gb342,1,none⟩ = some (.int .i64 t336)∧W.cell? ⟨gb346,0,none⟩ = some (.int .i64 t335)∧W.cell? ⟨gb346,1,none⟩ = some (.int .i64 t336)∧W.cell? ⟨gb349,0,none⟩ = some (.int .i64 1)∧W.cell? ⟨gb349,1,none⟩ = some (.int .i64 1))) (by kernel_rfl) ?_ (fun hHeld=>?_);(· ((try dsimp only);exact (shapesearchlaw13_NormalRange.BN.cells (by (repeat (first|exact HN5.out|exact HN4.out|exact HN3.out|exact HN2.out|exact HN1.out|exact HN0.out|apply shapesearchlaw13_NormalRange.BN.drewN|apply shapesearchlaw13_NormalRange.BN.drew)))))))
    all_goals first|(refine wpAnyH_take (i:=0) (oi:={ dst:=some 78,op:=Op.move (Operand.tmp 10),type:=30,pos:="law.go:112",after:=#[],guard:=none }) (v:=?_) rfl (by kernel_rfl) (by kernel_rfl) (by kernel_rfl) (fun _ _ _ h=>h) (Or.inl ⟨by rfl,?_⟩) (by assumption) ?_;rotate_left;(· (intro w_ hS_;(try dsimp only at hS_);go_simp;all_goals (with_reducible rfl)));(try simp only [Act.put,List.setIfInBounds_toArray,List.set_cons_zero,List.set_cons_succ]))|(refine wpAnyH_take (i:=0) (oi:={ dst:=some 78,op:=Op.move (Operand.tmp 10),type:=30,pos:="law.go:112",after:=#[],guard:=none }) (v:=undef) rfl (by kernel_rfl) (by kernel_rfl) (by kernel_rfl) (fun _ _ _ h=>h) (Or.inr ⟨by rfl,rfl⟩) (by assumption) ?_;(try simp only [Act.put,List.setIfInBounds_toArray,List.set_cons_zero,List.set_cons_succ]))
    all_goals first|(refine wpAnyH_take (i:=1) (oi:={ dst:=some 79,op:=Op.binOp BinOp.eql 30 (Operand.tmp 78) (Operand.const (Value.int IntKind.i64 0)) 30,type:=4,pos:="law.go:112",after:=#[{ on:=0,ground:=Ground.data }],guard:=none }) (v:=?_) rfl (by kernel_rfl) (by kernel_rfl) (by kernel_rfl) (fun _ _ _ h=>h) (Or.inl ⟨by rfl,?_⟩) (by assumption) ?_;rotate_left;(· (intro w_ hS_;(try dsimp only at hS_);go_simp;all_goals (with_reducible rfl)));(try simp only [Act.put,List.setIfInBounds_toArray,List.set_cons_zero,List.set_cons_succ]))|(refine wpAnyH_take (i:=1) (oi:={ dst:=some 79,op:=Op.binOp BinOp.eql 30 (Operand.tmp 78) (Operand.const (Value.int IntKind.i64 0)) 30,type:=4,pos:="law.go:112",after:=#[{ on:=0,ground:=Ground.data }],guard:=none }) (v:=undef) rfl (by kernel_rfl) (by kernel_rfl) (by kernel_rfl) (fun _ _ _ h=>h) (Or.inr ⟨by rfl,rfl⟩) (by assumption) ?_;(try simp only [Act.put,List.setIfInBounds_toArray,List.set_cons_zero,List.set_cons_succ]))
    all_goals first|(refine wpAnyH_take (i:=2) (oi:={ dst:=some 80,op:=Op.move (Operand.tmp 79),type:=4,pos:="law.go:112",after:=#[{ on:=1,ground:=Ground.data }],guard:=none }) (v:=?_) rfl (by kernel_rfl) (by kernel_rfl) (by kernel_rfl) (fun _ _ _ h=>h) (Or.inl ⟨by rfl,?_⟩) (by assumption) ?_;rotate_left;(· (intro w_ hS_;(try dsimp only at hS_);go_simp;all_goals (with_reducible rfl)));(try simp only [Act.put,List.setIfInBounds_toArray,List.set_cons_zero,List.set_cons_succ]))|(refine wpAnyH_take (i:=2) (oi:={ dst:=some 80,op:=Op.move (Operand.tmp 79),type:=4,pos:="law.go:112",after:=#[{ on:=1,ground:=Ground.data }],guard:=none }) (v:=undef) rfl (by kernel_rfl) (by kernel_rfl) (by kernel_rfl) (fun _ _ _ h=>h) (Or.inr ⟨by rfl,rfl⟩) (by assumption) ?_;(try simp only [Act.put,List.setIfInBounds_toArray,List.set_cons_zero,List.set_cons_succ]))
    all_goals first|(refine wpAnyH_take (i:=3) (oi:={ dst:=some 81,op:=Op.move (Operand.tmp 12),type:=30,pos:="law.go:112",after:=#[{ on:=2,ground:=Ground.guard }],guard:=some (2,true) }) (v:=?_) rfl (by kernel_rfl) (by kernel_rfl) (by kernel_rfl) (fun _ _ _ h=>h) (Or.inl ⟨by rfl,?_⟩) (by assumption) ?_;rotate_left;(· (intro w_ hS_;(try dsimp only at hS_);go_simp;all_goals (with_reducible rfl)));(try simp only [Act.put,List.setIfInBounds_toArray,List.set_cons_zero,List.set_cons_succ]))|(refine wpAnyH_take (i:=3) (oi:={ dst:=some 81,op:=Op.move (Operand.tmp 12),type:=30,pos:="law.go:112",after:=#[{ on:=2,ground:=Ground.guard }],guard:=some (2,true) }) (v:=undef) rfl (by kernel_rfl) (by kernel_rfl) (by kernel_rfl) (fun _ _ _ h=>h) (Or.inr ⟨by rfl,rfl⟩) (by assumption) ?_;(try simp only [Act.put,List.setIfInBounds_toArray,List.set_cons_zero,List.set_cons_succ]))
    all_goals first|(refine wpAnyH_take (i:=4) (oi:={ dst:=some 82,op:=Op.binOp BinOp.eql 30 (Operand.tmp 81) (Operand.const (Value.int IntKind.i64 0)) 30,type:=4,pos:="law.go:112",after:=#[{ on:=3,ground:=Ground.data },{ on:=2,ground:=Ground.guard }],guard:=some (2,true) }) (v:=?_) rfl (by kernel_rfl) (by kernel_rfl) (by kernel_rfl) (fun _ _ _ h=>h) (Or.inl ⟨by rfl,?_⟩) (by assumption) ?_;rotate_left;(· (intro w_ hS_;(try dsimp only at hS_);go_simp;all_goals (with_reducible rfl)));(try simp only [Act.put,List.setIfInBounds_toArray,List.set_cons_zero,List.set_cons_succ]))|(refine wpAnyH_take (i:=4) (oi:={ dst:=some 82,op:=Op.binOp BinOp.eql 30 (Operand.tmp 81) (Operand.const (Value.int IntKind.i64 0)) 30,type:=4,pos:="law.go:112",after:=#[{ on:=3,ground:=Ground.data },{ on:=2,ground:=Ground.guard }],guard:=some (2,true) }) (v:=undef) rfl (by kernel_rfl) (by kernel_rfl) (by kernel_rfl) (fun _ _ _ h=>h) (Or.inr ⟨by rfl,rfl⟩) (by assumption) ?_;(try simp only [Act.put,List.setIfInBounds_toArray,List.set_cons_zero,List.set_cons_succ]))
    all_goals first|(refine wpAnyH_take (i:=5) (oi:={ dst:=some 83,op:=Op.pick (Operand.tmp 80) (Operand.tmp 82) (Operand.const (Value.bool false)),type:=4,pos:="law.go:112",after:=#[{ on:=2,ground:=Ground.data },{ on:=4,ground:=Ground.data }],guard:=none }) (v:=?_) rfl (by kernel_rfl) (by kernel_rfl) (by kernel_rfl) (fun _ _ _ h=>h) (Or.inl ⟨by rfl,?_⟩) (by assumption) ?_;rotate_left;(· (intro w_ hS_;(try dsimp only at hS_);go_simp;all_goals (with_reducible rfl)));(try simp only [Act.put,List.setIfInBounds_toArray,List.set_cons_zero,List.set_cons_succ]))|(refine wpAnyH_take (i:=5) (oi:={ dst:=some 83,op:=Op.pick (Operand.tmp 80) (Operand.tmp 82) (Operand.const (Value.bool false)),type:=4,pos:="law.go:112",after:=#[{ on:=2,ground:=Ground.data },{ on:=4,ground:=Ground.data }],guard:=none }) (v:=undef) rfl (by kernel_rfl) (by kernel_rfl) (by kernel_rfl) (fun _ _ _ h=>h) (Or.inr ⟨by rfl,rfl⟩) (by assumption) ?_;(try simp only [Act.put,List.setIfInBounds_toArray,List.set_cons_zero,List.set_cons_succ]))
    all_goals first|(refine wpAnyH_take (i:=6) (oi:={ dst:=some 84,op:=Op.move (Operand.tmp 83),type:=4,pos:="law.go:112",after:=#[{ on:=5,ground:=Ground.data },{ on:=2,ground:=Ground.chain }],guard:=none }) (v:=?_) rfl (by kernel_rfl) (by kernel_rfl) (by kernel_rfl) (fun _ _ _ h=>h) (Or.inl ⟨by rfl,?_⟩) (by assumption) ?_;rotate_left;(· (intro w_ hS_;(try dsimp only at hS_);go_simp;all_goals (with_reducible rfl)));(try simp only [Act.put,List.setIfInBounds_toArray,List.set_cons_zero,List.set_cons_succ]))|(refine wpAnyH_take (i:=6) (oi:={ dst:=some 84,op:=Op.move (Operand.tmp 83),type:=4,pos:="law.go:112",after:=#[{ on:=5,ground:=Ground.data },{ on:=2,ground:=Ground.chain }],guard:=none }) (v:=undef) rfl (by kernel_rfl) (by kernel_rfl) (by kernel_rfl) (fun _ _ _ h=>h) (Or.inr ⟨by rfl,rfl⟩) (by assumption) ?_;(try simp only [Act.put,List.setIfInBounds_toArray,List.set_cons_zero,List.set_cons_succ]))
    all_goals first|(refine wpAnyH_take (i:=7) (oi:={ dst:=some 85,op:=Op.move (Operand.tmp 14),type:=30,pos:="law.go:112",after:=#[{ on:=6,ground:=Ground.guard }],guard:=some (6,true) }) (v:=?_) rfl (by kernel_rfl) (by kernel_rfl) (by kernel_rfl) (fun _ _ _ h=>h) (Or.inl ⟨by rfl,?_⟩) (by assumption) ?_;rotate_left;(· (intro w_ hS_;(try dsimp only at hS_);go_simp;all_goals (with_reducible rfl)));(try simp only [Act.put,List.setIfInBounds_toArray,List.set_cons_zero,List.set_cons_succ]))|(refine wpAnyH_take (i:=7) (oi:={ dst:=some 85,op:=Op.move (Operand.tmp 14),type:=30,pos:="law.go:112",after:=#[{ on:=6,ground:=Ground.guard }],guard:=some (6,true) }) (v:=undef) rfl (by kernel_rfl) (by kernel_rfl) (by kernel_rfl) (fun _ _ _ h=>h) (Or.inr ⟨by rfl,rfl⟩) (by assumption) ?_;(try simp only [Act.put,List.setIfInBounds_toArray,List.set_cons_zero,List.set_cons_succ]))
    all_goals first|(refine wpAnyH_take (i:=8) (oi:={ dst:=some 86,op:=Op.binOp BinOp.eql 30 (Operand.tmp 85) (Operand.const (Value.int IntKind.i64 0)) 30,type:=4,pos:="law.go:112",after:=#[{ on:=7,ground:=Ground.data },{ on:=6,ground:=Ground.guard }],guard:=some (6,true) }) (v:=?_) rfl (by kernel_rfl) (by kernel_rfl) (by kernel_rfl) (fun _ _ _ h=>h) (Or.inl ⟨by rfl,?_⟩) (by assumption) ?_;rotate_left;(· (intro w_ hS_;(try dsimp only at hS_);go_simp;all_goals (with_reducible rfl)));(try simp only [Act.put,List.setIfInBounds_toArray,List.set_cons_zero,List.set_cons_succ]))|(refine wpAnyH_take (i:=8) (oi:={ dst:=some 86,op:=Op.binOp BinOp.eql 30 (Operand.tmp 85) (Operand.const (Value.int IntKind.i64 0)) 30,type:=4,pos:="law.go:112",after:=#[{ on:=7,ground:=Ground.data },{ on:=6,ground:=Ground.guard }],guard:=some (6,true) }) (v:=undef) rfl (by kernel_rfl) (by kernel_rfl) (by kernel_rfl) (fun _ _ _ h=>h) (Or.inr ⟨by rfl,rfl⟩) (by assumption) ?_;(try simp only [Act.put,List.setIfInBounds_toArray,List.set_cons_zero,List.set_cons_succ]))
    all_goals first|(refine wpAnyH_take (i:=9) (oi:={ dst:=some 87,op:=Op.pick (Operand.tmp 84) (Operand.tmp 86) (Operand.const (Value.bool false)),type:=4,pos:="law.go:112",after:=#[{ on:=6,ground:=Ground.data },{ on:=8,ground:=Ground.data }],guard:=none }) (v:=?_) rfl (by kernel_rfl) (by kernel_rfl) (by kernel_rfl) (fun _ _ _ h=>h) (Or.inl ⟨by rfl,?_⟩) (by assumption) ?_;rotate_left;(· (intro w_ hS_;(try dsimp only at hS_);go_simp;all_goals (with_reducible rfl)));(try simp only [Act.put,List.setIfInBounds_toArray,List.set_cons_zero,List.set_cons_succ]))|(refine wpAnyH_take (i:=9) (oi:={ dst:=some 87,op:=Op.pick (Operand.tmp 84) (Operand.tmp 86) (Operand.const (Value.bool false)),type:=4,pos:="law.go:112",after:=#[{ on:=6,ground:=Ground.data },{ on:=8,ground:=Ground.data }],guard:=none }) (v:=undef) rfl (by kernel_rfl) (by kernel_rfl) (by kernel_rfl) (fun _ _ _ h=>h) (Or.inr ⟨by rfl,rfl⟩) (by assumption) ?_;(try simp only [Act.put,List.setIfInBounds_toArray,List.set_cons_zero,List.set_cons_succ]))
    all_goals first|(refine wpAnyH_take (i:=10) (oi:={ dst:=some 88,op:=Op.move (Operand.tmp 87),type:=4,pos:="law.go:112",after:=#[{ on:=9,ground:=Ground.data },{ on:=6,ground:=Ground.chain }],guard:=none }) (v:=?_) rfl (by kernel_rfl) (by kernel_rfl) (by kernel_rfl) (fun _ _ _ h=>h) (Or.inl ⟨by rfl,?_⟩) (by assumption) ?_;rotate_left;(· (intro w_ hS_;(try dsimp only at hS_);go_simp;all_goals (with_reducible rfl)));(try simp only [Act.put,List.setIfInBounds_toArray,List.set_cons_zero,List.set_cons_succ]))|(refine wpAnyH_take (i:=10) (oi:={ dst:=some 88,op:=Op.move (Operand.tmp 87),type:=4,pos:="law.go:112",after:=#[{ on:=9,ground:=Ground.data },{ on:=6,ground:=Ground.chain }],guard:=none }) (v:=undef) rfl (by kernel_rfl) (by kernel_rfl) (by kernel_rfl) (fun _ _ _ h=>h) (Or.inr ⟨by rfl,rfl⟩) (by assumption) ?_;(try simp only [Act.put,List.setIfInBounds_toArray,List.set_cons_zero,List.set_cons_succ]))
    all_goals first|(refine wpAnyH_take (i:=11) (oi:={ dst:=some 89,op:=Op.move (Operand.tmp 16),type:=30,pos:="law.go:112",after:=#[{ on:=10,ground:=Ground.guard }],guard:=some (10,true) }) (v:=?_) rfl (by kernel_rfl) (by kernel_rfl) (by kernel_rfl) (fun _ _ _ h=>h) (Or.inl ⟨by rfl,?_⟩) (by assumption) ?_;rotate_left;(· (intro w_ hS_;(try dsimp only at hS_);go_simp;all_goals (with_reducible rfl)));(try simp only [Act.put,List.setIfInBounds_toArray,List.set_cons_zero,List.set_cons_succ]))|(refine wpAnyH_take (i:=11) (oi:={ dst:=some 89,op:=Op.move (Operand.tmp 16),type:=30,pos:="law.go:112",after:=#[{ on:=10,ground:=Ground.guard }],guard:=some (10,true) }) (v:=undef) rfl (by kernel_rfl) (by kernel_rfl) (by kernel_rfl) (fun _ _ _ h=>h) (Or.inr ⟨by rfl,rfl⟩) (by assumption) ?_;(try simp only [Act.put,List.setIfInBounds_toArray,List.set_cons_zero,List.set_cons_succ]))
    all_goals first|(refine wpAnyH_take (i:=12) (oi:={ dst:=some 90,op:=Op.binOp BinOp.eql 30 (Operand.tmp 89) (Operand.const (Value.int IntKind.i64 0)) 30,type:=4,pos:="law.go:112",after:=#[{ on:=11,ground:=Ground.data },{ on:=10,ground:=Ground.guard }],guard:=some (10,true) }) (v:=?_) rfl (by kernel_rfl) (by kernel_rfl) (by kernel_rfl) (fun _ _ _ h=>h) (Or.inl ⟨by rfl,?_⟩) (by assumption) ?_;rotate_left;(· (intro w_ hS_;(try dsimp only at hS_);go_simp;all_goals (with_reducible rfl)));(try simp only [Act.put,List.setIfInBounds_toArray,List.set_cons_zero,List.set_cons_succ]))|(refine wpAnyH_take (i:=12) (oi:={ dst:=some 90,op:=Op.binOp BinOp.eql 30 (Operand.tmp 89) (Operand.const (Value.int IntKind.i64 0)) 30,type:=4,pos:="law.go:112",after:=#[{ on:=11,ground:=Ground.data },{ on:=10,ground:=Ground.guard }],guard:=some (10,true) }) (v:=undef) rfl (by kernel_rfl) (by kernel_rfl) (by kernel_rfl) (fun _ _ _ h=>h) (Or.inr ⟨by rfl,rfl⟩) (by assumption) ?_;(try simp only [Act.put,List.setIfInBounds_toArray,List.set_cons_zero,List.set_cons_succ]))
    all_goals first|(refine wpAnyH_take (i:=13) (oi:={ dst:=some 91,op:=Op.pick (Operand.tmp 88) (Operand.tmp 90) (Operand.const (Value.bool false)),type:=4,pos:="law.go:112",after:=#[{ on:=10,ground:=Ground.data },{ on:=12,ground:=Ground.data }],guard:=none }) (v:=?_) rfl (by kernel_rfl) (by kernel_rfl) (by kernel_rfl) (fun _ _ _ h=>h) (Or.inl ⟨by rfl,?_⟩) (by assumption) ?_;rotate_left;(· (intro w_ hS_;(try dsimp only at hS_);go_simp;all_goals (with_reducible rfl)));(try simp only [Act.put,List.setIfInBounds_toArray,List.set_cons_zero,List.set_cons_succ]))|(refine wpAnyH_take (i:=13) (oi:={ dst:=some 91,op:=Op.pick (Operand.tmp 88) (Operand.tmp 90) (Operand.const (Value.bool false)),type:=4,pos:="law.go:112",after:=#[{ on:=10,ground:=Ground.data },{ on:=12,ground:=Ground.data }],guard:=none }) (v:=undef) rfl (by kernel_rfl) (by kernel_rfl) (by kernel_rfl) (fun _ _ _ h=>h) (Or.inr ⟨by rfl,rfl⟩) (by assumption) ?_;(try simp only [Act.put,List.setIfInBounds_toArray,List.set_cons_zero,List.set_cons_succ]))
    all_goals first|(refine wpAnyH_take (i:=14) (oi:={ dst:=some 92,op:=Op.move (Operand.tmp 91),type:=4,pos:="law.go:112",after:=#[{ on:=13,ground:=Ground.data },{ on:=10,ground:=Ground.chain }],guard:=none }) (v:=?_) rfl (by kernel_rfl) (by kernel_rfl) (by kernel_rfl) (fun _ _ _ h=>h) (Or.inl ⟨by rfl,?_⟩) (by assumption) ?_;rotate_left;(· (intro w_ hS_;(try dsimp only at hS_);go_simp;all_goals (with_reducible rfl)));(try simp only [Act.put,List.setIfInBounds_toArray,List.set_cons_zero,List.set_cons_succ]))|(refine wpAnyH_take (i:=14) (oi:={ dst:=some 92,op:=Op.move (Operand.tmp 91),type:=4,pos:="law.go:112",after:=#[{ on:=13,ground:=Ground.data },{ on:=10,ground:=Ground.chain }],guard:=none }) (v:=undef) rfl (by kernel_rfl) (by kernel_rfl) (by kernel_rfl) (fun _ _ _ h=>h) (Or.inr ⟨by rfl,rfl⟩) (by assumption) ?_;(try simp only [Act.put,List.setIfInBounds_toArray,List.set_cons_zero,List.set_cons_succ]))
    all_goals first|(refine wpAnyH_take (i:=15) (oi:={ dst:=some 93,op:=Op.load 29 (Operand.tmp 9),type:=29,pos:="law.go:112",after:=#[{ on:=14,ground:=Ground.guard }],guard:=some (14,true) }) (v:=?_) rfl (by kernel_rfl) (by kernel_rfl) (by kernel_rfl) (fun _ _ _ h=>h) (Or.inl ⟨by rfl,?_⟩) (by assumption) ?_;rotate_left;(· (intro w_ hS_;(try dsimp only at hS_);go_simp;all_goals (with_reducible rfl)));(try simp only [Act.put,List.setIfInBounds_toArray,List.set_cons_zero,List.set_cons_succ]))|(refine wpAnyH_take (i:=15) (oi:={ dst:=some 93,op:=Op.load 29 (Operand.tmp 9),type:=29,pos:="law.go:112",after:=#[{ on:=14,ground:=Ground.guard }],guard:=some (14,true) }) (v:=undef) rfl (by kernel_rfl) (by kernel_rfl) (by kernel_rfl) (fun _ _ _ h=>h) (Or.inr ⟨by rfl,rfl⟩) (by assumption) ?_;(try simp only [Act.put,List.setIfInBounds_toArray,List.set_cons_zero,List.set_cons_succ]))
    all_goals first|(refine wpAnyH_take (i:=16) (oi:={ dst:=some 94,op:=Op.load 29 (Operand.tmp 11),type:=29,pos:="law.go:112",after:=#[{ on:=14,ground:=Ground.guard }],guard:=some (14,true) }) (v:=?_) rfl (by kernel_rfl) (by kernel_rfl) (by kernel_rfl) (fun _ _ _ h=>h) (Or.inl ⟨by rfl,?_⟩) (by assumption) ?_;rotate_left;(· (intro w_ hS_;(try dsimp only at hS_);go_simp;all_goals (with_reducible rfl)));(try simp only [Act.put,List.setIfInBounds_toArray,List.set_cons_zero,List.set_cons_succ]))|(refine wpAnyH_take (i:=16) (oi:={ dst:=some 94,op:=Op.load 29 (Operand.tmp 11),type:=29,pos:="law.go:112",after:=#[{ on:=14,ground:=Ground.guard }],guard:=some (14,true) }) (v:=undef) rfl (by kernel_rfl) (by kernel_rfl) (by kernel_rfl) (fun _ _ _ h=>h) (Or.inr ⟨by rfl,rfl⟩) (by assumption) ?_;(try simp only [Act.put,List.setIfInBounds_toArray,List.set_cons_zero,List.set_cons_succ]))
    all_goals first|(refine wpAnyH_take (i:=17) (oi:={ dst:=some 95,op:=Op.binOp BinOp.eql 29 (Operand.tmp 93) (Operand.tmp 94) 29,type:=4,pos:="law.go:112",after:=#[{ on:=15,ground:=Ground.data },{ on:=16,ground:=Ground.data },{ on:=14,ground:=Ground.guard }],guard:=some (14,true) }) (v:=?_) rfl (by kernel_rfl) (by kernel_rfl) (by kernel_rfl) (fun _ _ _ h=>h) (Or.inl ⟨by rfl,?_⟩) (by assumption) ?_;rotate_left;(· (intro w_ hS_;(try dsimp only at hS_);go_simp;all_goals (with_reducible rfl)));(try simp only [Act.put,List.setIfInBounds_toArray,List.set_cons_zero,List.set_cons_succ]))|(refine wpAnyH_take (i:=17) (oi:={ dst:=some 95,op:=Op.binOp BinOp.eql 29 (Operand.tmp 93) (Operand.tmp 94) 29,type:=4,pos:="law.go:112",after:=#[{ on:=15,ground:=Ground.data },{ on:=16,ground:=Ground.data },{ on:=14,ground:=Ground.guard }],guard:=some (14,true) }) (v:=undef) rfl (by kernel_rfl) (by kernel_rfl) (by kernel_rfl) (fun _ _ _ h=>h) (Or.inr ⟨by rfl,rfl⟩) (by assumption) ?_;(try simp only [Act.put,List.setIfInBounds_toArray,List.set_cons_zero,List.set_cons_succ]))
    all_goals first|(refine wpAnyH_take (i:=18) (oi:={ dst:=some 96,op:=Op.pick (Operand.tmp 92) (Operand.tmp 95) (Operand.const (Value.bool false)),type:=4,pos:="law.go:112",after:=#[{ on:=14,ground:=Ground.data },{ on:=17,ground:=Ground.data }],guard:=none }) (v:=?_) rfl (by kernel_rfl) (by kernel_rfl) (by kernel_rfl) (fun _ _ _ h=>h) (Or.inl ⟨by rfl,?_⟩) (by assumption) ?_;rotate_left;(· (intro w_ hS_;(try dsimp only at hS_);go_simp;all_goals (with_reducible rfl)));(try simp only [Act.put,List.setIfInBounds_toArray,List.set_cons_zero,List.set_cons_succ]))|(refine wpAnyH_take (i:=18) (oi:={ dst:=some 96,op:=Op.pick (Operand.tmp 92) (Operand.tmp 95) (Operand.const (Value.bool false)),type:=4,pos:="law.go:112",after:=#[{ on:=14,ground:=Ground.data },{ on:=17,ground:=Ground.data }],guard:=none }) (v:=undef) rfl (by kernel_rfl) (by kernel_rfl) (by kernel_rfl) (fun _ _ _ h=>h) (Or.inr ⟨by rfl,rfl⟩) (by assumption) ?_;(try simp only [Act.put,List.setIfInBounds_toArray,List.set_cons_zero,List.set_cons_succ]))
    all_goals first|(refine wpAnyH_take (i:=19) (oi:={ dst:=some 97,op:=Op.move (Operand.tmp 96),type:=4,pos:="law.go:112",after:=#[{ on:=18,ground:=Ground.data },{ on:=14,ground:=Ground.chain }],guard:=none }) (v:=?_) rfl (by kernel_rfl) (by kernel_rfl) (by kernel_rfl) (fun _ _ _ h=>h) (Or.inl ⟨by rfl,?_⟩) (by assumption) ?_;rotate_left;(· (intro w_ hS_;(try dsimp only at hS_);go_simp;all_goals (with_reducible rfl)));(try simp only [Act.put,List.setIfInBounds_toArray,List.set_cons_zero,List.set_cons_succ]))|(refine wpAnyH_take (i:=19) (oi:={ dst:=some 97,op:=Op.move (Operand.tmp 96),type:=4,pos:="law.go:112",after:=#[{ on:=18,ground:=Ground.data },{ on:=14,ground:=Ground.chain }],guard:=none }) (v:=undef) rfl (by kernel_rfl) (by kernel_rfl) (by kernel_rfl) (fun _ _ _ h=>h) (Or.inr ⟨by rfl,rfl⟩) (by assumption) ?_;(try simp only [Act.put,List.setIfInBounds_toArray,List.set_cons_zero,List.set_cons_succ]))
    all_goals first|(refine wpAnyH_take (i:=20) (oi:={ dst:=some 98,op:=Op.load 29 (Operand.tmp 9),type:=29,pos:="law.go:112",after:=#[{ on:=19,ground:=Ground.guard }],guard:=some (19,true) }) (v:=?_) rfl (by kernel_rfl) (by kernel_rfl) (by kernel_rfl) (fun _ _ _ h=>h) (Or.inl ⟨by rfl,?_⟩) (by assumption) ?_;rotate_left;(· (intro w_ hS_;(try dsimp only at hS_);go_simp;all_goals (with_reducible rfl)));(try simp only [Act.put,List.setIfInBounds_toArray,List.set_cons_zero,List.set_cons_succ]))|(refine wpAnyH_take (i:=20) (oi:={ dst:=some 98,op:=Op.load 29 (Operand.tmp 9),type:=29,pos:="law.go:112",after:=#[{ on:=19,ground:=Ground.guard }],guard:=some (19,true) }) (v:=undef) rfl (by kernel_rfl) (by kernel_rfl) (by kernel_rfl) (fun _ _ _ h=>h) (Or.inr ⟨by rfl,rfl⟩) (by assumption) ?_;(try simp only [Act.put,List.setIfInBounds_toArray,List.set_cons_zero,List.set_cons_succ]))
    all_goals first|(refine wpAnyH_take (i:=21) (oi:={ dst:=some 99,op:=Op.load 29 (Operand.tmp 13),type:=29,pos:="law.go:112",after:=#[{ on:=19,ground:=Ground.guard }],guard:=some (19,true) }) (v:=?_) rfl (by kernel_rfl) (by kernel_rfl) (by kernel_rfl) (fun _ _ _ h=>h) (Or.inl ⟨by rfl,?_⟩) (by assumption) ?_;rotate_left;(· (intro w_ hS_;(try dsimp only at hS_);go_simp;all_goals (with_reducible rfl)));(try simp only [Act.put,List.setIfInBounds_toArray,List.set_cons_zero,List.set_cons_succ]))|(refine wpAnyH_take (i:=21) (oi:={ dst:=some 99,op:=Op.load 29 (Operand.tmp 13),type:=29,pos:="law.go:112",after:=#[{ on:=19,ground:=Ground.guard }],guard:=some (19,true) }) (v:=undef) rfl (by kernel_rfl) (by kernel_rfl) (by kernel_rfl) (fun _ _ _ h=>h) (Or.inr ⟨by rfl,rfl⟩) (by assumption) ?_;(try simp only [Act.put,List.setIfInBounds_toArray,List.set_cons_zero,List.set_cons_succ]))
    all_goals first|(refine wpAnyH_take (i:=22) (oi:={ dst:=some 100,op:=Op.binOp BinOp.eql 29 (Operand.tmp 98) (Operand.tmp 99) 29,type:=4,pos:="law.go:112",after:=#[{ on:=20,ground:=Ground.data },{ on:=21,ground:=Ground.data },{ on:=19,ground:=Ground.guard }],guard:=some (19,true) }) (v:=?_) rfl (by kernel_rfl) (by kernel_rfl) (by kernel_rfl) (fun _ _ _ h=>h) (Or.inl ⟨by rfl,?_⟩) (by assumption) ?_;rotate_left;(· (intro w_ hS_;(try dsimp only at hS_);go_simp;all_goals (with_reducible rfl)));(try simp only [Act.put,List.setIfInBounds_toArray,List.set_cons_zero,List.set_cons_succ]))|(refine wpAnyH_take (i:=22) (oi:={ dst:=some 100,op:=Op.binOp BinOp.eql 29 (Operand.tmp 98) (Operand.tmp 99) 29,type:=4,pos:="law.go:112",after:=#[{ on:=20,ground:=Ground.data },{ on:=21,ground:=Ground.data },{ on:=19,ground:=Ground.guard }],guard:=some (19,true) }) (v:=undef) rfl (by kernel_rfl) (by kernel_rfl) (by kernel_rfl) (fun _ _ _ h=>h) (Or.inr ⟨by rfl,rfl⟩) (by assumption) ?_;(try simp only [Act.put,List.setIfInBounds_toArray,List.set_cons_zero,List.set_cons_succ]))
    all_goals first|(refine wpAnyH_take (i:=23) (oi:={ dst:=some 101,op:=Op.pick (Operand.tmp 97) (Operand.tmp 100) (Operand.const (Value.bool false)),type:=4,pos:="law.go:112",after:=#[{ on:=19,ground:=Ground.data },{ on:=22,ground:=Ground.data }],guard:=none }) (v:=?_) rfl (by kernel_rfl) (by kernel_rfl) (by kernel_rfl) (fun _ _ _ h=>h) (Or.inl ⟨by rfl,?_⟩) (by assumption) ?_;rotate_left;(· (intro w_ hS_;(try dsimp only at hS_);go_simp;all_goals (with_reducible rfl)));(try simp only [Act.put,List.setIfInBounds_toArray,List.set_cons_zero,List.set_cons_succ]))|(refine wpAnyH_take (i:=23) (oi:={ dst:=some 101,op:=Op.pick (Operand.tmp 97) (Operand.tmp 100) (Operand.const (Value.bool false)),type:=4,pos:="law.go:112",after:=#[{ on:=19,ground:=Ground.data },{ on:=22,ground:=Ground.data }],guard:=none }) (v:=undef) rfl (by kernel_rfl) (by kernel_rfl) (by kernel_rfl) (fun _ _ _ h=>h) (Or.inr ⟨by rfl,rfl⟩) (by assumption) ?_;(try simp only [Act.put,List.setIfInBounds_toArray,List.set_cons_zero,List.set_cons_succ]))
    all_goals first|(refine wpAnyH_take (i:=24) (oi:={ dst:=some 102,op:=Op.move (Operand.tmp 101),type:=4,pos:="law.go:112",after:=#[{ on:=23,ground:=Ground.data },{ on:=19,ground:=Ground.chain }],guard:=none }) (v:=?_) rfl (by kernel_rfl) (by kernel_rfl) (by kernel_rfl) (fun _ _ _ h=>h) (Or.inl ⟨by rfl,?_⟩) (by assumption) ?_;rotate_left;(· (intro w_ hS_;(try dsimp only at hS_);go_simp;all_goals (with_reducible rfl)));(try simp only [Act.put,List.setIfInBounds_toArray,List.set_cons_zero,List.set_cons_succ]))|(refine wpAnyH_take (i:=24) (oi:={ dst:=some 102,op:=Op.move (Operand.tmp 101),type:=4,pos:="law.go:112",after:=#[{ on:=23,ground:=Ground.data },{ on:=19,ground:=Ground.chain }],guard:=none }) (v:=undef) rfl (by kernel_rfl) (by kernel_rfl) (by kernel_rfl) (fun _ _ _ h=>h) (Or.inr ⟨by rfl,rfl⟩) (by assumption) ?_;(try simp only [Act.put,List.setIfInBounds_toArray,List.set_cons_zero,List.set_cons_succ]))
    all_goals first|(refine wpAnyH_take (i:=25) (oi:={ dst:=some 103,op:=Op.load 29 (Operand.tmp 9),type:=29,pos:="law.go:112",after:=#[{ on:=24,ground:=Ground.guard }],guard:=some (24,true) }) (v:=?_) rfl (by kernel_rfl) (by kernel_rfl) (by kernel_rfl) (fun _ _ _ h=>h) (Or.inl ⟨by rfl,?_⟩) (by assumption) ?_;rotate_left;(· (intro w_ hS_;(try dsimp only at hS_);go_simp;all_goals (with_reducible rfl)));(try simp only [Act.put,List.setIfInBounds_toArray,List.set_cons_zero,List.set_cons_succ]))|(refine wpAnyH_take (i:=25) (oi:={ dst:=some 103,op:=Op.load 29 (Operand.tmp 9),type:=29,pos:="law.go:112",after:=#[{ on:=24,ground:=Ground.guard }],guard:=some (24,true) }) (v:=undef) rfl (by kernel_rfl) (by kernel_rfl) (by kernel_rfl) (fun _ _ _ h=>h) (Or.inr ⟨by rfl,rfl⟩) (by assumption) ?_;(try simp only [Act.put,List.setIfInBounds_toArray,List.set_cons_zero,List.set_cons_succ]))
    all_goals first|(refine wpAnyH_take (i:=26) (oi:={ dst:=some 104,op:=Op.call { callee:=Callee.value (Operand.func 16),args:=#[Operand.tmp 103],argTypes:=#[29] },type:=4,pos:="law.go:112",after:=#[{ on:=25,ground:=Ground.data },{ on:=24,ground:=Ground.chain },{ on:=24,ground:=Ground.guard }],guard:=some (24,true) }) (v:=undef) rfl (by kernel_rfl) (by kernel_rfl) (by kernel_rfl) (fun _ _ _ h=>h) (Or.inr ⟨by rfl,rfl⟩) (by assumption) ?_;(try simp only [Act.put,List.setIfInBounds_toArray,List.set_cons_zero,List.set_cons_succ]))|(refine wpAnyH_ready (rs:=[26]) (by kernel_rfl) (by simp) ?_;refine AllReadyH.cons (o:={ dst:=some 104,op:=Op.call { callee:=Callee.value (Operand.func 16),args:=#[Operand.tmp 103],argTypes:=#[29] },type:=4,pos:="law.go:112",after:=#[{ on:=25,ground:=Ground.data },{ on:=24,ground:=Ground.chain },{ on:=24,ground:=Ground.guard }],guard:=some (24,true) }) rfl (fun K hK=>?_) AllReadyH.nil;go_simp;(first|(go_at_call 16;refine (shapesearchref01_Valid.calls _ _ _ _ _ AV.out).mono ?_;rintro e w71 ⟨rfl,hb⟩;have HN1:=A_ (shapesearchlaw13_NormalRange.BN.step (by (repeat (first|exact HN5.out|exact HN4.out|exact HN3.out|exact HN2.out|exact HN1.out|exact HN0.out|apply shapesearchlaw13_NormalRange.BN.drewN|apply shapesearchlaw13_NormalRange.BN.drew))) hb);clear hb));(try go_wp2_with fail);refine hK.out _ _ ?_ ?_;(· ((try dsimp only);exact (shapesearchlaw13_NormalRange.BN.cells (by (repeat (first|exact HN5.out|exact HN4.out|exact HN3.out|exact HN2.out|exact HN1.out|exact HN0.out|apply shapesearchlaw13_NormalRange.BN.drewN|apply shapesearchlaw13_NormalRange.BN.drew))))));clear hK hHeld;clear K;intro hHeld;(try simp only [Act.put,List.setIfInBounds_toArray,List.set_cons_zero,List.set_cons_succ]))
    all_goals first|(refine wpAnyH_take (i:=27) (oi:={ dst:=some 105,op:=Op.pick (Operand.tmp 102) (Operand.tmp 104) (Operand.const (Value.bool false)),type:=4,pos:="law.go:112",after:=#[{ on:=24,ground:=Ground.data },{ on:=26,ground:=Ground.data }],guard:=none }) (v:=?_) rfl (by kernel_rfl) (by kernel_rfl) (by kernel_rfl) (fun _ _ _ h=>h) (Or.inl ⟨by rfl,?_⟩) (by assumption) ?_;rotate_left;(· (intro w_ hS_;(try dsimp only at hS_);go_simp;all_goals (with_reducible rfl)));(try simp only [Act.put,List.setIfInBounds_toArray,List.set_cons_zero,List.set_cons_succ]))|(refine wpAnyH_take (i:=27) (oi:={ dst:=some 105,op:=Op.pick (Operand.tmp 102) (Operand.tmp 104) (Operand.const (Value.bool false)),type:=4,pos:="law.go:112",after:=#[{ on:=24,ground:=Ground.data },{ on:=26,ground:=Ground.data }],guard:=none }) (v:=undef) rfl (by kernel_rfl) (by kernel_rfl) (by kernel_rfl) (fun _ _ _ h=>h) (Or.inr ⟨by rfl,rfl⟩) (by assumption) ?_;(try simp only [Act.put,List.setIfInBounds_toArray,List.set_cons_zero,List.set_cons_succ]))
    all_goals first|(refine wpAnyH_take (i:=28) (oi:={ dst:=some 106,op:=Op.move (Operand.tmp 105),type:=4,pos:="law.go:112",after:=#[{ on:=27,ground:=Ground.data },{ on:=26,ground:=Ground.chain }],guard:=none }) (v:=?_) rfl (by kernel_rfl) (by kernel_rfl) (by kernel_rfl) (fun _ _ _ h=>h) (Or.inl ⟨by rfl,?_⟩) (by assumption) ?_;rotate_left;(· (intro w_ hS_;(try dsimp only at hS_);go_simp;all_goals (with_reducible rfl)));(try simp only [Act.put,List.setIfInBounds_toArray,List.set_cons_zero,List.set_cons_succ]))|(refine wpAnyH_take (i:=28) (oi:={ dst:=some 106,op:=Op.move (Operand.tmp 105),type:=4,pos:="law.go:112",after:=#[{ on:=27,ground:=Ground.data },{ on:=26,ground:=Ground.chain }],guard:=none }) (v:=undef) rfl (by kernel_rfl) (by kernel_rfl) (by kernel_rfl) (fun _ _ _ h=>h) (Or.inr ⟨by rfl,rfl⟩) (by assumption) ?_;(try simp only [Act.put,List.setIfInBounds_toArray,List.set_cons_zero,List.set_cons_succ]))
    all_goals first|(refine wpAnyH_take (i:=29) (oi:={ dst:=some 107,op:=Op.load 29 (Operand.tmp 9),type:=29,pos:="law.go:112",after:=#[{ on:=28,ground:=Ground.guard }],guard:=some (28,true) }) (v:=?_) rfl (by kernel_rfl) (by kernel_rfl) (by kernel_rfl) (fun _ _ _ h=>h) (Or.inl ⟨by rfl,?_⟩) (by assumption) ?_;rotate_left;(· (intro w_ hS_;(try dsimp only at hS_);go_simp;all_goals (with_reducible rfl)));(try simp only [Act.put,List.setIfInBounds_toArray,List.set_cons_zero,List.set_cons_succ]))|(refine wpAnyH_take (i:=29) (oi:={ dst:=some 107,op:=Op.load 29 (Operand.tmp 9),type:=29,pos:="law.go:112",after:=#[{ on:=28,ground:=Ground.guard }],guard:=some (28,true) }) (v:=undef) rfl (by kernel_rfl) (by kernel_rfl) (by kernel_rfl) (fun _ _ _ h=>h) (Or.inr ⟨by rfl,rfl⟩) (by assumption) ?_;(try simp only [Act.put,List.setIfInBounds_toArray,List.set_cons_zero,List.set_cons_succ]))
    all_goals first|(refine wpAnyH_take (i:=30) (oi:={ dst:=some 108,op:=Op.build 29 #[(0,Operand.const (Value.int IntKind.i64 2)),(1,Operand.const (Value.int IntKind.i64 1))],type:=29,pos:="law.go:112",after:=#[{ on:=28,ground:=Ground.guard }],guard:=some (28,true) }) (v:=?_) rfl (by kernel_rfl) (by kernel_rfl) (by kernel_rfl) (fun _ _ _ h=>h) (Or.inl ⟨by rfl,?_⟩) (by assumption) ?_;rotate_left;(· (intro w_ hS_;(try dsimp only at hS_);go_simp;all_goals (with_reducible rfl)));(try simp only [Act.put,List.setIfInBounds_toArray,List.set_cons_zero,List.set_cons_succ]))|(refine wpAnyH_take (i:=30) (oi:={ dst:=some 108,op:=Op.build 29 #[(0,Operand.const (Value.int IntKind.i64 2)),(1,Operand.const (Value.int IntKind.i64 1))],type:=29,pos:="law.go:112",after:=#[{ on:=28,ground:=Ground.guard }],guard:=some (28,true) }) (v:=undef) rfl (by kernel_rfl) (by kernel_rfl) (by kernel_rfl) (fun _ _ _ h=>h) (Or.inr ⟨by rfl,rfl⟩) (by assumption) ?_;(try simp only [Act.put,List.setIfInBounds_toArray,List.set_cons_zero,List.set_cons_succ]))
    all_goals first|(refine wpAnyH_take (i:=31) (oi:={ dst:=some 109,op:=Op.call { callee:=Callee.value (Operand.func 17),args:=#[Operand.tmp 107,Operand.tmp 108],argTypes:=#[29,29] },type:=3,pos:="law.go:112",after:=#[{ on:=29,ground:=Ground.data },{ on:=30,ground:=Ground.data },{ on:=28,ground:=Ground.chain },{ on:=28,ground:=Ground.guard }],guard:=some (28,true) }) (v:=undef) rfl (by kernel_rfl) (by kernel_rfl) (by kernel_rfl) (fun _ _ _ h=>h) (Or.inr ⟨by rfl,rfl⟩) (by assumption) ?_;(try simp only [Act.put,List.setIfInBounds_toArray,List.set_cons_zero,List.set_cons_succ]))|(refine wpAnyH_ready (rs:=[31]) (by kernel_rfl) (by simp) ?_;refine AllReadyH.cons (o:={ dst:=some 109,op:=Op.call { callee:=Callee.value (Operand.func 17),args:=#[Operand.tmp 107,Operand.tmp 108],argTypes:=#[29,29] },type:=3,pos:="law.go:112",after:=#[{ on:=29,ground:=Ground.data },{ on:=30,ground:=Ground.data },{ on:=28,ground:=Ground.chain },{ on:=28,ground:=Ground.guard }],guard:=some (28,true) }) rfl (fun K hK=>?_) AllReadyH.nil;go_simp;(first|(go_at_call 17;refine (shapesearchref01_Cmp.calls _ _ _ _ _ _ _ AC.out).mono ?_;rintro e w72 ⟨rfl,hb⟩;have HN2:=A_ (shapesearchlaw13_NormalRange.BN.step (by (repeat (first|exact HN5.out|exact HN4.out|exact HN3.out|exact HN2.out|exact HN1.out|exact HN0.out|apply shapesearchlaw13_NormalRange.BN.drewN|apply shapesearchlaw13_NormalRange.BN.drew))) hb);clear hb));(try go_wp2_with fail);refine hK.out _ _ ?_ ?_;(· ((try dsimp only);exact (shapesearchlaw13_NormalRange.BN.cells (by (repeat (first|exact HN5.out|exact HN4.out|exact HN3.out|exact HN2.out|exact HN1.out|exact HN0.out|apply shapesearchlaw13_NormalRange.BN.drewN|apply shapesearchlaw13_NormalRange.BN.drew))))));clear hK hHeld;clear K;intro hHeld;(try simp only [Act.put,List.setIfInBounds_toArray,List.set_cons_zero,List.set_cons_succ]))
    all_goals first|(refine wpAnyH_take (i:=32) (oi:={ dst:=some 110,op:=Op.binOp BinOp.leq 3 (Operand.tmp 109) (Operand.const (Value.int IntKind.i64 0)) 3,type:=4,pos:="law.go:112",after:=#[{ on:=31,ground:=Ground.data },{ on:=28,ground:=Ground.guard }],guard:=some (28,true) }) (v:=?_) rfl (by kernel_rfl) (by kernel_rfl) (by kernel_rfl) (fun _ _ _ h=>h) (Or.inl ⟨by rfl,?_⟩) (by assumption) ?_;rotate_left;(· (intro w_ hS_;(try dsimp only at hS_);go_simp;all_goals (with_reducible rfl)));(try simp only [Act.put,List.setIfInBounds_toArray,List.set_cons_zero,List.set_cons_succ]))|(refine wpAnyH_take (i:=32) (oi:={ dst:=some 110,op:=Op.binOp BinOp.leq 3 (Operand.tmp 109) (Operand.const (Value.int IntKind.i64 0)) 3,type:=4,pos:="law.go:112",after:=#[{ on:=31,ground:=Ground.data },{ on:=28,ground:=Ground.guard }],guard:=some (28,true) }) (v:=undef) rfl (by kernel_rfl) (by kernel_rfl) (by kernel_rfl) (fun _ _ _ h=>h) (Or.inr ⟨by rfl,rfl⟩) (by assumption) ?_;(try simp only [Act.put,List.setIfInBounds_toArray,List.set_cons_zero,List.set_cons_succ]))
    all_goals first|(refine wpAnyH_take (i:=33) (oi:={ dst:=some 111,op:=Op.pick (Operand.tmp 106) (Operand.tmp 110) (Operand.const (Value.bool false)),type:=4,pos:="law.go:112",after:=#[{ on:=28,ground:=Ground.data },{ on:=32,ground:=Ground.data }],guard:=none }) (v:=?_) rfl (by kernel_rfl) (by kernel_rfl) (by kernel_rfl) (fun _ _ _ h=>h) (Or.inl ⟨by rfl,?_⟩) (by assumption) ?_;rotate_left;(· (intro w_ hS_;(try dsimp only at hS_);go_simp;all_goals (with_reducible rfl)));(try simp only [Act.put,List.setIfInBounds_toArray,List.set_cons_zero,List.set_cons_succ]))|(refine wpAnyH_take (i:=33) (oi:={ dst:=some 111,op:=Op.pick (Operand.tmp 106) (Operand.tmp 110) (Operand.const (Value.bool false)),type:=4,pos:="law.go:112",after:=#[{ on:=28,ground:=Ground.data },{ on:=32,ground:=Ground.data }],guard:=none }) (v:=undef) rfl (by kernel_rfl) (by kernel_rfl) (by kernel_rfl) (fun _ _ _ h=>h) (Or.inr ⟨by rfl,rfl⟩) (by assumption) ?_;(try simp only [Act.put,List.setIfInBounds_toArray,List.set_cons_zero,List.set_cons_succ]))
    all_goals first|(refine wpAnyH_take (i:=34) (oi:={ dst:=some 112,op:=Op.move (Operand.tmp 111),type:=4,pos:="law.go:112",after:=#[{ on:=33,ground:=Ground.data },{ on:=31,ground:=Ground.chain }],guard:=none }) (v:=?_) rfl (by kernel_rfl) (by kernel_rfl) (by kernel_rfl) (fun _ _ _ h=>h) (Or.inl ⟨by rfl,?_⟩) (by assumption) ?_;rotate_left;(· (intro w_ hS_;(try dsimp only at hS_);go_simp;all_goals (with_reducible rfl)));(try simp only [Act.put,List.setIfInBounds_toArray,List.set_cons_zero,List.set_cons_succ]))|(refine wpAnyH_take (i:=34) (oi:={ dst:=some 112,op:=Op.move (Operand.tmp 111),type:=4,pos:="law.go:112",after:=#[{ on:=33,ground:=Ground.data },{ on:=31,ground:=Ground.chain }],guard:=none }) (v:=undef) rfl (by kernel_rfl) (by kernel_rfl) (by kernel_rfl) (fun _ _ _ h=>h) (Or.inr ⟨by rfl,rfl⟩) (by assumption) ?_;(try simp only [Act.put,List.setIfInBounds_toArray,List.set_cons_zero,List.set_cons_succ]))
    all_goals first|(refine wpAnyH_take (i:=35) (oi:={ dst:=some 113,op:=Op.load 29 (Operand.tmp 9),type:=29,pos:="law.go:112",after:=#[{ on:=34,ground:=Ground.guard }],guard:=some (34,true) }) (v:=?_) rfl (by kernel_rfl) (by kernel_rfl) (by kernel_rfl) (fun _ _ _ h=>h) (Or.inl ⟨by rfl,?_⟩) (by assumption) ?_;rotate_left;(· (intro w_ hS_;(try dsimp only at hS_);go_simp;all_goals (with_reducible rfl)));(try simp only [Act.put,List.setIfInBounds_toArray,List.set_cons_zero,List.set_cons_succ]))|(refine wpAnyH_take (i:=35) (oi:={ dst:=some 113,op:=Op.load 29 (Operand.tmp 9),type:=29,pos:="law.go:112",after:=#[{ on:=34,ground:=Ground.guard }],guard:=some (34,true) }) (v:=undef) rfl (by kernel_rfl) (by kernel_rfl) (by kernel_rfl) (fun _ _ _ h=>h) (Or.inr ⟨by rfl,rfl⟩) (by assumption) ?_;(try simp only [Act.put,List.setIfInBounds_toArray,List.set_cons_zero,List.set_cons_succ]))
    all_goals first|(refine wpAnyH_take (i:=36) (oi:={ dst:=some 114,op:=Op.load 29 (Operand.tmp 17),type:=29,pos:="law.go:112",after:=#[{ on:=34,ground:=Ground.guard }],guard:=some (34,true) }) (v:=?_) rfl (by kernel_rfl) (by kernel_rfl) (by kernel_rfl) (fun _ _ _ h=>h) (Or.inl ⟨by rfl,?_⟩) (by assumption) ?_;rotate_left;(· (intro w_ hS_;(try dsimp only at hS_);go_simp;all_goals (with_reducible rfl)));(try simp only [Act.put,List.setIfInBounds_toArray,List.set_cons_zero,List.set_cons_succ]))|(refine wpAnyH_take (i:=36) (oi:={ dst:=some 114,op:=Op.load 29 (Operand.tmp 17),type:=29,pos:="law.go:112",after:=#[{ on:=34,ground:=Ground.guard }],guard:=some (34,true) }) (v:=undef) rfl (by kernel_rfl) (by kernel_rfl) (by kernel_rfl) (fun _ _ _ h=>h) (Or.inr ⟨by rfl,rfl⟩) (by assumption) ?_;(try simp only [Act.put,List.setIfInBounds_toArray,List.set_cons_zero,List.set_cons_succ]))
    all_goals first|(refine wpAnyH_take (i:=37) (oi:={ dst:=some 115,op:=Op.binOp BinOp.eql 29 (Operand.tmp 113) (Operand.tmp 114) 29,type:=4,pos:="law.go:112",after:=#[{ on:=35,ground:=Ground.data },{ on:=36,ground:=Ground.data },{ on:=34,ground:=Ground.guard }],guard:=some (34,true) }) (v:=?_) rfl (by kernel_rfl) (by kernel_rfl) (by kernel_rfl) (fun _ _ _ h=>h) (Or.inl ⟨by rfl,?_⟩) (by assumption) ?_;rotate_left;(· (intro w_ hS_;(try dsimp only at hS_);go_simp;all_goals (with_reducible rfl)));(try simp only [Act.put,List.setIfInBounds_toArray,List.set_cons_zero,List.set_cons_succ]))|(refine wpAnyH_take (i:=37) (oi:={ dst:=some 115,op:=Op.binOp BinOp.eql 29 (Operand.tmp 113) (Operand.tmp 114) 29,type:=4,pos:="law.go:112",after:=#[{ on:=35,ground:=Ground.data },{ on:=36,ground:=Ground.data },{ on:=34,ground:=Ground.guard }],guard:=some (34,true) }) (v:=undef) rfl (by kernel_rfl) (by kernel_rfl) (by kernel_rfl) (fun _ _ _ h=>h) (Or.inr ⟨by rfl,rfl⟩) (by assumption) ?_;(try simp only [Act.put,List.setIfInBounds_toArray,List.set_cons_zero,List.set_cons_succ]))
    all_goals first|(refine wpAnyH_take (i:=38) (oi:={ dst:=some 116,op:=Op.move (Operand.tmp 15),type:=3,pos:="law.go:112",after:=#[{ on:=34,ground:=Ground.guard }],guard:=some (34,true) }) (v:=?_) rfl (by kernel_rfl) (by kernel_rfl) (by kernel_rfl) (fun _ _ _ h=>h) (Or.inl ⟨by rfl,?_⟩) (by assumption) ?_;rotate_left;(· (intro w_ hS_;(try dsimp only at hS_);go_simp;all_goals (with_reducible rfl)));(try simp only [Act.put,List.setIfInBounds_toArray,List.set_cons_zero,List.set_cons_succ]))|(refine wpAnyH_take (i:=38) (oi:={ dst:=some 116,op:=Op.move (Operand.tmp 15),type:=3,pos:="law.go:112",after:=#[{ on:=34,ground:=Ground.guard }],guard:=some (34,true) }) (v:=undef) rfl (by kernel_rfl) (by kernel_rfl) (by kernel_rfl) (fun _ _ _ h=>h) (Or.inr ⟨by rfl,rfl⟩) (by assumption) ?_;(try simp only [Act.put,List.setIfInBounds_toArray,List.set_cons_zero,List.set_cons_succ]))
    all_goals first|(refine wpAnyH_take (i:=39) (oi:={ dst:=some 117,op:=Op.binOp BinOp.eql 3 (Operand.tmp 116) (Operand.const (Value.int IntKind.i64 0)) 3,type:=4,pos:="law.go:112",after:=#[{ on:=38,ground:=Ground.data },{ on:=34,ground:=Ground.guard }],guard:=some (34,true) }) (v:=?_) rfl (by kernel_rfl) (by kernel_rfl) (by kernel_rfl) (fun _ _ _ h=>h) (Or.inl ⟨by rfl,?_⟩) (by assumption) ?_;rotate_left;(· (intro w_ hS_;(try dsimp only at hS_);go_simp;all_goals (with_reducible rfl)));(try simp only [Act.put,List.setIfInBounds_toArray,List.set_cons_zero,List.set_cons_succ]))|(refine wpAnyH_take (i:=39) (oi:={ dst:=some 117,op:=Op.binOp BinOp.eql 3 (Operand.tmp 116) (Operand.const (Value.int IntKind.i64 0)) 3,type:=4,pos:="law.go:112",after:=#[{ on:=38,ground:=Ground.data },{ on:=34,ground:=Ground.guard }],guard:=some (34,true) }) (v:=undef) rfl (by kernel_rfl) (by kernel_rfl) (by kernel_rfl) (fun _ _ _ h=>h) (Or.inr ⟨by rfl,rfl⟩) (by assumption) ?_;(try simp only [Act.put,List.setIfInBounds_toArray,List.set_cons_zero,List.set_cons_succ]))
    all_goals first|(refine wpAnyH_take (i:=40) (oi:={ dst:=some 118,op:=Op.move (Operand.tmp 117),type:=4,pos:="law.go:112",after:=#[{ on:=39,ground:=Ground.data },{ on:=34,ground:=Ground.chain },{ on:=34,ground:=Ground.guard }],guard:=some (34,true) }) (v:=?_) rfl (by kernel_rfl) (by kernel_rfl) (by kernel_rfl) (fun _ _ _ h=>h) (Or.inl ⟨by rfl,?_⟩) (by assumption) ?_;rotate_left;(· (intro w_ hS_;(try dsimp only at hS_);go_simp;all_goals (with_reducible rfl)));(try simp only [Act.put,List.setIfInBounds_toArray,List.set_cons_zero,List.set_cons_succ]))|(refine wpAnyH_take (i:=40) (oi:={ dst:=some 118,op:=Op.move (Operand.tmp 117),type:=4,pos:="law.go:112",after:=#[{ on:=39,ground:=Ground.data },{ on:=34,ground:=Ground.chain },{ on:=34,ground:=Ground.guard }],guard:=some (34,true) }) (v:=undef) rfl (by kernel_rfl) (by kernel_rfl) (by kernel_rfl) (fun _ _ _ h=>h) (Or.inr ⟨by rfl,rfl⟩) (by assumption) ?_;(try simp only [Act.put,List.setIfInBounds_toArray,List.set_cons_zero,List.set_cons_succ]))
    all_goals first|(refine wpAnyH_take (i:=41) (oi:={ dst:=some 119,op:=Op.move (Operand.tmp 4),type:=22,pos:="law.go:112",after:=#[{ on:=40,ground:=Ground.guard }],guard:=some (40,true) }) (v:=?_) rfl (by kernel_rfl) (by kernel_rfl) (by kernel_rfl) (fun _ _ _ h=>h) (Or.inl ⟨by rfl,?_⟩) (by assumption) ?_;rotate_left;(· (intro w_ hS_;(try dsimp only at hS_);go_simp;all_goals (with_reducible rfl)));(try simp only [Act.put,List.setIfInBounds_toArray,List.set_cons_zero,List.set_cons_succ]))|(refine wpAnyH_take (i:=41) (oi:={ dst:=some 119,op:=Op.move (Operand.tmp 4),type:=22,pos:="law.go:112",after:=#[{ on:=40,ground:=Ground.guard }],guard:=some (40,true) }) (v:=undef) rfl (by kernel_rfl) (by kernel_rfl) (by kernel_rfl) (fun _ _ _ h=>h) (Or.inr ⟨by rfl,rfl⟩) (by assumption) ?_;(try simp only [Act.put,List.setIfInBounds_toArray,List.set_cons_zero,List.set_cons_succ]))
    all_goals first|(refine wpAnyH_take (i:=42) (oi:={ dst:=some 120,op:=Op.call { callee:=Callee.value (Operand.func 12),args:=#[Operand.tmp 119],argTypes:=#[22] },type:=4,pos:="law.go:112",after:=#[{ on:=41,ground:=Ground.data },{ on:=40,ground:=Ground.chain },{ on:=40,ground:=Ground.guard }],guard:=some (40,true) }) (v:=undef) rfl (by kernel_rfl) (by kernel_rfl) (by kernel_rfl) (fun _ _ _ h=>h) (Or.inr ⟨by rfl,rfl⟩) (by assumption) ?_;(try simp only [Act.put,List.setIfInBounds_toArray,List.set_cons_zero,List.set_cons_succ]))|(refine wpAnyH_ready (rs:=[42]) (by kernel_rfl) (by simp) ?_;refine AllReadyH.cons (o:={ dst:=some 120,op:=Op.call { callee:=Callee.value (Operand.func 12),args:=#[Operand.tmp 119],argTypes:=#[22] },type:=4,pos:="law.go:112",after:=#[{ on:=41,ground:=Ground.data },{ on:=40,ground:=Ground.chain },{ on:=40,ground:=Ground.guard }],guard:=some (40,true) }) rfl (fun K hK=>?_) AllReadyH.nil;go_simp;(first|(go_at_call 12;with_reducible refine (CX_.out _ (shapesearchlaw13_NormalRange.BN.cx (by (repeat (first|exact HN5.out|exact HN4.out|exact HN3.out|exact HN2.out|exact HN1.out|exact HN0.out|apply shapesearchlaw13_NormalRange.BN.drewN|apply shapesearchlaw13_NormalRange.BN.drew))))).mono ?_;rintro e w7x ⟨rfl,hd⟩;obtain ⟨nd,rfl⟩:=hd.out)|(go_at_call 12;with_reducible refine (CY_.out _ (shapesearchlaw13_NormalRange.BN.cy (by (repeat (first|exact HN5.out|exact HN4.out|exact HN3.out|exact HN2.out|exact HN1.out|exact HN0.out|apply shapesearchlaw13_NormalRange.BN.drewN|apply shapesearchlaw13_NormalRange.BN.drew))))).mono ?_;rintro e w7y ⟨rfl,hd⟩;obtain ⟨nd,rfl⟩:=hd.out));(try go_wp2_with fail);refine hK.out _ _ ?_ ?_;(· ((try dsimp only);exact (shapesearchlaw13_NormalRange.BN.cells (by (repeat (first|exact HN5.out|exact HN4.out|exact HN3.out|exact HN2.out|exact HN1.out|exact HN0.out|apply shapesearchlaw13_NormalRange.BN.drewN|apply shapesearchlaw13_NormalRange.BN.drew))))));clear hK hHeld;clear K;intro hHeld;(try simp only [Act.put,List.setIfInBounds_toArray,List.set_cons_zero,List.set_cons_succ]))
    all_goals first|(refine wpAnyH_take (i:=43) (oi:={ dst:=some 121,op:=Op.move (Operand.tmp 120),type:=4,pos:="law.go:112",after:=#[{ on:=42,ground:=Ground.data },{ on:=42,ground:=Ground.chain },{ on:=40,ground:=Ground.guard }],guard:=some (40,true) }) (v:=?_) rfl (by kernel_rfl) (by kernel_rfl) (by kernel_rfl) (fun _ _ _ h=>h) (Or.inl ⟨by rfl,?_⟩) (by assumption) ?_;rotate_left;(· (intro w_ hS_;(try dsimp only at hS_);go_simp;all_goals (with_reducible rfl)));(try simp only [Act.put,List.setIfInBounds_toArray,List.set_cons_zero,List.set_cons_succ]))|(refine wpAnyH_take (i:=43) (oi:={ dst:=some 121,op:=Op.move (Operand.tmp 120),type:=4,pos:="law.go:112",after:=#[{ on:=42,ground:=Ground.data },{ on:=42,ground:=Ground.chain },{ on:=40,ground:=Ground.guard }],guard:=some (40,true) }) (v:=undef) rfl (by kernel_rfl) (by kernel_rfl) (by kernel_rfl) (fun _ _ _ h=>h) (Or.inr ⟨by rfl,rfl⟩) (by assumption) ?_;(try simp only [Act.put,List.setIfInBounds_toArray,List.set_cons_zero,List.set_cons_succ]))
    all_goals first|(refine wpAnyH_take (i:=44) (oi:={ dst:=some 122,op:=Op.move (Operand.tmp 5),type:=22,pos:="law.go:112",after:=#[{ on:=43,ground:=Ground.guard }],guard:=some (43,false) }) (v:=?_) rfl (by kernel_rfl) (by kernel_rfl) (by kernel_rfl) (fun _ _ _ h=>h) (Or.inl ⟨by rfl,?_⟩) (by assumption) ?_;rotate_left;(· (intro w_ hS_;(try dsimp only at hS_);go_simp;all_goals (with_reducible rfl)));(try simp only [Act.put,List.setIfInBounds_toArray,List.set_cons_zero,List.set_cons_succ]))|(refine wpAnyH_take (i:=44) (oi:={ dst:=some 122,op:=Op.move (Operand.tmp 5),type:=22,pos:="law.go:112",after:=#[{ on:=43,ground:=Ground.guard }],guard:=some (43,false) }) (v:=undef) rfl (by kernel_rfl) (by kernel_rfl) (by kernel_rfl) (fun _ _ _ h=>h) (Or.inr ⟨by rfl,rfl⟩) (by assumption) ?_;(try simp only [Act.put,List.setIfInBounds_toArray,List.set_cons_zero,List.set_cons_succ]))
    all_goals first|(refine wpAnyH_take (i:=45) (oi:={ dst:=some 123,op:=Op.call { callee:=Callee.value (Operand.func 12),args:=#[Operand.tmp 122],argTypes:=#[22] },type:=4,pos:="law.go:112",after:=#[{ on:=44,ground:=Ground.data },{ on:=43,ground:=Ground.chain },{ on:=43,ground:=Ground.guard }],guard:=some (43,false) }) (v:=undef) rfl (by kernel_rfl) (by kernel_rfl) (by kernel_rfl) (fun _ _ _ h=>h) (Or.inr ⟨by rfl,rfl⟩) (by assumption) ?_;(try simp only [Act.put,List.setIfInBounds_toArray,List.set_cons_zero,List.set_cons_succ]))|(refine wpAnyH_ready (rs:=[45]) (by kernel_rfl) (by simp) ?_;refine AllReadyH.cons (o:={ dst:=some 123,op:=Op.call { callee:=Callee.value (Operand.func 12),args:=#[Operand.tmp 122],argTypes:=#[22] },type:=4,pos:="law.go:112",after:=#[{ on:=44,ground:=Ground.data },{ on:=43,ground:=Ground.chain },{ on:=43,ground:=Ground.guard }],guard:=some (43,false) }) rfl (fun K hK=>?_) AllReadyH.nil;go_simp;(first|(go_at_call 12;with_reducible refine (CX_.out _ (shapesearchlaw13_NormalRange.BN.cx (by (repeat (first|exact HN5.out|exact HN4.out|exact HN3.out|exact HN2.out|exact HN1.out|exact HN0.out|apply shapesearchlaw13_NormalRange.BN.drewN|apply shapesearchlaw13_NormalRange.BN.drew))))).mono ?_;rintro e w7x ⟨rfl,hd⟩;obtain ⟨nd,rfl⟩:=hd.out)|(go_at_call 12;with_reducible refine (CY_.out _ (shapesearchlaw13_NormalRange.BN.cy (by (repeat (first|exact HN5.out|exact HN4.out|exact HN3.out|exact HN2.out|exact HN1.out|exact HN0.out|apply shapesearchlaw13_NormalRange.BN.drewN|apply shapesearchlaw13_NormalRange.BN.drew))))).mono ?_;rintro e w7y ⟨rfl,hd⟩;obtain ⟨nd,rfl⟩:=hd.out));(try go_wp2_with fail);refine hK.out _ _ ?_ ?_;(· ((try dsimp only);exact (shapesearchlaw13_NormalRange.BN.cells (by (repeat (first|exact HN5.out|exact HN4.out|exact HN3.out|exact HN2.out|exact HN1.out|exact HN0.out|apply shapesearchlaw13_NormalRange.BN.drewN|apply shapesearchlaw13_NormalRange.BN.drew))))));clear hK hHeld;clear K;intro hHeld;(try simp only [Act.put,List.setIfInBounds_toArray,List.set_cons_zero,List.set_cons_succ]))
    all_goals first|(refine wpAnyH_take (i:=46) (oi:={ dst:=some 124,op:=Op.pick (Operand.tmp 121) (Operand.const (Value.bool true)) (Operand.tmp 123),type:=4,pos:="law.go:112",after:=#[{ on:=43,ground:=Ground.data },{ on:=45,ground:=Ground.data },{ on:=40,ground:=Ground.guard }],guard:=some (40,true) }) (v:=?_) rfl (by kernel_rfl) (by kernel_rfl) (by kernel_rfl) (fun _ _ _ h=>h) (Or.inl ⟨by rfl,?_⟩) (by assumption) ?_;rotate_left;(· (intro w_ hS_;(try dsimp only at hS_);go_simp;all_goals (with_reducible rfl)));(try simp only [Act.put,List.setIfInBounds_toArray,List.set_cons_zero,List.set_cons_succ]))|(refine wpAnyH_take (i:=46) (oi:={ dst:=some 124,op:=Op.pick (Operand.tmp 121) (Operand.const (Value.bool true)) (Operand.tmp 123),type:=4,pos:="law.go:112",after:=#[{ on:=43,ground:=Ground.data },{ on:=45,ground:=Ground.data },{ on:=40,ground:=Ground.guard }],guard:=some (40,true) }) (v:=undef) rfl (by kernel_rfl) (by kernel_rfl) (by kernel_rfl) (fun _ _ _ h=>h) (Or.inr ⟨by rfl,rfl⟩) (by assumption) ?_;(try simp only [Act.put,List.setIfInBounds_toArray,List.set_cons_zero,List.set_cons_succ]))
    all_goals first|(refine wpAnyH_take (i:=47) (oi:={ dst:=some 125,op:=Op.pick (Operand.tmp 118) (Operand.tmp 124) (Operand.const (Value.bool false)),type:=4,pos:="law.go:112",after:=#[{ on:=40,ground:=Ground.data },{ on:=46,ground:=Ground.data },{ on:=34,ground:=Ground.guard }],guard:=some (34,true) }) (v:=?_) rfl (by kernel_rfl) (by kernel_rfl) (by kernel_rfl) (fun _ _ _ h=>h) (Or.inl ⟨by rfl,?_⟩) (by assumption) ?_;rotate_left;(· (intro w_ hS_;(try dsimp only at hS_);go_simp;all_goals (with_reducible rfl)));(try simp only [Act.put,List.setIfInBounds_toArray,List.set_cons_zero,List.set_cons_succ]))|(refine wpAnyH_take (i:=47) (oi:={ dst:=some 125,op:=Op.pick (Operand.tmp 118) (Operand.tmp 124) (Operand.const (Value.bool false)),type:=4,pos:="law.go:112",after:=#[{ on:=40,ground:=Ground.data },{ on:=46,ground:=Ground.data },{ on:=34,ground:=Ground.guard }],guard:=some (34,true) }) (v:=undef) rfl (by kernel_rfl) (by kernel_rfl) (by kernel_rfl) (fun _ _ _ h=>h) (Or.inr ⟨by rfl,rfl⟩) (by assumption) ?_;(try simp only [Act.put,List.setIfInBounds_toArray,List.set_cons_zero,List.set_cons_succ]))
    all_goals first|(refine wpAnyH_take (i:=48) (oi:={ dst:=some 126,op:=Op.binOp BinOp.eql 4 (Operand.tmp 115) (Operand.tmp 125) 4,type:=4,pos:="law.go:112",after:=#[{ on:=37,ground:=Ground.data },{ on:=47,ground:=Ground.data },{ on:=34,ground:=Ground.guard }],guard:=some (34,true) }) (v:=?_) rfl (by kernel_rfl) (by kernel_rfl) (by kernel_rfl) (fun _ _ _ h=>h) (Or.inl ⟨by rfl,?_⟩) (by assumption) ?_;rotate_left;(· (intro w_ hS_;(try dsimp only at hS_);go_simp;all_goals (with_reducible rfl)));(try simp only [Act.put,List.setIfInBounds_toArray,List.set_cons_zero,List.set_cons_succ]))|(refine wpAnyH_take (i:=48) (oi:={ dst:=some 126,op:=Op.binOp BinOp.eql 4 (Operand.tmp 115) (Operand.tmp 125) 4,type:=4,pos:="law.go:112",after:=#[{ on:=37,ground:=Ground.data },{ on:=47,ground:=Ground.data },{ on:=34,ground:=Ground.guard }],guard:=some (34,true) }) (v:=undef) rfl (by kernel_rfl) (by kernel_rfl) (by kernel_rfl) (fun _ _ _ h=>h) (Or.inr ⟨by rfl,rfl⟩) (by assumption) ?_;(try simp only [Act.put,List.setIfInBounds_toArray,List.set_cons_zero,List.set_cons_succ]))
    all_goals first|(refine wpAnyH_take (i:=49) (oi:={ dst:=some 127,op:=Op.pick (Operand.tmp 112) (Operand.tmp 126) (Operand.const (Value.bool false)),type:=4,pos:="law.go:112",after:=#[{ on:=34,ground:=Ground.data },{ on:=48,ground:=Ground.data }],guard:=none }) (v:=?_) rfl (by kernel_rfl) (by kernel_rfl) (by kernel_rfl) (fun _ _ _ h=>h) (Or.inl ⟨by rfl,?_⟩) (by assumption) ?_;rotate_left;(· (intro w_ hS_;(try dsimp only at hS_);go_simp;all_goals (with_reducible rfl)));(try simp only [Act.put,List.setIfInBounds_toArray,List.set_cons_zero,List.set_cons_succ]))|(refine wpAnyH_take (i:=49) (oi:={ dst:=some 127,op:=Op.pick (Operand.tmp 112) (Operand.tmp 126) (Operand.const (Value.bool false)),type:=4,pos:="law.go:112",after:=#[{ on:=34,ground:=Ground.data },{ on:=48,ground:=Ground.data }],guard:=none }) (v:=undef) rfl (by kernel_rfl) (by kernel_rfl) (by kernel_rfl) (fun _ _ _ h=>h) (Or.inr ⟨by rfl,rfl⟩) (by assumption) ?_;(try simp only [Act.put,List.setIfInBounds_toArray,List.set_cons_zero,List.set_cons_succ]))
    all_goals first|(refine wpAnyH_take (i:=50) (oi:={ dst:=some 128,op:=Op.move (Operand.tmp 127),type:=4,pos:="law.go:112",after:=#[{ on:=49,ground:=Ground.data },{ on:=45,ground:=Ground.chain }],guard:=none }) (v:=?_) rfl (by kernel_rfl) (by kernel_rfl) (by kernel_rfl) (fun _ _ _ h=>h) (Or.inl ⟨by rfl,?_⟩) (by assumption) ?_;rotate_left;(· (intro w_ hS_;(try dsimp only at hS_);go_simp;all_goals (with_reducible rfl)));(try simp only [Act.put,List.setIfInBounds_toArray,List.set_cons_zero,List.set_cons_succ]))|(refine wpAnyH_take (i:=50) (oi:={ dst:=some 128,op:=Op.move (Operand.tmp 127),type:=4,pos:="law.go:112",after:=#[{ on:=49,ground:=Ground.data },{ on:=45,ground:=Ground.chain }],guard:=none }) (v:=undef) rfl (by kernel_rfl) (by kernel_rfl) (by kernel_rfl) (fun _ _ _ h=>h) (Or.inr ⟨by rfl,rfl⟩) (by assumption) ?_;(try simp only [Act.put,List.setIfInBounds_toArray,List.set_cons_zero,List.set_cons_succ]))
    all_goals first|(refine wpAnyH_take (i:=51) (oi:={ dst:=some 129,op:=Op.load 29 (Operand.tmp 9),type:=29,pos:="law.go:112",after:=#[{ on:=50,ground:=Ground.guard }],guard:=some (50,true) }) (v:=?_) rfl (by kernel_rfl) (by kernel_rfl) (by kernel_rfl) (fun _ _ _ h=>h) (Or.inl ⟨by rfl,?_⟩) (by assumption) ?_;rotate_left;(· (intro w_ hS_;(try dsimp only at hS_);go_simp;all_goals (with_reducible rfl)));(try simp only [Act.put,List.setIfInBounds_toArray,List.set_cons_zero,List.set_cons_succ]))|(refine wpAnyH_take (i:=51) (oi:={ dst:=some 129,op:=Op.load 29 (Operand.tmp 9),type:=29,pos:="law.go:112",after:=#[{ on:=50,ground:=Ground.guard }],guard:=some (50,true) }) (v:=undef) rfl (by kernel_rfl) (by kernel_rfl) (by kernel_rfl) (fun _ _ _ h=>h) (Or.inr ⟨by rfl,rfl⟩) (by assumption) ?_;(try simp only [Act.put,List.setIfInBounds_toArray,List.set_cons_zero,List.set_cons_succ]))
    all_goals first|(refine wpAnyH_take (i:=52) (oi:={ dst:=some 130,op:=Op.load 29 (Operand.tmp 17),type:=29,pos:="law.go:112",after:=#[{ on:=50,ground:=Ground.guard }],guard:=some (50,true) }) (v:=?_) rfl (by kernel_rfl) (by kernel_rfl) (by kernel_rfl) (fun _ _ _ h=>h) (Or.inl ⟨by rfl,?_⟩) (by assumption) ?_;rotate_left;(· (intro w_ hS_;(try dsimp only at hS_);go_simp;all_goals (with_reducible rfl)));(try simp only [Act.put,List.setIfInBounds_toArray,List.set_cons_zero,List.set_cons_succ]))|(refine wpAnyH_take (i:=52) (oi:={ dst:=some 130,op:=Op.load 29 (Operand.tmp 17),type:=29,pos:="law.go:112",after:=#[{ on:=50,ground:=Ground.guard }],guard:=some (50,true) }) (v:=undef) rfl (by kernel_rfl) (by kernel_rfl) (by kernel_rfl) (fun _ _ _ h=>h) (Or.inr ⟨by rfl,rfl⟩) (by assumption) ?_;(try simp only [Act.put,List.setIfInBounds_toArray,List.set_cons_zero,List.set_cons_succ]))
    all_goals first|(refine wpAnyH_take (i:=54) (oi:={ dst:=some 132,op:=Op.move (Operand.tmp 15),type:=3,pos:="law.go:112",after:=#[{ on:=50,ground:=Ground.guard }],guard:=some (50,true) }) (v:=?_) rfl (by kernel_rfl) (by kernel_rfl) (by kernel_rfl) (fun _ _ _ h=>h) (Or.inl ⟨by rfl,?_⟩) (by assumption) ?_;rotate_left;(· (intro w_ hS_;(try dsimp only at hS_);go_simp;all_goals (with_reducible rfl)));(try simp only [Act.put,List.setIfInBounds_toArray,List.set_cons_zero,List.set_cons_succ]))|(refine wpAnyH_take (i:=54) (oi:={ dst:=some 132,op:=Op.move (Operand.tmp 15),type:=3,pos:="law.go:112",after:=#[{ on:=50,ground:=Ground.guard }],guard:=some (50,true) }) (v:=undef) rfl (by kernel_rfl) (by kernel_rfl) (by kernel_rfl) (fun _ _ _ h=>h) (Or.inr ⟨by rfl,rfl⟩) (by assumption) ?_;(try simp only [Act.put,List.setIfInBounds_toArray,List.set_cons_zero,List.set_cons_succ]))
    all_goals first|(refine wpAnyH_take (i:=55) (oi:={ dst:=some 133,op:=Op.binOp BinOp.gtr 3 (Operand.tmp 132) (Operand.const (Value.int IntKind.i64 0)) 3,type:=4,pos:="law.go:112",after:=#[{ on:=54,ground:=Ground.data },{ on:=50,ground:=Ground.guard }],guard:=some (50,true) }) (v:=?_) rfl (by kernel_rfl) (by kernel_rfl) (by kernel_rfl) (fun _ _ _ h=>h) (Or.inl ⟨by rfl,?_⟩) (by assumption) ?_;rotate_left;(· (intro w_ hS_;(try dsimp only at hS_);go_simp;all_goals (with_reducible rfl)));(try simp only [Act.put,List.setIfInBounds_toArray,List.set_cons_zero,List.set_cons_succ]))|(refine wpAnyH_take (i:=55) (oi:={ dst:=some 133,op:=Op.binOp BinOp.gtr 3 (Operand.tmp 132) (Operand.const (Value.int IntKind.i64 0)) 3,type:=4,pos:="law.go:112",after:=#[{ on:=54,ground:=Ground.data },{ on:=50,ground:=Ground.guard }],guard:=some (50,true) }) (v:=undef) rfl (by kernel_rfl) (by kernel_rfl) (by kernel_rfl) (fun _ _ _ h=>h) (Or.inr ⟨by rfl,rfl⟩) (by assumption) ?_;(try simp only [Act.put,List.setIfInBounds_toArray,List.set_cons_zero,List.set_cons_succ]))
    all_goals first|(refine wpAnyH_take (i:=53) (oi:={ dst:=some 131,op:=Op.call { callee:=Callee.value (Operand.func 18),args:=#[Operand.tmp 129,Operand.tmp 130],argTypes:=#[29,29] },type:=4,pos:="law.go:112",after:=#[{ on:=51,ground:=Ground.data },{ on:=52,ground:=Ground.data },{ on:=50,ground:=Ground.chain },{ on:=50,ground:=Ground.guard }],guard:=some (50,true) }) (v:=undef) rfl (by kernel_rfl) (by kernel_rfl) (by kernel_rfl) (fun _ _ _ h=>h) (Or.inr ⟨by rfl,rfl⟩) (by assumption) ?_;(try simp only [Act.put,List.setIfInBounds_toArray,List.set_cons_zero,List.set_cons_succ]))|(refine wpAnyH_ready (rs:=[53]) (by kernel_rfl) (by simp) ?_;refine AllReadyH.cons (o:={ dst:=some 131,op:=Op.call { callee:=Callee.value (Operand.func 18),args:=#[Operand.tmp 129,Operand.tmp 130],argTypes:=#[29,29] },type:=4,pos:="law.go:112",after:=#[{ on:=51,ground:=Ground.data },{ on:=52,ground:=Ground.data },{ on:=50,ground:=Ground.chain },{ on:=50,ground:=Ground.guard }],guard:=some (50,true) }) rfl (fun K hK=>?_) AllReadyH.nil;go_simp;(first|(go_at_call 18;refine (shapesearchref01_Less.calls _ _ _ _ _ _ _ AL.out).mono ?_;rintro e w74 ⟨rfl,hb⟩;have HN4:=A_ (shapesearchlaw13_NormalRange.BN.step (by (repeat (first|exact HN5.out|exact HN4.out|exact HN3.out|exact HN2.out|exact HN1.out|exact HN0.out|apply shapesearchlaw13_NormalRange.BN.drewN|apply shapesearchlaw13_NormalRange.BN.drew))) hb);clear hb));(try go_wp2_with fail);refine hK.out _ _ ?_ ?_;(· ((try dsimp only);exact (shapesearchlaw13_NormalRange.BN.cells (by (repeat (first|exact HN5.out|exact HN4.out|exact HN3.out|exact HN2.out|exact HN1.out|exact HN0.out|apply shapesearchlaw13_NormalRange.BN.drewN|apply shapesearchlaw13_NormalRange.BN.drew))))));clear hK hHeld;clear K;intro hHeld;(try simp only [Act.put,List.setIfInBounds_toArray,List.set_cons_zero,List.set_cons_succ]))
    all_goals first|(refine wpAnyH_take (i:=56) (oi:={ dst:=some 134,op:=Op.move (Operand.tmp 133),type:=4,pos:="law.go:112",after:=#[{ on:=55,ground:=Ground.data },{ on:=53,ground:=Ground.chain },{ on:=50,ground:=Ground.guard }],guard:=some (50,true) }) (v:=?_) rfl (by kernel_rfl) (by kernel_rfl) (by kernel_rfl) (fun _ _ _ h=>h) (Or.inl ⟨by rfl,?_⟩) (by assumption) ?_;rotate_left;(· (intro w_ hS_;(try dsimp only at hS_);go_simp;all_goals (with_reducible rfl)));(try simp only [Act.put,List.setIfInBounds_toArray,List.set_cons_zero,List.set_cons_succ]))|(refine wpAnyH_take (i:=56) (oi:={ dst:=some 134,op:=Op.move (Operand.tmp 133),type:=4,pos:="law.go:112",after:=#[{ on:=55,ground:=Ground.data },{ on:=53,ground:=Ground.chain },{ on:=50,ground:=Ground.guard }],guard:=some (50,true) }) (v:=undef) rfl (by kernel_rfl) (by kernel_rfl) (by kernel_rfl) (fun _ _ _ h=>h) (Or.inr ⟨by rfl,rfl⟩) (by assumption) ?_;(try simp only [Act.put,List.setIfInBounds_toArray,List.set_cons_zero,List.set_cons_succ]))
    all_goals first|(refine wpAnyH_take (i:=57) (oi:={ dst:=some 135,op:=Op.move (Operand.tmp 4),type:=22,pos:="law.go:112",after:=#[{ on:=56,ground:=Ground.guard }],guard:=some (56,false) }) (v:=?_) rfl (by kernel_rfl) (by kernel_rfl) (by kernel_rfl) (fun _ _ _ h=>h) (Or.inl ⟨by rfl,?_⟩) (by assumption) ?_;rotate_left;(· (intro w_ hS_;(try dsimp only at hS_);go_simp;all_goals (with_reducible rfl)));(try simp only [Act.put,List.setIfInBounds_toArray,List.set_cons_zero,List.set_cons_succ]))|(refine wpAnyH_take (i:=57) (oi:={ dst:=some 135,op:=Op.move (Operand.tmp 4),type:=22,pos:="law.go:112",after:=#[{ on:=56,ground:=Ground.guard }],guard:=some (56,false) }) (v:=undef) rfl (by kernel_rfl) (by kernel_rfl) (by kernel_rfl) (fun _ _ _ h=>h) (Or.inr ⟨by rfl,rfl⟩) (by assumption) ?_;(try simp only [Act.put,List.setIfInBounds_toArray,List.set_cons_zero,List.set_cons_succ]))
    all_goals first|(refine wpAnyH_take (i:=58) (oi:={ dst:=some 136,op:=Op.call { callee:=Callee.value (Operand.func 12),args:=#[Operand.tmp 135],argTypes:=#[22] },type:=4,pos:="law.go:112",after:=#[{ on:=57,ground:=Ground.data },{ on:=56,ground:=Ground.chain },{ on:=56,ground:=Ground.guard }],guard:=some (56,false) }) (v:=undef) rfl (by kernel_rfl) (by kernel_rfl) (by kernel_rfl) (fun _ _ _ h=>h) (Or.inr ⟨by rfl,rfl⟩) (by assumption) ?_;(try simp only [Act.put,List.setIfInBounds_toArray,List.set_cons_zero,List.set_cons_succ]))|(refine wpAnyH_ready (rs:=[58]) (by kernel_rfl) (by simp) ?_;refine AllReadyH.cons (o:={ dst:=some 136,op:=Op.call { callee:=Callee.value (Operand.func 12),args:=#[Operand.tmp 135],argTypes:=#[22] },type:=4,pos:="law.go:112",after:=#[{ on:=57,ground:=Ground.data },{ on:=56,ground:=Ground.chain },{ on:=56,ground:=Ground.guard }],guard:=some (56,false) }) rfl (fun K hK=>?_) AllReadyH.nil;go_simp;(first|(go_at_call 12;with_reducible refine (CX_.out _ (shapesearchlaw13_NormalRange.BN.cx (by (repeat (first|exact HN5.out|exact HN4.out|exact HN3.out|exact HN2.out|exact HN1.out|exact HN0.out|apply shapesearchlaw13_NormalRange.BN.drewN|apply shapesearchlaw13_NormalRange.BN.drew))))).mono ?_;rintro e w7x ⟨rfl,hd⟩;obtain ⟨nd,rfl⟩:=hd.out)|(go_at_call 12;with_reducible refine (CY_.out _ (shapesearchlaw13_NormalRange.BN.cy (by (repeat (first|exact HN5.out|exact HN4.out|exact HN3.out|exact HN2.out|exact HN1.out|exact HN0.out|apply shapesearchlaw13_NormalRange.BN.drewN|apply shapesearchlaw13_NormalRange.BN.drew))))).mono ?_;rintro e w7y ⟨rfl,hd⟩;obtain ⟨nd,rfl⟩:=hd.out));(try go_wp2_with fail);refine hK.out _ _ ?_ ?_;(· ((try dsimp only);exact (shapesearchlaw13_NormalRange.BN.cells (by (repeat (first|exact HN5.out|exact HN4.out|exact HN3.out|exact HN2.out|exact HN1.out|exact HN0.out|apply shapesearchlaw13_NormalRange.BN.drewN|apply shapesearchlaw13_NormalRange.BN.drew))))));clear hK hHeld;clear K;intro hHeld;(try simp only [Act.put,List.setIfInBounds_toArray,List.set_cons_zero,List.set_cons_succ]))
    all_goals first|(refine wpAnyH_take (i:=59) (oi:={ dst:=some 137,op:=Op.unOp UnOp.not 4 (Operand.tmp 136),type:=4,pos:="law.go:112",after:=#[{ on:=58,ground:=Ground.data },{ on:=56,ground:=Ground.guard }],guard:=some (56,false) }) (v:=?_) rfl (by kernel_rfl) (by kernel_rfl) (by kernel_rfl) (fun _ _ _ h=>h) (Or.inl ⟨by rfl,?_⟩) (by assumption) ?_;rotate_left;(· (intro w_ hS_;(try dsimp only at hS_);go_simp;all_goals (with_reducible rfl)));(try simp only [Act.put,List.setIfInBounds_toArray,List.set_cons_zero,List.set_cons_succ]))|(refine wpAnyH_take (i:=59) (oi:={ dst:=some 137,op:=Op.unOp UnOp.not 4 (Operand.tmp 136),type:=4,pos:="law.go:112",after:=#[{ on:=58,ground:=Ground.data },{ on:=56,ground:=Ground.guard }],guard:=some (56,false) }) (v:=undef) rfl (by kernel_rfl) (by kernel_rfl) (by kernel_rfl) (fun _ _ _ h=>h) (Or.inr ⟨by rfl,rfl⟩) (by assumption) ?_;(try simp only [Act.put,List.setIfInBounds_toArray,List.set_cons_zero,List.set_cons_succ]))
    all_goals first|(refine wpAnyH_take (i:=60) (oi:={ dst:=some 138,op:=Op.move (Operand.tmp 137),type:=4,pos:="law.go:112",after:=#[{ on:=59,ground:=Ground.data },{ on:=58,ground:=Ground.chain },{ on:=56,ground:=Ground.guard }],guard:=some (56,false) }) (v:=?_) rfl (by kernel_rfl) (by kernel_rfl) (by kernel_rfl) (fun _ _ _ h=>h) (Or.inl ⟨by rfl,?_⟩) (by assumption) ?_;rotate_left;(· (intro w_ hS_;(try dsimp only at hS_);go_simp;all_goals (with_reducible rfl)));(try simp only [Act.put,List.setIfInBounds_toArray,List.set_cons_zero,List.set_cons_succ]))|(refine wpAnyH_take (i:=60) (oi:={ dst:=some 138,op:=Op.move (Operand.tmp 137),type:=4,pos:="law.go:112",after:=#[{ on:=59,ground:=Ground.data },{ on:=58,ground:=Ground.chain },{ on:=56,ground:=Ground.guard }],guard:=some (56,false) }) (v:=undef) rfl (by kernel_rfl) (by kernel_rfl) (by kernel_rfl) (fun _ _ _ h=>h) (Or.inr ⟨by rfl,rfl⟩) (by assumption) ?_;(try simp only [Act.put,List.setIfInBounds_toArray,List.set_cons_zero,List.set_cons_succ]))
    all_goals first|(refine wpAnyH_take (i:=61) (oi:={ dst:=some 139,op:=Op.move (Operand.tmp 5),type:=22,pos:="law.go:112",after:=#[{ on:=60,ground:=Ground.guard }],guard:=some (60,true) }) (v:=?_) rfl (by kernel_rfl) (by kernel_rfl) (by kernel_rfl) (fun _ _ _ h=>h) (Or.inl ⟨by rfl,?_⟩) (by assumption) ?_;rotate_left;(· (intro w_ hS_;(try dsimp only at hS_);go_simp;all_goals (with_reducible rfl)));(try simp only [Act.put,List.setIfInBounds_toArray,List.set_cons_zero,List.set_cons_succ]))|(refine wpAnyH_take (i:=61) (oi:={ dst:=some 139,op:=Op.move (Operand.tmp 5),type:=22,pos:="law.go:112",after:=#[{ on:=60,ground:=Ground.guard }],guard:=some (60,true) }) (v:=undef) rfl (by kernel_rfl) (by kernel_rfl) (by kernel_rfl) (fun _ _ _ h=>h) (Or.inr ⟨by rfl,rfl⟩) (by assumption) ?_;(try simp only [Act.put,List.setIfInBounds_toArray,List.set_cons_zero,List.set_cons_succ]))
    all_goals first|(refine wpAnyH_take (i:=62) (oi:={ dst:=some 140,op:=Op.call { callee:=Callee.value (Operand.func 12),args:=#[Operand.tmp 139],argTypes:=#[22] },type:=4,pos:="law.go:112",after:=#[{ on:=61,ground:=Ground.data },{ on:=60,ground:=Ground.chain },{ on:=60,ground:=Ground.guard }],guard:=some (60,true) }) (v:=undef) rfl (by kernel_rfl) (by kernel_rfl) (by kernel_rfl) (fun _ _ _ h=>h) (Or.inr ⟨by rfl,rfl⟩) (by assumption) ?_;(try simp only [Act.put,List.setIfInBounds_toArray,List.set_cons_zero,List.set_cons_succ]))|(refine wpAnyH_ready (rs:=[62]) (by kernel_rfl) (by simp) ?_;refine AllReadyH.cons (o:={ dst:=some 140,op:=Op.call { callee:=Callee.value (Operand.func 12),args:=#[Operand.tmp 139],argTypes:=#[22] },type:=4,pos:="law.go:112",after:=#[{ on:=61,ground:=Ground.data },{ on:=60,ground:=Ground.chain },{ on:=60,ground:=Ground.guard }],guard:=some (60,true) }) rfl (fun K hK=>?_) AllReadyH.nil;go_simp;(first|(go_at_call 12;with_reducible refine (CX_.out _ (shapesearchlaw13_NormalRange.BN.cx (by (repeat (first|exact HN5.out|exact HN4.out|exact HN3.out|exact HN2.out|exact HN1.out|exact HN0.out|apply shapesearchlaw13_NormalRange.BN.drewN|apply shapesearchlaw13_NormalRange.BN.drew))))).mono ?_;rintro e w7x ⟨rfl,hd⟩;obtain ⟨nd,rfl⟩:=hd.out)|(go_at_call 12;with_reducible refine (CY_.out _ (shapesearchlaw13_NormalRange.BN.cy (by (repeat (first|exact HN5.out|exact HN4.out|exact HN3.out|exact HN2.out|exact HN1.out|exact HN0.out|apply shapesearchlaw13_NormalRange.BN.drewN|apply shapesearchlaw13_NormalRange.BN.drew))))).mono ?_;rintro e w7y ⟨rfl,hd⟩;obtain ⟨nd,rfl⟩:=hd.out));(try go_wp2_with fail);refine hK.out _ _ ?_ ?_;(· ((try dsimp only);exact (shapesearchlaw13_NormalRange.BN.cells (by (repeat (first|exact HN5.out|exact HN4.out|exact HN3.out|exact HN2.out|exact HN1.out|exact HN0.out|apply shapesearchlaw13_NormalRange.BN.drewN|apply shapesearchlaw13_NormalRange.BN.drew))))));clear hK hHeld;clear K;intro hHeld;(try simp only [Act.put,List.setIfInBounds_toArray,List.set_cons_zero,List.set_cons_succ]))
    all_goals first|(refine wpAnyH_take (i:=63) (oi:={ dst:=some 141,op:=Op.unOp UnOp.not 4 (Operand.tmp 140),type:=4,pos:="law.go:112",after:=#[{ on:=62,ground:=Ground.data },{ on:=60,ground:=Ground.guard }],guard:=some (60,true) }) (v:=?_) rfl (by kernel_rfl) (by kernel_rfl) (by kernel_rfl) (fun _ _ _ h=>h) (Or.inl ⟨by rfl,?_⟩) (by assumption) ?_;rotate_left;(· (intro w_ hS_;(try dsimp only at hS_);go_simp;all_goals (with_reducible rfl)));(try simp only [Act.put,List.setIfInBounds_toArray,List.set_cons_zero,List.set_cons_succ]))|(refine wpAnyH_take (i:=63) (oi:={ dst:=some 141,op:=Op.unOp UnOp.not 4 (Operand.tmp 140),type:=4,pos:="law.go:112",after:=#[{ on:=62,ground:=Ground.data },{ on:=60,ground:=Ground.guard }],guard:=some (60,true) }) (v:=undef) rfl (by kernel_rfl) (by kernel_rfl) (by kernel_rfl) (fun _ _ _ h=>h) (Or.inr ⟨by rfl,rfl⟩) (by assumption) ?_;(try simp only [Act.put,List.setIfInBounds_toArray,List.set_cons_zero,List.set_cons_succ]))
    all_goals first|(refine wpAnyH_take (i:=64) (oi:={ dst:=some 142,op:=Op.pick (Operand.tmp 138) (Operand.tmp 141) (Operand.const (Value.bool false)),type:=4,pos:="law.go:112",after:=#[{ on:=60,ground:=Ground.data },{ on:=63,ground:=Ground.data },{ on:=56,ground:=Ground.guard }],guard:=some (56,false) }) (v:=?_) rfl (by kernel_rfl) (by kernel_rfl) (by kernel_rfl) (fun _ _ _ h=>h) (Or.inl ⟨by rfl,?_⟩) (by assumption) ?_;rotate_left;(· (intro w_ hS_;(try dsimp only at hS_);go_simp;all_goals (with_reducible rfl)));(try simp only [Act.put,List.setIfInBounds_toArray,List.set_cons_zero,List.set_cons_succ]))|(refine wpAnyH_take (i:=64) (oi:={ dst:=some 142,op:=Op.pick (Operand.tmp 138) (Operand.tmp 141) (Operand.const (Value.bool false)),type:=4,pos:="law.go:112",after:=#[{ on:=60,ground:=Ground.data },{ on:=63,ground:=Ground.data },{ on:=56,ground:=Ground.guard }],guard:=some (56,false) }) (v:=undef) rfl (by kernel_rfl) (by kernel_rfl) (by kernel_rfl) (fun _ _ _ h=>h) (Or.inr ⟨by rfl,rfl⟩) (by assumption) ?_;(try simp only [Act.put,List.setIfInBounds_toArray,List.set_cons_zero,List.set_cons_succ]))
    all_goals first|(refine wpAnyH_take (i:=65) (oi:={ dst:=some 143,op:=Op.pick (Operand.tmp 134) (Operand.const (Value.bool true)) (Operand.tmp 142),type:=4,pos:="law.go:112",after:=#[{ on:=56,ground:=Ground.data },{ on:=64,ground:=Ground.data },{ on:=50,ground:=Ground.guard }],guard:=some (50,true) }) (v:=?_) rfl (by kernel_rfl) (by kernel_rfl) (by kernel_rfl) (fun _ _ _ h=>h) (Or.inl ⟨by rfl,?_⟩) (by assumption) ?_;rotate_left;(· (intro w_ hS_;(try dsimp only at hS_);go_simp;all_goals (with_reducible rfl)));(try simp only [Act.put,List.setIfInBounds_toArray,List.set_cons_zero,List.set_cons_succ]))|(refine wpAnyH_take (i:=65) (oi:={ dst:=some 143,op:=Op.pick (Operand.tmp 134) (Operand.const (Value.bool true)) (Operand.tmp 142),type:=4,pos:="law.go:112",after:=#[{ on:=56,ground:=Ground.data },{ on:=64,ground:=Ground.data },{ on:=50,ground:=Ground.guard }],guard:=some (50,true) }) (v:=undef) rfl (by kernel_rfl) (by kernel_rfl) (by kernel_rfl) (fun _ _ _ h=>h) (Or.inr ⟨by rfl,rfl⟩) (by assumption) ?_;(try simp only [Act.put,List.setIfInBounds_toArray,List.set_cons_zero,List.set_cons_succ]))
    all_goals first|(refine wpAnyH_take (i:=66) (oi:={ dst:=some 144,op:=Op.binOp BinOp.eql 4 (Operand.tmp 131) (Operand.tmp 143) 4,type:=4,pos:="law.go:112",after:=#[{ on:=53,ground:=Ground.data },{ on:=65,ground:=Ground.data },{ on:=50,ground:=Ground.guard }],guard:=some (50,true) }) (v:=?_) rfl (by kernel_rfl) (by kernel_rfl) (by kernel_rfl) (fun _ _ _ h=>h) (Or.inl ⟨by rfl,?_⟩) (by assumption) ?_;rotate_left;(· (intro w_ hS_;(try dsimp only at hS_);go_simp;all_goals (with_reducible rfl)));(try simp only [Act.put,List.setIfInBounds_toArray,List.set_cons_zero,List.set_cons_succ]))|(refine wpAnyH_take (i:=66) (oi:={ dst:=some 144,op:=Op.binOp BinOp.eql 4 (Operand.tmp 131) (Operand.tmp 143) 4,type:=4,pos:="law.go:112",after:=#[{ on:=53,ground:=Ground.data },{ on:=65,ground:=Ground.data },{ on:=50,ground:=Ground.guard }],guard:=some (50,true) }) (v:=undef) rfl (by kernel_rfl) (by kernel_rfl) (by kernel_rfl) (fun _ _ _ h=>h) (Or.inr ⟨by rfl,rfl⟩) (by assumption) ?_;(try simp only [Act.put,List.setIfInBounds_toArray,List.set_cons_zero,List.set_cons_succ]))
    all_goals first|(refine wpAnyH_take (i:=67) (oi:={ dst:=some 145,op:=Op.pick (Operand.tmp 128) (Operand.tmp 144) (Operand.const (Value.bool false)),type:=4,pos:="law.go:112",after:=#[{ on:=50,ground:=Ground.data },{ on:=66,ground:=Ground.data }],guard:=none }) (v:=?_) rfl (by kernel_rfl) (by kernel_rfl) (by kernel_rfl) (fun _ _ _ h=>h) (Or.inl ⟨by rfl,?_⟩) (by assumption) ?_;rotate_left;(· (intro w_ hS_;(try dsimp only at hS_);go_simp;all_goals (with_reducible rfl)));(try simp only [Act.put,List.setIfInBounds_toArray,List.set_cons_zero,List.set_cons_succ]))|(refine wpAnyH_take (i:=67) (oi:={ dst:=some 145,op:=Op.pick (Operand.tmp 128) (Operand.tmp 144) (Operand.const (Value.bool false)),type:=4,pos:="law.go:112",after:=#[{ on:=50,ground:=Ground.data },{ on:=66,ground:=Ground.data }],guard:=none }) (v:=undef) rfl (by kernel_rfl) (by kernel_rfl) (by kernel_rfl) (fun _ _ _ h=>h) (Or.inr ⟨by rfl,rfl⟩) (by assumption) ?_;(try simp only [Act.put,List.setIfInBounds_toArray,List.set_cons_zero,List.set_cons_succ]))
    all_goals first|(refine wpAnyH_take (i:=68) (oi:={ dst:=some 146,op:=Op.move (Operand.tmp 145),type:=4,pos:="law.go:112",after:=#[{ on:=67,ground:=Ground.data },{ on:=62,ground:=Ground.chain }],guard:=none }) (v:=?_) rfl (by kernel_rfl) (by kernel_rfl) (by kernel_rfl) (fun _ _ _ h=>h) (Or.inl ⟨by rfl,?_⟩) (by assumption) ?_;rotate_left;(· (intro w_ hS_;(try dsimp only at hS_);go_simp;all_goals (with_reducible rfl)));(try simp only [Act.put,List.setIfInBounds_toArray,List.set_cons_zero,List.set_cons_succ]))|(refine wpAnyH_take (i:=68) (oi:={ dst:=some 146,op:=Op.move (Operand.tmp 145),type:=4,pos:="law.go:112",after:=#[{ on:=67,ground:=Ground.data },{ on:=62,ground:=Ground.chain }],guard:=none }) (v:=undef) rfl (by kernel_rfl) (by kernel_rfl) (by kernel_rfl) (fun _ _ _ h=>h) (Or.inr ⟨by rfl,rfl⟩) (by assumption) ?_;(try simp only [Act.put,List.setIfInBounds_toArray,List.set_cons_zero,List.set_cons_succ]))
    all_goals first|(refine wpAnyH_take (i:=69) (oi:={ dst:=some 147,op:=Op.call { callee:=Callee.value (Operand.func 13),args:=#[],argTypes:=#[] },type:=4,pos:="law.go:112",after:=#[{ on:=68,ground:=Ground.chain },{ on:=68,ground:=Ground.guard }],guard:=some (68,true) }) (v:=undef) rfl (by kernel_rfl) (by kernel_rfl) (by kernel_rfl) (fun _ _ _ h=>h) (Or.inr ⟨by rfl,rfl⟩) (by assumption) ?_;(try simp only [Act.put,List.setIfInBounds_toArray,List.set_cons_zero,List.set_cons_succ]))|(refine wpAnyH_ready (rs:=[69]) (by kernel_rfl) (by simp) ?_;refine AllReadyH.cons (o:={ dst:=some 147,op:=Op.call { callee:=Callee.value (Operand.func 13),args:=#[],argTypes:=#[] },type:=4,pos:="law.go:112",after:=#[{ on:=68,ground:=Ground.chain },{ on:=68,ground:=Ground.guard }],guard:=some (68,true) }) rfl (fun K hK=>?_) AllReadyH.nil;go_simp;(first|(go_at_call 13;refine (shapesearchlaw13_awake.calls _ _ _ AA.out).mono ?_;rintro e w75 ⟨rfl,hb⟩;have HN5:=A_ (shapesearchlaw13_NormalRange.BN.step (by (repeat (first|exact HN5.out|exact HN4.out|exact HN3.out|exact HN2.out|exact HN1.out|exact HN0.out|apply shapesearchlaw13_NormalRange.BN.drewN|apply shapesearchlaw13_NormalRange.BN.drew))) hb);clear hb));(try go_wp2_with fail);refine hK.out _ _ ?_ ?_;(· ((try dsimp only);exact (shapesearchlaw13_NormalRange.BN.cells (by (repeat (first|exact HN5.out|exact HN4.out|exact HN3.out|exact HN2.out|exact HN1.out|exact HN0.out|apply shapesearchlaw13_NormalRange.BN.drewN|apply shapesearchlaw13_NormalRange.BN.drew))))));clear hK hHeld;clear K;intro hHeld;(try simp only [Act.put,List.setIfInBounds_toArray,List.set_cons_zero,List.set_cons_succ]))
    all_goals first|(refine wpAnyH_take (i:=70) (oi:={ dst:=some 148,op:=Op.pick (Operand.tmp 146) (Operand.tmp 147) (Operand.const (Value.bool false)),type:=4,pos:="law.go:112",after:=#[{ on:=68,ground:=Ground.data },{ on:=69,ground:=Ground.data }],guard:=none }) (v:=?_) rfl (by kernel_rfl) (by kernel_rfl) (by kernel_rfl) (fun _ _ _ h=>h) (Or.inl ⟨by rfl,?_⟩) (by assumption) ?_;rotate_left;(· (intro w_ hS_;(try dsimp only at hS_);go_simp;all_goals (with_reducible rfl)));(try simp only [Act.put,List.setIfInBounds_toArray,List.set_cons_zero,List.set_cons_succ]))|(refine wpAnyH_take (i:=70) (oi:={ dst:=some 148,op:=Op.pick (Operand.tmp 146) (Operand.tmp 147) (Operand.const (Value.bool false)),type:=4,pos:="law.go:112",after:=#[{ on:=68,ground:=Ground.data },{ on:=69,ground:=Ground.data }],guard:=none }) (v:=undef) rfl (by kernel_rfl) (by kernel_rfl) (by kernel_rfl) (fun _ _ _ h=>h) (Or.inr ⟨by rfl,rfl⟩) (by assumption) ?_;(try simp only [Act.put,List.setIfInBounds_toArray,List.set_cons_zero,List.set_cons_succ]))
    all_goals first|(refine wpAnyH_take (i:=71) (oi:={ dst:=some 2,op:=Op.assign (Operand.tmp 148),type:=4,pos:="law.go:112",after:=#[{ on:=70,ground:=Ground.data },{ on:=69,ground:=Ground.chain },{ on:=0,ground:=Ground.phase },{ on:=1,ground:=Ground.phase },{ on:=2,ground:=Ground.phase },{ on:=3,ground:=Ground.phase },{ on:=4,ground:=Ground.phase },{ on:=5,ground:=Ground.phase },{ on:=6,ground:=Ground.phase },{ on:=7,ground:=Ground.phase },{ on:=8,ground:=Ground.phase },{ on:=9,ground:=Ground.phase },{ on:=10,ground:=Ground.phase },{ on:=11,ground:=Ground.phase },{ on:=12,ground:=Ground.phase },{ on:=13,ground:=Ground.phase },{ on:=14,ground:=Ground.phase },{ on:=15,ground:=Ground.phase },{ on:=16,ground:=Ground.phase },{ on:=17,ground:=Ground.phase },{ on:=18,ground:=Ground.phase },{ on:=19,ground:=Ground.phase },{ on:=20,ground:=Ground.phase },{ on:=21,ground:=Ground.phase },{ on:=22,ground:=Ground.phase },{ on:=23,ground:=Ground.phase },{ on:=24,ground:=Ground.phase },{ on:=25,ground:=Ground.phase },{ on:=26,ground:=Ground.phase },{ on:=27,ground:=Ground.phase },{ on:=28,ground:=Ground.phase },{ on:=29,ground:=Ground.phase },{ on:=30,ground:=Ground.phase },{ on:=31,ground:=Ground.phase },{ on:=32,ground:=Ground.phase },{ on:=33,ground:=Ground.phase },{ on:=34,ground:=Ground.phase },{ on:=35,ground:=Ground.phase },{ on:=36,ground:=Ground.phase },{ on:=37,ground:=Ground.phase },{ on:=38,ground:=Ground.phase },{ on:=39,ground:=Ground.phase },{ on:=40,ground:=Ground.phase },{ on:=41,ground:=Ground.phase },{ on:=42,ground:=Ground.phase },{ on:=43,ground:=Ground.phase },{ on:=44,ground:=Ground.phase },{ on:=45,ground:=Ground.phase },{ on:=46,ground:=Ground.phase },{ on:=47,ground:=Ground.phase },{ on:=48,ground:=Ground.phase },{ on:=49,ground:=Ground.phase },{ on:=50,ground:=Ground.phase },{ on:=51,ground:=Ground.phase },{ on:=52,ground:=Ground.phase },{ on:=53,ground:=Ground.phase },{ on:=54,ground:=Ground.phase },{ on:=55,ground:=Ground.phase },{ on:=56,ground:=Ground.phase },{ on:=57,ground:=Ground.phase },{ on:=58,ground:=Ground.phase },{ on:=59,ground:=Ground.phase },{ on:=60,ground:=Ground.phase },{ on:=61,ground:=Ground.phase },{ on:=62,ground:=Ground.phase },{ on:=63,ground:=Ground.phase },{ on:=64,ground:=Ground.phase },{ on:=65,ground:=Ground.phase },{ on:=66,ground:=Ground.phase },{ on:=67,ground:=Ground.phase },{ on:=68,ground:=Ground.phase },{ on:=69,ground:=Ground.phase },{ on:=70,ground:=Ground.phase }],guard:=none }) (v:=?_) rfl (by kernel_rfl) (by kernel_rfl) (by kernel_rfl) (fun _ _ _ h=>h) (Or.inl ⟨by rfl,?_⟩) (by assumption) ?_;rotate_left;(· (intro w_ hS_;(try dsimp only at hS_);go_simp;all_goals (with_reducible rfl)));(try simp only [Act.put,List.setIfInBounds_toArray,List.set_cons_zero,List.set_cons_succ]))|(refine wpAnyH_take (i:=71) (oi:={ dst:=some 2,op:=Op.assign (Operand.tmp 148),type:=4,pos:="law.go:112",after:=#[{ on:=70,ground:=Ground.data },{ on:=69,ground:=Ground.chain },{ on:=0,ground:=Ground.phase },{ on:=1,ground:=Ground.phase },{ on:=2,ground:=Ground.phase },{ on:=3,ground:=Ground.phase },{ on:=4,ground:=Ground.phase },{ on:=5,ground:=Ground.phase },{ on:=6,ground:=Ground.phase },{ on:=7,ground:=Ground.phase },{ on:=8,ground:=Ground.phase },{ on:=9,ground:=Ground.phase },{ on:=10,ground:=Ground.phase },{ on:=11,ground:=Ground.phase },{ on:=12,ground:=Ground.phase },{ on:=13,ground:=Ground.phase },{ on:=14,ground:=Ground.phase },{ on:=15,ground:=Ground.phase },{ on:=16,ground:=Ground.phase },{ on:=17,ground:=Ground.phase },{ on:=18,ground:=Ground.phase },{ on:=19,ground:=Ground.phase },{ on:=20,ground:=Ground.phase },{ on:=21,ground:=Ground.phase },{ on:=22,ground:=Ground.phase },{ on:=23,ground:=Ground.phase },{ on:=24,ground:=Ground.phase },{ on:=25,ground:=Ground.phase },{ on:=26,ground:=Ground.phase },{ on:=27,ground:=Ground.phase },{ on:=28,ground:=Ground.phase },{ on:=29,ground:=Ground.phase },{ on:=30,ground:=Ground.phase },{ on:=31,ground:=Ground.phase },{ on:=32,ground:=Ground.phase },{ on:=33,ground:=Ground.phase },{ on:=34,ground:=Ground.phase },{ on:=35,ground:=Ground.phase },{ on:=36,ground:=Ground.phase },{ on:=37,ground:=Ground.phase },{ on:=38,ground:=Ground.phase },{ on:=39,ground:=Ground.phase },{ on:=40,ground:=Ground.phase },{ on:=41,ground:=Ground.phase },{ on:=42,ground:=Ground.phase },{ on:=43,ground:=Ground.phase },{ on:=44,ground:=Ground.phase },{ on:=45,ground:=Ground.phase },{ on:=46,ground:=Ground.phase },{ on:=47,ground:=Ground.phase },{ on:=48,ground:=Ground.phase },{ on:=49,ground:=Ground.phase },{ on:=50,ground:=Ground.phase },{ on:=51,ground:=Ground.phase },{ on:=52,ground:=Ground.phase },{ on:=53,ground:=Ground.phase },{ on:=54,ground:=Ground.phase },{ on:=55,ground:=Ground.phase },{ on:=56,ground:=Ground.phase },{ on:=57,ground:=Ground.phase },{ on:=58,ground:=Ground.phase },{ on:=59,ground:=Ground.phase },{ on:=60,ground:=Ground.phase },{ on:=61,ground:=Ground.phase },{ on:=62,ground:=Ground.phase },{ on:=63,ground:=Ground.phase },{ on:=64,ground:=Ground.phase },{ on:=65,ground:=Ground.phase },{ on:=66,ground:=Ground.phase },{ on:=67,ground:=Ground.phase },{ on:=68,ground:=Ground.phase },{ on:=69,ground:=Ground.phase },{ on:=70,ground:=Ground.phase }],guard:=none }) (v:=undef) rfl (by kernel_rfl) (by kernel_rfl) (by kernel_rfl) (fun _ _ _ h=>h) (Or.inr ⟨by rfl,rfl⟩) (by assumption) ?_;(try simp only [Act.put,List.setIfInBounds_toArray,List.set_cons_zero,List.set_cons_succ]))
    all_goals refine wpAnyH_done (by kernel_rfl) ?_ _
    all_goals go_wp2
    all_goals go_ret
    all_goals exact ⟨rfl,(shapesearchlaw13_NormalRange.BN.below (by (repeat (first|exact HN5.out|exact HN4.out|exact HN3.out|exact HN2.out|exact HN1.out|exact HN0.out|apply shapesearchlaw13_NormalRange.BN.drewN|apply shapesearchlaw13_NormalRange.BN.drew))))⟩

/-- THE ONE PURE STATEMENT of shapesearchlaw13_NormalRange: yours. -/
def shapesearchlaw13_NormalRange.Pure : Prop:=∀ (l0 : List Int),l0.length ≤ maxLen → l0.length * 8 ≤ 140737488351232 → (∀ x ∈ l0,(Lit.int .i64 x).wf = true) → ∃ k,shapesearchlaw13_NormalRange.f k l0 = some true
theorem shapesearchlaw13_NormalRange.walk (P : shapesearchlaw13_NormalRange.Pure) (a0 : Option Addr) (len0 cap0 : Nat) (z0 : List Int) (w : World) (w0 : (a0 = none∧len0 = 0∧cap0 = 0∧z0 = []) ∨ ∃ x,a0 = some x∧len0 ≤ cap0∧cap0 ≤ maxLen∧z0.length = cap0∧(∀ i,i < z0.length → w.cell? (x.add i) = some (.int .i64 (z0.getD i 0)))∧∀ n ∈ z0,(Lit.int .i64 n).wf = true) (y0 : len0 * 8 ≤ 140737488351232) :
  Calls Try.prog 5 #[.slice a0 len0 cap0] w fun e w'=>e = .returned (.bool true)∧Below w.heap.size w w':=by
 obtain ⟨l0,rfl,hr0,hm0,hw0,hc0⟩:=ReadsInt.ofRowC w0
 obtain ⟨k,h⟩:=P l0 hm0 y0 hw0
 refine (shapesearchlaw13_NormalRange.calls k _ _ l0 true w (Kd.C_of_reads (d:=(0 : Int)) (h1:=fun _=>rfl) hr0) hc0 h rfl).mono ?_
 rintro e w' ⟨rfl,hd⟩
 exact ⟨rfl,hd⟩

end Go.Proofs.Ytmckmjpfcgmalaa.PNormalRange
