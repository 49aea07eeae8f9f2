/- This file proves, function by function, what the Go functions that one law uses compute; most of it was printed by a program (wip/tools of this session, over the kit's print). -/
import Derived.Test.YtmmmapkobnepcaaPEditMovesx0
import Derived.Test.YtmmmapkobnepcaaPEditMovesx1
import Derived.Test.YtmmmapkobnepcaaPEditMovesx2
import Derived.Test.YtmmmapkobnepcaaPEditMovesx4
import Derived.Test.YtmmmapkobnepcaaPEditMovesx5
namespace Go.Proofs.Ytmmmapkobnepcaa.PEditMoves
open Go.RowKit Go.Proofs.YtmmmapkobnepcaaW.PrintWords Go.Proofs.YtmmmapkobnepcaaW.PrintLast Go.Proofs.YtmmmapkobnepcaaW.PrintMore
attribute [local go_sem] max2_int min2_int max_two min_two max_three min_three max_four min_four   -- for this text's walks alone
set_option linter.unusedVariables false
set_option linter.unusedSimpArgs false

/-! ### shapesearchlaw15_EditMoves: function 5 -/
mutual
def shapesearchlaw15_EditMoves.l0 : Nat → Int → Int → List Int → List Int → Int → List Int → Int → Int → Option (Bool)
 | 0,_,_,_,_,_,_,_,_=>none
 | k + 1,x1,x2,x7,x8,x9,x10,x38,x39=>if x39 < x38 then (if 0 ≤ x39 then (if x39 < (x7.length : Int) then ((some (x7.set (x39 : Int).toNat (wrap64 (Int.tdiv (wrap64 ((rd x7 x39) * 4)) 5)) : List Int)).bind fun y292=>((some (([wrap64 ((rd y292 x39) + (wrap64 (x1)))] : List Int) : List Int)).bind fun y294=>(if x10.length + y294.length < 17592186044416 then (shapesearchlaw15_EditMoves.l0 k x1 x2 y292 x8 x9 (x10 ++ y294) x38 (wrap64 (x39 + 1))) else (none)))) else (none)) else (none)) else (shapesearchlaw15_EditMoves.l1 k x1 x2 x7 x8 x9 x10 ([] : List Int) (x8.length : Int) 0)
def shapesearchlaw15_EditMoves.l1 : Nat → Int → Int → List Int → List Int → Int → List Int → List Int → Int → Int → Option (Bool)
 | 0,_,_,_,_,_,_,_,_,_=>none
 | k + 1,x1,x2,x7,x8,x9,x10,x11,x63,x64=>if x64 < x63 then (if 0 ≤ x64 then (if x64 < (x8.length : Int) then ((some (x8.set (x64 : Int).toNat (wrap64 (Int.tdiv (wrap64 ((rd x8 x64) * 4)) 5)) : List Int)).bind fun y301=>((some (([wrap64 ((rd y301 x64) + (wrap64 (x1)))] : List Int) : List Int)).bind fun y303=>(if x11.length + y303.length < 17592186044416 then (shapesearchlaw15_EditMoves.l1 k x1 x2 x7 y301 x9 x10 (x11 ++ y303) x63 (wrap64 (x64 + 1))) else (none)))) else (none)) else (none)) else (shapesearchlaw15_EditMoves.l2 k x1 x2 x7 x8 x9 x10 x11 ([] : List Int) (x7.length : Int) 0)
def shapesearchlaw15_EditMoves.l2 : Nat → Int → Int → List Int → List Int → Int → List Int → List Int → List Int → Int → Int → Option (Bool)
 | 0,_,_,_,_,_,_,_,_,_,_=>none
 | k + 1,x1,x2,x7,x8,x9,x10,x11,x12,x88,x89=>if x89 < x88 then (if 0 ≤ (wrap64 ((wrap64 ((x7.length : Int) - 1)) - x89)) then (if (wrap64 ((wrap64 ((x7.length : Int) - 1)) - x89)) < (x7.length : Int) then ((some (([rd x7 (wrap64 ((wrap64 ((x7.length : Int) - 1)) - x89))] : List Int) : List Int)).bind fun y310=>(if x12.length + y310.length < 17592186044416 then (shapesearchlaw15_EditMoves.l2 k x1 x2 x7 x8 x9 x10 x11 (x12 ++ y310) x88 (wrap64 (x89 + 1))) else (none))) else (none)) else (none)) else (shapesearchlaw15_EditMoves.l3 k x1 x2 x7 x8 x9 x10 x11 x12 ([] : List Int) (x8.length : Int) 0)
def shapesearchlaw15_EditMoves.l3 : Nat → Int → Int → List Int → List Int → Int → List Int → List Int → List Int → List Int → Int → Int → Option (Bool)
 | 0,_,_,_,_,_,_,_,_,_,_,_=>none
 | k + 1,x1,x2,x7,x8,x9,x10,x11,x12,x13,x105,x106=>if x106 < x105 then (if 0 ≤ (wrap64 ((wrap64 ((x8.length : Int) - 1)) - x106)) then (if (wrap64 ((wrap64 ((x8.length : Int) - 1)) - x106)) < (x8.length : Int) then ((some (([rd x8 (wrap64 ((wrap64 ((x8.length : Int) - 1)) - x106))] : List Int) : List Int)).bind fun y317=>(if x13.length + y317.length < 17592186044416 then (shapesearchlaw15_EditMoves.l3 k x1 x2 x7 x8 x9 x10 x11 x12 (x13 ++ y317) x105 (wrap64 (x106 + 1))) else (none))) else (none)) else (none)) else ((edit_Distance.f k x7 x8 x9).bind fun bt323=>((edit_Distance.f k x10 x11 (wrap64 (x9 + (wrap64 (x1))))).bind fun bt325=>((edit_Distance.f k x12 x13 x9).bind fun bt327=>(if bt323.2 = 0 then (if bt325.2 = 0 then (if bt327.2 = 0 then (if bt323.1 = bt325.1 then (shapesearchlaw15_EditMoves.j4 k x2 x7 x8 x9 bt323.1 (bt323.1 != bt327.1)) else (shapesearchlaw15_EditMoves.j4 k x2 x7 x8 x9 bt323.1 true)) else (shapesearchlaw15_EditMoves.j4 k x2 x7 x8 x9 bt323.1 true)) else (shapesearchlaw15_EditMoves.j4 k x2 x7 x8 x9 bt323.1 true)) else (shapesearchlaw15_EditMoves.j4 k x2 x7 x8 x9 bt323.1 true)))))
def shapesearchlaw15_EditMoves.j4 : Nat → Int → List Int → List Int → Int → Int → Bool → Option (Bool)
 | 0,_,_,_,_,_,_=>none
 | k + 1,x2,x7,x8,x9,x18,x164=>if x164 = true then (some false) else (if (x7.length : Int) = 32 then ((shapesearchlaw15_awake.f k).bind fun t329=>(some t329)) else (if (wrap64 ((x7.length : Int) + 1)) = 0 then (none) else ((some (([] : List Int) : List Int)).bind fun y330=>(if 0 ≤ (Int.tmod (wrap64 (x2)) (wrap64 ((x7.length : Int) + 1))) then (if (Int.tmod (wrap64 (x2)) (wrap64 ((x7.length : Int) + 1))) ≤ (x7.length : Int) then ((some (x7.take ((Int.tmod (wrap64 (x2)) (wrap64 ((x7.length : Int) + 1))) : Int).toNat : List Int)).bind fun y333=>(if y330.length + y333.length < 17592186044416 then ((some (y330 ++ y333 : List Int)).bind fun y337=>((some (([x9] : List Int) : List Int)).bind fun y340=>(if y337.length + y340.length < 17592186044416 then ((some (y337 ++ y340 : List Int)).bind fun y343=>((some (x7.drop ((Int.tmod (wrap64 (x2)) (wrap64 ((x7.length : Int) + 1))) : Int).toNat : List Int)).bind fun y346=>(if y343.length + y346.length < 17592186044416 then ((edit_Distance.f k (y343 ++ y346) x8 x9).bind fun bt353=>(if bt353.2 = 0 then (if x18 = bt353.1 then ((shapesearchlaw15_awake.f k).bind fun t355=>(some t355)) else (some false)) else (some false))) else (none)))) else (none)))) else (none))) else (none)) else (none)))))
end
def shapesearchlaw15_EditMoves.f (k : Nat) (l0 : List Int) (a1 : Int) (a2 : Int) : Option (Bool):=(shapesearchkeep_New.f l0).bind fun bt280=>((shapesearchlaw15_some.f k bt280.1 bt280.2).bind fun bt283=>(shapesearchlaw15_EditMoves.l0 k a1 a2 bt283.1 bt283.2.1 (wrap64 (Int.tdiv (wrap64 (bt283.2.2.1 * 4)) 5)) ([] : List Int) (bt283.1.length : Int) 0))
theorem shapesearchlaw15_EditMoves.mono_l : ∀ k,(∀ y0 y1 y2 y3 y4 y5 y6 y7,LeO (shapesearchlaw15_EditMoves.l0 k y0 y1 y2 y3 y4 y5 y6 y7) (shapesearchlaw15_EditMoves.l0 (k + 1) y0 y1 y2 y3 y4 y5 y6 y7))∧(∀ y0 y1 y2 y3 y4 y5 y6 y7 y8,LeO (shapesearchlaw15_EditMoves.l1 k y0 y1 y2 y3 y4 y5 y6 y7 y8) (shapesearchlaw15_EditMoves.l1 (k + 1) y0 y1 y2 y3 y4 y5 y6 y7 y8))∧(∀ y0 y1 y2 y3 y4 y5 y6 y7 y8 y9,LeO (shapesearchlaw15_EditMoves.l2 k y0 y1 y2 y3 y4 y5 y6 y7 y8 y9) (shapesearchlaw15_EditMoves.l2 (k + 1) y0 y1 y2 y3 y4 y5 y6 y7 y8 y9))∧(∀ y0 y1 y2 y3 y4 y5 y6 y7 y8 y9 y10,LeO (shapesearchlaw15_EditMoves.l3 k y0 y1 y2 y3 y4 y5 y6 y7 y8 y9 y10) (shapesearchlaw15_EditMoves.l3 (k + 1) y0 y1 y2 y3 y4 y5 y6 y7 y8 y9 y10))∧(∀ y0 y1 y2 y3 y4 y5,LeO (shapesearchlaw15_EditMoves.j4 k y0 y1 y2 y3 y4 y5) (shapesearchlaw15_EditMoves.j4 (k + 1) y0 y1 y2 y3 y4 y5))
 | 0=>⟨fun _ _ _ _ _ _ _ _ r h=>by simp [shapesearchlaw15_EditMoves.l0] at h,fun _ _ _ _ _ _ _ _ _ r h=>by simp [shapesearchlaw15_EditMoves.l1] at h,fun _ _ _ _ _ _ _ _ _ _ r h=>by simp [shapesearchlaw15_EditMoves.l2] at h,fun _ _ _ _ _ _ _ _ _ _ _ r h=>by simp [shapesearchlaw15_EditMoves.l3] at h,fun _ _ _ _ _ _ r h=>by simp [shapesearchlaw15_EditMoves.j4] at h⟩
 | k + 1=>by
  obtain ⟨ih0,ih1,ih2,ih3,ih4⟩:=shapesearchlaw15_EditMoves.mono_l k
  refine ⟨?_,?_,?_,?_,?_⟩
  ·
   intro y0 y1 y2 y3 y4 y5 y6 y7
   unfold shapesearchlaw15_EditMoves.l0
   repeat' first
   | (with_reducible exact ih0 _ _ _ _ _ _ _ _)
   | (with_reducible exact ih1 _ _ _ _ _ _ _ _ _)
   | (with_reducible exact ih2 _ _ _ _ _ _ _ _ _ _)
   | (with_reducible exact ih3 _ _ _ _ _ _ _ _ _ _ _)
   | (with_reducible exact ih4 _ _ _ _ _ _)
   | (with_reducible exact edit_Distance.mono _ _ _ _)
   | (with_reducible exact shapesearchlaw15_awake.mono _)
   | (with_reducible exact shapesearchlaw15_some.mono _ _ _)
   | (with_reducible exact LeO.refl _)
   | (with_reducible exact LeO.none _)
   | (with_reducible refine LeO.ite ?_ ?_)
   | (with_reducible refine LeO.bind ?_ (fun _=>?_))
   | exact ih0 _ _ _ _ _ _ _ _
   | exact ih1 _ _ _ _ _ _ _ _ _
   | exact ih2 _ _ _ _ _ _ _ _ _ _
   | exact ih3 _ _ _ _ _ _ _ _ _ _ _
   | exact ih4 _ _ _ _ _ _
   | exact edit_Distance.mono _ _ _ _
   | exact shapesearchlaw15_awake.mono _
   | exact shapesearchlaw15_some.mono _ _ _
   | exact LeO.none _
   | refine LeO.ite ?_ ?_
   | refine LeO.bind ?_ (fun _=>?_)
  ·
   intro y0 y1 y2 y3 y4 y5 y6 y7 y8
   unfold shapesearchlaw15_EditMoves.l1
   repeat' first
   | (with_reducible exact ih0 _ _ _ _ _ _ _ _)
   | (with_reducible exact ih1 _ _ _ _ _ _ _ _ _)
   | (with_reducible exact ih2 _ _ _ _ _ _ _ _ _ _)
   | (with_reducible exact ih3 _ _ _ _ _ _ _ _ _ _ _)
   | (with_reducible exact ih4 _ _ _ _ _ _)
   | (with_reducible exact edit_Distance.mono _ _ _ _)
   | (with_reducible exact shapesearchlaw15_awake.mono _)
   | (with_reducible exact shapesearchlaw15_some.mono _ _ _)
   | (with_reducible exact LeO.refl _)
   | (with_reducible exact LeO.none _)
   | (with_reducible refine LeO.ite ?_ ?_)
   | (with_reducible refine LeO.bind ?_ (fun _=>?_))
   | exact ih0 _ _ _ _ _ _ _ _
   | exact ih1 _ _ _ _ _ _ _ _ _
   | exact ih2 _ _ _ _ _ _ _ _ _ _
   | exact ih3 _ _ _ _ _ _ _ _ _ _ _
   | exact ih4 _ _ _ _ _ _
   | exact edit_Distance.mono _ _ _ _
   | exact shapesearchlaw15_awake.mono _
   | exact shapesearchlaw15_some.mono _ _ _
   | exact LeO.none _
   | refine LeO.ite ?_ ?_
   | refine LeO.bind ?_ (fun _=>?_)
  ·
   intro y0 y1 y2 y3 y4 y5 y6 y7 y8 y9
   unfold shapesearchlaw15_EditMoves.l2
   repeat' first
   | (with_reducible exact ih0 _ _ _ _ _ _ _ _)
   | (with_reducible exact ih1 _ _ _ _ _ _ _ _ _)
   | (with_reducible exact ih2 _ _ _ _ _ _ _ _ _ _)
   | (with_reducible exact ih3 _ _ _ _ _ _ _ _ _ _ _)
   | (with_reducible exact ih4 _ _ _ _ _ _)
   | (with_reducible exact edit_Distance.mono _ _ _ _)
   | (with_reducible exact shapesearchlaw15_awake.mono _)
   | (with_reducible exact shapesearchlaw15_some.mono _ _ _)
   | (with_reducible exact LeO.refl _)
   | (with_reducible exact LeO.none _)
   | (with_reducible refine LeO.ite ?_ ?_)
   | (with_reducible refine LeO.bind ?_ (fun _=>?_))
   | exact ih0 _ _ _ _ _ _ _ _
   | exact ih1 _ _ _ _ _ _ _ _ _
   | exact ih2 _ _ _ _ _ _ _ _ _ _
   | exact ih3 _ _ _ _ _ _ _ _ _ _ _
   | exact ih4 _ _ _ _ _ _
   | exact edit_Distance.mono _ _ _ _
   | exact shapesearchlaw15_awake.mono _
   | exact shapesearchlaw15_some.mono _ _ _
   | exact LeO.none _
   | refine LeO.ite ?_ ?_
   | refine LeO.bind ?_ (fun _=>?_)
  ·
   intro y0 y1 y2 y3 y4 y5 y6 y7 y8 y9 y10
   unfold shapesearchlaw15_EditMoves.l3
   repeat' first
   | (with_reducible exact ih0 _ _ _ _ _ _ _ _)
   | (with_reducible exact ih1 _ _ _ _ _ _ _ _ _)
   | (with_reducible exact ih2 _ _ _ _ _ _ _ _ _ _)
   | (with_reducible exact ih3 _ _ _ _ _ _ _ _ _ _ _)
   | (with_reducible exact ih4 _ _ _ _ _ _)
   | (with_reducible exact edit_Distance.mono _ _ _ _)
   | (with_reducible exact shapesearchlaw15_awake.mono _)
   | (with_reducible exact shapesearchlaw15_some.mono _ _ _)
   | (with_reducible exact LeO.refl _)
   | (with_reducible exact LeO.none _)
   | (with_reducible refine LeO.ite ?_ ?_)
   | (with_reducible refine LeO.bind ?_ (fun _=>?_))
   | exact ih0 _ _ _ _ _ _ _ _
   | exact ih1 _ _ _ _ _ _ _ _ _
   | exact ih2 _ _ _ _ _ _ _ _ _ _
   | exact ih3 _ _ _ _ _ _ _ _ _ _ _
   | exact ih4 _ _ _ _ _ _
   | exact edit_Distance.mono _ _ _ _
   | exact shapesearchlaw15_awake.mono _
   | exact shapesearchlaw15_some.mono _ _ _
   | exact LeO.none _
   | refine LeO.ite ?_ ?_
   | refine LeO.bind ?_ (fun _=>?_)
  ·
   intro y0 y1 y2 y3 y4 y5
   unfold shapesearchlaw15_EditMoves.j4
   repeat' first
   | (with_reducible exact ih0 _ _ _ _ _ _ _ _)
   | (with_reducible exact ih1 _ _ _ _ _ _ _ _ _)
   | (with_reducible exact ih2 _ _ _ _ _ _ _ _ _ _)
   | (with_reducible exact ih3 _ _ _ _ _ _ _ _ _ _ _)
   | (with_reducible exact ih4 _ _ _ _ _ _)
   | (with_reducible exact edit_Distance.mono _ _ _ _)
   | (with_reducible exact shapesearchlaw15_awake.mono _)
   | (with_reducible exact shapesearchlaw15_some.mono _ _ _)
   | (with_reducible exact LeO.refl _)
   | (with_reducible exact LeO.none _)
   | (with_reducible refine LeO.ite ?_ ?_)
   | (with_reducible refine LeO.bind ?_ (fun _=>?_))
   | exact ih0 _ _ _ _ _ _ _ _
   | exact ih1 _ _ _ _ _ _ _ _ _
   | exact ih2 _ _ _ _ _ _ _ _ _ _
   | exact ih3 _ _ _ _ _ _ _ _ _ _ _
   | exact ih4 _ _ _ _ _ _
   | exact edit_Distance.mono _ _ _ _
   | exact shapesearchlaw15_awake.mono _
   | exact shapesearchlaw15_some.mono _ _ _
   | exact LeO.none _
   | refine LeO.ite ?_ ?_
   | refine LeO.bind ?_ (fun _=>?_)
theorem shapesearchlaw15_EditMoves.mono : ∀ a0 a1 a2 k,LeO (shapesearchlaw15_EditMoves.f k a0 a1 a2) (shapesearchlaw15_EditMoves.f (k + 1) a0 a1 a2):=by
 intro a0 a1 a2 k
 obtain ⟨ih0,ih1,ih2,ih3,ih4⟩:=shapesearchlaw15_EditMoves.mono_l k
 unfold shapesearchlaw15_EditMoves.f
 repeat' first
   | (with_reducible exact ih0 _ _ _ _ _ _ _ _)
   | (with_reducible exact ih1 _ _ _ _ _ _ _ _ _)
   | (with_reducible exact ih2 _ _ _ _ _ _ _ _ _ _)
   | (with_reducible exact ih3 _ _ _ _ _ _ _ _ _ _ _)
   | (with_reducible exact ih4 _ _ _ _ _ _)
   | (with_reducible exact edit_Distance.mono _ _ _ _)
   | (with_reducible exact shapesearchlaw15_awake.mono _)
   | (with_reducible exact shapesearchlaw15_some.mono _ _ _)
   | (with_reducible exact LeO.refl _)
   | (with_reducible exact LeO.none _)
   | (with_reducible refine LeO.ite ?_ ?_)
   | (with_reducible refine LeO.bind ?_ (fun _=>?_))
   | exact ih0 _ _ _ _ _ _ _ _
   | exact ih1 _ _ _ _ _ _ _ _ _
   | exact ih2 _ _ _ _ _ _ _ _ _ _
   | exact ih3 _ _ _ _ _ _ _ _ _ _ _
   | exact ih4 _ _ _ _ _ _
   | exact edit_Distance.mono _ _ _ _
   | exact shapesearchlaw15_awake.mono _
   | exact shapesearchlaw15_some.mono _ _ _
   | exact LeO.none _
   | refine LeO.ite ?_ ?_
   | refine LeO.bind ?_ (fun _=>?_)
def shapesearchlaw15_EditMoves.T34 : Bool × List (List Nat × List Nat):=(true,[([],[]),([],[]),([],[]),([1,2],[1,2]),([0,3],[0,3]),([],[]),([5],[5]),([4,6,4],[4,6]),([],[]),([],[]),([8,9],[8,9]),([7,10,7],[7,10]),([],[]),([],[]),([11,12,13,11],[11,12,13]),([14],[14]),([15],[15]),([15],[15]),([16,14,0,1,2,3,4,5,6,7,8,9,10,11,12,13,14,15,16],[16]),([17,18,0,1,2,3,4,5,6,7,8,9,10,11,12,13,14,15,16,17,18],[17])])
def shapesearchlaw15_EditMoves.B34 : List Nat:=[0,0,0,6,15,0,32,127,0,0,768,2047,0,0,16383,32767,65535,65535,131071,524287]
theorem shapesearchlaw15_EditMoves.tab34 : rtab .any (opsOf Try.f5 34) = shapesearchlaw15_EditMoves.T34:=by kernel_rfl
theorem shapesearchlaw15_EditMoves.bits34 : waitsOk shapesearchlaw15_EditMoves.T34.2 shapesearchlaw15_EditMoves.B34 = true:=by kernel_rfl
end Go.Proofs.Ytmmmapkobnepcaa.PEditMoves
