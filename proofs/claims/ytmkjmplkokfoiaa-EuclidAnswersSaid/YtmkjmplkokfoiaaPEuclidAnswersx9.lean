/- This file proves, function by function, what the Go functions that one law uses compute; most of it was printed by a program (wip/tools of this session, over the kit's print). -/
import Derived.Test.YtmkjmplkokfoiaaXMask
import Derived.Test.YtmkjmplkokfoiaaPEuclidAnswersx0
import Derived.Test.YtmkjmplkokfoiaaPEuclidAnswersx1
import Derived.Test.YtmkjmplkokfoiaaPEuclidAnswersx2
import Derived.Test.YtmkjmplkokfoiaaPEuclidAnswersx3
import Derived.Test.YtmkjmplkokfoiaaPEuclidAnswersx4
import Derived.Test.YtmkjmplkokfoiaaPEuclidAnswersx5
import Derived.Test.YtmkjmplkokfoiaaPEuclidAnswersx6
import Derived.Test.YtmkjmplkokfoiaaPEuclidAnswersx7
import Derived.Test.YtmkjmplkokfoiaaPEuclidAnswersx8
namespace Go.Proofs.Ytmkjmplkokfoiaa.PEuclidAnswers
open Go.RowKit Go.Proofs.YtmkjmplkokfoiaaW.PrintWords Go.Proofs.YtmkjmplkokfoiaaW.PrintLast Go.Proofs.YtmkjmplkokfoiaaW.PrintMore
attribute [local go_sem] max2_int min2_int max_two min_two max_three min_three max_four min_four   -- for this text's walks alone
set_option linter.unusedVariables false
set_option linter.unusedSimpArgs false

attribute [local go_sem high] eqA37
/-! ### shapesearchlaw12_EuclidAnswers: function 8 -/
mutual
def shapesearchlaw12_EuclidAnswers.j0 : Nat → List Int → List Int → Int → List Int → Bool → Option (Bool)
 | 0,_,_,_,_,_=>none
 | k + 1,x0,x1,x2,x3,x42=>if x42 = true then ((shapesearchlaw12_awake.f k).bind fun t334=>(some t334)) else ((shapesearchkeep_New.f x3).bind fun bt335=>((shapesearchkeep_Src_Pair.f k bt335.1 bt335.2).bind fun bt338=>((shapesearchkeep_Src_N.f bt335.1 bt338.2.2 40).bind fun bt345=>((shapesearchkeep_Src_List.f k bt335.1 bt345.2 bt345.1).bind fun bt347=>((shapesearchkeep_Src_Bent.f k bt335.1 bt347.2 bt338.2.1).bind fun bt351=>((shapesearchkeep_Src_Bent.f k bt335.1 bt351.2 bt338.1).bind fun bt355=>(if 1 ≤ (bt338.1.length : Int) then ((some (([(⟨x0,x1⟩ : S49),(⟨bt338.1,bt338.2.1⟩ : S49),(⟨bt338.1,bt351.1⟩ : S49),(⟨bt355.1,bt338.2.1⟩ : S49),(⟨bt338.1,x1⟩ : S49),(⟨(bt338.1.drop 1),bt338.2.1⟩ : S49)] : List (S49)) : List (S49))).bind fun y363=>(shapesearchlaw12_EuclidAnswers.l0 k x1 x2 bt347.1 y363 (y363.length : Int) 0 bt335.1 bt355.2)) else (none))))))))
def shapesearchlaw12_EuclidAnswers.l0 : Nat → List Int → Int → List Int → List (S49) → Int → Int → List Int → Int → Option (Bool)
 | 0,_,_,_,_,_,_,_,_=>none
 | k + 1,x1,x2,x12,x78,x79,x80,x338000,x338001=>if x80 < x79 then (if 0 ≤ x80 then (if x80 < (x78.length : Int) then ((euclid_Distance.f k ((rd_T49 x78 x80).f0) ((rd_T49 x78 x80).f1)).bind fun bt370=>((shapesearchref12_Distance.f k ((rd_T49 x78 x80).f0) ((rd_T49 x78 x80).f1)).bind fun bt372=>((euclid_Shifted.f k ((rd_T49 x78 x80).f0) ((rd_T49 x78 x80).f1)).bind fun bt374=>((shapesearchref12_Shifted.f k ((rd_T49 x78 x80).f0) ((rd_T49 x78 x80).f1)).bind fun bt378=>(if bt370.1 = bt372.1 then (if bt370.2 = bt372.2 then (if (!(bt374.1 == bt378.1) || (!(bt374.2.1 == bt378.2.1))) = true then (shapesearchlaw12_EuclidAnswers.j2 k x1 x2 x12 bt372.1 x78 x79 x80 true x338000 x338001 ((rd_T49 x78 x80).f0) ((rd_T49 x78 x80).f1)) else (shapesearchlaw12_EuclidAnswers.j2 k x1 x2 x12 bt372.1 x78 x79 x80 (bt374.2.2 != bt378.2.2) x338000 x338001 ((rd_T49 x78 x80).f0) ((rd_T49 x78 x80).f1))) else (shapesearchlaw12_EuclidAnswers.j2 k x1 x2 x12 bt372.1 x78 x79 x80 true x338000 x338001 ((rd_T49 x78 x80).f0) ((rd_T49 x78 x80).f1))) else (shapesearchlaw12_EuclidAnswers.j2 k x1 x2 x12 bt372.1 x78 x79 x80 true x338000 x338001 ((rd_T49 x78 x80).f0) ((rd_T49 x78 x80).f1))))))) else (none)) else (none)) else ((shapesearchlaw12_awake.f k).bind fun t367=>(some t367))
def shapesearchlaw12_EuclidAnswers.j2 : Nat → List Int → Int → List Int → Int → List (S49) → Int → Int → Bool → List Int → Int → List Int → List Int → Option (Bool)
 | 0,_,_,_,_,_,_,_,_,_,_,_,_=>none
 | k + 1,x1,x2,x12,x17,x78,x79,x80,x133,x338000,x338001,x370000,x370001=>if x133 = true then (some false) else ((some (([x2,x17,wrap64 (x17 - 1),(-1)] : List Int) : List Int)).bind fun y382=>(shapesearchlaw12_EuclidAnswers.l1 k x1 x2 x12 x78 x79 x80 y382 (y382.length : Int) 0 x338000 x338001 x370000 x370001))
def shapesearchlaw12_EuclidAnswers.l1 : Nat → List Int → Int → List Int → List (S49) → Int → Int → List Int → Int → Int → List Int → Int → List Int → List Int → Option (Bool)
 | 0,_,_,_,_,_,_,_,_,_,_,_,_,_=>none
 | k + 1,x1,x2,x12,x78,x79,x80,x138,x139,x140,x338000,x338001,x370000,x370001=>if x140 < x139 then (if 0 ≤ x140 then (if x140 < (x138.length : Int) then ((euclid_Within.f k x370000 x370001 (rd x138 x140)).bind fun bt386=>((shapesearchref12_Within.f k x370000 x370001 (rd x138 x140)).bind fun bt388=>(if bt386.1 = bt388.1 then (if (bt386.2 != bt388.2) = true then (some false) else (shapesearchlaw12_EuclidAnswers.l1 k x1 x2 x12 x78 x79 x80 x138 x139 (wrap64 (x140 + 1)) x338000 x338001 x370000 x370001)) else (some false)))) else (none)) else (none)) else ((shapesearchkeep_Src_Bent.f k x338000 x338001 x12).bind fun bt390=>((some (([x1,x12,bt390.1] : List (List Int)) : List (List Int))).bind fun y394=>(shapesearchlaw12_EuclidAnswers.l2 k x1 x2 x12 x78 x79 x80 y394 (y394.length : Int) 0 x338000 bt390.2 x370000 x370001)))
def shapesearchlaw12_EuclidAnswers.l2 : Nat → List Int → Int → List Int → List (S49) → Int → Int → List (List Int) → Int → Int → List Int → Int → List Int → List Int → Option (Bool)
 | 0,_,_,_,_,_,_,_,_,_,_,_,_,_=>none
 | k + 1,x1,x2,x12,x78,x79,x80,x176,x177,x178,x338000,x338001,x370000,x370001=>if x178 < x177 then (if 0 ≤ x178 then (if x178 < (x176.length : Int) then ((euclid_Profile.f k x370000 (rd_L1 x176 x178)).bind fun bt399=>((shapesearchref12_Profile.f k x370000 (rd_L1 x176 x178)).bind fun bt403=>((shapesearchkeep_Ints.f k bt399.1 bt403.1).bind fun t407=>(if t407 = true then (if bt399.2 = bt403.2 then (shapesearchlaw12_EuclidAnswers.l2 k x1 x2 x12 x78 x79 x80 x176 x177 (wrap64 (x178 + 1)) x338000 x338001 x370000 x370001) else (some false)) else (some false))))) else (none)) else (none)) else (shapesearchlaw12_EuclidAnswers.l0 k x1 x2 x12 x78 x79 (wrap64 (x80 + 1)) x338000 x338001)
end
def shapesearchlaw12_EuclidAnswers.f (k : Nat) (l0 : List Int) (l1 : List Int) (a2 : Int) (l3 : List Int) : Option (Bool):=if (l0.length : Int) > 200 then (shapesearchlaw12_EuclidAnswers.j0 k l0 l1 a2 l3 true) else (shapesearchlaw12_EuclidAnswers.j0 k l0 l1 a2 l3 (decide ((l1.length : Int) > 200)))
theorem shapesearchlaw12_EuclidAnswers.mono_l : ∀ k,(∀ y0 y1 y2 y3 y4,LeO (shapesearchlaw12_EuclidAnswers.j0 k y0 y1 y2 y3 y4) (shapesearchlaw12_EuclidAnswers.j0 (k + 1) y0 y1 y2 y3 y4))∧(∀ y0 y1 y2 y3 y4 y5 y6 y7,LeO (shapesearchlaw12_EuclidAnswers.l0 k y0 y1 y2 y3 y4 y5 y6 y7) (shapesearchlaw12_EuclidAnswers.l0 (k + 1) y0 y1 y2 y3 y4 y5 y6 y7))∧(∀ y0 y1 y2 y3 y4 y5 y6 y7 y8 y9 y10 y11,LeO (shapesearchlaw12_EuclidAnswers.j2 k y0 y1 y2 y3 y4 y5 y6 y7 y8 y9 y10 y11) (shapesearchlaw12_EuclidAnswers.j2 (k + 1) y0 y1 y2 y3 y4 y5 y6 y7 y8 y9 y10 y11))∧(∀ y0 y1 y2 y3 y4 y5 y6 y7 y8 y9 y10 y11 y12,LeO (shapesearchlaw12_EuclidAnswers.l1 k y0 y1 y2 y3 y4 y5 y6 y7 y8 y9 y10 y11 y12) (shapesearchlaw12_EuclidAnswers.l1 (k + 1) y0 y1 y2 y3 y4 y5 y6 y7 y8 y9 y10 y11 y12))∧(∀ y0 y1 y2 y3 y4 y5 y6 y7 y8 y9 y10 y11 y12,LeO (shapesearchlaw12_EuclidAnswers.l2 k y0 y1 y2 y3 y4 y5 y6 y7 y8 y9 y10 y11 y12) (shapesearchlaw12_EuclidAnswers.l2 (k + 1) y0 y1 y2 y3 y4 y5 y6 y7 y8 y9 y10 y11 y12))
 | 0=>⟨fun _ _ _ _ _ r h=>by simp [shapesearchlaw12_EuclidAnswers.j0] at h,fun _ _ _ _ _ _ _ _ r h=>by simp [shapesearchlaw12_EuclidAnswers.l0] at h,fun _ _ _ _ _ _ _ _ _ _ _ _ r h=>by simp [shapesearchlaw12_EuclidAnswers.j2] at h,fun _ _ _ _ _ _ _ _ _ _ _ _ _ r h=>by simp [shapesearchlaw12_EuclidAnswers.l1] at h,fun _ _ _ _ _ _ _ _ _ _ _ _ _ r h=>by simp [shapesearchlaw12_EuclidAnswers.l2] at h⟩
 | k + 1=>by
  obtain ⟨ih0,ih1,ih2,ih3,ih4⟩:=shapesearchlaw12_EuclidAnswers.mono_l k
  refine ⟨?_,?_,?_,?_,?_⟩
  ·
   intro y0 y1 y2 y3 y4
   unfold shapesearchlaw12_EuclidAnswers.j0
   repeat' first
   | (with_reducible exact ih0 _ _ _ _ _)
   | (with_reducible exact ih1 _ _ _ _ _ _ _ _)
   | (with_reducible exact ih2 _ _ _ _ _ _ _ _ _ _ _ _)
   | (with_reducible exact ih3 _ _ _ _ _ _ _ _ _ _ _ _ _)
   | (with_reducible exact ih4 _ _ _ _ _ _ _ _ _ _ _ _ _)
   | (with_reducible exact euclid_Distance.mono _ _ _)
   | (with_reducible exact euclid_Profile.mono _ _ _)
   | (with_reducible exact euclid_Shifted.mono _ _ _)
   | (with_reducible exact euclid_Within.mono _ _ _ _)
   | (with_reducible exact shapesearchkeep_Ints.mono _ _ _)
   | (with_reducible exact shapesearchkeep_Src_Bent.mono _ _ _ _)
   | (with_reducible exact shapesearchkeep_Src_List.mono _ _ _ _)
   | (with_reducible exact shapesearchkeep_Src_Pair.mono _ _ _)
   | (with_reducible exact shapesearchlaw12_awake.mono _)
   | (with_reducible exact shapesearchref12_Distance.mono _ _ _)
   | (with_reducible exact shapesearchref12_Profile.mono _ _ _)
   | (with_reducible exact shapesearchref12_Shifted.mono _ _ _)
   | (with_reducible exact shapesearchref12_Within.mono _ _ _ _)
   | (with_reducible exact LeO.refl _)
   | (with_reducible exact LeO.none _)
   | (with_reducible refine LeO.ite ?_ ?_)
   | (with_reducible refine LeO.bind ?_ (fun _=>?_))
   | exact ih0 _ _ _ _ _
   | exact ih1 _ _ _ _ _ _ _ _
   | exact ih2 _ _ _ _ _ _ _ _ _ _ _ _
   | exact ih3 _ _ _ _ _ _ _ _ _ _ _ _ _
   | exact ih4 _ _ _ _ _ _ _ _ _ _ _ _ _
   | exact euclid_Distance.mono _ _ _
   | exact euclid_Profile.mono _ _ _
   | exact euclid_Shifted.mono _ _ _
   | exact euclid_Within.mono _ _ _ _
   | exact shapesearchkeep_Ints.mono _ _ _
   | exact shapesearchkeep_Src_Bent.mono _ _ _ _
   | exact shapesearchkeep_Src_List.mono _ _ _ _
   | exact shapesearchkeep_Src_Pair.mono _ _ _
   | exact shapesearchlaw12_awake.mono _
   | exact shapesearchref12_Distance.mono _ _ _
   | exact shapesearchref12_Profile.mono _ _ _
   | exact shapesearchref12_Shifted.mono _ _ _
   | exact shapesearchref12_Within.mono _ _ _ _
   | exact LeO.none _
   | refine LeO.ite ?_ ?_
   | refine LeO.bind ?_ (fun _=>?_)
  ·
   intro y0 y1 y2 y3 y4 y5 y6 y7
   unfold shapesearchlaw12_EuclidAnswers.l0
   repeat' first
   | (with_reducible exact ih0 _ _ _ _ _)
   | (with_reducible exact ih1 _ _ _ _ _ _ _ _)
   | (with_reducible exact ih2 _ _ _ _ _ _ _ _ _ _ _ _)
   | (with_reducible exact ih3 _ _ _ _ _ _ _ _ _ _ _ _ _)
   | (with_reducible exact ih4 _ _ _ _ _ _ _ _ _ _ _ _ _)
   | (with_reducible exact euclid_Distance.mono _ _ _)
   | (with_reducible exact euclid_Profile.mono _ _ _)
   | (with_reducible exact euclid_Shifted.mono _ _ _)
   | (with_reducible exact euclid_Within.mono _ _ _ _)
   | (with_reducible exact shapesearchkeep_Ints.mono _ _ _)
   | (with_reducible exact shapesearchkeep_Src_Bent.mono _ _ _ _)
   | (with_reducible exact shapesearchkeep_Src_List.mono _ _ _ _)
   | (with_reducible exact shapesearchkeep_Src_Pair.mono _ _ _)
   | (with_reducible exact shapesearchlaw12_awake.mono _)
   | (with_reducible exact shapesearchref12_Distance.mono _ _ _)
   | (with_reducible exact shapesearchref12_Profile.mono _ _ _)
   | (with_reducible exact shapesearchref12_Shifted.mono _ _ _)
   | (with_reducible exact shapesearchref12_Within.mono _ _ _ _)
   | (with_reducible exact LeO.refl _)
   | (with_reducible exact LeO.none _)
   | (with_reducible refine LeO.ite ?_ ?_)
   | (with_reducible refine LeO.bind ?_ (fun _=>?_))
   | exact ih0 _ _ _ _ _
   | exact ih1 _ _ _ _ _ _ _ _
   | exact ih2 _ _ _ _ _ _ _ _ _ _ _ _
   | exact ih3 _ _ _ _ _ _ _ _ _ _ _ _ _
   | exact ih4 _ _ _ _ _ _ _ _ _ _ _ _ _
   | exact euclid_Distance.mono _ _ _
   | exact euclid_Profile.mono _ _ _
   | exact euclid_Shifted.mono _ _ _
   | exact euclid_Within.mono _ _ _ _
   | exact shapesearchkeep_Ints.mono _ _ _
   | exact shapesearchkeep_Src_Bent.mono _ _ _ _
   | exact shapesearchkeep_Src_List.mono _ _ _ _
   | exact shapesearchkeep_Src_Pair.mono _ _ _
   | exact shapesearchlaw12_awake.mono _
   | exact shapesearchref12_Distance.mono _ _ _
   | exact shapesearchref12_Profile.mono _ _ _
   | exact shapesearchref12_Shifted.mono _ _ _
   | exact shapesearchref12_Within.mono _ _ _ _
   | exact LeO.none _
   | refine LeO.ite ?_ ?_
   | refine LeO.bind ?_ (fun _=>?_)
  ·
   intro y0 y1 y2 y3 y4 y5 y6 y7 y8 y9 y10 y11
   unfold shapesearchlaw12_EuclidAnswers.j2
   repeat' first
   | (with_reducible exact ih0 _ _ _ _ _)
   | (with_reducible exact ih1 _ _ _ _ _ _ _ _)
   | (with_reducible exact ih2 _ _ _ _ _ _ _ _ _ _ _ _)
   | (with_reducible exact ih3 _ _ _ _ _ _ _ _ _ _ _ _ _)
   | (with_reducible exact ih4 _ _ _ _ _ _ _ _ _ _ _ _ _)
   | (with_reducible exact euclid_Distance.mono _ _ _)
   | (with_reducible exact euclid_Profile.mono _ _ _)
   | (with_reducible exact euclid_Shifted.mono _ _ _)
   | (with_reducible exact euclid_Within.mono _ _ _ _)
   | (with_reducible exact shapesearchkeep_Ints.mono _ _ _)
   | (with_reducible exact shapesearchkeep_Src_Bent.mono _ _ _ _)
   | (with_reducible exact shapesearchkeep_Src_List.mono _ _ _ _)
   | (with_reducible exact shapesearchkeep_Src_Pair.mono _ _ _)
   | (with_reducible exact shapesearchlaw12_awake.mono _)
   | (with_reducible exact shapesearchref12_Distance.mono _ _ _)
   | (with_reducible exact shapesearchref12_Profile.mono _ _ _)
   | (with_reducible exact shapesearchref12_Shifted.mono _ _ _)
   | (with_reducible exact shapesearchref12_Within.mono _ _ _ _)
   | (with_reducible exact LeO.refl _)
   | (with_reducible exact LeO.none _)
   | (with_reducible refine LeO.ite ?_ ?_)
   | (with_reducible refine LeO.bind ?_ (fun _=>?_))
   | exact ih0 _ _ _ _ _
   | exact ih1 _ _ _ _ _ _ _ _
   | exact ih2 _ _ _ _ _ _ _ _ _ _ _ _
   | exact ih3 _ _ _ _ _ _ _ _ _ _ _ _ _
   | exact ih4 _ _ _ _ _ _ _ _ _ _ _ _ _
   | exact euclid_Distance.mono _ _ _
   | exact euclid_Profile.mono _ _ _
   | exact euclid_Shifted.mono _ _ _
   | exact euclid_Within.mono _ _ _ _
   | exact shapesearchkeep_Ints.mono _ _ _
   | exact shapesearchkeep_Src_Bent.mono _ _ _ _
   | exact shapesearchkeep_Src_List.mono _ _ _ _
   | exact shapesearchkeep_Src_Pair.mono _ _ _
   | exact shapesearchlaw12_awake.mono _
   | exact shapesearchref12_Distance.mono _ _ _
   | exact shapesearchref12_Profile.mono _ _ _
   | exact shapesearchref12_Shifted.mono _ _ _
   | exact shapesearchref12_Within.mono _ _ _ _
   | exact LeO.none _
   | refine LeO.ite ?_ ?_
   | refine LeO.bind ?_ (fun _=>?_)
  ·
   intro y0 y1 y2 y3 y4 y5 y6 y7 y8 y9 y10 y11 y12
   unfold shapesearchlaw12_EuclidAnswers.l1
   repeat' first
   | (with_reducible exact ih0 _ _ _ _ _)
   | (with_reducible exact ih1 _ _ _ _ _ _ _ _)
   | (with_reducible exact ih2 _ _ _ _ _ _ _ _ _ _ _ _)
   | (with_reducible exact ih3 _ _ _ _ _ _ _ _ _ _ _ _ _)
   | (with_reducible exact ih4 _ _ _ _ _ _ _ _ _ _ _ _ _)
   | (with_reducible exact euclid_Distance.mono _ _ _)
   | (with_reducible exact euclid_Profile.mono _ _ _)
   | (with_reducible exact euclid_Shifted.mono _ _ _)
   | (with_reducible exact euclid_Within.mono _ _ _ _)
   | (with_reducible exact shapesearchkeep_Ints.mono _ _ _)
   | (with_reducible exact shapesearchkeep_Src_Bent.mono _ _ _ _)
   | (with_reducible exact shapesearchkeep_Src_List.mono _ _ _ _)
   | (with_reducible exact shapesearchkeep_Src_Pair.mono _ _ _)
   | (with_reducible exact shapesearchlaw12_awake.mono _)
   | (with_reducible exact shapesearchref12_Distance.mono _ _ _)
   | (with_reducible exact shapesearchref12_Profile.mono _ _ _)
   | (with_reducible exact shapesearchref12_Shifted.mono _ _ _)
   | (with_reducible exact shapesearchref12_Within.mono _ _ _ _)
   | (with_reducible exact LeO.refl _)
   | (with_reducible exact LeO.none _)
   | (with_reducible refine LeO.ite ?_ ?_)
   | (with_reducible refine LeO.bind ?_ (fun _=>?_))
   | exact ih0 _ _ _ _ _
   | exact ih1 _ _ _ _ _ _ _ _
   | exact ih2 _ _ _ _ _ _ _ _ _ _ _ _
   | exact ih3 _ _ _ _ _ _ _ _ _ _ _ _ _
   | exact ih4 _ _ _ _ _ _ _ _ _ _ _ _ _
   | exact euclid_Distance.mono _ _ _
   | exact euclid_Profile.mono _ _ _
   | exact euclid_Shifted.mono _ _ _
   | exact euclid_Within.mono _ _ _ _
   | exact shapesearchkeep_Ints.mono _ _ _
   | exact shapesearchkeep_Src_Bent.mono _ _ _ _
   | exact shapesearchkeep_Src_List.mono _ _ _ _
   | exact shapesearchkeep_Src_Pair.mono _ _ _
   | exact shapesearchlaw12_awake.mono _
   | exact shapesearchref12_Distance.mono _ _ _
   | exact shapesearchref12_Profile.mono _ _ _
   | exact shapesearchref12_Shifted.mono _ _ _
   | exact shapesearchref12_Within.mono _ _ _ _
   | exact LeO.none _
   | refine LeO.ite ?_ ?_
   | refine LeO.bind ?_ (fun _=>?_)
  ·
   intro y0 y1 y2 y3 y4 y5 y6 y7 y8 y9 y10 y11 y12
   unfold shapesearchlaw12_EuclidAnswers.l2
   repeat' first
   | (with_reducible exact ih0 _ _ _ _ _)
   | (with_reducible exact ih1 _ _ _ _ _ _ _ _)
   | (with_reducible exact ih2 _ _ _ _ _ _ _ _ _ _ _ _)
   | (with_reducible exact ih3 _ _ _ _ _ _ _ _ _ _ _ _ _)
   | (with_reducible exact ih4 _ _ _ _ _ _ _ _ _ _ _ _ _)
   | (with_reducible exact euclid_Distance.mono _ _ _)
   | (with_reducible exact euclid_Profile.mono _ _ _)
   | (with_reducible exact euclid_Shifted.mono _ _ _)
   | (with_reducible exact euclid_Within.mono _ _ _ _)
   | (with_reducible exact shapesearchkeep_Ints.mono _ _ _)
   | (with_reducible exact shapesearchkeep_Src_Bent.mono _ _ _ _)
   | (with_reducible exact shapesearchkeep_Src_List.mono _ _ _ _)
   | (with_reducible exact shapesearchkeep_Src_Pair.mono _ _ _)
   | (with_reducible exact shapesearchlaw12_awake.mono _)
   | (with_reducible exact shapesearchref12_Distance.mono _ _ _)
   | (with_reducible exact shapesearchref12_Profile.mono _ _ _)
   | (with_reducible exact shapesearchref12_Shifted.mono _ _ _)
   | (with_reducible exact shapesearchref12_Within.mono _ _ _ _)
   | (with_reducible exact LeO.refl _)
   | (with_reducible exact LeO.none _)
   | (with_reducible refine LeO.ite ?_ ?_)
   | (with_reducible refine LeO.bind ?_ (fun _=>?_))
   | exact ih0 _ _ _ _ _
   | exact ih1 _ _ _ _ _ _ _ _
   | exact ih2 _ _ _ _ _ _ _ _ _ _ _ _
   | exact ih3 _ _ _ _ _ _ _ _ _ _ _ _ _
   | exact ih4 _ _ _ _ _ _ _ _ _ _ _ _ _
   | exact euclid_Distance.mono _ _ _
   | exact euclid_Profile.mono _ _ _
   | exact euclid_Shifted.mono _ _ _
   | exact euclid_Within.mono _ _ _ _
   | exact shapesearchkeep_Ints.mono _ _ _
   | exact shapesearchkeep_Src_Bent.mono _ _ _ _
   | exact shapesearchkeep_Src_List.mono _ _ _ _
   | exact shapesearchkeep_Src_Pair.mono _ _ _
   | exact shapesearchlaw12_awake.mono _
   | exact shapesearchref12_Distance.mono _ _ _
   | exact shapesearchref12_Profile.mono _ _ _
   | exact shapesearchref12_Shifted.mono _ _ _
   | exact shapesearchref12_Within.mono _ _ _ _
   | exact LeO.none _
   | refine LeO.ite ?_ ?_
   | refine LeO.bind ?_ (fun _=>?_)
theorem shapesearchlaw12_EuclidAnswers.mono : ∀ a0 a1 a2 a3 k,LeO (shapesearchlaw12_EuclidAnswers.f k a0 a1 a2 a3) (shapesearchlaw12_EuclidAnswers.f (k + 1) a0 a1 a2 a3):=by
 intro a0 a1 a2 a3 k
 obtain ⟨ih0,ih1,ih2,ih3,ih4⟩:=shapesearchlaw12_EuclidAnswers.mono_l k
 unfold shapesearchlaw12_EuclidAnswers.f
 repeat' first
   | (with_reducible exact ih0 _ _ _ _ _)
   | (with_reducible exact ih1 _ _ _ _ _ _ _ _)
   | (with_reducible exact ih2 _ _ _ _ _ _ _ _ _ _ _ _)
   | (with_reducible exact ih3 _ _ _ _ _ _ _ _ _ _ _ _ _)
   | (with_reducible exact ih4 _ _ _ _ _ _ _ _ _ _ _ _ _)
   | (with_reducible exact euclid_Distance.mono _ _ _)
   | (with_reducible exact euclid_Profile.mono _ _ _)
   | (with_reducible exact euclid_Shifted.mono _ _ _)
   | (with_reducible exact euclid_Within.mono _ _ _ _)
   | (with_reducible exact shapesearchkeep_Ints.mono _ _ _)
   | (with_reducible exact shapesearchkeep_Src_Bent.mono _ _ _ _)
   | (with_reducible exact shapesearchkeep_Src_List.mono _ _ _ _)
   | (with_reducible exact shapesearchkeep_Src_Pair.mono _ _ _)
   | (with_reducible exact shapesearchlaw12_awake.mono _)
   | (with_reducible exact shapesearchref12_Distance.mono _ _ _)
   | (with_reducible exact shapesearchref12_Profile.mono _ _ _)
   | (with_reducible exact shapesearchref12_Shifted.mono _ _ _)
   | (with_reducible exact shapesearchref12_Within.mono _ _ _ _)
   | (with_reducible exact LeO.refl _)
   | (with_reducible exact LeO.none _)
   | (with_reducible refine LeO.ite ?_ ?_)
   | (with_reducible refine LeO.bind ?_ (fun _=>?_))
   | exact ih0 _ _ _ _ _
   | exact ih1 _ _ _ _ _ _ _ _
   | exact ih2 _ _ _ _ _ _ _ _ _ _ _ _
   | exact ih3 _ _ _ _ _ _ _ _ _ _ _ _ _
   | exact ih4 _ _ _ _ _ _ _ _ _ _ _ _ _
   | exact euclid_Distance.mono _ _ _
   | exact euclid_Profile.mono _ _ _
   | exact euclid_Shifted.mono _ _ _
   | exact euclid_Within.mono _ _ _ _
   | exact shapesearchkeep_Ints.mono _ _ _
   | exact shapesearchkeep_Src_Bent.mono _ _ _ _
   | exact shapesearchkeep_Src_List.mono _ _ _ _
   | exact shapesearchkeep_Src_Pair.mono _ _ _
   | exact shapesearchlaw12_awake.mono _
   | exact shapesearchref12_Distance.mono _ _ _
   | exact shapesearchref12_Profile.mono _ _ _
   | exact shapesearchref12_Shifted.mono _ _ _
   | exact shapesearchref12_Within.mono _ _ _ _
   | exact LeO.none _
   | refine LeO.ite ?_ ?_
   | refine LeO.bind ?_ (fun _=>?_)
def shapesearchlaw12_EuclidAnswers.T6 : Bool × List (List Nat × List Nat):=(true,[([],[]),([],[]),([0,1],[0,1]),([],[]),([],[]),([3,4],[3,4]),([],[]),([],[]),([],[]),([7,8],[7,8]),([6,9],[6,9]),([],[]),([],[]),([11,12,9],[11,12]),([],[]),([13,14],[13,14]),([],[]),([],[]),([16,17],[16,17]),([],[]),([19],[19]),([],[]),([20,21],[20,21]),([2,5,10,15,18,22],[2,5,10,15,18,22]),([23],[23]),([],[])])
def shapesearchlaw12_EuclidAnswers.B6 : List Nat:=[0,0,3,0,0,24,0,0,0,384,960,0,0,7040,0,31616,0,0,196608,0,524288,0,3670016,8388607,16777215,0]
theorem shapesearchlaw12_EuclidAnswers.tab6 : rtab .any (opsOf Try.f8 6) = shapesearchlaw12_EuclidAnswers.T6:=by kernel_rfl
theorem shapesearchlaw12_EuclidAnswers.bits6 : waitsOk shapesearchlaw12_EuclidAnswers.T6.2 shapesearchlaw12_EuclidAnswers.B6 = true:=by kernel_rfl
set_option maxHeartbeats 8000000 in
set_option maxRecDepth 100000 in
theorem shapesearchlaw12_EuclidAnswers.calls (k : Nat) (A0 : Option Addr) (c0 : Nat) (l0 : List Int) (A1 : Option Addr) (c1 : Nat) (l1 : List Int) (a2 : Int) (A3 : Option Addr) (c3 : Nat) (l3 : List Int) (r : Bool) (w : World) (hr0 : Kd.C (Kd.int .i64) w A0 l0.length l0) (hc0 : l0.length ≤ c0) (hr1 : Kd.C (Kd.int .i64) w A1 l1.length l1) (hc1 : l1.length ≤ c1) (hr3 : Kd.C (Kd.int .i64) w A3 l3.length l3) (hc3 : l3.length ≤ c3) (h : shapesearchlaw12_EuclidAnswers.f k l0 l1 a2 l3 = some r) (hT_ : r = true) :
  Calls Try.prog 8 #[.slice A0 l0.length c0,.slice A1 l1.length c1,.int .i64 a2,.slice A3 l3.length c3] w fun e w'=>e = .returned (.bool r)∧Below w.heap.size w w':=by
 have HTR_:=A_ hT_
 clear hT_
 have hu49:=Try.underlying49
 have hu37:=Try.underlying37
 have HR0:=A_ hr0
 have HC0:=A_ hc0
 clear hr0 hc0
 have HR1:=A_ hr1
 have HC1:=A_ hc1
 clear hr1 hc1
 have HR3:=A_ hr3
 have HC3:=A_ hc3
 clear hr3 hc3
 have HB:=A_ (Below.refl w.heap.size w)
 have H : (if (l0.length : Int) > 200 then (shapesearchlaw12_EuclidAnswers.j0 k l0 l1 a2 l3 true) else (shapesearchlaw12_EuclidAnswers.j0 k l0 l1 a2 l3 (decide ((l1.length : Int) > 200)))) = some r:=h
 clear h
 have HC5:=A_ H
 clear H
 go_enter Try.func8,Try.ntmps8
 go_upto_region 1 with (fail)
 go_cut [42] (fun v42 wc=>∃ (kq : Nat) (x42_4 : Bool),v42 = .bool x42_4∧Aside0 (shapesearchlaw12_EuclidAnswers.j0 kq l0 l1 a2 l3 x42_4 = some r)∧Aside0 (kq ≤ k)∧Aside0 (Below w.heap.size w wc))
 case first =>
  have H:=HC5.out
  clear HC5
  by_cases c6 : (l0.length : Int) > 200
  ·
   rw [if_pos c6] at H
   have c6b0 : decide (200 < (l0.length : Int)) = true:=decide_eq_true c6
   have c6b1 : decide (200 < l0.length) = true:=decide_eq_true (by omega)
   clear c6
   (first|rw [c6b0]|(simp only [i64_w,i32_w];rw [c6b0])|skip)
   have H':=A_ H
   clear H
   go_wp2
   go_meet
   case rel=>exact ⟨_,(true),(by first|rfl|(simp;done)|(simp [*];done)),H',⟨by first|omega|exact Nat.le_refl _⟩,⟨by repeat (first|(with_reducible first|exact HB.out|apply ba|apply bb|apply bc)|exact HB.out)⟩⟩
  ·
   rw [if_neg c6] at H
   have c6b0 : decide (200 < (l0.length : Int)) = false:=decide_eq_false c6
   have c6b1 : decide (200 < l0.length) = false:=decide_eq_false (by omega)
   clear c6
   (first|rw [c6b0]|(simp only [i64_w,i32_w];rw [c6b0])|skip)
   have H':=A_ H
   clear H
   go_wp2
   go_meet
   case rel=>exact ⟨_,(decide ((l1.length : Int) > 200)),(by first|rfl|(simp;done)|(simp [*];done)),H',⟨by first|omega|exact Nat.le_refl _⟩,⟨by repeat (first|(with_reducible first|exact HB.out|apply ba|apply bb|apply bc)|exact HB.out)⟩⟩
 case rest =>
  clear HC5
  try clear c1
  try clear p2
  try clear c3
  try clear c6
  try clear c6b0
  try clear c6b1
  obtain ⟨kq,x42_4,rfl,HA,HJ4,HB⟩:=hcut
  cases kq with
  | zero=>exact absurd HA.out (by simp [shapesearchlaw12_EuclidAnswers.j0])
  | succ kj4 =>
   have H:=HA.out
   clear HA
   simp only [shapesearchlaw12_EuclidAnswers.j0] at H
   by_cases c7 : x42_4 = true
   ·
    subst c7
    have H1 : ((shapesearchlaw12_awake.f kj4).bind fun t334=>(some t334)) = some r:=by rw [if_pos rfl] at H;exact H
    clear H
    have H:=H1
    clear H1
    replace H:=Option.bind_eq_some_iff.mp H
    obtain ⟨t334,A80,H⟩:=H
    replace H : (some t334) = some r:=H
    have A8:=A_ A80
    clear A80
    obtain rfl:=Option.some.inj H
    go_wp2_with (first|((with_reducible refine gate_callee (f:=15) rfl ?_);refine goesL_ (some 43) rfl rfl Try.func15 (by kernel_rfl) rfl #[] rfl (by (try simp only [List.map_toArray,List.map_cons,List.map_nil]);first|done|rfl|(simp only [List.length_drop,List.length_take];rfl)|((try rw [KY24.out]);rfl)) ?_;(with_reducible refine (shapesearchlaw12_awake.calls kj4  t334 _ A8.out).mono ?_);rintro e w9 ⟨rfl,hb⟩;refine ⟨_,rfl,?_⟩;have n0_:=A_ (below_step (by repeat (first|(with_reducible first|exact HB.out|apply ba|apply bb|apply bc)|exact HB.out)) hb);clear HB;have HB:=n0_;clear n0_;(try clear hb);(try clear hb2);(try clear hk);(try clear hi)))
    go_ret
    exact ⟨by first|rfl|(simp [errW_none,errW_some] <;> rfl)|(simp [*,errW_none,errW_some] <;> rfl),by repeat (first|(with_reducible first|exact HB.out|apply ba|apply bb|apply bc)|exact HB.out)⟩
   ·
    replace c7:=Bool.eq_false_iff.mpr c7
    subst c7
    have H1 : ((shapesearchkeep_New.f l3).bind fun bt335=>((shapesearchkeep_Src_Pair.f kj4 bt335.1 bt335.2).bind fun bt338=>((shapesearchkeep_Src_N.f bt335.1 bt338.2.2 40).bind fun bt345=>((shapesearchkeep_Src_List.f kj4 bt335.1 bt345.2 bt345.1).bind fun bt347=>((shapesearchkeep_Src_Bent.f kj4 bt335.1 bt347.2 bt338.2.1).bind fun bt351=>((shapesearchkeep_Src_Bent.f kj4 bt335.1 bt351.2 bt338.1).bind fun bt355=>(if 1 ≤ (bt338.1.length : Int) then ((some (([(⟨l0,l1⟩ : S49),(⟨bt338.1,bt338.2.1⟩ : S49),(⟨bt338.1,bt351.1⟩ : S49),(⟨bt355.1,bt338.2.1⟩ : S49),(⟨bt338.1,l1⟩ : S49),(⟨(bt338.1.drop 1),bt338.2.1⟩ : S49)] : List (S49)) : List (S49))).bind fun y363=>(shapesearchlaw12_EuclidAnswers.l0 kj4 l1 a2 bt347.1 y363 (y363.length : Int) 0 bt335.1 bt355.2)) else (none)))))))) = some r:=by rw [if_neg (show ¬ (false = true) by decide)] at H;exact H
    clear H
    have H:=H1
    clear H1
    replace H:=Option.bind_eq_some_iff.mp H
    obtain ⟨⟨t335,t336⟩,A100,H⟩:=H
    replace H : ((shapesearchkeep_Src_Pair.f kj4 t335 t336).bind fun bt338=>((shapesearchkeep_Src_N.f t335 bt338.2.2 40).bind fun bt345=>((shapesearchkeep_Src_List.f kj4 t335 bt345.2 bt345.1).bind fun bt347=>((shapesearchkeep_Src_Bent.f kj4 t335 bt347.2 bt338.2.1).bind fun bt351=>((shapesearchkeep_Src_Bent.f kj4 t335 bt351.2 bt338.1).bind fun bt355=>(if 1 ≤ (bt338.1.length : Int) then ((some (([(⟨l0,l1⟩ : S49),(⟨bt338.1,bt338.2.1⟩ : S49),(⟨bt338.1,bt351.1⟩ : S49),(⟨bt355.1,bt338.2.1⟩ : S49),(⟨bt338.1,l1⟩ : S49),(⟨(bt338.1.drop 1),bt338.2.1⟩ : S49)] : List (S49)) : List (S49))).bind fun y363=>(shapesearchlaw12_EuclidAnswers.l0 kj4 l1 a2 bt347.1 y363 (y363.length : Int) 0 t335 bt355.2)) else (none))))))) = some r:=H
    have A10:=A_ A100
    clear A100
    replace H:=Option.bind_eq_some_iff.mp H
    obtain ⟨⟨t338,t341,t344⟩,A110,H⟩:=H
    replace H : ((shapesearchkeep_Src_N.f t335 t344 40).bind fun bt345=>((shapesearchkeep_Src_List.f kj4 t335 bt345.2 bt345.1).bind fun bt347=>((shapesearchkeep_Src_Bent.f kj4 t335 bt347.2 t341).bind fun bt351=>((shapesearchkeep_Src_Bent.f kj4 t335 bt351.2 t338).bind fun bt355=>(if 1 ≤ (t338.length : Int) then ((some (([(⟨l0,l1⟩ : S49),(⟨t338,t341⟩ : S49),(⟨t338,bt351.1⟩ : S49),(⟨bt355.1,t341⟩ : S49),(⟨t338,l1⟩ : S49),(⟨(t338.drop 1),t341⟩ : S49)] : List (S49)) : List (S49))).bind fun y363=>(shapesearchlaw12_EuclidAnswers.l0 kj4 l1 a2 bt347.1 y363 (y363.length : Int) 0 t335 bt355.2)) else (none)))))) = some r:=H
    have A11:=A_ A110
    clear A110
    replace H:=Option.bind_eq_some_iff.mp H
    obtain ⟨⟨t345,t346⟩,A120,H⟩:=H
    replace H : ((shapesearchkeep_Src_List.f kj4 t335 t346 t345).bind fun bt347=>((shapesearchkeep_Src_Bent.f kj4 t335 bt347.2 t341).bind fun bt351=>((shapesearchkeep_Src_Bent.f kj4 t335 bt351.2 t338).bind fun bt355=>(if 1 ≤ (t338.length : Int) then ((some (([(⟨l0,l1⟩ : S49),(⟨t338,t341⟩ : S49),(⟨t338,bt351.1⟩ : S49),(⟨bt355.1,t341⟩ : S49),(⟨t338,l1⟩ : S49),(⟨(t338.drop 1),t341⟩ : S49)] : List (S49)) : List (S49))).bind fun y363=>(shapesearchlaw12_EuclidAnswers.l0 kj4 l1 a2 bt347.1 y363 (y363.length : Int) 0 t335 bt355.2)) else (none))))) = some r:=H
    have A12:=A_ A120
    clear A120
    replace H:=Option.bind_eq_some_iff.mp H
    obtain ⟨⟨t347,t350⟩,A130,H⟩:=H
    replace H : ((shapesearchkeep_Src_Bent.f kj4 t335 t350 t341).bind fun bt351=>((shapesearchkeep_Src_Bent.f kj4 t335 bt351.2 t338).bind fun bt355=>(if 1 ≤ (t338.length : Int) then ((some (([(⟨l0,l1⟩ : S49),(⟨t338,t341⟩ : S49),(⟨t338,bt351.1⟩ : S49),(⟨bt355.1,t341⟩ : S49),(⟨t338,l1⟩ : S49),(⟨(t338.drop 1),t341⟩ : S49)] : List (S49)) : List (S49))).bind fun y363=>(shapesearchlaw12_EuclidAnswers.l0 kj4 l1 a2 t347 y363 (y363.length : Int) 0 t335 bt355.2)) else (none)))) = some r:=H
    have A13:=A_ A130
    clear A130
    replace H:=Option.bind_eq_some_iff.mp H
    obtain ⟨⟨t351,t354⟩,A140,H⟩:=H
    replace H : ((shapesearchkeep_Src_Bent.f kj4 t335 t354 t338).bind fun bt355=>(if 1 ≤ (t338.length : Int) then ((some (([(⟨l0,l1⟩ : S49),(⟨t338,t341⟩ : S49),(⟨t338,t351⟩ : S49),(⟨bt355.1,t341⟩ : S49),(⟨t338,l1⟩ : S49),(⟨(t338.drop 1),t341⟩ : S49)] : List (S49)) : List (S49))).bind fun y363=>(shapesearchlaw12_EuclidAnswers.l0 kj4 l1 a2 t347 y363 (y363.length : Int) 0 t335 bt355.2)) else (none))) = some r:=H
    have A14:=A_ A140
    clear A140
    replace H:=Option.bind_eq_some_iff.mp H
    obtain ⟨⟨t355,t358⟩,A150,H⟩:=H
    replace H : (if 1 ≤ (t338.length : Int) then ((some (([(⟨l0,l1⟩ : S49),(⟨t338,t341⟩ : S49),(⟨t338,t351⟩ : S49),(⟨t355,t341⟩ : S49),(⟨t338,l1⟩ : S49),(⟨(t338.drop 1),t341⟩ : S49)] : List (S49)) : List (S49))).bind fun y363=>(shapesearchlaw12_EuclidAnswers.l0 kj4 l1 a2 t347 y363 (y363.length : Int) 0 t335 t358)) else (none)) = some r:=H
    have A15:=A_ A150
    clear A150
    by_cases c16 : 1 ≤ (t338.length : Int)
    ·
     rw [if_pos c16] at H
     have c16b0:=eq_true c16
     have c16b1 : decide (1 ≤ (t338.length : Int)) = true:=decide_eq_true c16
     clear c16
     obtain ⟨y359,hy359⟩ : ∃ y_ : List Int,y_ = (t338.drop 1):=⟨_,rfl⟩
     replace H : ((some (([(⟨l0,l1⟩ : S49),(⟨t338,t341⟩ : S49),(⟨t338,t351⟩ : S49),(⟨t355,t341⟩ : S49),(⟨t338,l1⟩ : S49),(⟨y359,t341⟩ : S49)] : List (S49)) : List (S49))).bind fun y363=>(shapesearchlaw12_EuclidAnswers.l0 kj4 l1 a2 t347 y363 (y363.length : Int) 0 t335 t358)) = some r:=by first|(rw [hy359];with_reducible exact H)|(have H2_:=(Option.bind_some _ _).symm.trans H;rw [hy359];with_reducible exact H2_)|(have H2_:=(Option.bind_some _ _).symm.trans H;with_reducible exact H2_)|with_reducible exact H|(rw [hy359];exact H)|exact H
     have Ny359:=A_ hy359
     clear hy359
     obtain ⟨y363,hy363⟩ : ∃ y_ : List (S49),y_ = (([(⟨l0,l1⟩ : S49),(⟨t338,t341⟩ : S49),(⟨t338,t351⟩ : S49),(⟨t355,t341⟩ : S49),(⟨t338,l1⟩ : S49),(⟨y359,t341⟩ : S49)] : List (S49))):=⟨_,rfl⟩
     replace H : (shapesearchlaw12_EuclidAnswers.l0 kj4 l1 a2 t347 y363 (y363.length : Int) 0 t335 t358) = some r:=by first|(rw [hy363];with_reducible exact H)|(have H2_:=(Option.bind_some _ _).symm.trans H;rw [hy363];with_reducible exact H2_)|(have H2_:=(Option.bind_some _ _).symm.trans H;with_reducible exact H2_)|with_reducible exact H|(rw [hy363];exact H)|exact H
     have Ny363:=A_ hy363
     clear hy363
     have H':=A_ H
     clear H
     try go_wp2_with (first|((with_reducible refine gate_callee (f:=9) rfl ?_);refine goesL_ (some 45) rfl rfl Try.func9 (by kernel_rfl) rfl #[.slice A3 l3.length c3] rfl (by (try simp only [List.map_toArray,List.map_cons,List.map_nil]);first|done|rfl|(simp only [List.length_drop,List.length_take];rfl)|((try rw [KY24.out]);rfl)) ?_;(with_reducible refine (shapesearchkeep_New.calls _ _ l3 t335 t336 w _ ?side1 ?side2 ?side3 A10.out).mono ?_);(case side1=>repeat (first|(with_reducible first|exact HB.out|apply ba|apply bb|apply bc)|exact HB.out));(case side2=>exact HR3.out);(case side3=>exact HC3.out);rintro e w17 ⟨g337,rfl,hi,hb,hb2⟩;refine ⟨_,rfl,?_⟩;have n0_:=A_ (hb);have n1_:=A_ (hi);clear HB;have HB:=n0_;have HI337:=n1_;clear n0_ n1_;(try clear hb);(try clear hb2);(try clear hk);(try clear hi))|((with_reducible refine gate_callee (f:=10) rfl ?_);refine goesL_ (some 48) rfl rfl Try.func10 (by kernel_rfl) rfl #[.pointer (some ⟨g337,0,none⟩)] rfl (by (try simp only [List.map_toArray,List.map_cons,List.map_nil]);first|done|rfl|(simp only [List.length_drop,List.length_take];rfl)|((try rw [KY24.out]);rfl)) ?_;(with_reducible refine (shapesearchkeep_Src_Pair.calls kj4 g337 t335 t336 t338 t341 t344 w _ ?side1 ?side2 A11.out).mono ?_);(case side1=>repeat (first|(with_reducible first|exact HI337.out|apply IsS56.alloc|apply IsS56.drewN|apply IsS56.drew|apply IsS56.set_1)|exact HI337.out));(case side2=>repeat (first|(with_reducible first|exact HB.out|apply ba|apply bb|apply bc|refine below_set ?_ (IsS56.ge HI337.out))|exact HB.out));rintro e w18 ⟨v339,v342,rfl,ho0,ho1,hi,hb,hk⟩;refine ⟨_,rfl,?_⟩;have n0_:=A_ (Kd.R_lower ho0 (below_size (by repeat (first|(with_reducible first|exact HB.out|apply ba|apply bb|apply bc|refine below_set ?_ (IsS56.ge HI337.out))|exact HB.out))));have n1_:=A_ (Kd.R_lower ho1 (below_size (by repeat (first|(with_reducible first|exact HB.out|apply ba|apply bb|apply bc|refine below_set ?_ (IsS56.ge HI337.out))|exact HB.out))));have n2_:=A_ (hb);have n3_:=A_ (hi);clear HB;clear HI337;have HO340:=n0_;have HO343:=n1_;have HB:=n2_;have HI337:=n3_;clear n0_ n1_ n2_ n3_;(try clear hb);(try clear hb2);(try clear hk);(try clear hi);(try clear ho0);(try clear ho1))|((with_reducible refine gate_callee (f:=23) rfl ?_);refine goesL_ (some 53) rfl rfl Try.func23 (by kernel_rfl) rfl #[.pointer (some ⟨g337,0,none⟩),.int .i64 40] rfl (by (try simp only [List.map_toArray,List.map_cons,List.map_nil]);first|done|rfl|(simp only [List.length_drop,List.length_take];rfl)|((try rw [KY24.out]);rfl)) ?_;(with_reducible refine (shapesearchkeep_Src_N.calls g337 t335 t344 40 t345 t346 w _ ?side1 ?side2 A12.out).mono ?_);(case side1=>repeat (first|(with_reducible first|exact HI337.out|apply IsS56.alloc|apply IsS56.drewN|apply IsS56.drew|apply IsS56.set_1)|exact HI337.out));(case side2=>repeat (first|(with_reducible first|exact HB.out|apply ba|apply bb|apply bc|refine below_set ?_ (IsS56.ge HI337.out))|exact HB.out));rintro e w19 ⟨rfl,hi,hb,hk⟩;refine ⟨_,rfl,?_⟩;have n0_:=A_ (rm (Kd.R_keep (IsS56.apart (show IsS56 w _ g337 t335 t344 from by repeat (first|(with_reducible first|exact HI337.out|apply IsS56.alloc|apply IsS56.drewN|apply IsS56.drew|apply IsS56.set_1)|exact HI337.out)) (by (with_reducible repeat (first|apply ra|apply rb|apply rc));exact HO340.out) (by decide)) hk (fun _ h=>h.2)) (fun _ h=>h.1));have n1_:=A_ (rm (Kd.R_keep (IsS56.apart (show IsS56 w _ g337 t335 t344 from by repeat (first|(with_reducible first|exact HI337.out|apply IsS56.alloc|apply IsS56.drewN|apply IsS56.drew|apply IsS56.set_1)|exact HI337.out)) (by (with_reducible repeat (first|apply ra|apply rb|apply rc));exact HO343.out) (by decide)) hk (fun _ h=>h.2)) (fun _ h=>h.1));have n2_:=A_ (hb);have n3_:=A_ (hi);clear HO340;clear HO343;clear HB;clear HI337;have HO340:=n0_;have HO343:=n1_;have HB:=n2_;have HI337:=n3_;clear n0_ n1_ n2_ n3_;(try clear hb);(try clear hb2);(try clear hk);(try clear hi))|((with_reducible refine gate_callee (f:=20) rfl ?_);refine goesL_ (some 54) rfl rfl Try.func20 (by kernel_rfl) rfl #[.pointer (some ⟨g337,0,none⟩),.int .i64 t345] rfl (by (try simp only [List.map_toArray,List.map_cons,List.map_nil]);first|done|rfl|(simp only [List.length_drop,List.length_take];rfl)|((try rw [KY24.out]);rfl)) ?_;(with_reducible refine (shapesearchkeep_Src_List.calls kj4 g337 t335 t346 t345 t347 t350 w _ ?side1 ?side2 A13.out).mono ?_);(case side1=>repeat (first|(with_reducible first|exact HI337.out|apply IsS56.alloc|apply IsS56.drewN|apply IsS56.drew|apply IsS56.set_1)|exact HI337.out));(case side2=>repeat (first|(with_reducible first|exact HB.out|apply ba|apply bb|apply bc|refine below_set ?_ (IsS56.ge HI337.out))|exact HB.out));rintro e w20 ⟨v348,rfl,ho0,hi,hb,hk⟩;refine ⟨_,rfl,?_⟩;have n0_:=A_ (rm (Kd.R_told (Kd.R_oldK (IsS56.apart (show IsS56 w _ g337 t335 t346 from by repeat (first|(with_reducible first|exact HI337.out|apply IsS56.alloc|apply IsS56.drewN|apply IsS56.drew|apply IsS56.set_1)|exact HI337.out)) (by (with_reducible repeat (first|apply ra|apply rb|apply rc));exact HO340.out) (by decide)) hk) (rs ho0)) (fun _ h_=>h_.1));have n1_:=A_ (rm (Kd.R_told (Kd.R_oldK (IsS56.apart (show IsS56 w _ g337 t335 t346 from by repeat (first|(with_reducible first|exact HI337.out|apply IsS56.alloc|apply IsS56.drewN|apply IsS56.drew|apply IsS56.set_1)|exact HI337.out)) (by (with_reducible repeat (first|apply ra|apply rb|apply rc));exact HO343.out) (by decide)) hk) (rs ho0)) (fun _ h_=>h_.1));have n2_:=A_ (Kd.R_lower (rn (rn ho0 (rl (by (with_reducible repeat (first|apply ra|apply rb|apply rc));exact HO340.out))) (rl (by (with_reducible repeat (first|apply ra|apply rb|apply rc));exact HO343.out))) (below_size (by repeat (first|(with_reducible first|exact HB.out|apply ba|apply bb|apply bc|refine below_set ?_ (IsS56.ge HI337.out))|exact HB.out))));have n3_:=A_ (hb);have n4_:=A_ (hi);clear HO340;clear HO343;clear HB;clear HI337;have HO340:=n0_;have HO343:=n1_;have HO349:=n2_;have HB:=n3_;have HI337:=n4_;clear n0_ n1_ n2_ n3_ n4_;(try clear hb);(try clear hb2);(try clear hk);(try clear hi);(try clear ho0)))
     have n0_:=A_ (Kd.R_drew HO340.out)
     have n1_:=A_ (Kd.R_drew HO343.out)
     have n2_:=A_ (Kd.R_drew HO349.out)
     have n3_:=A_ (IsS56.drew HI337.out)
     have n4_:=A_ (below_drew1 HB.out)
     clear HO340
     clear HO343
     clear HO349
     clear HI337
     clear HB
     have HO340:=n0_
     have HO343:=n1_
     have HO349:=n2_
     have HI337:=n3_
     have HB:=n4_
     clear n0_ n1_ n2_ n3_ n4_
     obtain ⟨Ao22,co22,eo22⟩:=Kd.R_slice HO343.out
     (first|subst eo22|(injection eo22 with f1_ f2_ f3_;have f4_:=f1_.symm;have f5_:=f3_.symm;clear f1_ f2_ f3_;subst f4_;subst f5_))
     obtain ⟨Ao23,co23,eo23⟩:=Kd.R_slice HO340.out
     (first|subst eo23|(injection eo23 with f1_ f2_ f3_;have f4_:=f1_.symm;have f5_:=f3_.symm;clear f1_ f2_ f3_;subst f4_;subst f5_))
     have q24 : (1 : Int) ≤ ((t338.length : Int) : Int):=of_decide_eq_true (by first|(with_reducible assumption)|assumption)
     obtain ⟨i024,hi024,_,hsz24,_⟩:=info_parts info3
     have hroom24 : t338.length ≤ co23:=(rd_ HO340.out).2.1
     have hC24 : Kd.C (Kd.int .i64) _ Ao23 t338.length t338:=(rd_ HO340.out).2.2
     have hcut24:=cut_from (P:=Try.prog) 22 3 .i64 Try.underlying22 hi024 1 hsz24 Ao23 t338.length co23 1 (by omega) q24
     have hr24:=Kd.C_drop (m:=(1 : Int).toNat) (c:=co23) hC24 (by omega) hroom24
     obtain ⟨A24,hA24⟩ : ∃ A1,A1 = (if co23 = (1 : Int).toNat then Ao23 else (Ao23 : Option Addr).map (·.add ((1 : Int).toNat * 1))):=⟨_,rfl⟩
     obtain ⟨c24,hc24⟩ : ∃ c1,c1 = co23 - (1 : Int).toNat:=⟨_,rfl⟩
     have hy24 : y359.length = t338.length - (1 : Int).toNat:=(by rw [Ny359.out,List.length_drop] <;> omega)
     rw [show (t338).drop (1 : Int).toNat = y359 from Ny359.out.symm] at hr24
     replace hr24 : Kd.C (Kd.int .i64) _ A24 y359.length y359:=(by rw [hA24];exact hr24)
     rw [← hy24,← hA24,← hc24] at hcut24
     have HR362:=A_ hr24
     have HC362:=A_ (show y359.length ≤ c24 from by rw [hy24,hc24];exact Nat.sub_le_sub_right hroom24 _)
     clear hr24 hC24 hroom24 hi024 hsz24 hc24
     have KY24:=A_ hy24
     have KA24:=A_ hA24
     clear hy24 hA24
     have KL24:=A_ (show 1 ≤ t338.length from by omega)
     replace q24:=eq_true q24
     refine start_ (n:=26) (S:=fun w'=>True) (ds:=[]) #[false,false,false,false,false,false,false,false,false,false,false,false,false,false,false,false,false,false,false,false,false,false,false,false,false,false] (by kernel_rfl) rfl rfl trivial (fun hHeld=>?_);refine with_tabW shapesearchlaw12_EuclidAnswers.tab6 shapesearchlaw12_EuclidAnswers.bits6 (fun HT_ HW_=>?_)
     generalize w20.drew = w21 at HO340 HO343 HO349 HI337 HB HR362 hHeld ⊢
     refine pure_ (i:=0) (N:=some 55) (v:=?_) (a':=?_) #[true,false,false,false,false,false,false,false,false,false,false,false,false,false,false,false,false,false,false,false,false,false,false,false,false,false] rfl rfl (any_of HT_.out (by kernel_rfl)) (fun _ _ _ h=>h) (Or.inl ⟨by rfl,?_⟩) ?_ ?_
     rotate_left
     ·
      intro w'
      go_simp
      with_reducible rfl
     rotate_left
     ·
      simp only [Act.put,sa,sb,sc,i64_w,i32_w]
      rfl
     refine pure_ (i:=1) (N:=some 56) (v:=?_) (a':=?_) #[true,true,false,false,false,false,false,false,false,false,false,false,false,false,false,false,false,false,false,false,false,false,false,false,false,false] rfl rfl (any_of HT_.out (by kernel_rfl)) (fun _ _ _ h=>h) (Or.inl ⟨by rfl,?_⟩) ?_ ?_
     rotate_left
     ·
      intro w'
      go_simp
      with_reducible rfl
     rotate_left
     ·
      simp only [Act.put,sa,sb,sc,i64_w,i32_w]
      rfl
     refine pure_ (i:=2) (N:=some 57) (v:=?_) (a':=?_) #[true,true,true,false,false,false,false,false,false,false,false,false,false,false,false,false,false,false,false,false,false,false,false,false,false,false] rfl rfl (any_of HT_.out (by kernel_rfl)) (fun _ _ _ h=>h) (Or.inl ⟨by rfl,?_⟩) ?_ ?_
     rotate_left
     ·
      intro w'
      go_simp
      with_reducible rfl
     rotate_left
     ·
      simp only [Act.put,sa,sb,sc,i64_w,i32_w]
      rfl
     refine pure_ (i:=3) (N:=some 58) (v:=?_) (a':=?_) #[true,true,true,true,false,false,false,false,false,false,false,false,false,false,false,false,false,false,false,false,false,false,false,false,false,false] rfl rfl (any_of HT_.out (by kernel_rfl)) (fun _ _ _ h=>h) (Or.inl ⟨by rfl,?_⟩) ?_ ?_
     rotate_left
     ·
      intro w'
      go_simp
      with_reducible rfl
     rotate_left
     ·
      simp only [Act.put,sa,sb,sc,i64_w,i32_w]
      rfl
     refine pure_ (i:=4) (N:=some 59) (v:=?_) (a':=?_) #[true,true,true,true,true,false,false,false,false,false,false,false,false,false,false,false,false,false,false,false,false,false,false,false,false,false] rfl rfl (any_of HT_.out (by kernel_rfl)) (fun _ _ _ h=>h) (Or.inl ⟨by rfl,?_⟩) ?_ ?_
     rotate_left
     ·
      intro w'
      go_simp
      with_reducible rfl
     rotate_left
     ·
      simp only [Act.put,sa,sb,sc,i64_w,i32_w]
      rfl
     refine pure_ (i:=5) (N:=some 60) (v:=?_) (a':=?_) #[true,true,true,true,true,true,false,false,false,false,false,false,false,false,false,false,false,false,false,false,false,false,false,false,false,false] rfl rfl (any_of HT_.out (by kernel_rfl)) (fun _ _ _ h=>h) (Or.inl ⟨by rfl,?_⟩) ?_ ?_
     rotate_left
     ·
      intro w'
      go_simp
      with_reducible rfl
     rotate_left
     ·
      simp only [Act.put,sa,sb,sc,i64_w,i32_w]
      rfl
     refine pure_ (i:=6) (N:=some 61) (v:=?_) (a':=?_) #[true,true,true,true,true,true,true,false,false,false,false,false,false,false,false,false,false,false,false,false,false,false,false,false,false,false] rfl rfl (any_of HT_.out (by kernel_rfl)) (fun _ _ _ h=>h) (Or.inl ⟨by rfl,?_⟩) ?_ ?_
     rotate_left
     ·
      intro w'
      go_simp
      with_reducible rfl
     rotate_left
     ·
      simp only [Act.put,sa,sb,sc,i64_w,i32_w]
      rfl
     refine pure_ (i:=7) (N:=some 62) (v:=?_) (a':=?_) #[true,true,true,true,true,true,true,true,false,false,false,false,false,false,false,false,false,false,false,false,false,false,false,false,false,false] rfl rfl (any_of HT_.out (by kernel_rfl)) (fun _ _ _ h=>h) (Or.inl ⟨by rfl,?_⟩) ?_ ?_
     rotate_left
     ·
      intro w'
      go_simp
      with_reducible rfl
     rotate_left
     ·
      simp only [Act.put,sa,sb,sc,i64_w,i32_w]
      rfl
     refine pure_ (i:=8) (N:=some 63) (v:=?_) (a':=?_) #[true,true,true,true,true,true,true,true,true,false,false,false,false,false,false,false,false,false,false,false,false,false,false,false,false,false] rfl rfl (any_of HT_.out (by kernel_rfl)) (fun _ _ _ h=>h) (Or.inl ⟨by rfl,?_⟩) ?_ ?_
     rotate_left
     ·
      intro w'
      go_simp
      with_reducible rfl
     rotate_left
     ·
      simp only [Act.put,sa,sb,sc,i64_w,i32_w]
      rfl
     refine pure_ (i:=11) (N:=some 66) (v:=?_) (a':=?_) #[true,true,true,true,true,true,true,true,true,false,false,true,false,false,false,false,false,false,false,false,false,false,false,false,false,false] rfl rfl (any_of HT_.out (by kernel_rfl)) (fun _ _ _ h=>h) (Or.inl ⟨by rfl,?_⟩) ?_ ?_
     rotate_left
     ·
      intro w'
      go_simp
      with_reducible rfl
     rotate_left
     ·
      simp only [Act.put,sa,sb,sc,i64_w,i32_w]
      rfl
     refine pure_ (i:=12) (N:=some 67) (v:=?_) (a':=?_) #[true,true,true,true,true,true,true,true,true,false,false,true,true,false,false,false,false,false,false,false,false,false,false,false,false,false] rfl rfl (any_of HT_.out (by kernel_rfl)) (fun _ _ _ h=>h) (Or.inl ⟨by rfl,?_⟩) ?_ ?_
     rotate_left
     ·
      intro w'
      go_simp
      with_reducible rfl
     rotate_left
     ·
      simp only [Act.put,sa,sb,sc,i64_w,i32_w]
      rfl
     refine pure_ (i:=14) (N:=some 69) (v:=?_) (a':=?_) #[true,true,true,true,true,true,true,true,true,false,false,true,true,false,true,false,false,false,false,false,false,false,false,false,false,false] rfl rfl (any_of HT_.out (by kernel_rfl)) (fun _ _ _ h=>h) (Or.inl ⟨by rfl,?_⟩) ?_ ?_
     rotate_left
     ·
      intro w'
      go_simp
      with_reducible rfl
     rotate_left
     ·
      simp only [Act.put,sa,sb,sc,i64_w,i32_w]
      rfl
     refine pure_ (i:=16) (N:=some 71) (v:=?_) (a':=?_) #[true,true,true,true,true,true,true,true,true,false,false,true,true,false,true,false,true,false,false,false,false,false,false,false,false,false] rfl rfl (any_of HT_.out (by kernel_rfl)) (fun _ _ _ h=>h) (Or.inl ⟨by rfl,?_⟩) ?_ ?_
     rotate_left
     ·
      intro w'
      go_simp
      with_reducible rfl
     rotate_left
     ·
      simp only [Act.put,sa,sb,sc,i64_w,i32_w]
      rfl
     refine pure_ (i:=17) (N:=some 72) (v:=?_) (a':=?_) #[true,true,true,true,true,true,true,true,true,false,false,true,true,false,true,false,true,true,false,false,false,false,false,false,false,false] rfl rfl (any_of HT_.out (by kernel_rfl)) (fun _ _ _ h=>h) (Or.inl ⟨by rfl,?_⟩) ?_ ?_
     rotate_left
     ·
      intro w'
      go_simp
      with_reducible rfl
     rotate_left
     ·
      simp only [Act.put,sa,sb,sc,i64_w,i32_w]
      rfl
     refine pure_ (i:=18) (N:=some 73) (v:=?_) (a':=?_) #[true,true,true,true,true,true,true,true,true,false,false,true,true,false,true,false,true,true,true,false,false,false,false,false,false,false] rfl rfl (any_of HT_.out (by kernel_rfl)) (fun _ _ _ h=>h) (Or.inl ⟨by rfl,?_⟩) ?_ ?_
     rotate_left
     ·
      intro w'
      go_simp
      with_reducible rfl
     rotate_left
     ·
      simp only [Act.put,sa,sb,sc,i64_w,i32_w]
      rfl
     refine pure_ (i:=19) (N:=some 74) (v:=?_) (a':=?_) #[true,true,true,true,true,true,true,true,true,false,false,true,true,false,true,false,true,true,true,true,false,false,false,false,false,false] rfl rfl (any_of HT_.out (by kernel_rfl)) (fun _ _ _ h=>h) (Or.inl ⟨by rfl,?_⟩) ?_ ?_
     rotate_left
     ·
      intro w'
      go_simp
      with_reducible rfl
     rotate_left
     ·
      simp only [Act.put,sa,sb,sc,i64_w,i32_w]
      rfl
     refine pure_ (i:=20) (N:=some 75) (v:=?_) (a':=?_) #[true,true,true,true,true,true,true,true,true,false,false,true,true,false,true,false,true,true,true,true,true,false,false,false,false,false] rfl rfl (any_of HT_.out (by kernel_rfl)) (fun _ _ _ h=>h) (Or.inl ⟨by rfl,?_⟩) ?_ ?_
     rotate_left
     ·
      intro w'
      go_simp
      with_reducible rfl
     rotate_left
     ·
      simp only [Act.put,sa,sb,sc,i64_w,i32_w]
      rfl
     refine pure_ (i:=21) (N:=some 76) (v:=?_) (a':=?_) #[true,true,true,true,true,true,true,true,true,false,false,true,true,false,true,false,true,true,true,true,true,true,false,false,false,false] rfl rfl (any_of HT_.out (by kernel_rfl)) (fun _ _ _ h=>h) (Or.inl ⟨by rfl,?_⟩) ?_ ?_
     rotate_left
     ·
      intro w'
      go_simp
      with_reducible rfl
     rotate_left
     ·
      simp only [Act.put,sa,sb,sc,i64_w,i32_w]
      rfl
     refine pure_ (i:=22) (N:=some 77) (v:=?_) (a':=?_) #[true,true,true,true,true,true,true,true,true,false,false,true,true,false,true,false,true,true,true,true,true,true,true,false,false,false] rfl rfl (any_of HT_.out (by kernel_rfl)) (fun _ _ _ h=>h) (Or.inl ⟨by rfl,?_⟩) ?_ ?_
     rotate_left
     ·
      intro w'
      go_simp
      with_reducible rfl
     rotate_left
     ·
      simp only [Act.put,sa,sb,sc,i64_w,i32_w]
      rfl
     refine pure_ (i:=25) (N:=some 80) (v:=?_) (a':=?_) #[true,true,true,true,true,true,true,true,true,false,false,true,true,false,true,false,true,true,true,true,true,true,true,false,false,true] rfl rfl (any_of HT_.out (by kernel_rfl)) (fun _ _ _ h=>h) (Or.inl ⟨by rfl,?_⟩) ?_ ?_
     rotate_left
     ·
      intro w'
      go_simp
      with_reducible rfl
     rotate_left
     ·
      simp only [Act.put,sa,sb,sc,i64_w,i32_w]
      rfl
     refine one_ (i:=9) (N:=some 64) #[true,true,true,true,true,true,true,true,true,true,false,true,true,false,true,false,true,true,true,true,true,true,true,false,false,true] rfl rfl (one_of HT_.out (by kernel_rfl)) (by decide) (fun K hK=>?_)
     refine goes_ Try.func24 (by kernel_rfl) rfl #[.pointer (some ⟨g337,0,none⟩),.slice Ao22 t341.length co22] (by rfl) rfl rfl (by (try simp only [List.map_toArray,List.map_cons,List.map_nil]);first|done|rfl|(simp only [List.length_drop,List.length_take];rfl)|((try rw [KY24.out]);rfl)) ?_
     with_reducible refine (shapesearchkeep_Src_Bent.calls kj4 g337 t335 t350 _ _ t341 t351 t354 w _ ?side1 ?side2 ?side3 ?side4 ?side5 A14.out).mono ?_
     (case side1=>repeat (first|(with_reducible first|exact HI337.out|apply IsS56.alloc|apply IsS56.drewN|apply IsS56.drew|apply IsS56.set_1)|exact HI337.out))
     (case side2=>repeat (first|(with_reducible first|exact HB.out|apply ba|apply bb|apply bc|refine below_set ?_ (IsS56.ge HI337.out))|exact HB.out))
     (case side3=>repeat (first|exact (rd_ HO343.out).2.2|(with_reducible refine ca ?_ _)|(with_reducible refine cb ?_ _)|(with_reducible refine cc ?_)))
     (case side4=>exact (rd_ HO343.out).2.1)
     (case side5=>exact far_slice (IsS56.own_ne HI337.out HO343.out (by decide)))
     rintro e w25 ⟨v352,rfl,ho0,hi,hb,hk⟩
     refine ⟨_,rfl,?_⟩
     have n0_:=A_ (rm (Kd.R_told (Kd.R_oldK (IsS56.apart (show IsS56 w _ g337 t335 t350 from by repeat (first|(with_reducible first|exact HI337.out|apply IsS56.alloc|apply IsS56.drewN|apply IsS56.drew|apply IsS56.set_1)|exact HI337.out)) (by (with_reducible repeat (first|apply ra|apply rb|apply rc));exact HO340.out) (by decide)) hk) (rs ho0)) (fun _ h_=>h_.1))
     have n1_:=A_ (rm (Kd.R_told (Kd.R_oldK (IsS56.apart (show IsS56 w _ g337 t335 t350 from by repeat (first|(with_reducible first|exact HI337.out|apply IsS56.alloc|apply IsS56.drewN|apply IsS56.drew|apply IsS56.set_1)|exact HI337.out)) (by (with_reducible repeat (first|apply ra|apply rb|apply rc));exact HO343.out) (by decide)) hk) (rs ho0)) (fun _ h_=>h_.1))
     have n2_:=A_ (rm (Kd.R_told (Kd.R_oldK (IsS56.apart (show IsS56 w _ g337 t335 t350 from by repeat (first|(with_reducible first|exact HI337.out|apply IsS56.alloc|apply IsS56.drewN|apply IsS56.drew|apply IsS56.set_1)|exact HI337.out)) (by (with_reducible repeat (first|apply ra|apply rb|apply rc));exact HO349.out) (by decide)) hk) (rs ho0)) (fun _ h_=>h_.1))
     have n3_:=A_ (Kd.R_lower (rn (rn (rn ho0 (rl (by (with_reducible repeat (first|apply ra|apply rb|apply rc));exact HO340.out))) (rl (by (with_reducible repeat (first|apply ra|apply rb|apply rc));exact HO343.out))) (rl (by (with_reducible repeat (first|apply ra|apply rb|apply rc));exact HO349.out))) (below_size (by repeat (first|(with_reducible first|exact HB.out|apply ba|apply bb|apply bc|refine below_set ?_ (IsS56.ge HI337.out))|exact HB.out))))
     have n4_:=A_ (hb)
     have n5_:=A_ (hi)
     clear HO340
     clear HO343
     clear HO349
     clear HB
     clear HI337
     have HO340:=n0_
     have HO343:=n1_
     have HO349:=n2_
     have HO353:=n3_
     have HB:=n4_
     have HI337:=n5_
     clear n0_ n1_ n2_ n3_ n4_ n5_
     (try clear hb)
     (try clear hb2)
     (try clear hk)
     (try clear hi)
     (try clear ho0)
     obtain ⟨Ao26,co26,eo26⟩:=Kd.R_slice HO353.out
     (first|subst eo26|(injection eo26 with f1_ f2_ f3_;have f4_:=f1_.symm;have f5_:=f3_.symm;clear f1_ f2_ f3_;subst f4_;subst f5_))
     refine hK.out _ _ trivial (fun hHeld=>?_)
     clear hK K
     refine norm_ (a':=?_) ?_ ?_
     rotate_left
     ·
      show Act.put _ (some 64) _ = _
      simp only [Act.put,sa,sb,sc,i64_w,i32_w]
      rfl
     refine pure_ (i:=10) (N:=some 65) (v:=?_) (a':=?_) #[true,true,true,true,true,true,true,true,true,true,true,true,true,false,true,false,true,true,true,true,true,true,true,false,false,true] rfl rfl (any_of HT_.out (by kernel_rfl)) (fun _ _ _ h=>h) (Or.inl ⟨by rfl,?_⟩) ?_ ?_
     rotate_left
     ·
      intro w'
      go_simp
      with_reducible rfl
     rotate_left
     ·
      simp only [Act.put,sa,sb,sc,i64_w,i32_w]
      rfl
     refine one_ (i:=13) (N:=some 68) #[true,true,true,true,true,true,true,true,true,true,true,true,true,true,true,false,true,true,true,true,true,true,true,false,false,true] rfl rfl (one_of HT_.out (by kernel_rfl)) (by decide) (fun K hK=>?_)
     refine goes_ Try.func24 (by kernel_rfl) rfl #[.pointer (some ⟨g337,0,none⟩),.slice Ao23 t338.length co23] (by rfl) rfl rfl (by (try simp only [List.map_toArray,List.map_cons,List.map_nil]);first|done|rfl|(simp only [List.length_drop,List.length_take];rfl)|((try rw [KY24.out]);rfl)) ?_
     with_reducible refine (shapesearchkeep_Src_Bent.calls kj4 g337 t335 t354 _ _ t338 t355 t358 w _ ?side1 ?side2 ?side3 ?side4 ?side5 A15.out).mono ?_
     (case side1=>repeat (first|(with_reducible first|exact HI337.out|apply IsS56.alloc|apply IsS56.drewN|apply IsS56.drew|apply IsS56.set_1)|exact HI337.out))
     (case side2=>repeat (first|(with_reducible first|exact HB.out|apply ba|apply bb|apply bc|refine below_set ?_ (IsS56.ge HI337.out))|exact HB.out))
     (case side3=>repeat (first|exact (rd_ HO340.out).2.2|(with_reducible refine ca ?_ _)|(with_reducible refine cb ?_ _)|(with_reducible refine cc ?_)))
     (case side4=>exact (rd_ HO340.out).2.1)
     (case side5=>exact far_slice (IsS56.own_ne HI337.out HO340.out (by decide)))
     rintro e w27 ⟨v356,rfl,ho0,hi,hb,hk⟩
     refine ⟨_,rfl,?_⟩
     have n0_:=A_ (rm (Kd.R_told (Kd.R_oldK (IsS56.apart (show IsS56 w _ g337 t335 t354 from by repeat (first|(with_reducible first|exact HI337.out|apply IsS56.alloc|apply IsS56.drewN|apply IsS56.drew|apply IsS56.set_1)|exact HI337.out)) (by (with_reducible repeat (first|apply ra|apply rb|apply rc));exact HO340.out) (by decide)) hk) (rs ho0)) (fun _ h_=>h_.1))
     have n1_:=A_ (rm (Kd.R_told (Kd.R_oldK (IsS56.apart (show IsS56 w _ g337 t335 t354 from by repeat (first|(with_reducible first|exact HI337.out|apply IsS56.alloc|apply IsS56.drewN|apply IsS56.drew|apply IsS56.set_1)|exact HI337.out)) (by (with_reducible repeat (first|apply ra|apply rb|apply rc));exact HO343.out) (by decide)) hk) (rs ho0)) (fun _ h_=>h_.1))
     have n2_:=A_ (rm (Kd.R_told (Kd.R_oldK (IsS56.apart (show IsS56 w _ g337 t335 t354 from by repeat (first|(with_reducible first|exact HI337.out|apply IsS56.alloc|apply IsS56.drewN|apply IsS56.drew|apply IsS56.set_1)|exact HI337.out)) (by (with_reducible repeat (first|apply ra|apply rb|apply rc));exact HO349.out) (by decide)) hk) (rs ho0)) (fun _ h_=>h_.1))
     have n3_:=A_ (rm (Kd.R_told (Kd.R_oldK (IsS56.apart (show IsS56 w _ g337 t335 t354 from by repeat (first|(with_reducible first|exact HI337.out|apply IsS56.alloc|apply IsS56.drewN|apply IsS56.drew|apply IsS56.set_1)|exact HI337.out)) (by (with_reducible repeat (first|apply ra|apply rb|apply rc));exact HO353.out) (by decide)) hk) (rs ho0)) (fun _ h_=>h_.1))
     have n4_:=A_ (Kd.R_lower (rn (rn (rn (rn ho0 (rl (by (with_reducible repeat (first|apply ra|apply rb|apply rc));exact HO340.out))) (rl (by (with_reducible repeat (first|apply ra|apply rb|apply rc));exact HO343.out))) (rl (by (with_reducible repeat (first|apply ra|apply rb|apply rc));exact HO349.out))) (rl (by (with_reducible repeat (first|apply ra|apply rb|apply rc));exact HO353.out))) (below_size (by repeat (first|(with_reducible first|exact HB.out|apply ba|apply bb|apply bc|refine below_set ?_ (IsS56.ge HI337.out))|exact HB.out))))
     have n5_:=A_ (hb)
     have n6_:=A_ (hi)
     clear HO340
     clear HO343
     clear HO349
     clear HO353
     clear HB
     clear HI337
     have HO340:=n0_
     have HO343:=n1_
     have HO349:=n2_
     have HO353:=n3_
     have HO357:=n4_
     have HB:=n5_
     have HI337:=n6_
     clear n0_ n1_ n2_ n3_ n4_ n5_ n6_
     (try clear hb)
     (try clear hb2)
     (try clear hk)
     (try clear hi)
     (try clear ho0)
     obtain ⟨Ao28,co28,eo28⟩:=Kd.R_slice HO357.out
     (first|subst eo28|(injection eo28 with f1_ f2_ f3_;have f4_:=f1_.symm;have f5_:=f3_.symm;clear f1_ f2_ f3_;subst f4_;subst f5_))
     refine hK.out _ _ trivial (fun hHeld=>?_)
     clear hK K
     refine norm_ (a':=?_) ?_ ?_
     rotate_left
     ·
      show Act.put _ (some 68) _ = _
      simp only [Act.put,sa,sb,sc,i64_w,i32_w]
      rfl
     refine pure_ (i:=15) (N:=some 70) (v:=?_) (a':=?_) #[true,true,true,true,true,true,true,true,true,true,true,true,true,true,true,true,true,true,true,true,true,true,true,false,false,true] rfl rfl (any_of HT_.out (by kernel_rfl)) (fun _ _ _ h=>h) (Or.inl ⟨by rfl,?_⟩) ?_ ?_
     rotate_left
     ·
      intro w'
      go_simp
      with_reducible rfl
     rotate_left
     ·
      simp only [Act.put,sa,sb,sc,i64_w,i32_w]
      rfl
     refine one_ (i:=23) (N:=some 78) #[true,true,true,true,true,true,true,true,true,true,true,true,true,true,true,true,true,true,true,true,true,true,true,true,false,true] rfl rfl (one_of HT_.out (by kernel_rfl)) (by decide) (fun K hK=>?_)
     refine lit_seen_step 49 ?hg (xs:=y363) (ys:=([(⟨l0,l1⟩ : S49),(⟨t338,t341⟩ : S49),(⟨t338,t351⟩ : S49),(⟨t355,t341⟩ : S49),(⟨t338,l1⟩ : S49),(⟨y359,t341⟩ : S49)] : List (S49))) (inner:=[.slice A0 l0.length c0,.slice A1 l1.length c1,.slice Ao23 t338.length co23,.slice Ao22 t341.length co22,.slice Ao23 t338.length co23,.slice Ao26 t351.length co26,.slice Ao28 t355.length co28,.slice Ao22 t341.length co22,.slice Ao23 t338.length co23,.slice A1 l1.length c1,.slice A24 y359.length c24,.slice Ao22 t341.length co22]) Ny363.out ?hr ?_
     (case hg=>rfl)
     (case hr=>first|(go_simp;done)|(go_simp;rfl))
     intro Ao30 co30 w29 hlc_ hk_ hb
     have hkm1_ : Kd.K k49 (maskW g337 w29) (⟨l0,l1⟩ : S49) [.slice A0 l0.length c0,.slice A1 l1.length c1]:=(k49_mk (maskW g337 w29) (⟨l0,l1⟩ : S49) (HC0.out) ((mask_C 0 (cl (w:=w27) (by repeat (first|exact (cl HR0.out HB.out)|(with_reducible refine ca ?_ _)|(with_reducible refine cb ?_ _)|(with_reducible refine cc ?_))) hb) (mask_far (by decide) HR0.out (IsS56.ge HI337.out)))) (HC1.out) ((mask_C 0 (cl (w:=w27) (by repeat (first|exact (cl HR1.out HB.out)|(with_reducible refine ca ?_ _)|(with_reducible refine cb ?_ _)|(with_reducible refine cc ?_))) hb) (mask_far (by decide) HR1.out (IsS56.ge HI337.out)))))
     have hkm2_ : Kd.K k49 (maskW g337 w29) (⟨t338,t341⟩ : S49) [.slice Ao23 t338.length co23,.slice Ao22 t341.length co22]:=(k49_mk (maskW g337 w29) (⟨t338,t341⟩ : S49) ((rd_ HO340.out).2.1) ((mask_C 0 (cl (w:=w27) (by repeat (first|exact (rd_ HO340.out).2.2|(with_reducible refine ca ?_ _)|(with_reducible refine cb ?_ _)|(with_reducible refine cc ?_))) hb) (far_slice (IsS56.own_ne HI337.out HO340.out (by decide))))) ((rd_ HO343.out).2.1) ((mask_C 0 (cl (w:=w27) (by repeat (first|exact (rd_ HO343.out).2.2|(with_reducible refine ca ?_ _)|(with_reducible refine cb ?_ _)|(with_reducible refine cc ?_))) hb) (far_slice (IsS56.own_ne HI337.out HO343.out (by decide))))))
     have hkm3_ : Kd.K k49 (maskW g337 w29) (⟨t338,t351⟩ : S49) [.slice Ao23 t338.length co23,.slice Ao26 t351.length co26]:=(k49_mk (maskW g337 w29) (⟨t338,t351⟩ : S49) ((rd_ HO340.out).2.1) ((mask_C 0 (cl (w:=w27) (by repeat (first|exact (rd_ HO340.out).2.2|(with_reducible refine ca ?_ _)|(with_reducible refine cb ?_ _)|(with_reducible refine cc ?_))) hb) (far_slice (IsS56.own_ne HI337.out HO340.out (by decide))))) ((rd_ HO353.out).2.1) ((mask_C 0 (cl (w:=w27) (by repeat (first|exact (rd_ HO353.out).2.2|(with_reducible refine ca ?_ _)|(with_reducible refine cb ?_ _)|(with_reducible refine cc ?_))) hb) (far_slice (IsS56.own_ne HI337.out HO353.out (by decide))))))
     have hkm4_ : Kd.K k49 (maskW g337 w29) (⟨t355,t341⟩ : S49) [.slice Ao28 t355.length co28,.slice Ao22 t341.length co22]:=(k49_mk (maskW g337 w29) (⟨t355,t341⟩ : S49) ((rd_ HO357.out).2.1) ((mask_C 0 (cl (w:=w27) (by repeat (first|exact (rd_ HO357.out).2.2|(with_reducible refine ca ?_ _)|(with_reducible refine cb ?_ _)|(with_reducible refine cc ?_))) hb) (far_slice (IsS56.own_ne HI337.out HO357.out (by decide))))) ((rd_ HO343.out).2.1) ((mask_C 0 (cl (w:=w27) (by repeat (first|exact (rd_ HO343.out).2.2|(with_reducible refine ca ?_ _)|(with_reducible refine cb ?_ _)|(with_reducible refine cc ?_))) hb) (far_slice (IsS56.own_ne HI337.out HO343.out (by decide))))))
     have hkm5_ : Kd.K k49 (maskW g337 w29) (⟨t338,l1⟩ : S49) [.slice Ao23 t338.length co23,.slice A1 l1.length c1]:=(k49_mk (maskW g337 w29) (⟨t338,l1⟩ : S49) ((rd_ HO340.out).2.1) ((mask_C 0 (cl (w:=w27) (by repeat (first|exact (rd_ HO340.out).2.2|(with_reducible refine ca ?_ _)|(with_reducible refine cb ?_ _)|(with_reducible refine cc ?_))) hb) (far_slice (IsS56.own_ne HI337.out HO340.out (by decide))))) (HC1.out) ((mask_C 0 (cl (w:=w27) (by repeat (first|exact (cl HR1.out HB.out)|(with_reducible refine ca ?_ _)|(with_reducible refine cb ?_ _)|(with_reducible refine cc ?_))) hb) (mask_far (by decide) HR1.out (IsS56.ge HI337.out)))))
     have hq1_:=rd_ HO340.out
     have hq2_:=Kd.C_drop (m:=(1 : Int).toNat) (c:=co23) hq1_.2.2 KL24.out hq1_.2.1
     rw [show (t338).drop (1 : Int).toNat = y359 from Ny359.out.symm] at hq2_
     replace hq2_ : Kd.C (Kd.int .i64) w27 A24 y359.length y359:=(by rw [KA24.out];exact hq2_)
     have hkm6_ : Kd.K k49 (maskW g337 w29) (⟨y359,t341⟩ : S49) [.slice A24 y359.length c24,.slice Ao22 t341.length co22]:=(k49_mk (maskW g337 w29) (⟨y359,t341⟩ : S49) (HC362.out) ((mask_C 0 (cl (w:=w27) hq2_ hb) (far_drop KA24.out (far_slice (IsS56.own_ne HI337.out HO340.out (by decide))) (fun h_=>by have h2_:=congrArg List.length Ny359.out;rw [List.length_drop] at h2_;have h3_ : 0 < y359.length:=h_;omega)))) ((rd_ HO343.out).2.1) ((mask_C 0 (cl (w:=w27) (by repeat (first|exact (rd_ HO343.out).2.2|(with_reducible refine ca ?_ _)|(with_reducible refine cb ?_ _)|(with_reducible refine cc ?_))) hb) (far_slice (IsS56.own_ne HI337.out HO343.out (by decide))))))
     have hrep_:=(Reps.c2 hkm1_ (Reps.c2 hkm2_ (Reps.c2 hkm3_ (Reps.c2 hkm4_ (Reps.c2 hkm5_ (Reps.c2 hkm6_ (Reps.none _ _)))))))
     have hst_:=(IsS56.below (by repeat (first|(with_reducible first|exact HI337.out|apply IsS56.alloc|apply IsS56.drewN|apply IsS56.drew|apply IsS56.set_1)|exact HI337.out)) hb)
     obtain ⟨As_,cs_,hsb_,_,_⟩:=hst_
     have hC_:=lit_C k49 (xs:=y363) (mask_lit hk_ hsb_ (by decide)) (by rw [Ny363.out];exact hrep_) (by rw [Ny363.out];first|decide|simp)
     clear hsb_
     clear hk_ hrep_
     have n0_:=A_ (rw_ (by (with_reducible repeat (first|apply ra|apply rb|apply rc));exact HO340.out) hb)
     have n1_:=A_ (rw_ (by (with_reducible repeat (first|apply ra|apply rb|apply rc));exact HO343.out) hb)
     have n2_:=A_ (rw_ (by (with_reducible repeat (first|apply ra|apply rb|apply rc));exact HO349.out) hb)
     have n3_:=A_ (rw_ (by (with_reducible repeat (first|apply ra|apply rb|apply rc));exact HO353.out) hb)
     have n4_:=A_ (rw_ (by (with_reducible repeat (first|apply ra|apply rb|apply rc));exact HO357.out) hb)
     have n5_:=A_ (IsS56.below (by repeat (first|(with_reducible first|exact HI337.out|apply IsS56.alloc|apply IsS56.drewN|apply IsS56.drew|apply IsS56.set_1)|exact HI337.out)) hb)
     have n6_:=A_ (below_step (by repeat (first|(with_reducible first|exact HB.out|apply ba|apply bb|apply bc|refine below_set ?_ (IsS56.ge HI337.out))|exact HB.out)) hb)
     clear HO340
     clear HO343
     clear HO349
     clear HO353
     clear HO357
     clear HI337
     clear HB
     have HO340:=n0_
     have HO343:=n1_
     have HO349:=n2_
     have HO353:=n3_
     have HO357:=n4_
     have HI337:=n5_
     have HB:=n6_
     clear n0_ n1_ n2_ n3_ n4_ n5_ n6_
     have HR366:=A_ hC_
     have HKB:=A_ (KeepBut.refl w29 g337 none)
     have HC366:=A_ hlc_
     clear hC_ hlc_ hb
     refine hK.out _ _ trivial (fun hHeld=>?_)
     clear hK K
     refine norm_ (a':=?_) ?_ ?_
     rotate_left
     ·
      show Act.put _ (some 78) _ = _
      simp only [Act.put,sa,sb,sc,i64_w,i32_w]
      rfl
     refine pure_ (i:=24) (N:=some 79) (v:=?_) (a':=?_) #[true,true,true,true,true,true,true,true,true,true,true,true,true,true,true,true,true,true,true,true,true,true,true,true,true,true] rfl rfl (any_of HT_.out (by kernel_rfl)) (fun _ _ _ h=>h) (Or.inl ⟨by rfl,?_⟩) ?_ ?_
     rotate_left
     ·
      intro w'
      go_simp
      with_reducible rfl
     rotate_left
     ·
      simp only [Act.put,sa,sb,sc,i64_w,i32_w]
      rfl
     refine done_ (done_of HT_.out (by kernel_rfl)) ?_
     try go_wp2
     go_loopg [80] kj4 (fun kq v80 w'=>∃ (x80_2 : Int) (x338001_2 : Int),v80 = .int .i64 x80_2∧Aside0 (shapesearchlaw12_EuclidAnswers.l0 kq l1 a2 t347 y363 (y363.length : Int) x80_2 t335 x338001_2 = some r)∧Aside0 (kq ≤ kj4)∧Aside0 (Kd.R (Kd.int .i64) 3 w' w.heap.size (fun _=>True) v348 t347)∧Aside0 (IsS56 w w' g337 t335 x338001_2)∧Aside0 (Below w.heap.size w w')∧Aside0 (KeepBut w29 w' g337 none))
     case atStart=>exact ⟨(0),(t358),(by first|rfl|(simp;done)|(simp [*];done)),H',⟨Nat.le_refl _⟩,⟨by (with_reducible repeat (first|apply ra|apply rb|apply rc));exact rm HO349.out (fun _ hk=>trivial)⟩,⟨by repeat (first|(with_reducible first|exact HI337.out|apply IsS56.alloc|apply IsS56.drewN|apply IsS56.drew|apply IsS56.set_1)|exact HI337.out)⟩,⟨by repeat (first|(with_reducible first|exact HB.out|apply ba|apply bb|apply bc|refine below_set ?_ (IsS56.ge HI337.out))|exact HB.out)⟩,⟨by repeat (first|(with_reducible first|exact HKB.out|apply KeepBut.set_|apply keep_drewN|apply keep_drew|apply keep_alloc|refine keep_far ?_ GEKa.out _|refine keep_far ?_ GEKb.out _|refine keep_far ?_ GEKc.out _)|exact HKB.out)⟩⟩
     case round =>
      clear H'
      try clear c1
      try clear c2
      try clear p2
      try clear q2
      try clear c3
      try clear c6
      try clear c6b0
      try clear c6b1
      try clear c7
      try clear c8
      try clear c9
      try clear c10
      try clear c15
      try clear c16
      try clear c16b0
      try clear c16b1
      try clear c20
      try clear c23
      try clear c24
      try clear q24
      try clear p2
      try clear q24
      obtain ⟨x80_2,x338001_2,rfl,HA,HK2,HO_12,HI337,HB,HKB⟩:=hrel
      cases gk with
      | zero=>exact absurd HA.out (by simp [shapesearchlaw12_EuclidAnswers.l0])
      | succ k2 =>
       have H:=HA.out
       clear HA
       simp only [shapesearchlaw12_EuclidAnswers.l0] at H
       by_cases c31 : x80_2 < (y363.length : Int)
       ·
        rw [if_pos c31] at H
        have c31b0 : decide (x80_2 < (y363.length : Int)) = true:=decide_eq_true c31
        clear c31
        by_cases c32 : 0 ≤ x80_2
        ·
         rw [if_pos c32] at H
         have c32b0 : decide (0 ≤ x80_2) = true:=decide_eq_true c32
         clear c32
         by_cases c33 : x80_2 < (y363.length : Int)
         ·
          rw [if_pos c33] at H
          have c33b0 : decide (x80_2 < (y363.length : Int)) = true:=decide_eq_true c33
          clear c33
          replace H:=Option.bind_eq_some_iff.mp H
          obtain ⟨⟨t370,t371⟩,A340,H⟩:=H
          replace H : ((shapesearchref12_Distance.f k2 ((rd_T49 y363 x80_2).f0) ((rd_T49 y363 x80_2).f1)).bind fun bt372=>((euclid_Shifted.f k2 ((rd_T49 y363 x80_2).f0) ((rd_T49 y363 x80_2).f1)).bind fun bt374=>((shapesearchref12_Shifted.f k2 ((rd_T49 y363 x80_2).f0) ((rd_T49 y363 x80_2).f1)).bind fun bt378=>(if t370 = bt372.1 then (if t371 = bt372.2 then (if (!(bt374.1 == bt378.1) || (!(bt374.2.1 == bt378.2.1))) = true then (shapesearchlaw12_EuclidAnswers.j2 k2 l1 a2 t347 bt372.1 y363 (y363.length : Int) x80_2 true t335 x338001_2 ((rd_T49 y363 x80_2).f0) ((rd_T49 y363 x80_2).f1)) else (shapesearchlaw12_EuclidAnswers.j2 k2 l1 a2 t347 bt372.1 y363 (y363.length : Int) x80_2 (bt374.2.2 != bt378.2.2) t335 x338001_2 ((rd_T49 y363 x80_2).f0) ((rd_T49 y363 x80_2).f1))) else (shapesearchlaw12_EuclidAnswers.j2 k2 l1 a2 t347 bt372.1 y363 (y363.length : Int) x80_2 true t335 x338001_2 ((rd_T49 y363 x80_2).f0) ((rd_T49 y363 x80_2).f1))) else (shapesearchlaw12_EuclidAnswers.j2 k2 l1 a2 t347 bt372.1 y363 (y363.length : Int) x80_2 true t335 x338001_2 ((rd_T49 y363 x80_2).f0) ((rd_T49 y363 x80_2).f1)))))) = some r:=H
          have A34:=A_ A340
          clear A340
          replace H:=Option.bind_eq_some_iff.mp H
          obtain ⟨⟨t372,t373⟩,A350,H⟩:=H
          replace H : ((euclid_Shifted.f k2 ((rd_T49 y363 x80_2).f0) ((rd_T49 y363 x80_2).f1)).bind fun bt374=>((shapesearchref12_Shifted.f k2 ((rd_T49 y363 x80_2).f0) ((rd_T49 y363 x80_2).f1)).bind fun bt378=>(if t370 = t372 then (if t371 = t373 then (if (!(bt374.1 == bt378.1) || (!(bt374.2.1 == bt378.2.1))) = true then (shapesearchlaw12_EuclidAnswers.j2 k2 l1 a2 t347 t372 y363 (y363.length : Int) x80_2 true t335 x338001_2 ((rd_T49 y363 x80_2).f0) ((rd_T49 y363 x80_2).f1)) else (shapesearchlaw12_EuclidAnswers.j2 k2 l1 a2 t347 t372 y363 (y363.length : Int) x80_2 (bt374.2.2 != bt378.2.2) t335 x338001_2 ((rd_T49 y363 x80_2).f0) ((rd_T49 y363 x80_2).f1))) else (shapesearchlaw12_EuclidAnswers.j2 k2 l1 a2 t347 t372 y363 (y363.length : Int) x80_2 true t335 x338001_2 ((rd_T49 y363 x80_2).f0) ((rd_T49 y363 x80_2).f1))) else (shapesearchlaw12_EuclidAnswers.j2 k2 l1 a2 t347 t372 y363 (y363.length : Int) x80_2 true t335 x338001_2 ((rd_T49 y363 x80_2).f0) ((rd_T49 y363 x80_2).f1))))) = some r:=H
          have A35:=A_ A350
          clear A350
          replace H:=Option.bind_eq_some_iff.mp H
          obtain ⟨⟨t374,t375,t376⟩,A360,H⟩:=H
          replace H : ((shapesearchref12_Shifted.f k2 ((rd_T49 y363 x80_2).f0) ((rd_T49 y363 x80_2).f1)).bind fun bt378=>(if t370 = t372 then (if t371 = t373 then (if (!(t374 == bt378.1) || (!(t375 == bt378.2.1))) = true then (shapesearchlaw12_EuclidAnswers.j2 k2 l1 a2 t347 t372 y363 (y363.length : Int) x80_2 true t335 x338001_2 ((rd_T49 y363 x80_2).f0) ((rd_T49 y363 x80_2).f1)) else (shapesearchlaw12_EuclidAnswers.j2 k2 l1 a2 t347 t372 y363 (y363.length : Int) x80_2 (t376 != bt378.2.2) t335 x338001_2 ((rd_T49 y363 x80_2).f0) ((rd_T49 y363 x80_2).f1))) else (shapesearchlaw12_EuclidAnswers.j2 k2 l1 a2 t347 t372 y363 (y363.length : Int) x80_2 true t335 x338001_2 ((rd_T49 y363 x80_2).f0) ((rd_T49 y363 x80_2).f1))) else (shapesearchlaw12_EuclidAnswers.j2 k2 l1 a2 t347 t372 y363 (y363.length : Int) x80_2 true t335 x338001_2 ((rd_T49 y363 x80_2).f0) ((rd_T49 y363 x80_2).f1)))) = some r:=H
          have A36:=A_ A360
          clear A360
          replace H:=Option.bind_eq_some_iff.mp H
          obtain ⟨⟨t378,t379,t380⟩,A370,H⟩:=H
          replace H : (if t370 = t372 then (if t371 = t373 then (if (!(t374 == t378) || (!(t375 == t379))) = true then (shapesearchlaw12_EuclidAnswers.j2 k2 l1 a2 t347 t372 y363 (y363.length : Int) x80_2 true t335 x338001_2 ((rd_T49 y363 x80_2).f0) ((rd_T49 y363 x80_2).f1)) else (shapesearchlaw12_EuclidAnswers.j2 k2 l1 a2 t347 t372 y363 (y363.length : Int) x80_2 (t376 != t380) t335 x338001_2 ((rd_T49 y363 x80_2).f0) ((rd_T49 y363 x80_2).f1))) else (shapesearchlaw12_EuclidAnswers.j2 k2 l1 a2 t347 t372 y363 (y363.length : Int) x80_2 true t335 x338001_2 ((rd_T49 y363 x80_2).f0) ((rd_T49 y363 x80_2).f1))) else (shapesearchlaw12_EuclidAnswers.j2 k2 l1 a2 t347 t372 y363 (y363.length : Int) x80_2 true t335 x338001_2 ((rd_T49 y363 x80_2).f0) ((rd_T49 y363 x80_2).f1))) = some r:=H
          have A37:=A_ A370
          clear A370
          have HC38:=A_ H
          clear H
          have p368 : 0 ≤ (x80_2 : Int):=of_decide_eq_true (by first|(with_reducible assumption)|assumption)
          have q368 : x80_2 < (y363.length : Int):=of_decide_eq_true (by first|(with_reducible assumption)|assumption)
          obtain ⟨ad368,A368_0,c368_0,A368_1,c368_1,e368,hx368_0,hx368_1,hl368_0,hi368_0,hl368_1,hi368_1⟩:=at_T49 HR366.out x80_2 p368 q368
          cases e368
          replace hx368_0:=unmask_cell HKB.out hx368_0
          replace hx368_1:=unmask_cell HKB.out hx368_1
          have HR368_0:=A_ hi368_0
          have HC368_0:=A_ hl368_0
          clear hi368_0 hl368_0
          have HR368_1:=A_ hi368_1
          have HC368_1:=A_ hl368_1
          clear hi368_1 hl368_1
          replace p368:=eq_true p368
          replace q368:=eq_true q368
          go_upto_region 13 with (first|((with_reducible refine gate_dst (N:=14) rfl ?_);(try (refine gate_guard (by rfl) ?_;dsimp only));refine box_event ?hg (N:=14) ?hd (cs:=#[.slice none 0 0,.slice none 0 0]) (t:=49) ?hr ?_;(case hd=>rfl);(case hg=>rfl);(case hr=>first|(go_simp;done)|(go_simp;rfl));intro gb369 hg w39 hbox hb;have n0_:=A_ (rw_ (by (with_reducible repeat (first|apply ra|apply rb|apply rc));exact HO_12.out) hb);have n1_:=A_ (IsS56.below (by repeat (first|(with_reducible first|exact HI337.out|apply IsS56.alloc|apply IsS56.drewN|apply IsS56.drew|apply IsS56.set_1)|exact HI337.out)) hb);have n2_:=A_ (below_step (by repeat (first|(with_reducible first|exact HB.out|apply ba|apply bb|apply bc|refine below_set ?_ (IsS56.ge HI337.out))|exact HB.out)) hb);have nk_:=A_ (KeepBut.trans (by repeat (first|(with_reducible first|exact HKB.out|apply KeepBut.set_|apply keep_drewN|apply keep_drew|apply keep_alloc|refine keep_far ?_ GEKa.out _|refine keep_far ?_ GEKb.out _|refine keep_far ?_ GEKc.out _)|exact HKB.out)) (KeepBut.of_below hb g337 none) (.inl rfl));have n3_:=A_ (hbox);have n4_:=A_ ((by rw [hg];exact (below_size (by repeat (first|(with_reducible first|exact HB.out|apply ba|apply bb|apply bc|refine below_set ?_ (IsS56.ge HI337.out))|exact HB.out))) : w.heap.size ≤ gb369));have nqa_:=A_ ((by rw [hg];exact keep_size (w:=w29) (g:=g337) (row:=none) (by repeat (first|(with_reducible first|exact HKB.out|apply KeepBut.set_|apply keep_drewN|apply keep_drew|apply keep_alloc|refine keep_far ?_ GEKa.out _|refine keep_far ?_ GEKb.out _|refine keep_far ?_ GEKc.out _)|exact HKB.out))) : w29.heap.size ≤ gb369);have n5_:=A_ ((by rw [hg];exact (below_size (by repeat (first|(with_reducible first|exact HB.out|apply ba|apply bb|apply bc|refine below_set ?_ (IsS56.ge HI337.out))|exact HB.out))) : w.heap.size ≤ gb369));have nqa_:=A_ ((by rw [hg];exact keep_size (w:=w29) (g:=g337) (row:=none) (by repeat (first|(with_reducible first|exact HKB.out|apply KeepBut.set_|apply keep_drewN|apply keep_drew|apply keep_alloc|refine keep_far ?_ GEKa.out _|refine keep_far ?_ GEKb.out _|refine keep_far ?_ GEKc.out _)|exact HKB.out))) : w29.heap.size ≤ gb369);have n6_:=A_ ((by rw [hg];exact Nat.ne_of_lt (IsS56.lt (show IsS56 w _ g337 t335 x338001_2 from by repeat (first|(with_reducible first|exact HI337.out|apply IsS56.alloc|apply IsS56.drewN|apply IsS56.drew|apply IsS56.set_1)|exact HI337.out))) : g337≠gb369));have n7_:=A_ ((by rw [hg];exact Nat.ne_of_gt (IsS56.lt (show IsS56 w _ g337 t335 x338001_2 from by repeat (first|(with_reducible first|exact HI337.out|apply IsS56.alloc|apply IsS56.drewN|apply IsS56.drew|apply IsS56.set_1)|exact HI337.out))) : gb369≠g337));clear HO_12;clear HI337;clear HB;clear HKB;have HO_12:=n0_;have HI337:=n1_;have HB:=n2_;have HKB:=nk_;have BK369:=n3_;have GW369:=n4_;have GE369:=n5_;have GEKa:=nqa_;have NB337_369:=n6_;have NB369_337:=n7_;clear n0_ n1_ n2_ n3_ n4_ n5_ n6_ n7_;(try clear nk_);(try clear nqa_);(try clear nqb_);(try clear nqc_);clear hb hbox hg;have hnb40:=NB369_337.out;have hnc40:=NB337_369.out;have hcz41_0 : w39.cell? ⟨gb369,0,none⟩ = some (.slice none 0 0):=(blk_cell BK369.out 0).trans rfl;have hcz41_1 : w39.cell? ⟨gb369,1,none⟩ = some (.slice none 0 0):=(blk_cell BK369.out 1).trans rfl;have hfz41_0:=blk_frozen BK369.out 0;have hfz41_1:=blk_frozen BK369.out 1)|((with_reducible refine gate_callee (f:=12) rfl ?_);refine goesL_ (some 89) rfl rfl Try.func12 (by kernel_rfl) rfl #[.slice A368_0 ((rd_T49 y363 x80_2).f0).length c368_0,.slice A368_1 ((rd_T49 y363 x80_2).f1).length c368_1] rfl (by (try simp only [List.map_toArray,List.map_cons,List.map_nil]);first|done|rfl|(simp only [List.length_drop,List.length_take];rfl)|((try rw [KY24.out]);rfl)) ?_;(with_reducible refine (euclid_Distance.calls k2 _ _ ((rd_T49 y363 x80_2).f0) _ _ ((rd_T49 y363 x80_2).f1) t370 t371 _ ?side1 ?side2 ?side3 ?side4 A34.out).mono ?_);(case side1=>exact unmask_C HR368_0.out (by repeat (first|(with_reducible first|exact HKB.out|apply KeepBut.set_|apply keep_drewN|apply keep_drew|apply keep_alloc|refine keep_far ?_ GEKa.out _|refine keep_far ?_ GEKb.out _|refine keep_far ?_ GEKc.out _)|exact HKB.out)));(case side2=>exact HC368_0.out);(case side3=>exact unmask_C HR368_1.out (by repeat (first|(with_reducible first|exact HKB.out|apply KeepBut.set_|apply keep_drewN|apply keep_drew|apply keep_alloc|refine keep_far ?_ GEKa.out _|refine keep_far ?_ GEKb.out _|refine keep_far ?_ GEKc.out _)|exact HKB.out)));(case side4=>exact HC368_1.out);rintro e w' ⟨rfl,⟨nd,rfl⟩⟩;refine ⟨_,rfl,?_⟩)|((with_reducible refine gate_callee (f:=25) rfl ?_);refine goesL_ (some 97) rfl rfl Try.func25 (by kernel_rfl) rfl #[.slice A368_0 ((rd_T49 y363 x80_2).f0).length c368_0,.slice A368_1 ((rd_T49 y363 x80_2).f1).length c368_1] rfl (by (try simp only [List.map_toArray,List.map_cons,List.map_nil]);first|done|rfl|(simp only [List.length_drop,List.length_take];rfl)|((try rw [KY24.out]);rfl)) ?_;(with_reducible refine (shapesearchref12_Distance.calls k2 _ _ ((rd_T49 y363 x80_2).f0) _ _ ((rd_T49 y363 x80_2).f1) t372 t373 _ ?side1 ?side2 ?side3 ?side4 A35.out).mono ?_);(case side1=>exact unmask_C HR368_0.out (by repeat (first|(with_reducible first|exact HKB.out|apply KeepBut.set_|apply keep_drewN|apply keep_drew|apply keep_alloc|refine keep_far ?_ GEKa.out _|refine keep_far ?_ GEKb.out _|refine keep_far ?_ GEKc.out _)|exact HKB.out)));(case side2=>exact HC368_0.out);(case side3=>exact unmask_C HR368_1.out (by repeat (first|(with_reducible first|exact HKB.out|apply KeepBut.set_|apply keep_drewN|apply keep_drew|apply keep_alloc|refine keep_far ?_ GEKa.out _|refine keep_far ?_ GEKb.out _|refine keep_far ?_ GEKc.out _)|exact HKB.out)));(case side4=>exact HC368_1.out);rintro e w' ⟨rfl,⟨nd,rfl⟩⟩;refine ⟨_,rfl,?_⟩)|((with_reducible refine gate_callee (f:=16) rfl ?_);refine goesL_ (some 105) rfl rfl Try.func16 (by kernel_rfl) rfl #[.slice A368_0 ((rd_T49 y363 x80_2).f0).length c368_0,.slice A368_1 ((rd_T49 y363 x80_2).f1).length c368_1] rfl (by (try simp only [List.map_toArray,List.map_cons,List.map_nil]);first|done|rfl|(simp only [List.length_drop,List.length_take];rfl)|((try rw [KY24.out]);rfl)) ?_;(with_reducible refine (euclid_Shifted.calls k2 _ _ ((rd_T49 y363 x80_2).f0) _ _ ((rd_T49 y363 x80_2).f1) t374 t375 t376 _ ?side1 ?side2 ?side3 ?side4 A36.out).mono ?_);(case side1=>exact unmask_C HR368_0.out (by repeat (first|(with_reducible first|exact HKB.out|apply KeepBut.set_|apply keep_drewN|apply keep_drew|apply keep_alloc|refine keep_far ?_ GEKa.out _|refine keep_far ?_ GEKb.out _|refine keep_far ?_ GEKc.out _)|exact HKB.out)));(case side2=>exact HC368_0.out);(case side3=>exact unmask_C HR368_1.out (by repeat (first|(with_reducible first|exact HKB.out|apply KeepBut.set_|apply keep_drewN|apply keep_drew|apply keep_alloc|refine keep_far ?_ GEKa.out _|refine keep_far ?_ GEKb.out _|refine keep_far ?_ GEKc.out _)|exact HKB.out)));(case side4=>exact HC368_1.out);rintro e w42 ⟨rfl,hb⟩;refine ⟨_,rfl,?_⟩;have n0_:=A_ (rw_ (by (with_reducible repeat (first|apply ra|apply rb|apply rc));exact (rm (Kd.R_far (p:=⟨gb369,1,none⟩) (Kd.R_far (p:=⟨gb369,0,none⟩) (Kd.R_types HO_12.out BK369.out (by decide)) (fun _ hk=>hk.2) (.slice A368_0 ((rd_T49 y363 x80_2).f0).length c368_0)) (fun _ hk=>hk.2) (.slice A368_1 ((rd_T49 y363 x80_2).f1).length c368_1)) (fun _ h_=>h_.1))) hb);have n1_:=A_ (IsS56.below (show IsS56 w _ g337 t335 x338001_2 from by repeat (first|(with_reducible first|exact HI337.out|apply IsS56.alloc|apply IsS56.drewN|apply IsS56.drew|apply IsS56.set_1|refine IsS56.far ?_ NB337_369.out _)|exact HI337.out)) hb);have n2_:=A_ (blk_below (g:=gb369) (o:=.cells #[.slice A368_0 ((rd_T49 y363 x80_2).f0).length c368_0,.slice A368_1 ((rd_T49 y363 x80_2).f1).length c368_1] 49 (0,0)) (by (with_reducible repeat (first|refine blk_drewN ?_ _|refine blk_drew ?_|refine blk_alloc ?_ _));refine blk_put (cs:=#[.slice A368_0 ((rd_T49 y363 x80_2).f0).length c368_0,.slice none 0 0]) ?_ 1 _ rfl;(with_reducible repeat (first|refine blk_drewN ?_ _|refine blk_drew ?_|refine blk_alloc ?_ _));refine blk_put (cs:=#[.slice none 0 0,.slice none 0 0]) ?_ 0 _ rfl;(with_reducible repeat (first|refine blk_drewN ?_ _|refine blk_drew ?_|refine blk_alloc ?_ _));exact BK369.out) hb);have n3_:=A_ (below_step (by repeat (first|(with_reducible first|exact HB.out|apply ba|apply bb|apply bc|refine below_set ?_ (IsS56.ge HI337.out)|refine below_set ?_ GE369.out)|exact HB.out)) hb);have nk_:=A_ (KeepBut.trans (by repeat (first|(with_reducible first|exact HKB.out|apply KeepBut.set_|apply keep_drewN|apply keep_drew|apply keep_alloc|refine keep_far ?_ GEKa.out _|refine keep_far ?_ GEKb.out _|refine keep_far ?_ GEKc.out _)|exact HKB.out)) (KeepBut.of_below hb g337 none) (.inl rfl));clear HO_12;clear HI337;clear BK369;clear HB;clear HKB;have HO_12:=n0_;have HI337:=n1_;have BK369:=n2_;have HB:=n3_;have HKB:=nk_;clear n0_ n1_ n2_ n3_;(try clear nk_);(try clear nqa_);(try clear nqb_);(try clear nqc_);(try clear hb);(try clear hb2);(try clear hk);(try clear hi))|((with_reducible refine gate_dst (N:=19) rfl ?_);(try (refine gate_guard (by rfl) ?_;dsimp only));refine box_event ?hg (N:=19) ?hd (cs:=#[.int .i64 0,.int .i64 0]) (t:=37) ?hr ?_;(case hd=>rfl);(case hg=>rfl);(case hr=>first|(go_simp;done)|(go_simp;rfl));intro gb377 hg w43 hbox hb;have n0_:=A_ (rw_ (by (with_reducible repeat (first|apply ra|apply rb|apply rc));exact HO_12.out) hb);have n1_:=A_ (IsS56.below (by repeat (first|(with_reducible first|exact HI337.out|apply IsS56.alloc|apply IsS56.drewN|apply IsS56.drew|apply IsS56.set_1|refine IsS56.far ?_ NB337_369.out _)|exact HI337.out)) hb);have n2_:=A_ (blk_below (g:=gb369) (o:=.cells #[.slice A368_0 ((rd_T49 y363 x80_2).f0).length c368_0,.slice A368_1 ((rd_T49 y363 x80_2).f1).length c368_1] 49 (0,0)) (by (with_reducible repeat (first|refine blk_drewN ?_ _|refine blk_drew ?_|refine blk_alloc ?_ _));exact BK369.out) hb);have n3_:=A_ (below_step (by repeat (first|(with_reducible first|exact HB.out|apply ba|apply bb|apply bc|refine below_set ?_ (IsS56.ge HI337.out)|refine below_set ?_ GE369.out)|exact HB.out)) hb);have nk_:=A_ (KeepBut.trans (by repeat (first|(with_reducible first|exact HKB.out|apply KeepBut.set_|apply keep_drewN|apply keep_drew|apply keep_alloc|refine keep_far ?_ GEKa.out _|refine keep_far ?_ GEKb.out _|refine keep_far ?_ GEKc.out _)|exact HKB.out)) (KeepBut.of_below hb g337 none) (.inl rfl));have n4_:=A_ (hbox);have n5_:=A_ ((by rw [hg];exact (below_size (by repeat (first|(with_reducible first|exact HB.out|apply ba|apply bb|apply bc|refine below_set ?_ (IsS56.ge HI337.out)|refine below_set ?_ GE369.out)|exact HB.out))) : w.heap.size ≤ gb377));have nqb_:=A_ ((by rw [hg];exact keep_size (w:=w29) (g:=g337) (row:=none) (by repeat (first|(with_reducible first|exact HKB.out|apply KeepBut.set_|apply keep_drewN|apply keep_drew|apply keep_alloc|refine keep_far ?_ GEKa.out _|refine keep_far ?_ GEKb.out _|refine keep_far ?_ GEKc.out _)|exact HKB.out))) : w29.heap.size ≤ gb377);have n6_:=A_ ((by rw [hg];exact (below_size (by repeat (first|(with_reducible first|exact HB.out|apply ba|apply bb|apply bc|refine below_set ?_ (IsS56.ge HI337.out)|refine below_set ?_ GE369.out)|exact HB.out))) : w.heap.size ≤ gb377));have nqb_:=A_ ((by rw [hg];exact keep_size (w:=w29) (g:=g337) (row:=none) (by repeat (first|(with_reducible first|exact HKB.out|apply KeepBut.set_|apply keep_drewN|apply keep_drew|apply keep_alloc|refine keep_far ?_ GEKa.out _|refine keep_far ?_ GEKb.out _|refine keep_far ?_ GEKc.out _)|exact HKB.out))) : w29.heap.size ≤ gb377);have n7_:=A_ ((by rw [hg];exact Nat.ne_of_lt (blk_lt (g:=gb369) (o:=.cells #[.slice A368_0 ((rd_T49 y363 x80_2).f0).length c368_0,.slice A368_1 ((rd_T49 y363 x80_2).f1).length c368_1] 49 (0,0)) (by (with_reducible repeat (first|refine blk_drewN ?_ _|refine blk_drew ?_|refine blk_alloc ?_ _));exact BK369.out)) : gb369≠gb377));have n8_:=A_ ((by rw [hg];exact Nat.ne_of_gt (blk_lt (g:=gb369) (o:=.cells #[.slice A368_0 ((rd_T49 y363 x80_2).f0).length c368_0,.slice A368_1 ((rd_T49 y363 x80_2).f1).length c368_1] 49 (0,0)) (by (with_reducible repeat (first|refine blk_drewN ?_ _|refine blk_drew ?_|refine blk_alloc ?_ _));exact BK369.out)) : gb377≠gb369));have n9_:=A_ ((by rw [hg];exact Nat.ne_of_lt (IsS56.lt (show IsS56 w _ g337 t335 x338001_2 from by repeat (first|(with_reducible first|exact HI337.out|apply IsS56.alloc|apply IsS56.drewN|apply IsS56.drew|apply IsS56.set_1|refine IsS56.far ?_ NB337_369.out _)|exact HI337.out))) : g337≠gb377));have n10_:=A_ ((by rw [hg];exact Nat.ne_of_gt (IsS56.lt (show IsS56 w _ g337 t335 x338001_2 from by repeat (first|(with_reducible first|exact HI337.out|apply IsS56.alloc|apply IsS56.drewN|apply IsS56.drew|apply IsS56.set_1|refine IsS56.far ?_ NB337_369.out _)|exact HI337.out))) : gb377≠g337));clear HO_12;clear HI337;clear BK369;clear HB;clear HKB;have HO_12:=n0_;have HI337:=n1_;have BK369:=n2_;have HB:=n3_;have HKB:=nk_;have BK377:=n4_;have GW377:=n5_;have GE377:=n6_;have GEKb:=nqb_;have NB369_377:=n7_;have NB377_369:=n8_;have NB337_377:=n9_;have NB377_337:=n10_;clear n0_ n1_ n2_ n3_ n4_ n5_ n6_ n7_ n8_ n9_ n10_;(try clear nk_);(try clear nqa_);(try clear nqb_);(try clear nqc_);clear hb hbox hg;have hnb44:=NB377_369.out;have hnc44:=NB369_377.out;have hnb45:=NB377_337.out;have hnc45:=NB337_377.out;have hcz46_0 : w43.cell? ⟨gb377,0,none⟩ = some (.int .i64 0):=(blk_cell BK377.out 0).trans rfl;have hcz46_1 : w43.cell? ⟨gb377,1,none⟩ = some (.int .i64 0):=(blk_cell BK377.out 1).trans rfl;have hfz46_0:=blk_frozen BK377.out 0;have hfz46_1:=blk_frozen BK377.out 1;have hcz47_0 : w43.cell? ⟨gb369,0,none⟩ = some (.slice A368_0 ((rd_T49 y363 x80_2).f0).length c368_0):=(blk_cell BK369.out 0).trans rfl;have hcz47_1 : w43.cell? ⟨gb369,1,none⟩ = some (.slice A368_1 ((rd_T49 y363 x80_2).f1).length c368_1):=(blk_cell BK369.out 1).trans rfl;have hfz47_0:=blk_frozen BK369.out 0;have hfz47_1:=blk_frozen BK369.out 1)|((with_reducible refine gate_callee (f:=26) rfl ?_);refine goesL_ (some 113) rfl rfl Try.func26 (by kernel_rfl) rfl #[.slice A368_0 ((rd_T49 y363 x80_2).f0).length c368_0,.slice A368_1 ((rd_T49 y363 x80_2).f1).length c368_1] rfl (by (try simp only [List.map_toArray,List.map_cons,List.map_nil]);first|done|rfl|(simp only [List.length_drop,List.length_take];rfl)|((try rw [KY24.out]);rfl)) ?_;(with_reducible refine (shapesearchref12_Shifted.calls k2 _ _ ((rd_T49 y363 x80_2).f0) _ _ ((rd_T49 y363 x80_2).f1) t378 t379 t380 _ ?side1 ?side2 ?side3 ?side4 A37.out).mono ?_);(case side1=>exact unmask_C HR368_0.out (by repeat (first|(with_reducible first|exact HKB.out|apply KeepBut.set_|apply keep_drewN|apply keep_drew|apply keep_alloc|refine keep_far ?_ GEKa.out _|refine keep_far ?_ GEKb.out _|refine keep_far ?_ GEKc.out _)|exact HKB.out)));(case side2=>exact HC368_0.out);(case side3=>exact unmask_C HR368_1.out (by repeat (first|(with_reducible first|exact HKB.out|apply KeepBut.set_|apply keep_drewN|apply keep_drew|apply keep_alloc|refine keep_far ?_ GEKa.out _|refine keep_far ?_ GEKb.out _|refine keep_far ?_ GEKc.out _)|exact HKB.out)));(case side4=>exact HC368_1.out);rintro e w48 ⟨rfl,hb⟩;refine ⟨_,rfl,?_⟩;have n0_:=A_ (rw_ (by (with_reducible repeat (first|apply ra|apply rb|apply rc));exact (rm (Kd.R_far (p:=⟨gb377,1,none⟩) (Kd.R_far (p:=⟨gb377,0,none⟩) (Kd.R_types HO_12.out BK377.out (by decide)) (fun _ hk=>hk.2) (.int .i64 t374)) (fun _ hk=>hk.2) (.int .i64 t375)) (fun _ h_=>h_.1))) hb);have n1_:=A_ (IsS56.below (show IsS56 w ((w43.setCell ⟨gb377,0,none⟩ (.int .i64 t374)).setCell ⟨gb377,1,none⟩ (.int .i64 t375)) g337 t335 x338001_2 from by repeat (first|(with_reducible first|exact HI337.out|apply IsS56.alloc|apply IsS56.drewN|apply IsS56.drew|apply IsS56.set_1|refine IsS56.far ?_ NB337_369.out _|refine IsS56.far ?_ NB337_377.out _)|exact HI337.out)) hb);have n2_:=A_ (blk_below (g:=gb369) (o:=.cells #[.slice A368_0 ((rd_T49 y363 x80_2).f0).length c368_0,.slice A368_1 ((rd_T49 y363 x80_2).f1).length c368_1] 49 (0,0)) (by (with_reducible repeat (first|refine blk_drewN ?_ _|refine blk_drew ?_|refine blk_alloc ?_ _));refine blk_far ?_ NB369_377.out _;(with_reducible repeat (first|refine blk_drewN ?_ _|refine blk_drew ?_|refine blk_alloc ?_ _));refine blk_far ?_ NB369_377.out _;(with_reducible repeat (first|refine blk_drewN ?_ _|refine blk_drew ?_|refine blk_alloc ?_ _));exact BK369.out) hb);have n3_:=A_ (blk_below (g:=gb377) (o:=.cells #[.int .i64 t374,.int .i64 t375] 37 (0,0)) (by (with_reducible repeat (first|refine blk_drewN ?_ _|refine blk_drew ?_|refine blk_alloc ?_ _));refine blk_put (cs:=#[.int .i64 t374,.int .i64 0]) ?_ 1 _ rfl;(with_reducible repeat (first|refine blk_drewN ?_ _|refine blk_drew ?_|refine blk_alloc ?_ _));refine blk_put (cs:=#[.int .i64 0,.int .i64 0]) ?_ 0 _ rfl;(with_reducible repeat (first|refine blk_drewN ?_ _|refine blk_drew ?_|refine blk_alloc ?_ _));exact BK377.out) hb);have n4_:=A_ (below_step (by repeat (first|(with_reducible first|exact HB.out|apply ba|apply bb|apply bc|refine below_set ?_ (IsS56.ge HI337.out)|refine below_set ?_ GE369.out|refine below_set ?_ GE377.out)|exact HB.out)) hb);have nk_:=A_ (KeepBut.trans (by repeat (first|(with_reducible first|exact HKB.out|apply KeepBut.set_|apply keep_drewN|apply keep_drew|apply keep_alloc|refine keep_far ?_ GEKa.out _|refine keep_far ?_ GEKb.out _|refine keep_far ?_ GEKc.out _)|exact HKB.out)) (KeepBut.of_below hb g337 none) (.inl rfl));clear HO_12;clear HI337;clear BK369;clear BK377;clear HB;clear HKB;have HO_12:=n0_;have HI337:=n1_;have BK369:=n2_;have BK377:=n3_;have HB:=n4_;have HKB:=nk_;clear n0_ n1_ n2_ n3_ n4_;(try clear nk_);(try clear nqa_);(try clear nqb_);(try clear nqc_);(try clear hb);(try clear hb2);(try clear hk);(try clear hi))|((with_reducible refine gate_dst (N:=21) rfl ?_);(try (refine gate_guard (by rfl) ?_;dsimp only));refine box_event ?hg (N:=21) ?hd (cs:=#[.int .i64 0,.int .i64 0]) (t:=37) ?hr ?_;(case hd=>rfl);(case hg=>rfl);(case hr=>first|(go_simp;done)|(go_simp;rfl));intro gb381 hg w49 hbox hb;have n0_:=A_ (rw_ (by (with_reducible repeat (first|apply ra|apply rb|apply rc));exact HO_12.out) hb);have n1_:=A_ (IsS56.below (by repeat (first|(with_reducible first|exact HI337.out|apply IsS56.alloc|apply IsS56.drewN|apply IsS56.drew|apply IsS56.set_1|refine IsS56.far ?_ NB337_369.out _|refine IsS56.far ?_ NB337_377.out _)|exact HI337.out)) hb);have n2_:=A_ (blk_below (g:=gb369) (o:=.cells #[.slice A368_0 ((rd_T49 y363 x80_2).f0).length c368_0,.slice A368_1 ((rd_T49 y363 x80_2).f1).length c368_1] 49 (0,0)) (by (with_reducible repeat (first|refine blk_drewN ?_ _|refine blk_drew ?_|refine blk_alloc ?_ _));exact BK369.out) hb);have n3_:=A_ (blk_below (g:=gb377) (o:=.cells #[.int .i64 t374,.int .i64 t375] 37 (0,0)) (by (with_reducible repeat (first|refine blk_drewN ?_ _|refine blk_drew ?_|refine blk_alloc ?_ _));exact BK377.out) hb);have n4_:=A_ (below_step (by repeat (first|(with_reducible first|exact HB.out|apply ba|apply bb|apply bc|refine below_set ?_ (IsS56.ge HI337.out)|refine below_set ?_ GE369.out|refine below_set ?_ GE377.out)|exact HB.out)) hb);have nk_:=A_ (KeepBut.trans (by repeat (first|(with_reducible first|exact HKB.out|apply KeepBut.set_|apply keep_drewN|apply keep_drew|apply keep_alloc|refine keep_far ?_ GEKa.out _|refine keep_far ?_ GEKb.out _|refine keep_far ?_ GEKc.out _)|exact HKB.out)) (KeepBut.of_below hb g337 none) (.inl rfl));have n5_:=A_ (hbox);have n6_:=A_ ((by rw [hg];exact (below_size (by repeat (first|(with_reducible first|exact HB.out|apply ba|apply bb|apply bc|refine below_set ?_ (IsS56.ge HI337.out)|refine below_set ?_ GE369.out|refine below_set ?_ GE377.out)|exact HB.out))) : w.heap.size ≤ gb381));have nqc_:=A_ ((by rw [hg];exact keep_size (w:=w29) (g:=g337) (row:=none) (by repeat (first|(with_reducible first|exact HKB.out|apply KeepBut.set_|apply keep_drewN|apply keep_drew|apply keep_alloc|refine keep_far ?_ GEKa.out _|refine keep_far ?_ GEKb.out _|refine keep_far ?_ GEKc.out _)|exact HKB.out))) : w29.heap.size ≤ gb381);have n7_:=A_ ((by rw [hg];exact (below_size (by repeat (first|(with_reducible first|exact HB.out|apply ba|apply bb|apply bc|refine below_set ?_ (IsS56.ge HI337.out)|refine below_set ?_ GE369.out|refine below_set ?_ GE377.out)|exact HB.out))) : w.heap.size ≤ gb381));have nqc_:=A_ ((by rw [hg];exact keep_size (w:=w29) (g:=g337) (row:=none) (by repeat (first|(with_reducible first|exact HKB.out|apply KeepBut.set_|apply keep_drewN|apply keep_drew|apply keep_alloc|refine keep_far ?_ GEKa.out _|refine keep_far ?_ GEKb.out _|refine keep_far ?_ GEKc.out _)|exact HKB.out))) : w29.heap.size ≤ gb381);have n8_:=A_ ((by rw [hg];exact Nat.ne_of_lt (blk_lt (g:=gb369) (o:=.cells #[.slice A368_0 ((rd_T49 y363 x80_2).f0).length c368_0,.slice A368_1 ((rd_T49 y363 x80_2).f1).length c368_1] 49 (0,0)) (by (with_reducible repeat (first|refine blk_drewN ?_ _|refine blk_drew ?_|refine blk_alloc ?_ _));exact BK369.out)) : gb369≠gb381));have n9_:=A_ ((by rw [hg];exact Nat.ne_of_gt (blk_lt (g:=gb369) (o:=.cells #[.slice A368_0 ((rd_T49 y363 x80_2).f0).length c368_0,.slice A368_1 ((rd_T49 y363 x80_2).f1).length c368_1] 49 (0,0)) (by (with_reducible repeat (first|refine blk_drewN ?_ _|refine blk_drew ?_|refine blk_alloc ?_ _));exact BK369.out)) : gb381≠gb369));have n10_:=A_ ((by rw [hg];exact Nat.ne_of_lt (blk_lt (g:=gb377) (o:=.cells #[.int .i64 t374,.int .i64 t375] 37 (0,0)) (by (with_reducible repeat (first|refine blk_drewN ?_ _|refine blk_drew ?_|refine blk_alloc ?_ _));exact BK377.out)) : gb377≠gb381));have n11_:=A_ ((by rw [hg];exact Nat.ne_of_gt (blk_lt (g:=gb377) (o:=.cells #[.int .i64 t374,.int .i64 t375] 37 (0,0)) (by (with_reducible repeat (first|refine blk_drewN ?_ _|refine blk_drew ?_|refine blk_alloc ?_ _));exact BK377.out)) : gb381≠gb377));have n12_:=A_ ((by rw [hg];exact Nat.ne_of_lt (IsS56.lt (show IsS56 w _ g337 t335 x338001_2 from by repeat (first|(with_reducible first|exact HI337.out|apply IsS56.alloc|apply IsS56.drewN|apply IsS56.drew|apply IsS56.set_1|refine IsS56.far ?_ NB337_369.out _|refine IsS56.far ?_ NB337_377.out _)|exact HI337.out))) : g337≠gb381));have n13_:=A_ ((by rw [hg];exact Nat.ne_of_gt (IsS56.lt (show IsS56 w _ g337 t335 x338001_2 from by repeat (first|(with_reducible first|exact HI337.out|apply IsS56.alloc|apply IsS56.drewN|apply IsS56.drew|apply IsS56.set_1|refine IsS56.far ?_ NB337_369.out _|refine IsS56.far ?_ NB337_377.out _)|exact HI337.out))) : gb381≠g337));clear HO_12;clear HI337;clear BK369;clear BK377;clear HB;clear HKB;have HO_12:=n0_;have HI337:=n1_;have BK369:=n2_;have BK377:=n3_;have HB:=n4_;have HKB:=nk_;have BK381:=n5_;have GW381:=n6_;have GE381:=n7_;have GEKc:=nqc_;have NB369_381:=n8_;have NB381_369:=n9_;have NB377_381:=n10_;have NB381_377:=n11_;have NB337_381:=n12_;have NB381_337:=n13_;clear n0_ n1_ n2_ n3_ n4_ n5_ n6_ n7_ n8_ n9_ n10_ n11_ n12_ n13_;(try clear nk_);(try clear nqa_);(try clear nqb_);(try clear nqc_);clear hb hbox hg;have hnb50:=NB381_369.out;have hnc50:=NB369_381.out;have hnb51:=NB381_377.out;have hnc51:=NB377_381.out;have hnb52:=NB381_337.out;have hnc52:=NB337_381.out;have hcz53_0 : w49.cell? ⟨gb381,0,none⟩ = some (.int .i64 0):=(blk_cell BK381.out 0).trans rfl;have hcz53_1 : w49.cell? ⟨gb381,1,none⟩ = some (.int .i64 0):=(blk_cell BK381.out 1).trans rfl;have hfz53_0:=blk_frozen BK381.out 0;have hfz53_1:=blk_frozen BK381.out 1))
          (try simp only [Act.put,List.setIfInBounds_toArray,List.set_cons_zero,List.set_cons_succ])
          go_cut [133] (fun v133 wc=>∃ (kq : Nat) (x133_37 : Bool),v133 = .bool x133_37∧Aside0 (shapesearchlaw12_EuclidAnswers.j2 kq l1 a2 t347 t372 y363 (y363.length : Int) x80_2 x133_37 t335 x338001_2 ((rd_T49 y363 x80_2).f0) ((rd_T49 y363 x80_2).f1) = some r)∧Aside0 (kq ≤ k2)∧Aside0 (Kd.R (Kd.int .i64) 3 wc w.heap.size (fun _=>True) v348 t347)∧Aside0 (wc.heap[gb369]? = some (.cells #[(.slice A368_0 ((rd_T49 y363 x80_2).f0).length c368_0),(.slice A368_1 ((rd_T49 y363 x80_2).f1).length c368_1)] 49 (0,0)))∧Aside0 (wc.heap[gb377]? = some (.cells #[.int .i64 t374,.int .i64 t375] 37 (0,0)))∧Aside0 (wc.heap[gb381]? = some (.cells #[.int .i64 t378,.int .i64 t379] 37 (0,0)))∧Aside0 (IsS56 w wc g337 t335 x338001_2)∧Aside0 (Below w.heap.size w wc)∧Aside0 (KeepBut w29 wc g337 none))
          case first =>
           have H:=HC38.out
           clear HC38
           by_cases c54 : t370 = t372
           ·
            rw [if_pos c54] at H
            have c54b0 : (t370 == t372) = true:=beq_iff_eq.mpr c54
            have c54b1 : (t370 != t372) = false:=bne_eq_false_iff_eq.mpr c54
            clear c54
            (first|rw [c54b0]|(simp only [i64_w,i32_w];rw [c54b0])|skip)
            by_cases c55 : t371 = t373
            ·
             rw [if_pos c55] at H
             have c55b0 : (t371 == t373) = true:=beq_iff_eq.mpr c55
             have c55b1 : (t371 != t373) = false:=bne_eq_false_iff_eq.mpr c55
             clear c55
             by_cases c56 : (!(t374 == t378) || (!(t375 == t379))) = true
             ·
              rw [if_pos c56] at H
              have c56b0 : (!(t374 == t378) || (!(t375 == t379))) = true:=c56
              clear c56
              have H':=A_ H
              clear H
              have hnb57:=NB377_369.out
              have hnc57:=NB369_377.out
              have hnb58:=NB377_381.out
              have hnc58:=NB381_377.out
              have hnb59:=NB377_337.out
              have hnc59:=NB337_377.out
              have hcz60_0 : w49.cell? ⟨gb377,0,none⟩ = some (.int .i64 t374):=(blk_cell BK377.out 0).trans rfl
              have hcz60_1 : w49.cell? ⟨gb377,1,none⟩ = some (.int .i64 t375):=(blk_cell BK377.out 1).trans rfl
              have hfz60_0:=blk_frozen BK377.out 0
              have hfz60_1:=blk_frozen BK377.out 1
              have hnb61:=NB381_369.out
              have hnc61:=NB369_381.out
              have hnb62:=NB381_337.out
              have hnc62:=NB337_381.out
              have hcz63_0 : w49.cell? ⟨gb381,0,none⟩ = some (.int .i64 0):=(blk_cell BK381.out 0).trans rfl
              have hcz63_1 : w49.cell? ⟨gb381,1,none⟩ = some (.int .i64 0):=(blk_cell BK381.out 1).trans rfl
              have hfz63_0:=blk_frozen BK381.out 0
              have hfz63_1:=blk_frozen BK381.out 1
              go_wp2
              go_meet
              case rel=>exact ⟨_,(true),(by first|rfl|(simp;done)|(simp [*];done)),H',⟨by have:=HJ4.out;have:=HK2.out;first|omega|exact Nat.le_refl _⟩,⟨by (with_reducible repeat (first|apply ra|apply rb|apply rc));exact rm (Kd.R_far (p:=⟨gb381,1,none⟩) (Kd.R_far (p:=⟨gb381,0,none⟩) (Kd.R_types HO_12.out BK381.out (by decide)) (fun _ hk=>hk.2) (.int .i64 t378)) (fun _ hk=>hk.2) (.int .i64 t379)) (fun _ hk=>trivial)⟩,⟨by (with_reducible repeat (first|refine blk_drewN ?_ _|refine blk_drew ?_|refine blk_alloc ?_ _));refine blk_far ?_ NB369_381.out _;(with_reducible repeat (first|refine blk_drewN ?_ _|refine blk_drew ?_|refine blk_alloc ?_ _));refine blk_far ?_ NB369_381.out _;(with_reducible repeat (first|refine blk_drewN ?_ _|refine blk_drew ?_|refine blk_alloc ?_ _));exact BK369.out⟩,⟨by (with_reducible repeat (first|refine blk_drewN ?_ _|refine blk_drew ?_|refine blk_alloc ?_ _));refine blk_far ?_ NB377_381.out _;(with_reducible repeat (first|refine blk_drewN ?_ _|refine blk_drew ?_|refine blk_alloc ?_ _));refine blk_far ?_ NB377_381.out _;(with_reducible repeat (first|refine blk_drewN ?_ _|refine blk_drew ?_|refine blk_alloc ?_ _));exact BK377.out⟩,⟨by (with_reducible repeat (first|refine blk_drewN ?_ _|refine blk_drew ?_|refine blk_alloc ?_ _));refine blk_put (cs:=#[.int .i64 t378,.int .i64 0]) ?_ 1 _ rfl;(with_reducible repeat (first|refine blk_drewN ?_ _|refine blk_drew ?_|refine blk_alloc ?_ _));refine blk_put (cs:=#[.int .i64 0,.int .i64 0]) ?_ 0 _ rfl;(with_reducible repeat (first|refine blk_drewN ?_ _|refine blk_drew ?_|refine blk_alloc ?_ _));exact BK381.out⟩,⟨by repeat (first|(with_reducible first|exact HI337.out|apply IsS56.alloc|apply IsS56.drewN|apply IsS56.drew|apply IsS56.set_1|refine IsS56.far ?_ NB337_369.out _|refine IsS56.far ?_ NB337_377.out _|refine IsS56.far ?_ NB337_381.out _)|exact HI337.out)⟩,⟨by repeat (first|(with_reducible first|exact HB.out|apply ba|apply bb|apply bc|refine below_set ?_ (IsS56.ge HI337.out)|refine below_set ?_ GE369.out|refine below_set ?_ GE377.out|refine below_set ?_ GE381.out)|exact HB.out)⟩,⟨by repeat (first|(with_reducible first|exact HKB.out|apply KeepBut.set_|apply keep_drewN|apply keep_drew|apply keep_alloc|refine keep_far ?_ GEKa.out _|refine keep_far ?_ GEKb.out _|refine keep_far ?_ GEKc.out _)|exact HKB.out)⟩⟩
             ·
              rw [if_neg c56] at H
              have c56b0 : (!(t374 == t378) || (!(t375 == t379))) = false:=by simpa using c56
              clear c56
              have H':=A_ H
              clear H
              have hnb64:=NB377_369.out
              have hnc64:=NB369_377.out
              have hnb65:=NB377_381.out
              have hnc65:=NB381_377.out
              have hnb66:=NB377_337.out
              have hnc66:=NB337_377.out
              have hcz67_0 : w49.cell? ⟨gb377,0,none⟩ = some (.int .i64 t374):=(blk_cell BK377.out 0).trans rfl
              have hcz67_1 : w49.cell? ⟨gb377,1,none⟩ = some (.int .i64 t375):=(blk_cell BK377.out 1).trans rfl
              have hfz67_0:=blk_frozen BK377.out 0
              have hfz67_1:=blk_frozen BK377.out 1
              have hnb68:=NB381_369.out
              have hnc68:=NB369_381.out
              have hnb69:=NB381_337.out
              have hnc69:=NB337_381.out
              have hcz70_0 : w49.cell? ⟨gb381,0,none⟩ = some (.int .i64 0):=(blk_cell BK381.out 0).trans rfl
              have hcz70_1 : w49.cell? ⟨gb381,1,none⟩ = some (.int .i64 0):=(blk_cell BK381.out 1).trans rfl
              have hfz70_0:=blk_frozen BK381.out 0
              have hfz70_1:=blk_frozen BK381.out 1
              go_wp2
              go_meet
              case rel=>exact ⟨_,((t376 != t380)),(by first|rfl|(simp;done)|(simp [*];done)),H',⟨by have:=HJ4.out;have:=HK2.out;first|omega|exact Nat.le_refl _⟩,⟨by (with_reducible repeat (first|apply ra|apply rb|apply rc));exact rm (Kd.R_far (p:=⟨gb381,1,none⟩) (Kd.R_far (p:=⟨gb381,0,none⟩) (Kd.R_types HO_12.out BK381.out (by decide)) (fun _ hk=>hk.2) (.int .i64 t378)) (fun _ hk=>hk.2) (.int .i64 t379)) (fun _ hk=>trivial)⟩,⟨by (with_reducible repeat (first|refine blk_drewN ?_ _|refine blk_drew ?_|refine blk_alloc ?_ _));refine blk_far ?_ NB369_381.out _;(with_reducible repeat (first|refine blk_drewN ?_ _|refine blk_drew ?_|refine blk_alloc ?_ _));refine blk_far ?_ NB369_381.out _;(with_reducible repeat (first|refine blk_drewN ?_ _|refine blk_drew ?_|refine blk_alloc ?_ _));exact BK369.out⟩,⟨by (with_reducible repeat (first|refine blk_drewN ?_ _|refine blk_drew ?_|refine blk_alloc ?_ _));refine blk_far ?_ NB377_381.out _;(with_reducible repeat (first|refine blk_drewN ?_ _|refine blk_drew ?_|refine blk_alloc ?_ _));refine blk_far ?_ NB377_381.out _;(with_reducible repeat (first|refine blk_drewN ?_ _|refine blk_drew ?_|refine blk_alloc ?_ _));exact BK377.out⟩,⟨by (with_reducible repeat (first|refine blk_drewN ?_ _|refine blk_drew ?_|refine blk_alloc ?_ _));refine blk_put (cs:=#[.int .i64 t378,.int .i64 0]) ?_ 1 _ rfl;(with_reducible repeat (first|refine blk_drewN ?_ _|refine blk_drew ?_|refine blk_alloc ?_ _));refine blk_put (cs:=#[.int .i64 0,.int .i64 0]) ?_ 0 _ rfl;(with_reducible repeat (first|refine blk_drewN ?_ _|refine blk_drew ?_|refine blk_alloc ?_ _));exact BK381.out⟩,⟨by repeat (first|(with_reducible first|exact HI337.out|apply IsS56.alloc|apply IsS56.drewN|apply IsS56.drew|apply IsS56.set_1|refine IsS56.far ?_ NB337_369.out _|refine IsS56.far ?_ NB337_377.out _|refine IsS56.far ?_ NB337_381.out _)|exact HI337.out)⟩,⟨by repeat (first|(with_reducible first|exact HB.out|apply ba|apply bb|apply bc|refine below_set ?_ (IsS56.ge HI337.out)|refine below_set ?_ GE369.out|refine below_set ?_ GE377.out|refine below_set ?_ GE381.out)|exact HB.out)⟩,⟨by repeat (first|(with_reducible first|exact HKB.out|apply KeepBut.set_|apply keep_drewN|apply keep_drew|apply keep_alloc|refine keep_far ?_ GEKa.out _|refine keep_far ?_ GEKb.out _|refine keep_far ?_ GEKc.out _)|exact HKB.out)⟩⟩
            ·
             rw [if_neg c55] at H
             have c55b0 : (t371 == t373) = false:=beq_eq_false_iff_ne.mpr c55
             have c55b1 : (t371 != t373) = true:=bne_iff_ne.mpr c55
             have H':=A_ H
             clear H
             go_wp2
             go_meet
             case rel=>exact ⟨_,(true),(by first|rfl|(simp;done)|(simp [*];done)),H',⟨by have:=HJ4.out;have:=HK2.out;first|omega|exact Nat.le_refl _⟩,⟨by (with_reducible repeat (first|apply ra|apply rb|apply rc));exact rm (Kd.R_far (p:=⟨gb381,1,none⟩) (Kd.R_far (p:=⟨gb381,0,none⟩) (Kd.R_types HO_12.out BK381.out (by decide)) (fun _ hk=>hk.2) (.int .i64 t378)) (fun _ hk=>hk.2) (.int .i64 t379)) (fun _ hk=>trivial)⟩,⟨by (with_reducible repeat (first|refine blk_drewN ?_ _|refine blk_drew ?_|refine blk_alloc ?_ _));refine blk_far ?_ NB369_381.out _;(with_reducible repeat (first|refine blk_drewN ?_ _|refine blk_drew ?_|refine blk_alloc ?_ _));refine blk_far ?_ NB369_381.out _;(with_reducible repeat (first|refine blk_drewN ?_ _|refine blk_drew ?_|refine blk_alloc ?_ _));exact BK369.out⟩,⟨by (with_reducible repeat (first|refine blk_drewN ?_ _|refine blk_drew ?_|refine blk_alloc ?_ _));refine blk_far ?_ NB377_381.out _;(with_reducible repeat (first|refine blk_drewN ?_ _|refine blk_drew ?_|refine blk_alloc ?_ _));refine blk_far ?_ NB377_381.out _;(with_reducible repeat (first|refine blk_drewN ?_ _|refine blk_drew ?_|refine blk_alloc ?_ _));exact BK377.out⟩,⟨by (with_reducible repeat (first|refine blk_drewN ?_ _|refine blk_drew ?_|refine blk_alloc ?_ _));refine blk_put (cs:=#[.int .i64 t378,.int .i64 0]) ?_ 1 _ rfl;(with_reducible repeat (first|refine blk_drewN ?_ _|refine blk_drew ?_|refine blk_alloc ?_ _));refine blk_put (cs:=#[.int .i64 0,.int .i64 0]) ?_ 0 _ rfl;(with_reducible repeat (first|refine blk_drewN ?_ _|refine blk_drew ?_|refine blk_alloc ?_ _));exact BK381.out⟩,⟨by repeat (first|(with_reducible first|exact HI337.out|apply IsS56.alloc|apply IsS56.drewN|apply IsS56.drew|apply IsS56.set_1|refine IsS56.far ?_ NB337_369.out _|refine IsS56.far ?_ NB337_377.out _|refine IsS56.far ?_ NB337_381.out _)|exact HI337.out)⟩,⟨by repeat (first|(with_reducible first|exact HB.out|apply ba|apply bb|apply bc|refine below_set ?_ (IsS56.ge HI337.out)|refine below_set ?_ GE369.out|refine below_set ?_ GE377.out|refine below_set ?_ GE381.out)|exact HB.out)⟩,⟨by repeat (first|(with_reducible first|exact HKB.out|apply KeepBut.set_|apply keep_drewN|apply keep_drew|apply keep_alloc|refine keep_far ?_ GEKa.out _|refine keep_far ?_ GEKb.out _|refine keep_far ?_ GEKc.out _)|exact HKB.out)⟩⟩
           ·
            rw [if_neg c54] at H
            have c54b0 : (t370 == t372) = false:=beq_eq_false_iff_ne.mpr c54
            have c54b1 : (t370 != t372) = true:=bne_iff_ne.mpr c54
            (first|rw [c54b0]|(simp only [i64_w,i32_w];rw [c54b0])|skip)
            have H':=A_ H
            clear H
            go_wp2
            go_meet
            case rel=>exact ⟨_,(true),(by first|rfl|(simp;done)|(simp [*];done)),H',⟨by have:=HJ4.out;have:=HK2.out;first|omega|exact Nat.le_refl _⟩,⟨by (with_reducible repeat (first|apply ra|apply rb|apply rc));exact rm (Kd.R_far (p:=⟨gb381,1,none⟩) (Kd.R_far (p:=⟨gb381,0,none⟩) (Kd.R_types HO_12.out BK381.out (by decide)) (fun _ hk=>hk.2) (.int .i64 t378)) (fun _ hk=>hk.2) (.int .i64 t379)) (fun _ hk=>trivial)⟩,⟨by (with_reducible repeat (first|refine blk_drewN ?_ _|refine blk_drew ?_|refine blk_alloc ?_ _));refine blk_far ?_ NB369_381.out _;(with_reducible repeat (first|refine blk_drewN ?_ _|refine blk_drew ?_|refine blk_alloc ?_ _));refine blk_far ?_ NB369_381.out _;(with_reducible repeat (first|refine blk_drewN ?_ _|refine blk_drew ?_|refine blk_alloc ?_ _));exact BK369.out⟩,⟨by (with_reducible repeat (first|refine blk_drewN ?_ _|refine blk_drew ?_|refine blk_alloc ?_ _));refine blk_far ?_ NB377_381.out _;(with_reducible repeat (first|refine blk_drewN ?_ _|refine blk_drew ?_|refine blk_alloc ?_ _));refine blk_far ?_ NB377_381.out _;(with_reducible repeat (first|refine blk_drewN ?_ _|refine blk_drew ?_|refine blk_alloc ?_ _));exact BK377.out⟩,⟨by (with_reducible repeat (first|refine blk_drewN ?_ _|refine blk_drew ?_|refine blk_alloc ?_ _));refine blk_put (cs:=#[.int .i64 t378,.int .i64 0]) ?_ 1 _ rfl;(with_reducible repeat (first|refine blk_drewN ?_ _|refine blk_drew ?_|refine blk_alloc ?_ _));refine blk_put (cs:=#[.int .i64 0,.int .i64 0]) ?_ 0 _ rfl;(with_reducible repeat (first|refine blk_drewN ?_ _|refine blk_drew ?_|refine blk_alloc ?_ _));exact BK381.out⟩,⟨by repeat (first|(with_reducible first|exact HI337.out|apply IsS56.alloc|apply IsS56.drewN|apply IsS56.drew|apply IsS56.set_1|refine IsS56.far ?_ NB337_369.out _|refine IsS56.far ?_ NB337_377.out _|refine IsS56.far ?_ NB337_381.out _)|exact HI337.out)⟩,⟨by repeat (first|(with_reducible first|exact HB.out|apply ba|apply bb|apply bc|refine below_set ?_ (IsS56.ge HI337.out)|refine below_set ?_ GE369.out|refine below_set ?_ GE377.out|refine below_set ?_ GE381.out)|exact HB.out)⟩,⟨by repeat (first|(with_reducible first|exact HKB.out|apply KeepBut.set_|apply keep_drewN|apply keep_drew|apply keep_alloc|refine keep_far ?_ GEKa.out _|refine keep_far ?_ GEKb.out _|refine keep_far ?_ GEKc.out _)|exact HKB.out)⟩⟩
          case rest =>
           clear HC38
           try clear c1
           try clear c2
           try clear p2
           try clear q2
           try clear c3
           try clear p3
           try clear q3
           try clear hx3
           try clear c4
           try clear c5
           try clear c6
           try clear c6b0
           try clear c6b1
           try clear c7
           try clear c8
           try clear c9
           try clear c10
           try clear c12
           try clear c15
           try clear c16
           try clear c16b0
           try clear c16b1
           try clear c20
           try clear c23
           try clear c24
           try clear q24
           try clear c25
           try clear c26
           try clear c31
           try clear c31b0
           try clear c32
           try clear c32b0
           try clear c33
           try clear c33b0
           try clear c36
           try clear p36
           try clear q36
           try clear hx36
           try clear c40
           try clear c44
           try clear c45
           try clear c50
           try clear c51
           try clear c52
           try clear c54
           try clear c54b0
           try clear c54b1
           try clear c55
           try clear c55b0
           try clear c55b1
           try clear c56
           try clear c56b0
           try clear c57
           try clear c58
           try clear c59
           try clear c61
           try clear c62
           try clear c64
           try clear c65
           try clear c66
           try clear c68
           try clear c69
           try clear hcz41_0
           try clear hcz41_1
           try clear hcz46_0
           try clear hcz46_1
           try clear hcz47_0
           try clear hcz47_1
           try clear hcz53_0
           try clear hcz53_1
           try clear hcz60_0
           try clear hcz60_1
           try clear hcz63_0
           try clear hcz63_1
           try clear hcz67_0
           try clear hcz67_1
           try clear hcz70_0
           try clear hcz70_1
           try clear hfz41_0
           try clear hfz41_1
           try clear hfz46_0
           try clear hfz46_1
           try clear hfz47_0
           try clear hfz47_1
           try clear hfz53_0
           try clear hfz53_1
           try clear hfz60_0
           try clear hfz60_1
           try clear hfz63_0
           try clear hfz63_1
           try clear hfz67_0
           try clear hfz67_1
           try clear hfz70_0
           try clear hfz70_1
           try clear hx368_0
           try clear hx368_1
           try clear p2
           try clear p368
           try clear q2
           try clear q24
           try clear q368
           obtain ⟨kq,x133_37,rfl,HA,HJ37,HO_12,BK369,BK377,BK381,HI337,HB,HKB⟩:=hcut
           cases kq with
           | zero=>exact absurd HA.out (by simp [shapesearchlaw12_EuclidAnswers.j2])
           | succ kj37 =>
            have H:=HA.out
            clear HA
            simp only [shapesearchlaw12_EuclidAnswers.j2] at H
            by_cases c71 : x133_37 = true
            ·
             subst c71
             have H1 : (some false) = some r:=by rw [if_pos rfl] at H;exact H
             clear H
             have H:=H1
             clear H1
             exact absurd ((Option.some.inj H).trans HTR_.out) (by decide)
            ·
             replace c71:=Bool.eq_false_iff.mpr c71
             subst c71
             have H1 : ((some (([a2,t372,wrap64 (t372 - 1),(-1)] : List Int) : List Int)).bind fun y382=>(shapesearchlaw12_EuclidAnswers.l1 kj37 l1 a2 t347 y363 (y363.length : Int) x80_2 y382 (y382.length : Int) 0 t335 x338001_2 ((rd_T49 y363 x80_2).f0) ((rd_T49 y363 x80_2).f1))) = some r:=by rw [if_neg (show ¬ (false = true) by decide)] at H;exact H
             clear H
             have H:=H1
             clear H1
             obtain ⟨y382,hy382⟩ : ∃ y_ : List Int,y_ = (([a2,t372,wrap64 (t372 - 1),(-1)] : List Int)):=⟨_,rfl⟩
             replace H : (shapesearchlaw12_EuclidAnswers.l1 kj37 l1 a2 t347 y363 (y363.length : Int) x80_2 y382 (y382.length : Int) 0 t335 x338001_2 ((rd_T49 y363 x80_2).f0) ((rd_T49 y363 x80_2).f1)) = some r:=by first|(rw [hy382];with_reducible exact H)|(have H2_:=(Option.bind_some _ _).symm.trans H;rw [hy382];with_reducible exact H2_)|(have H2_:=(Option.bind_some _ _).symm.trans H;with_reducible exact H2_)|with_reducible exact H|(rw [hy382];exact H)|exact H
             have Ny382:=A_ hy382
             clear hy382
             have H':=A_ H
             clear H
             go_wp2_with (first|((with_reducible refine gate_dst (N:=138) rfl ?_);(try (refine gate_guard (by rfl) ?_;dsimp only));refine Kd.R_lit (Kd.int .i64) _ 3 ?hg (N:=138) ?hd (xs:=([a2,t372,wrap64 (t372 - 1),(-1)] : List Int)) (inner:=[.int .i64 a2,.int .i64 t372,.int .i64 (wrap64 (t372 - 1)),.int .i64 (-1)]) (ok:=fun _=>True) (okp:=fun _=>True) ?hr ?hp (fun _ hk=>hk) trivial (Below.refl _ _) (Nat.le_refl _) (by simp) ?_;(case hd=>rfl);(case hg=>rfl);(case hr=>first|(go_simp;done)|(go_simp;rfl));(case hp=>exact (Reps.one (show Kd.M (Kd.int .i64) _ _ _ a2 [.int .i64 a2] from rfl) (Reps.one (show Kd.M (Kd.int .i64) _ _ _ t372 [.int .i64 t372] from rfl) (Reps.one (show Kd.M (Kd.int .i64) _ _ _ (wrap64 (t372 - 1)) [.int .i64 (wrap64 (t372 - 1))] from rfl) (Reps.one (show Kd.M (Kd.int .i64) _ _ _ (-1) [.int .i64 (-1)] from rfl) (Reps.none _ _))))));intro v383 w72 ho73 hb hg_ hnew_;clear hg_ hnew_;(first|rw [← Ny382.out] at ho73|(simp only [Int.reduceToNat] at ho73;rw [← Ny382.out] at ho73));have n0_:=A_ (re (by (with_reducible repeat (first|apply ra|apply rb|apply rc));exact HO_12.out) (rs ho73) hb);have n1_:=A_ (Kd.R_lower (rn ho73 (rl (by (with_reducible repeat (first|apply ra|apply rb|apply rc));exact HO_12.out))) (below_size (by repeat (first|(with_reducible first|exact HB.out|apply ba|apply bb|apply bc|refine below_set ?_ (IsS56.ge HI337.out)|refine below_set ?_ GE369.out|refine below_set ?_ GE377.out|refine below_set ?_ GE381.out)|exact HB.out))));have n2_:=A_ (blk_below (g:=gb369) (o:=.cells #[.slice A368_0 ((rd_T49 y363 x80_2).f0).length c368_0,.slice A368_1 ((rd_T49 y363 x80_2).f1).length c368_1] 49 (0,0)) (by (with_reducible repeat (first|refine blk_drewN ?_ _|refine blk_drew ?_|refine blk_alloc ?_ _));exact BK369.out) hb);have n3_:=A_ (blk_below (g:=gb377) (o:=.cells #[.int .i64 t374,.int .i64 t375] 37 (0,0)) (by (with_reducible repeat (first|refine blk_drewN ?_ _|refine blk_drew ?_|refine blk_alloc ?_ _));exact BK377.out) hb);have n4_:=A_ (blk_below (g:=gb381) (o:=.cells #[.int .i64 t378,.int .i64 t379] 37 (0,0)) (by (with_reducible repeat (first|refine blk_drewN ?_ _|refine blk_drew ?_|refine blk_alloc ?_ _));exact BK381.out) hb);have n5_:=A_ (IsS56.below (by repeat (first|(with_reducible first|exact HI337.out|apply IsS56.alloc|apply IsS56.drewN|apply IsS56.drew|apply IsS56.set_1|refine IsS56.far ?_ NB337_369.out _|refine IsS56.far ?_ NB337_377.out _|refine IsS56.far ?_ NB337_381.out _)|exact HI337.out)) hb);have n6_:=A_ (below_step (by repeat (first|(with_reducible first|exact HB.out|apply ba|apply bb|apply bc|refine below_set ?_ (IsS56.ge HI337.out)|refine below_set ?_ GE369.out|refine below_set ?_ GE377.out|refine below_set ?_ GE381.out)|exact HB.out)) hb);have nk_:=A_ (KeepBut.trans (by repeat (first|(with_reducible first|exact HKB.out|apply KeepBut.set_|apply keep_drewN|apply keep_drew|apply keep_alloc|refine keep_far ?_ GEKa.out _|refine keep_far ?_ GEKb.out _|refine keep_far ?_ GEKc.out _)|exact HKB.out)) (KeepBut.of_below hb g337 none) (.inl rfl));clear HO_12;clear BK369;clear BK377;clear BK381;clear HI337;clear HB;clear HKB;have HO_12:=n0_;have HO384:=n1_;have BK369:=n2_;have BK377:=n3_;have BK381:=n4_;have HI337:=n5_;have HB:=n6_;have HKB:=nk_;clear n0_ n1_ n2_ n3_ n4_ n5_ n6_;(try clear nk_);(try clear nqa_);(try clear nqb_);(try clear nqc_);clear hb ho73;obtain ⟨Ao74,co74,eo74⟩:=Kd.R_slice HO384.out;subst eo74))
             go_loopg [140] kj37 (fun kq v140 w'=>∃ (x140_4 : Int),v140 = .int .i64 x140_4∧Aside0 (shapesearchlaw12_EuclidAnswers.l1 kq l1 a2 t347 y363 (y363.length : Int) x80_2 y382 (y382.length : Int) x140_4 t335 x338001_2 ((rd_T49 y363 x80_2).f0) ((rd_T49 y363 x80_2).f1) = some r)∧Aside0 (kq ≤ kj37)∧Aside0 (Kd.R (Kd.int .i64) 3 w' w.heap.size (fun k_=>some k_≠((.slice Ao74 y382.length co74) : Value).ownBlock) v348 t347)∧Aside0 (Kd.R (Kd.int .i64) 3 w' w.heap.size (fun k_=>nb k_ v348) (.slice Ao74 y382.length co74) y382)∧Aside0 (w'.heap[gb369]? = some (.cells #[(.slice A368_0 ((rd_T49 y363 x80_2).f0).length c368_0),(.slice A368_1 ((rd_T49 y363 x80_2).f1).length c368_1)] 49 (0,0)))∧Aside0 (w'.heap[gb377]? = some (.cells #[.int .i64 t374,.int .i64 t375] 37 (0,0)))∧Aside0 (w'.heap[gb381]? = some (.cells #[.int .i64 t378,.int .i64 t379] 37 (0,0)))∧Aside0 (IsS56 w w' g337 t335 x338001_2)∧Aside0 (Below w.heap.size w w')∧Aside0 (KeepBut w29 w' g337 none))
             case atStart=>exact ⟨(0),(by first|rfl|(simp;done)|(simp [*];done)),H',⟨Nat.le_refl _⟩,⟨by (with_reducible repeat (first|apply ra|apply rb|apply rc));exact rm HO_12.out (fun _ hk=>hk.2)⟩,⟨by (with_reducible repeat (first|apply ra|apply rb|apply rc));exact rm HO384.out (fun _ hk=>hk.2)⟩,⟨by (with_reducible repeat (first|refine blk_drewN ?_ _|refine blk_drew ?_|refine blk_alloc ?_ _));exact BK369.out⟩,⟨by (with_reducible repeat (first|refine blk_drewN ?_ _|refine blk_drew ?_|refine blk_alloc ?_ _));exact BK377.out⟩,⟨by (with_reducible repeat (first|refine blk_drewN ?_ _|refine blk_drew ?_|refine blk_alloc ?_ _));exact BK381.out⟩,⟨by repeat (first|(with_reducible first|exact HI337.out|apply IsS56.alloc|apply IsS56.drewN|apply IsS56.drew|apply IsS56.set_1|refine IsS56.far ?_ NB337_369.out _|refine IsS56.far ?_ NB337_377.out _|refine IsS56.far ?_ NB337_381.out _)|exact HI337.out)⟩,⟨by repeat (first|(with_reducible first|exact HB.out|apply ba|apply bb|apply bc|refine below_set ?_ (IsS56.ge HI337.out)|refine below_set ?_ GE369.out|refine below_set ?_ GE377.out|refine below_set ?_ GE381.out)|exact HB.out)⟩,⟨by repeat (first|(with_reducible first|exact HKB.out|apply KeepBut.set_|apply keep_drewN|apply keep_drew|apply keep_alloc|refine keep_far ?_ GEKa.out _|refine keep_far ?_ GEKb.out _|refine keep_far ?_ GEKc.out _)|exact HKB.out)⟩⟩
             case round =>
              clear H'
              try clear c1
              try clear c2
              try clear p2
              try clear q2
              try clear c3
              try clear p3
              try clear q3
              try clear hx3
              try clear c4
              try clear c5
              try clear c6
              try clear c6b0
              try clear c6b1
              try clear p6
              try clear c7
              try clear c8
              try clear c9
              try clear c10
              try clear c12
              try clear c15
              try clear c16
              try clear c16b0
              try clear c16b1
              try clear c20
              try clear c23
              try clear c24
              try clear q24
              try clear c25
              try clear c26
              try clear c31
              try clear c31b0
              try clear c32
              try clear c32b0
              try clear c33
              try clear c33b0
              try clear c36
              try clear p36
              try clear q36
              try clear hx36
              try clear c40
              try clear c44
              try clear c45
              try clear c50
              try clear c51
              try clear c52
              try clear c54
              try clear c54b0
              try clear c54b1
              try clear c55
              try clear c55b0
              try clear c55b1
              try clear c56
              try clear c56b0
              try clear c57
              try clear c58
              try clear c59
              try clear c61
              try clear c62
              try clear c64
              try clear p64
              try clear c65
              try clear c66
              try clear c68
              try clear c69
              try clear c71
              try clear hcz41_0
              try clear hcz41_1
              try clear hcz46_0
              try clear hcz46_1
              try clear hcz47_0
              try clear hcz47_1
              try clear hcz53_0
              try clear hcz53_1
              try clear hcz60_0
              try clear hcz60_1
              try clear hcz63_0
              try clear hcz63_1
              try clear hcz67_0
              try clear hcz67_1
              try clear hcz70_0
              try clear hcz70_1
              try clear hfz41_0
              try clear hfz41_1
              try clear hfz46_0
              try clear hfz46_1
              try clear hfz47_0
              try clear hfz47_1
              try clear hfz53_0
              try clear hfz53_1
              try clear hfz60_0
              try clear hfz60_1
              try clear hfz63_0
              try clear hfz63_1
              try clear hfz67_0
              try clear hfz67_1
              try clear hfz70_0
              try clear hfz70_1
              try clear hx368_0
              try clear hx368_1
              try clear p2
              try clear p3
              try clear p36
              try clear p368
              try clear q2
              try clear q24
              try clear q3
              try clear q36
              try clear q368
              obtain ⟨x140_4,rfl,HA,HK4,HO_12,HO_138,BK369,BK377,BK381,HI337,HB,HKB⟩:=hrel
              cases gk with
              | zero=>exact absurd HA.out (by simp [shapesearchlaw12_EuclidAnswers.l1])
              | succ k4 =>
               have H:=HA.out
               clear HA
               simp only [shapesearchlaw12_EuclidAnswers.l1] at H
               by_cases c75 : x140_4 < (y382.length : Int)
               ·
                rw [if_pos c75] at H
                have c75b0 : decide (x140_4 < (y382.length : Int)) = true:=decide_eq_true c75
                clear c75
                by_cases c76 : 0 ≤ x140_4
                ·
                 rw [if_pos c76] at H
                 have c76b0 : decide (0 ≤ x140_4) = true:=decide_eq_true c76
                 clear c76
                 by_cases c77 : x140_4 < (y382.length : Int)
                 ·
                  rw [if_pos c77] at H
                  have c77b0 : decide (x140_4 < (y382.length : Int)) = true:=decide_eq_true c77
                  clear c77
                  replace H:=Option.bind_eq_some_iff.mp H
                  obtain ⟨⟨t386,t387⟩,A780,H⟩:=H
                  replace H : ((shapesearchref12_Within.f k4 ((rd_T49 y363 x80_2).f0) ((rd_T49 y363 x80_2).f1) (rd y382 x140_4)).bind fun bt388=>(if t386 = bt388.1 then (if (t387 != bt388.2) = true then (some false) else (shapesearchlaw12_EuclidAnswers.l1 k4 l1 a2 t347 y363 (y363.length : Int) x80_2 y382 (y382.length : Int) (wrap64 (x140_4 + 1)) t335 x338001_2 ((rd_T49 y363 x80_2).f0) ((rd_T49 y363 x80_2).f1))) else (some false))) = some r:=H
                  have A78:=A_ A780
                  clear A780
                  replace H:=Option.bind_eq_some_iff.mp H
                  obtain ⟨⟨t388,t389⟩,A790,H⟩:=H
                  replace H : (if t386 = t388 then (if (t387 != t389) = true then (some false) else (shapesearchlaw12_EuclidAnswers.l1 k4 l1 a2 t347 y363 (y363.length : Int) x80_2 y382 (y382.length : Int) (wrap64 (x140_4 + 1)) t335 x338001_2 ((rd_T49 y363 x80_2).f0) ((rd_T49 y363 x80_2).f1))) else (some false)) = some r:=H
                  have A79:=A_ A790
                  clear A790
                  have HC80:=A_ H
                  clear H
                  have p385 : 0 ≤ (x140_4 : Int):=of_decide_eq_true (by first|(with_reducible assumption)|assumption)
                  have q385 : x140_4 < (y382.length : Int):=of_decide_eq_true (by first|(with_reducible assumption)|assumption)
                  obtain ⟨ad385,e385,hx385_0⟩:=Kd.at_int (rd_ HO_138.out).2.2 x140_4 p385 q385
                  cases e385
                  replace p385:=eq_true p385
                  replace q385:=eq_true q385
                  have hnb81:=NB369_377.out
                  have hnc81:=NB377_369.out
                  have hnb82:=NB369_381.out
                  have hnc82:=NB381_369.out
                  have hnb83:=NB369_337.out
                  have hnc83:=NB337_369.out
                  have hcz84_0 : wr.cell? ⟨gb369,0,none⟩ = some (.slice A368_0 ((rd_T49 y363 x80_2).f0).length c368_0):=(blk_cell BK369.out 0).trans rfl
                  have hcz84_1 : wr.cell? ⟨gb369,1,none⟩ = some (.slice A368_1 ((rd_T49 y363 x80_2).f1).length c368_1):=(blk_cell BK369.out 1).trans rfl
                  have hfz84_0:=blk_frozen BK369.out 0
                  have hfz84_1:=blk_frozen BK369.out 1
                  go_upto_region 20 with (first|((with_reducible refine gate_callee (f:=27) rfl ?_);refine goesL_ (some 150) rfl rfl Try.func27 (by kernel_rfl) rfl #[.slice A368_0 ((rd_T49 y363 x80_2).f0).length c368_0,.slice A368_1 ((rd_T49 y363 x80_2).f1).length c368_1,.int .i64 (rd y382 x140_4)] rfl (by (try simp only [List.map_toArray,List.map_cons,List.map_nil]);first|done|rfl|(simp only [List.length_drop,List.length_take];rfl)|((try rw [KY24.out]);rfl)) ?_;(with_reducible refine (euclid_Within.calls k4 _ _ ((rd_T49 y363 x80_2).f0) _ _ ((rd_T49 y363 x80_2).f1) (rd y382 x140_4) t386 t387 _ ?side1 ?side2 ?side3 ?side4 A78.out).mono ?_);(case side1=>repeat (first|exact (unmask_C HR368_0.out HKB.out)|(with_reducible refine ca ?_ _)|(with_reducible refine cb ?_ _)|(with_reducible refine cc ?_)));(case side2=>exact HC368_0.out);(case side3=>repeat (first|exact (unmask_C HR368_1.out HKB.out)|(with_reducible refine ca ?_ _)|(with_reducible refine cb ?_ _)|(with_reducible refine cc ?_)));(case side4=>exact HC368_1.out);rintro e w' ⟨rfl,⟨nd,rfl⟩⟩;refine ⟨_,rfl,?_⟩)|((with_reducible refine gate_callee (f:=28) rfl ?_);refine goesL_ (some 159) rfl rfl Try.func28 (by kernel_rfl) rfl #[.slice A368_0 ((rd_T49 y363 x80_2).f0).length c368_0,.slice A368_1 ((rd_T49 y363 x80_2).f1).length c368_1,.int .i64 (rd y382 x140_4)] rfl (by (try simp only [List.map_toArray,List.map_cons,List.map_nil]);first|done|rfl|(simp only [List.length_drop,List.length_take];rfl)|((try rw [KY24.out]);rfl)) ?_;(with_reducible refine (shapesearchref12_Within.calls k4 _ _ ((rd_T49 y363 x80_2).f0) _ _ ((rd_T49 y363 x80_2).f1) (rd y382 x140_4) t388 t389 _ ?side1 ?side2 ?side3 ?side4 A79.out).mono ?_);(case side1=>repeat (first|exact (unmask_C HR368_0.out (by repeat (first|(with_reducible first|exact HKB.out|apply KeepBut.set_|apply keep_drewN|apply keep_drew|apply keep_alloc|refine keep_far ?_ GEKa.out _|refine keep_far ?_ GEKb.out _|refine keep_far ?_ GEKc.out _)|exact HKB.out)))|(with_reducible refine ca ?_ _)|(with_reducible refine cb ?_ _)|(with_reducible refine cc ?_)));(case side2=>exact HC368_0.out);(case side3=>repeat (first|exact (unmask_C HR368_1.out (by repeat (first|(with_reducible first|exact HKB.out|apply KeepBut.set_|apply keep_drewN|apply keep_drew|apply keep_alloc|refine keep_far ?_ GEKa.out _|refine keep_far ?_ GEKb.out _|refine keep_far ?_ GEKc.out _)|exact HKB.out)))|(with_reducible refine ca ?_ _)|(with_reducible refine cb ?_ _)|(with_reducible refine cc ?_)));(case side4=>exact HC368_1.out);rintro e w' ⟨rfl,⟨nd,rfl⟩⟩;refine ⟨_,rfl,?_⟩))
                  (try simp only [Act.put,List.setIfInBounds_toArray,List.set_cons_zero,List.set_cons_succ])
                  have H:=HC80.out
                  clear HC80
                  by_cases c85 : t386 = t388
                  ·
                   rw [if_pos c85] at H
                   have c85b0 : (t386 == t388) = true:=beq_iff_eq.mpr c85
                   have c85b1 : (t386 != t388) = false:=bne_eq_false_iff_eq.mpr c85
                   clear c85
                   (first|rw [c85b0]|(simp only [i64_w,i32_w];rw [c85b0])|skip)
                   by_cases c86 : (t387 != t389) = true
                   ·
                    rw [if_pos c86] at H
                    have c86b0 : (t387 != t389) = true:=c86
                    (try (have c86b1 : decide (t387 = t389) = false:=by simpa using c86))
                    (try (have c86b2 : (t387 == t389) = false:=by simpa using c86))
                    (try (have c86b3 : ¬ (t387 = t389):=by simpa using c86))
                    clear c86
                    exact absurd ((Option.some.inj H).trans HTR_.out) (by decide)
                   ·
                    rw [if_neg c86] at H
                    have c86b0 : (t387 != t389) = false:=by simpa using c86
                    (try (have c86b1 : decide (t387 = t389) = true:=by simpa using c86))
                    (try (have c86b2 : (t387 == t389) = true:=by simpa using c86))
                    clear c86
                    have H':=A_ H
                    clear H
                    go_wp2
                    go_roundg k4
                    case measure=>have:=HJ4.out;have:=HK2.out;have:=HJ37.out;have:=HK4.out;omega
                    case rel=>exact ⟨(wrap64 (x140_4 + 1)),(by first|rfl|(simp;done)|(simp [*];done)),H',⟨by have:=HJ4.out;have:=HK2.out;have:=HJ37.out;have:=HK4.out;omega⟩,⟨by (with_reducible repeat (first|apply ra|apply rb|apply rc));exact HO_12.out⟩,⟨by (with_reducible repeat (first|apply ra|apply rb|apply rc));exact HO_138.out⟩,⟨by (with_reducible repeat (first|refine blk_drewN ?_ _|refine blk_drew ?_|refine blk_alloc ?_ _));exact BK369.out⟩,⟨by (with_reducible repeat (first|refine blk_drewN ?_ _|refine blk_drew ?_|refine blk_alloc ?_ _));exact BK377.out⟩,⟨by (with_reducible repeat (first|refine blk_drewN ?_ _|refine blk_drew ?_|refine blk_alloc ?_ _));exact BK381.out⟩,⟨by repeat (first|(with_reducible first|exact HI337.out|apply IsS56.alloc|apply IsS56.drewN|apply IsS56.drew|apply IsS56.set_1|refine IsS56.far ?_ NB337_369.out _|refine IsS56.far ?_ NB337_377.out _|refine IsS56.far ?_ NB337_381.out _)|exact HI337.out)⟩,⟨by repeat (first|(with_reducible first|exact HB.out|apply ba|apply bb|apply bc|refine below_set ?_ (IsS56.ge HI337.out)|refine below_set ?_ GE369.out|refine below_set ?_ GE377.out|refine below_set ?_ GE381.out)|exact HB.out)⟩,⟨by repeat (first|(with_reducible first|exact HKB.out|apply KeepBut.set_|apply keep_drewN|apply keep_drew|apply keep_alloc|refine keep_far ?_ GEKa.out _|refine keep_far ?_ GEKb.out _|refine keep_far ?_ GEKc.out _)|exact HKB.out)⟩⟩
                  ·
                   rw [if_neg c85] at H
                   have c85b0 : (t386 == t388) = false:=beq_eq_false_iff_ne.mpr c85
                   have c85b1 : (t386 != t388) = true:=bne_iff_ne.mpr c85
                   (first|rw [c85b0]|(simp only [i64_w,i32_w];rw [c85b0])|skip)
                   exact absurd ((Option.some.inj H).trans HTR_.out) (by decide)
                 ·
                  rw [if_neg c77] at H
                  exact absurd H (by simp)
                ·
                 rw [if_neg c76] at H
                 exact absurd H (by simp)
               ·
                rw [if_neg c75] at H
                have c75b0 : decide (x140_4 < (y382.length : Int)) = false:=decide_eq_false c75
                clear c75
                replace H:=Option.bind_eq_some_iff.mp H
                obtain ⟨⟨t390,t393⟩,A870,H⟩:=H
                replace H : ((some (([l1,t347,t390] : List (List Int)) : List (List Int))).bind fun y394=>(shapesearchlaw12_EuclidAnswers.l2 k4 l1 a2 t347 y363 (y363.length : Int) x80_2 y394 (y394.length : Int) 0 t335 t393 ((rd_T49 y363 x80_2).f0) ((rd_T49 y363 x80_2).f1))) = some r:=H
                have A87:=A_ A870
                clear A870
                obtain ⟨y394,hy394⟩ : ∃ y_ : List (List Int),y_ = (([l1,t347,t390] : List (List Int))):=⟨_,rfl⟩
                replace H : (shapesearchlaw12_EuclidAnswers.l2 k4 l1 a2 t347 y363 (y363.length : Int) x80_2 y394 (y394.length : Int) 0 t335 t393 ((rd_T49 y363 x80_2).f0) ((rd_T49 y363 x80_2).f1)) = some r:=by first|(rw [hy394];with_reducible exact H)|(have H2_:=(Option.bind_some _ _).symm.trans H;rw [hy394];with_reducible exact H2_)|(have H2_:=(Option.bind_some _ _).symm.trans H;with_reducible exact H2_)|with_reducible exact H|(rw [hy394];exact H)|exact H
                have Ny394:=A_ hy394
                clear hy394
                have H':=A_ H
                clear H
                obtain ⟨Ao88,co88,eo88⟩:=Kd.R_slice HO_12.out
                subst eo88
                go_wp2_with (first|((with_reducible refine gate_callee (f:=24) rfl ?_);refine goesL_ (some 175) rfl rfl Try.func24 (by kernel_rfl) rfl #[.pointer (some ⟨g337,0,none⟩),.slice Ao88 t347.length co88] rfl (by (try simp only [List.map_toArray,List.map_cons,List.map_nil]);first|done|rfl|(simp only [List.length_drop,List.length_take];rfl)|((try rw [KY24.out]);rfl)) ?_;(with_reducible refine (shapesearchkeep_Src_Bent.calls k4 g337 t335 x338001_2 _ _ t347 t390 t393 w _ ?side1 ?side2 ?side3 ?side4 ?side5 A87.out).mono ?_);(case side1=>repeat (first|(with_reducible first|exact HI337.out|apply IsS56.alloc|apply IsS56.drewN|apply IsS56.drew|apply IsS56.set_1|refine IsS56.far ?_ NB337_369.out _|refine IsS56.far ?_ NB337_377.out _|refine IsS56.far ?_ NB337_381.out _)|exact HI337.out));(case side2=>repeat (first|(with_reducible first|exact HB.out|apply ba|apply bb|apply bc|refine below_set ?_ (IsS56.ge HI337.out)|refine below_set ?_ GE369.out|refine below_set ?_ GE377.out|refine below_set ?_ GE381.out)|exact HB.out));(case side3=>repeat (first|exact (rd_ HO_12.out).2.2|(with_reducible refine ca ?_ _)|(with_reducible refine cb ?_ _)|(with_reducible refine cc ?_)));(case side4=>exact (rd_ HO_12.out).2.1);(case side5=>exact far_slice (IsS56.own_ne HI337.out HO_12.out (by decide)));rintro e w89 ⟨v391,rfl,ho0,hi,hb,hk⟩;refine ⟨_,rfl,?_⟩;have n0_:=A_ (rm (Kd.R_told (Kd.R_oldK (IsS56.apart (show IsS56 w _ g337 t335 x338001_2 from by repeat (first|(with_reducible first|exact HI337.out|apply IsS56.alloc|apply IsS56.drewN|apply IsS56.drew|apply IsS56.set_1|refine IsS56.far ?_ NB337_369.out _|refine IsS56.far ?_ NB337_377.out _|refine IsS56.far ?_ NB337_381.out _)|exact HI337.out)) (by (with_reducible repeat (first|apply ra|apply rb|apply rc));exact HO_12.out) (by decide)) hk) (rs ho0)) (fun _ h_=>h_.1));have n1_:=A_ (rm (Kd.R_told (Kd.R_oldK (IsS56.apart (show IsS56 w _ g337 t335 x338001_2 from by repeat (first|(with_reducible first|exact HI337.out|apply IsS56.alloc|apply IsS56.drewN|apply IsS56.drew|apply IsS56.set_1|refine IsS56.far ?_ NB337_369.out _|refine IsS56.far ?_ NB337_377.out _|refine IsS56.far ?_ NB337_381.out _)|exact HI337.out)) (by (with_reducible repeat (first|apply ra|apply rb|apply rc));exact HO_138.out) (by decide)) hk) (rs ho0)) (fun _ h_=>h_.1));have n2_:=A_ (KeepBut.blk hk (g':=gb369) (o:=.cells #[.slice A368_0 ((rd_T49 y363 x80_2).f0).length c368_0,.slice A368_1 ((rd_T49 y363 x80_2).f1).length c368_1] 49 (0,0)) (by (with_reducible repeat (first|refine blk_drewN ?_ _|refine blk_drew ?_|refine blk_alloc ?_ _));exact BK369.out) NB369_337.out (by simp));have n3_:=A_ (KeepBut.blk hk (g':=gb377) (o:=.cells #[.int .i64 t374,.int .i64 t375] 37 (0,0)) (by (with_reducible repeat (first|refine blk_drewN ?_ _|refine blk_drew ?_|refine blk_alloc ?_ _));exact BK377.out) NB377_337.out (by simp));have n4_:=A_ (KeepBut.blk hk (g':=gb381) (o:=.cells #[.int .i64 t378,.int .i64 t379] 37 (0,0)) (by (with_reducible repeat (first|refine blk_drewN ?_ _|refine blk_drew ?_|refine blk_alloc ?_ _));exact BK381.out) NB381_337.out (by simp));have n5_:=A_ (Kd.R_lower (rn (rn ho0 (rl (by (with_reducible repeat (first|apply ra|apply rb|apply rc));exact HO_12.out))) (rl (by (with_reducible repeat (first|apply ra|apply rb|apply rc));exact HO_138.out))) (below_size (by repeat (first|(with_reducible first|exact HB.out|apply ba|apply bb|apply bc|refine below_set ?_ (IsS56.ge HI337.out)|refine below_set ?_ GE369.out|refine below_set ?_ GE377.out|refine below_set ?_ GE381.out)|exact HB.out))));have n6_:=A_ (hb);have nk_:=A_ (KeepBut.trans (by repeat (first|(with_reducible first|exact HKB.out|apply KeepBut.set_|apply keep_drewN|apply keep_drew|apply keep_alloc|refine keep_far ?_ GEKa.out _|refine keep_far ?_ GEKb.out _|refine keep_far ?_ GEKc.out _)|exact HKB.out)) hk (.inl rfl));have n7_:=A_ (hi);clear HO_12;clear HO_138;clear BK369;clear BK377;clear BK381;clear HB;clear HKB;clear HI337;have HO_12:=n0_;have HO_138:=n1_;have BK369:=n2_;have BK377:=n3_;have BK381:=n4_;have HO392:=n5_;have HB:=n6_;have HKB:=nk_;have HI337:=n7_;clear n0_ n1_ n2_ n3_ n4_ n5_ n6_ n7_;(try clear nk_);(try clear nqa_);(try clear nqb_);(try clear nqc_);(try clear hb);(try clear hb2);(try clear hk);(try clear hi);(try clear ho0);obtain ⟨Ao90,co90,eo90⟩:=Kd.R_slice HO392.out;subst eo90)|((with_reducible refine gate_dst (N:=176) rfl ?_);(try (refine gate_guard (by rfl) ?_;dsimp only));refine lit_seen 22 ?hg (xs:=y394) (ys:=([l1,t347,t390] : List (List Int))) (inner:=[.slice A1 l1.length c1,.slice Ao88 t347.length co88,.slice Ao90 t390.length co90]) Ny394.out ?hr ?_;(case hg=>rfl);(case hr=>first|(go_simp;done)|(go_simp;rfl));intro Ao92 co92 w91 hlc_ hk_ hb;have hrep_:=(Reps.one (show Kd.K (Kd.slice 3 (Kd.int .i64)) w91 l1 [.slice A1 l1.length c1] from ⟨_,_,rfl,HC1.out,cl (w:=w89) (by repeat (first|exact (cl HR1.out HB.out)|(with_reducible refine ca ?_ _)|(with_reducible refine cb ?_ _)|(with_reducible refine cc ?_))) hb⟩) (Reps.one (show Kd.K (Kd.slice 3 (Kd.int .i64)) w91 t347 [.slice Ao88 t347.length co88] from ⟨_,_,rfl,(rd_ HO_12.out).2.1,cl (w:=w89) (by repeat (first|exact (rd_ HO_12.out).2.2|(with_reducible refine ca ?_ _)|(with_reducible refine cb ?_ _)|(with_reducible refine cc ?_))) hb⟩) (Reps.one (show Kd.K (Kd.slice 3 (Kd.int .i64)) w91 t390 [.slice Ao90 t390.length co90] from ⟨_,_,rfl,(rd_ HO392.out).2.1,cl (w:=w89) (by repeat (first|exact (rd_ HO392.out).2.2|(with_reducible refine ca ?_ _)|(with_reducible refine cb ?_ _)|(with_reducible refine cc ?_))) hb⟩) (Reps.none _ _))));have hC_:=lit_C (Kd.slice 3 (Kd.int .i64)) (xs:=y394) hk_ (by rw [Ny394.out];exact hrep_) (by rw [Ny394.out];first|decide|simp);clear hk_ hrep_;have n0_:=A_ (rw_ (by (with_reducible repeat (first|apply ra|apply rb|apply rc));exact HO_12.out) hb);have n1_:=A_ (rw_ (by (with_reducible repeat (first|apply ra|apply rb|apply rc));exact HO_138.out) hb);have n2_:=A_ (rw_ (by (with_reducible repeat (first|apply ra|apply rb|apply rc));exact HO392.out) hb);have n3_:=A_ (blk_below (g:=gb369) (o:=.cells #[.slice A368_0 ((rd_T49 y363 x80_2).f0).length c368_0,.slice A368_1 ((rd_T49 y363 x80_2).f1).length c368_1] 49 (0,0)) (by (with_reducible repeat (first|refine blk_drewN ?_ _|refine blk_drew ?_|refine blk_alloc ?_ _));exact BK369.out) hb);have n4_:=A_ (blk_below (g:=gb377) (o:=.cells #[.int .i64 t374,.int .i64 t375] 37 (0,0)) (by (with_reducible repeat (first|refine blk_drewN ?_ _|refine blk_drew ?_|refine blk_alloc ?_ _));exact BK377.out) hb);have n5_:=A_ (blk_below (g:=gb381) (o:=.cells #[.int .i64 t378,.int .i64 t379] 37 (0,0)) (by (with_reducible repeat (first|refine blk_drewN ?_ _|refine blk_drew ?_|refine blk_alloc ?_ _));exact BK381.out) hb);have n6_:=A_ (IsS56.below (by repeat (first|(with_reducible first|exact HI337.out|apply IsS56.alloc|apply IsS56.drewN|apply IsS56.drew|apply IsS56.set_1|refine IsS56.far ?_ NB337_369.out _|refine IsS56.far ?_ NB337_377.out _|refine IsS56.far ?_ NB337_381.out _)|exact HI337.out)) hb);have n7_:=A_ (below_step (by repeat (first|(with_reducible first|exact HB.out|apply ba|apply bb|apply bc|refine below_set ?_ (IsS56.ge HI337.out)|refine below_set ?_ GE369.out|refine below_set ?_ GE377.out|refine below_set ?_ GE381.out)|exact HB.out)) hb);have nk_:=A_ (KeepBut.trans (by repeat (first|(with_reducible first|exact HKB.out|apply KeepBut.set_|apply keep_drewN|apply keep_drew|apply keep_alloc|refine keep_far ?_ GEKa.out _|refine keep_far ?_ GEKb.out _|refine keep_far ?_ GEKc.out _)|exact HKB.out)) (KeepBut.of_below hb g337 none) (.inl rfl));clear HO_12;clear HO_138;clear HO392;clear BK369;clear BK377;clear BK381;clear HI337;clear HB;clear HKB;have HO_12:=n0_;have HO_138:=n1_;have HO392:=n2_;have BK369:=n3_;have BK377:=n4_;have BK381:=n5_;have HI337:=n6_;have HB:=n7_;have HKB:=nk_;clear n0_ n1_ n2_ n3_ n4_ n5_ n6_ n7_;(try clear nk_);(try clear nqa_);(try clear nqb_);(try clear nqc_);have HR397:=A_ hC_;have HKC:=A_ (Below.refl w91.heap.size w91);have HC397:=A_ hlc_;clear hC_ hlc_ hb))
                go_loopg [178] k4 (fun kq v178 w'=>∃ (x178_5 : Int),v178 = .int .i64 x178_5∧Aside0 (shapesearchlaw12_EuclidAnswers.l2 kq l1 a2 t347 y363 (y363.length : Int) x80_2 y394 (y394.length : Int) x178_5 t335 t393 ((rd_T49 y363 x80_2).f0) ((rd_T49 y363 x80_2).f1) = some r)∧Aside0 (kq ≤ k4)∧Aside0 (Kd.R (Kd.int .i64) 3 w' w.heap.size (fun _=>True) (.slice Ao88 t347.length co88) t347)∧Aside0 (w'.heap[gb369]? = some (.cells #[(.slice A368_0 ((rd_T49 y363 x80_2).f0).length c368_0),(.slice A368_1 ((rd_T49 y363 x80_2).f1).length c368_1)] 49 (0,0)))∧Aside0 (w'.heap[gb377]? = some (.cells #[.int .i64 t374,.int .i64 t375] 37 (0,0)))∧Aside0 (w'.heap[gb381]? = some (.cells #[.int .i64 t378,.int .i64 t379] 37 (0,0)))∧Aside0 (Below w91.heap.size w91 w')∧Aside0 (IsS56 w w' g337 t335 t393)∧Aside0 (Below w.heap.size w w')∧Aside0 (KeepBut w29 w' g337 none))
                case atStart=>exact ⟨(0),(by first|rfl|(simp;done)|(simp [*];done)),H',⟨Nat.le_refl _⟩,⟨by (with_reducible repeat (first|apply ra|apply rb|apply rc));exact rm HO_12.out (fun _ hk=>trivial)⟩,⟨by (with_reducible repeat (first|refine blk_drewN ?_ _|refine blk_drew ?_|refine blk_alloc ?_ _));exact BK369.out⟩,⟨by (with_reducible repeat (first|refine blk_drewN ?_ _|refine blk_drew ?_|refine blk_alloc ?_ _));exact BK377.out⟩,⟨by (with_reducible repeat (first|refine blk_drewN ?_ _|refine blk_drew ?_|refine blk_alloc ?_ _));exact BK381.out⟩,⟨by repeat (first|(with_reducible first|exact HKC.out|apply ba|apply bb|apply bc)|exact HKC.out)⟩,⟨by repeat (first|(with_reducible first|exact HI337.out|apply IsS56.alloc|apply IsS56.drewN|apply IsS56.drew|apply IsS56.set_1|refine IsS56.far ?_ NB337_369.out _|refine IsS56.far ?_ NB337_377.out _|refine IsS56.far ?_ NB337_381.out _)|exact HI337.out)⟩,⟨by repeat (first|(with_reducible first|exact HB.out|apply ba|apply bb|apply bc|refine below_set ?_ (IsS56.ge HI337.out)|refine below_set ?_ GE369.out|refine below_set ?_ GE377.out|refine below_set ?_ GE381.out)|exact HB.out)⟩,⟨by repeat (first|(with_reducible first|exact HKB.out|apply KeepBut.set_|apply keep_drewN|apply keep_drew|apply keep_alloc|refine keep_far ?_ GEKa.out _|refine keep_far ?_ GEKb.out _|refine keep_far ?_ GEKc.out _)|exact HKB.out)⟩⟩
                case round =>
                 clear H'
                 try clear c1
                 try clear c2
                 try clear p2
                 try clear q2
                 try clear c3
                 try clear p3
                 try clear q3
                 try clear hx3
                 try clear c4
                 try clear c5
                 try clear c6
                 try clear c6b0
                 try clear c6b1
                 try clear p6
                 try clear c7
                 try clear c8
                 try clear c9
                 try clear c10
                 try clear c12
                 try clear c15
                 try clear c16
                 try clear c16b0
                 try clear c16b1
                 try clear c20
                 try clear c23
                 try clear c24
                 try clear q24
                 try clear c25
                 try clear c26
                 try clear c27
                 try clear c28
                 try clear c31
                 try clear c31b0
                 try clear c32
                 try clear c32b0
                 try clear c33
                 try clear c33b0
                 try clear c36
                 try clear p36
                 try clear q36
                 try clear hx36
                 try clear p38
                 try clear q38
                 try clear hx38
                 try clear c40
                 try clear c44
                 try clear c45
                 try clear c50
                 try clear c51
                 try clear c52
                 try clear c54
                 try clear c54b0
                 try clear c54b1
                 try clear c55
                 try clear c55b0
                 try clear c55b1
                 try clear c56
                 try clear c56b0
                 try clear c57
                 try clear c58
                 try clear c59
                 try clear c61
                 try clear c62
                 try clear c64
                 try clear p64
                 try clear c65
                 try clear c66
                 try clear c68
                 try clear c69
                 try clear c71
                 try clear c75
                 try clear c75b0
                 try clear c76
                 try clear c76b0
                 try clear c77
                 try clear c77b0
                 try clear c81
                 try clear c82
                 try clear c83
                 try clear c85
                 try clear c85b0
                 try clear c85b1
                 try clear c86
                 try clear c86b0
                 try clear c86b1
                 try clear c86b2
                 try clear hcz41_0
                 try clear hcz41_1
                 try clear hcz46_0
                 try clear hcz46_1
                 try clear hcz47_0
                 try clear hcz47_1
                 try clear hcz53_0
                 try clear hcz53_1
                 try clear hcz60_0
                 try clear hcz60_1
                 try clear hcz63_0
                 try clear hcz63_1
                 try clear hcz67_0
                 try clear hcz67_1
                 try clear hcz70_0
                 try clear hcz70_1
                 try clear hcz84_0
                 try clear hcz84_1
                 try clear hfz41_0
                 try clear hfz41_1
                 try clear hfz46_0
                 try clear hfz46_1
                 try clear hfz47_0
                 try clear hfz47_1
                 try clear hfz53_0
                 try clear hfz53_1
                 try clear hfz60_0
                 try clear hfz60_1
                 try clear hfz63_0
                 try clear hfz63_1
                 try clear hfz67_0
                 try clear hfz67_1
                 try clear hfz70_0
                 try clear hfz70_1
                 try clear hfz84_0
                 try clear hfz84_1
                 try clear hx368_0
                 try clear hx368_1
                 try clear hx385_0
                 try clear p2
                 try clear p3
                 try clear p36
                 try clear p368
                 try clear p385
                 try clear p6
                 try clear p64
                 try clear q2
                 try clear q24
                 try clear q3
                 try clear q36
                 try clear q368
                 try clear q385
                 obtain ⟨x178_5,rfl,HA,HK5,HO_12,BK369,BK377,BK381,HKC,HI337,HB,HKB⟩:=hrel
                 cases gk with
                 | zero=>exact absurd HA.out (by simp [shapesearchlaw12_EuclidAnswers.l2])
                 | succ k5 =>
                  have H:=HA.out
                  clear HA
                  simp only [shapesearchlaw12_EuclidAnswers.l2] at H
                  by_cases c93 : x178_5 < (y394.length : Int)
                  ·
                   rw [if_pos c93] at H
                   have c93b0 : decide (x178_5 < (y394.length : Int)) = true:=decide_eq_true c93
                   clear c93
                   by_cases c94 : 0 ≤ x178_5
                   ·
                    rw [if_pos c94] at H
                    have c94b0 : decide (0 ≤ x178_5) = true:=decide_eq_true c94
                    clear c94
                    by_cases c95 : x178_5 < (y394.length : Int)
                    ·
                     rw [if_pos c95] at H
                     have c95b0 : decide (x178_5 < (y394.length : Int)) = true:=decide_eq_true c95
                     clear c95
                     replace H:=Option.bind_eq_some_iff.mp H
                     obtain ⟨⟨t399,t400⟩,A960,H⟩:=H
                     replace H : ((shapesearchref12_Profile.f k5 ((rd_T49 y363 x80_2).f0) (rd_L1 y394 x178_5)).bind fun bt403=>((shapesearchkeep_Ints.f k5 t399 bt403.1).bind fun t407=>(if t407 = true then (if t400 = bt403.2 then (shapesearchlaw12_EuclidAnswers.l2 k5 l1 a2 t347 y363 (y363.length : Int) x80_2 y394 (y394.length : Int) (wrap64 (x178_5 + 1)) t335 t393 ((rd_T49 y363 x80_2).f0) ((rd_T49 y363 x80_2).f1)) else (some false)) else (some false)))) = some r:=H
                     have A96:=A_ A960
                     clear A960
                     replace H:=Option.bind_eq_some_iff.mp H
                     obtain ⟨⟨t403,t404⟩,A970,H⟩:=H
                     replace H : ((shapesearchkeep_Ints.f k5 t399 t403).bind fun t407=>(if t407 = true then (if t400 = t404 then (shapesearchlaw12_EuclidAnswers.l2 k5 l1 a2 t347 y363 (y363.length : Int) x80_2 y394 (y394.length : Int) (wrap64 (x178_5 + 1)) t335 t393 ((rd_T49 y363 x80_2).f0) ((rd_T49 y363 x80_2).f1)) else (some false)) else (some false))) = some r:=H
                     have A97:=A_ A970
                     clear A970
                     have HC98:=A_ H
                     clear H
                     have p398 : 0 ≤ (x178_5 : Int):=of_decide_eq_true (by first|(with_reducible assumption)|assumption)
                     have q398 : x178_5 < (y394.length : Int):=of_decide_eq_true (by first|(with_reducible assumption)|assumption)
                     obtain ⟨ad398,A398_0,c398_0,e398,hx398_0,hl398_0,hi398_0⟩:=at_L1 HR397.out x178_5 p398 q398
                     cases e398
                     replace hx398_0:=(HKC.out.cell (World.block_lt_of_cell? w91 _ hx398_0)).trans hx398_0
                     have HR398_0:=A_ hi398_0
                     have HC398_0:=A_ hl398_0
                     clear hi398_0 hl398_0
                     replace p398:=eq_true p398
                     replace q398:=eq_true q398
                     have hnb99:=NB369_377.out
                     have hnc99:=NB377_369.out
                     have hnb100:=NB369_381.out
                     have hnc100:=NB381_369.out
                     have hnb101:=NB369_337.out
                     have hnc101:=NB337_369.out
                     have hcz102_0 : wr.cell? ⟨gb369,0,none⟩ = some (.slice A368_0 ((rd_T49 y363 x80_2).f0).length c368_0):=(blk_cell BK369.out 0).trans rfl
                     have hcz102_1 : wr.cell? ⟨gb369,1,none⟩ = some (.slice A368_1 ((rd_T49 y363 x80_2).f1).length c368_1):=(blk_cell BK369.out 1).trans rfl
                     have hfz102_0:=blk_frozen BK369.out 0
                     have hfz102_1:=blk_frozen BK369.out 1
                     go_upto_region 28 with (first|((with_reducible refine gate_callee (f:=22) rfl ?_);refine goesL_ (some 186) rfl rfl Try.func22 (by kernel_rfl) rfl #[.slice A368_0 ((rd_T49 y363 x80_2).f0).length c368_0,.slice A398_0 (rd_L1 y394 x178_5).length c398_0] rfl (by (try simp only [List.map_toArray,List.map_cons,List.map_nil]);first|done|rfl|(simp only [List.length_drop,List.length_take];rfl)|((try rw [KY24.out]);rfl)) ?_;(with_reducible refine (euclid_Profile.calls k5 _ _ ((rd_T49 y363 x80_2).f0) _ _ (rd_L1 y394 x178_5) t399 t400 _ ?side1 ?side2 ?side3 ?side4 A96.out).mono ?_);(case side1=>repeat (first|exact (unmask_C HR368_0.out HKB.out)|(with_reducible refine ca ?_ _)|(with_reducible refine cb ?_ _)|(with_reducible refine cc ?_)));(case side2=>exact HC368_0.out);(case side3=>repeat (first|exact (cl HR398_0.out HKC.out)|(with_reducible refine ca ?_ _)|(with_reducible refine cb ?_ _)|(with_reducible refine cc ?_)));(case side4=>exact HC398_0.out);rintro e w103 ⟨v401,rfl,ho0,hb⟩;refine ⟨_,rfl,?_⟩;have n0_:=A_ (re (by (with_reducible repeat (first|apply ra|apply rb|apply rc));exact HO_12.out) (rs ho0) hb);have n1_:=A_ (Kd.R_lower (rn ho0 (rl (by (with_reducible repeat (first|apply ra|apply rb|apply rc));exact HO_12.out))) (below_size (by repeat (first|(with_reducible first|exact HB.out|apply ba|apply bb|apply bc|refine below_set ?_ (IsS56.ge HI337.out)|refine below_set ?_ GE369.out|refine below_set ?_ GE377.out|refine below_set ?_ GE381.out)|exact HB.out))));have n2_:=A_ (blk_below (g:=gb369) (o:=.cells #[.slice A368_0 ((rd_T49 y363 x80_2).f0).length c368_0,.slice A368_1 ((rd_T49 y363 x80_2).f1).length c368_1] 49 (0,0)) (by (with_reducible repeat (first|refine blk_drewN ?_ _|refine blk_drew ?_|refine blk_alloc ?_ _));exact BK369.out) hb);have n3_:=A_ (blk_below (g:=gb377) (o:=.cells #[.int .i64 t374,.int .i64 t375] 37 (0,0)) (by (with_reducible repeat (first|refine blk_drewN ?_ _|refine blk_drew ?_|refine blk_alloc ?_ _));exact BK377.out) hb);have n4_:=A_ (blk_below (g:=gb381) (o:=.cells #[.int .i64 t378,.int .i64 t379] 37 (0,0)) (by (with_reducible repeat (first|refine blk_drewN ?_ _|refine blk_drew ?_|refine blk_alloc ?_ _));exact BK381.out) hb);have n5_:=A_ (IsS56.below (by repeat (first|(with_reducible first|exact HI337.out|apply IsS56.alloc|apply IsS56.drewN|apply IsS56.drew|apply IsS56.set_1|refine IsS56.far ?_ NB337_369.out _|refine IsS56.far ?_ NB337_377.out _|refine IsS56.far ?_ NB337_381.out _)|exact HI337.out)) hb);have n6_:=A_ (below_step (by repeat (first|(with_reducible first|exact HKC.out|apply ba|apply bb|apply bc)|exact HKC.out)) hb);have n7_:=A_ (below_step (by repeat (first|(with_reducible first|exact HB.out|apply ba|apply bb|apply bc|refine below_set ?_ (IsS56.ge HI337.out)|refine below_set ?_ GE369.out|refine below_set ?_ GE377.out|refine below_set ?_ GE381.out)|exact HB.out)) hb);have nk_:=A_ (KeepBut.trans (by repeat (first|(with_reducible first|exact HKB.out|apply KeepBut.set_|apply keep_drewN|apply keep_drew|apply keep_alloc|refine keep_far ?_ GEKa.out _|refine keep_far ?_ GEKb.out _|refine keep_far ?_ GEKc.out _)|exact HKB.out)) (KeepBut.of_below hb g337 none) (.inl rfl));clear HO_12;clear BK369;clear BK377;clear BK381;clear HI337;clear HKC;clear HB;clear HKB;have HO_12:=n0_;have HO402:=n1_;have BK369:=n2_;have BK377:=n3_;have BK381:=n4_;have HI337:=n5_;have HKC:=n6_;have HB:=n7_;have HKB:=nk_;clear n0_ n1_ n2_ n3_ n4_ n5_ n6_ n7_;(try clear nk_);(try clear nqa_);(try clear nqb_);(try clear nqc_);(try clear hb);(try clear hb2);(try clear hk);(try clear hi);(try clear ho0);have hcz104_0 : w103.cell? ⟨gb369,0,none⟩ = some (.slice A368_0 ((rd_T49 y363 x80_2).f0).length c368_0):=(blk_cell BK369.out 0).trans rfl;have hcz104_1 : w103.cell? ⟨gb369,1,none⟩ = some (.slice A368_1 ((rd_T49 y363 x80_2).f1).length c368_1):=(blk_cell BK369.out 1).trans rfl;have hfz104_0:=blk_frozen BK369.out 0;have hfz104_1:=blk_frozen BK369.out 1)|((with_reducible refine gate_callee (f:=29) rfl ?_);refine goesL_ (some 193) rfl rfl Try.func29 (by kernel_rfl) rfl #[.slice A368_0 ((rd_T49 y363 x80_2).f0).length c368_0,.slice A398_0 (rd_L1 y394 x178_5).length c398_0] rfl (by (try simp only [List.map_toArray,List.map_cons,List.map_nil]);first|done|rfl|(simp only [List.length_drop,List.length_take];rfl)|((try rw [KY24.out]);rfl)) ?_;(with_reducible refine (shapesearchref12_Profile.calls k5 _ _ ((rd_T49 y363 x80_2).f0) _ _ (rd_L1 y394 x178_5) t403 t404 _ ?side1 ?side2 ?side3 ?side4 A97.out).mono ?_);(case side1=>repeat (first|exact (unmask_C HR368_0.out HKB.out)|(with_reducible refine ca ?_ _)|(with_reducible refine cb ?_ _)|(with_reducible refine cc ?_)));(case side2=>exact HC368_0.out);(case side3=>repeat (first|exact (cl HR398_0.out HKC.out)|(with_reducible refine ca ?_ _)|(with_reducible refine cb ?_ _)|(with_reducible refine cc ?_)));(case side4=>exact HC398_0.out);rintro e w105 ⟨v405,rfl,ho0,hb⟩;refine ⟨_,rfl,?_⟩;have n0_:=A_ (re (by (with_reducible repeat (first|apply ra|apply rb|apply rc));exact HO_12.out) (rs ho0) hb);have n1_:=A_ (re (by (with_reducible repeat (first|apply ra|apply rb|apply rc));exact HO402.out) (rs ho0) hb);have n2_:=A_ (Kd.R_lower (rn (rn ho0 (rl (by (with_reducible repeat (first|apply ra|apply rb|apply rc));exact HO_12.out))) (rl (by (with_reducible repeat (first|apply ra|apply rb|apply rc));exact HO402.out))) (below_size (by repeat (first|(with_reducible first|exact HB.out|apply ba|apply bb|apply bc|refine below_set ?_ (IsS56.ge HI337.out)|refine below_set ?_ GE369.out|refine below_set ?_ GE377.out|refine below_set ?_ GE381.out)|exact HB.out))));have n3_:=A_ (blk_below (g:=gb369) (o:=.cells #[.slice A368_0 ((rd_T49 y363 x80_2).f0).length c368_0,.slice A368_1 ((rd_T49 y363 x80_2).f1).length c368_1] 49 (0,0)) (by (with_reducible repeat (first|refine blk_drewN ?_ _|refine blk_drew ?_|refine blk_alloc ?_ _));exact BK369.out) hb);have n4_:=A_ (blk_below (g:=gb377) (o:=.cells #[.int .i64 t374,.int .i64 t375] 37 (0,0)) (by (with_reducible repeat (first|refine blk_drewN ?_ _|refine blk_drew ?_|refine blk_alloc ?_ _));exact BK377.out) hb);have n5_:=A_ (blk_below (g:=gb381) (o:=.cells #[.int .i64 t378,.int .i64 t379] 37 (0,0)) (by (with_reducible repeat (first|refine blk_drewN ?_ _|refine blk_drew ?_|refine blk_alloc ?_ _));exact BK381.out) hb);have n6_:=A_ (IsS56.below (by repeat (first|(with_reducible first|exact HI337.out|apply IsS56.alloc|apply IsS56.drewN|apply IsS56.drew|apply IsS56.set_1|refine IsS56.far ?_ NB337_369.out _|refine IsS56.far ?_ NB337_377.out _|refine IsS56.far ?_ NB337_381.out _)|exact HI337.out)) hb);have n7_:=A_ (below_step (by repeat (first|(with_reducible first|exact HKC.out|apply ba|apply bb|apply bc)|exact HKC.out)) hb);have n8_:=A_ (below_step (by repeat (first|(with_reducible first|exact HB.out|apply ba|apply bb|apply bc|refine below_set ?_ (IsS56.ge HI337.out)|refine below_set ?_ GE369.out|refine below_set ?_ GE377.out|refine below_set ?_ GE381.out)|exact HB.out)) hb);have nk_:=A_ (KeepBut.trans (by repeat (first|(with_reducible first|exact HKB.out|apply KeepBut.set_|apply keep_drewN|apply keep_drew|apply keep_alloc|refine keep_far ?_ GEKa.out _|refine keep_far ?_ GEKb.out _|refine keep_far ?_ GEKc.out _)|exact HKB.out)) (KeepBut.of_below hb g337 none) (.inl rfl));clear HO_12;clear HO402;clear BK369;clear BK377;clear BK381;clear HI337;clear HKC;clear HB;clear HKB;have HO_12:=n0_;have HO402:=n1_;have HO406:=n2_;have BK369:=n3_;have BK377:=n4_;have BK381:=n5_;have HI337:=n6_;have HKC:=n7_;have HB:=n8_;have HKB:=nk_;clear n0_ n1_ n2_ n3_ n4_ n5_ n6_ n7_ n8_;(try clear nk_);(try clear nqa_);(try clear nqb_);(try clear nqc_);(try clear hb);(try clear hb2);(try clear hk);(try clear hi);(try clear ho0)))
                     (try simp only [Act.put,List.setIfInBounds_toArray,List.set_cons_zero,List.set_cons_succ])
                     have H:=HC98.out
                     clear HC98
                     replace H:=Option.bind_eq_some_iff.mp H
                     obtain ⟨t407,A1060,H⟩:=H
                     replace H : (if t407 = true then (if t400 = t404 then (shapesearchlaw12_EuclidAnswers.l2 k5 l1 a2 t347 y363 (y363.length : Int) x80_2 y394 (y394.length : Int) (wrap64 (x178_5 + 1)) t335 t393 ((rd_T49 y363 x80_2).f0) ((rd_T49 y363 x80_2).f1)) else (some false)) else (some false)) = some r:=H
                     have A106:=A_ A1060
                     clear A1060
                     by_cases c107 : t407 = true
                     ·
                      subst c107
                      have H1 : (if t400 = t404 then (shapesearchlaw12_EuclidAnswers.l2 k5 l1 a2 t347 y363 (y363.length : Int) x80_2 y394 (y394.length : Int) (wrap64 (x178_5 + 1)) t335 t393 ((rd_T49 y363 x80_2).f0) ((rd_T49 y363 x80_2).f1)) else (some false)) = some r:=by rw [if_pos rfl] at H;exact H
                      clear H
                      have H:=H1
                      clear H1
                      by_cases c108 : t400 = t404
                      ·
                       rw [if_pos c108] at H
                       have c108b0 : (t400 == t404) = true:=beq_iff_eq.mpr c108
                       have c108b1 : (t400 != t404) = false:=bne_eq_false_iff_eq.mpr c108
                       clear c108
                       (first|rw [c108b0]|(simp only [i64_w,i32_w];rw [c108b0])|skip)
                       have H':=A_ H
                       clear H
                       obtain ⟨Ao109,co109,eo109⟩:=Kd.R_slice HO402.out
                       subst eo109
                       obtain ⟨Ao110,co110,eo110⟩:=Kd.R_slice HO406.out
                       subst eo110
                       go_wp2_with (first|((with_reducible refine gate_callee (f:=13) rfl ?_);refine goesL_ (some 198) rfl rfl Try.func13 (by kernel_rfl) rfl #[.slice Ao109 t399.length co109,.slice Ao110 t403.length co110] rfl (by (try simp only [List.map_toArray,List.map_cons,List.map_nil]);first|done|rfl|(simp only [List.length_drop,List.length_take];rfl)|((try rw [KY24.out]);rfl)) ?_;(with_reducible refine (shapesearchkeep_Ints.calls k5 _ _ t399 _ _ t403 true _ ?side1 ?side2 ?side3 ?side4 A106.out).mono ?_);(case side1=>repeat (first|exact (rd_ HO402.out).2.2|(with_reducible refine ca ?_ _)|(with_reducible refine cb ?_ _)|(with_reducible refine cc ?_)));(case side2=>exact (rd_ HO402.out).2.1);(case side3=>repeat (first|exact (rd_ HO406.out).2.2|(with_reducible refine ca ?_ _)|(with_reducible refine cb ?_ _)|(with_reducible refine cc ?_)));(case side4=>exact (rd_ HO406.out).2.1);rintro e w' ⟨rfl,⟨nd,rfl⟩⟩;refine ⟨_,rfl,?_⟩))
                       go_roundg k5
                       case measure=>have:=HJ4.out;have:=HK2.out;have:=HJ37.out;have:=HK4.out;have:=HK5.out;omega
                       case rel=>exact ⟨(wrap64 (x178_5 + 1)),(by first|rfl|(simp;done)|(simp [*];done)),H',⟨by have:=HJ4.out;have:=HK2.out;have:=HJ37.out;have:=HK4.out;have:=HK5.out;omega⟩,⟨by (with_reducible repeat (first|apply ra|apply rb|apply rc));exact rm HO_12.out (fun _ hk=>trivial)⟩,⟨by (with_reducible repeat (first|refine blk_drewN ?_ _|refine blk_drew ?_|refine blk_alloc ?_ _));exact BK369.out⟩,⟨by (with_reducible repeat (first|refine blk_drewN ?_ _|refine blk_drew ?_|refine blk_alloc ?_ _));exact BK377.out⟩,⟨by (with_reducible repeat (first|refine blk_drewN ?_ _|refine blk_drew ?_|refine blk_alloc ?_ _));exact BK381.out⟩,⟨by repeat (first|(with_reducible first|exact HKC.out|apply ba|apply bb|apply bc)|exact HKC.out)⟩,⟨by repeat (first|(with_reducible first|exact HI337.out|apply IsS56.alloc|apply IsS56.drewN|apply IsS56.drew|apply IsS56.set_1|refine IsS56.far ?_ NB337_369.out _|refine IsS56.far ?_ NB337_377.out _|refine IsS56.far ?_ NB337_381.out _)|exact HI337.out)⟩,⟨by repeat (first|(with_reducible first|exact HB.out|apply ba|apply bb|apply bc|refine below_set ?_ (IsS56.ge HI337.out)|refine below_set ?_ GE369.out|refine below_set ?_ GE377.out|refine below_set ?_ GE381.out)|exact HB.out)⟩,⟨by repeat (first|(with_reducible first|exact HKB.out|apply KeepBut.set_|apply keep_drewN|apply keep_drew|apply keep_alloc|refine keep_far ?_ GEKa.out _|refine keep_far ?_ GEKb.out _|refine keep_far ?_ GEKc.out _)|exact HKB.out)⟩⟩
                      ·
                       rw [if_neg c108] at H
                       have c108b0 : (t400 == t404) = false:=beq_eq_false_iff_ne.mpr c108
                       have c108b1 : (t400 != t404) = true:=bne_iff_ne.mpr c108
                       (first|rw [c108b0]|(simp only [i64_w,i32_w];rw [c108b0])|skip)
                       exact absurd ((Option.some.inj H).trans HTR_.out) (by decide)
                     ·
                      replace c107:=Bool.eq_false_iff.mpr c107
                      subst c107
                      have H1 : (some false) = some r:=by rw [if_neg (show ¬ (false = true) by decide)] at H;exact H
                      clear H
                      have H:=H1
                      clear H1
                      exact absurd ((Option.some.inj H).trans HTR_.out) (by decide)
                    ·
                     rw [if_neg c95] at H
                     exact absurd H (by simp)
                   ·
                    rw [if_neg c94] at H
                    exact absurd H (by simp)
                  ·
                   rw [if_neg c93] at H
                   have c93b0 : decide (x178_5 < (y394.length : Int)) = false:=decide_eq_false c93
                   clear c93
                   have H':=A_ H
                   clear H
                   go_wp2
                   go_roundg k5
                   case measure=>have:=HJ4.out;have:=HK2.out;have:=HJ37.out;have:=HK4.out;have:=HK5.out;omega
                   case rel=>exact ⟨(wrap64 (x80_2 + 1)),(t393),(by first|rfl|(simp;done)|(simp [*];done)),H',⟨by have:=HJ4.out;have:=HK2.out;have:=HJ37.out;have:=HK4.out;have:=HK5.out;omega⟩,⟨by (with_reducible repeat (first|apply ra|apply rb|apply rc));exact HO_12.out⟩,⟨by repeat (first|(with_reducible first|exact HI337.out|apply IsS56.alloc|apply IsS56.drewN|apply IsS56.drew|apply IsS56.set_1|refine IsS56.far ?_ NB337_369.out _|refine IsS56.far ?_ NB337_377.out _|refine IsS56.far ?_ NB337_381.out _)|exact HI337.out)⟩,⟨by repeat (first|(with_reducible first|exact HB.out|apply ba|apply bb|apply bc|refine below_set ?_ (IsS56.ge HI337.out)|refine below_set ?_ GE369.out|refine below_set ?_ GE377.out|refine below_set ?_ GE381.out)|exact HB.out)⟩,⟨by repeat (first|(with_reducible first|exact HKB.out|apply KeepBut.set_|apply keep_drewN|apply keep_drew|apply keep_alloc|refine keep_far ?_ GEKa.out _|refine keep_far ?_ GEKb.out _|refine keep_far ?_ GEKc.out _)|exact HKB.out)⟩⟩
         ·
          rw [if_neg c33] at H
          exact absurd H (by simp)
        ·
         rw [if_neg c32] at H
         exact absurd H (by simp)
       ·
        rw [if_neg c31] at H
        have c31b0 : decide (x80_2 < (y363.length : Int)) = false:=decide_eq_false c31
        clear c31
        replace H:=Option.bind_eq_some_iff.mp H
        obtain ⟨t367,A1110,H⟩:=H
        replace H : (some t367) = some r:=H
        have A111:=A_ A1110
        clear A1110
        obtain rfl:=Option.some.inj H
        go_wp2_with (first|((with_reducible refine gate_callee (f:=15) rfl ?_);refine goesL_ (some 207) rfl rfl Try.func15 (by kernel_rfl) rfl #[] rfl (by (try simp only [List.map_toArray,List.map_cons,List.map_nil]);first|done|rfl|(simp only [List.length_drop,List.length_take];rfl)|((try rw [KY24.out]);rfl)) ?_;(with_reducible refine (shapesearchlaw12_awake.calls k2  t367 _ A111.out).mono ?_);rintro e w112 ⟨rfl,hb⟩;refine ⟨_,rfl,?_⟩;have n0_:=A_ (rw_ (by (with_reducible repeat (first|apply ra|apply rb|apply rc));exact HO_12.out) hb);have n1_:=A_ (IsS56.below (by repeat (first|(with_reducible first|exact HI337.out|apply IsS56.alloc|apply IsS56.drewN|apply IsS56.drew|apply IsS56.set_1)|exact HI337.out)) hb);have n2_:=A_ (below_step (by repeat (first|(with_reducible first|exact HB.out|apply ba|apply bb|apply bc|refine below_set ?_ (IsS56.ge HI337.out))|exact HB.out)) hb);have nk_:=A_ (KeepBut.trans (by repeat (first|(with_reducible first|exact HKB.out|apply KeepBut.set_|apply keep_drewN|apply keep_drew|apply keep_alloc|refine keep_far ?_ GEKa.out _|refine keep_far ?_ GEKb.out _|refine keep_far ?_ GEKc.out _)|exact HKB.out)) (KeepBut.of_below hb g337 none) (.inl rfl));clear HO_12;clear HI337;clear HB;clear HKB;have HO_12:=n0_;have HI337:=n1_;have HB:=n2_;have HKB:=nk_;clear n0_ n1_ n2_;(try clear nk_);(try clear nqa_);(try clear nqb_);(try clear nqc_);(try clear hb);(try clear hb2);(try clear hk);(try clear hi)))
        go_ret
        exact ⟨by first|rfl|(simp [errW_none,errW_some] <;> rfl)|(simp [*,errW_none,errW_some] <;> rfl),by repeat (first|(with_reducible first|exact HB.out|apply ba|apply bb|apply bc|refine below_set ?_ (IsS56.ge HI337.out))|exact HB.out)⟩
    ·
     rw [if_neg c16] at H
     exact absurd H (by simp)

/-- THE ONE PURE STATEMENT of shapesearchlaw12_EuclidAnswers: yours. -/
def shapesearchlaw12_EuclidAnswers.Pure : Prop:=∀ (l0 : List Int) (l1 : List Int) (a2 : Int) (l3 : List Int),l0.length ≤ maxLen → l0.length * 8 ≤ 140737488351232 → (∀ x ∈ l0,(Lit.int .i64 x).wf = true) → l1.length ≤ maxLen → l1.length * 8 ≤ 140737488351232 → (∀ x ∈ l1,(Lit.int .i64 x).wf = true) → (Lit.int .i64 a2).wf = true → l3.length ≤ maxLen → l3.length * 8 ≤ 140737488351232 → (∀ x ∈ l3,(Lit.int .i64 x).wf = true) → ∃ k,shapesearchlaw12_EuclidAnswers.f k l0 l1 a2 l3 = some true
theorem shapesearchlaw12_EuclidAnswers.walk (P : shapesearchlaw12_EuclidAnswers.Pure) (a0 : Option Addr) (len0 cap0 : Nat) (z0 : List Int) (a1 : Option Addr) (len1 cap1 : Nat) (z1 : List Int) (a2 : Int) (a3 : Option Addr) (len3 cap3 : Nat) (z3 : List Int) (w : World) (w0 : (a0 = none∧len0 = 0∧cap0 = 0∧z0 = []) ∨ ∃ x,a0 = some x∧len0 ≤ cap0∧cap0 ≤ maxLen∧z0.length = cap0∧(∀ i,i < z0.length → w.cell? (x.add i) = some (.int .i64 (z0.getD i 0)))∧∀ n ∈ z0,(Lit.int .i64 n).wf = true) (y0 : len0 * 8 ≤ 140737488351232) (w1 : (a1 = none∧len1 = 0∧cap1 = 0∧z1 = []) ∨ ∃ x,a1 = some x∧len1 ≤ cap1∧cap1 ≤ maxLen∧z1.length = cap1∧(∀ i,i < z1.length → w.cell? (x.add i) = some (.int .i64 (z1.getD i 0)))∧∀ n ∈ z1,(Lit.int .i64 n).wf = true) (y1 : len1 * 8 ≤ 140737488351232) (w2 : (Lit.int .i64 a2).wf = true) (w3 : (a3 = none∧len3 = 0∧cap3 = 0∧z3 = []) ∨ ∃ x,a3 = some x∧len3 ≤ cap3∧cap3 ≤ maxLen∧z3.length = cap3∧(∀ i,i < z3.length → w.cell? (x.add i) = some (.int .i64 (z3.getD i 0)))∧∀ n ∈ z3,(Lit.int .i64 n).wf = true) (y3 : len3 * 8 ≤ 140737488351232) :
  Calls Try.prog 8 #[.slice a0 len0 cap0,.slice a1 len1 cap1,.int .i64 a2,.slice a3 len3 cap3] w fun e w'=>e = .returned (.bool true)∧Below w.heap.size w w':=by
 obtain ⟨l0,rfl,hr0,hm0,hw0,hc0⟩:=ReadsInt.ofRowC w0
 obtain ⟨l1,rfl,hr1,hm1,hw1,hc1⟩:=ReadsInt.ofRowC w1
 obtain ⟨l3,rfl,hr3,hm3,hw3,hc3⟩:=ReadsInt.ofRowC w3
 obtain ⟨k,h⟩:=P l0 l1 a2 l3 hm0 y0 hw0 hm1 y1 hw1 w2 hm3 y3 hw3
 refine (shapesearchlaw12_EuclidAnswers.calls k _ _ l0 _ _ l1 a2 _ _ l3 true w (Kd.C_of_reads (d:=(0 : Int)) (h1:=fun _=>rfl) hr0) hc0 (Kd.C_of_reads (d:=(0 : Int)) (h1:=fun _=>rfl) hr1) hc1 (Kd.C_of_reads (d:=(0 : Int)) (h1:=fun _=>rfl) hr3) hc3 h rfl).mono ?_
 rintro e w' ⟨rfl,hd⟩
 exact ⟨rfl,hd⟩

end Go.Proofs.Ytmkjmplkokfoiaa.PEuclidAnswers
