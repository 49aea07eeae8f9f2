/- This file proves, function by function, what the Go functions that one law uses compute; most of it was printed by a program (wip/tools of this session, over the kit's print). -/
import Derived.Test.YthpiafbloebpjaaPDeviceKeepsx0
import Derived.Test.YthpiafbloebpjaaPDeviceKeepsx1
import Derived.Test.YthpiafbloebpjaaPDeviceKeepsx3
import Derived.Test.YthpiafbloebpjaaPDeviceKeepsx4
import Derived.Test.YthpiafbloebpjaaPDeviceKeepsx5
import Derived.Test.YthpiafbloebpjaaPDeviceKeepsx6
namespace Go.Proofs.Ythpiafbloebpjaa.PDeviceKeeps
open Go.RowKit Go.Proofs.YthpiafbloebpjaaW.PrintWords Go.Proofs.YthpiafbloebpjaaW.PrintLast Go.Proofs.YthpiafbloebpjaaW.PrintMore
attribute [local go_sem] max2_int min2_int max_two min_two max_three min_three max_four min_four   -- for this text's walks alone
set_option linter.unusedVariables false
set_option linter.unusedSimpArgs false

/-! ### shapesearchlaw24_DeviceKeeps: function 5 -/
mutual
def shapesearchlaw24_DeviceKeeps.j0 : Nat → List Int → List Int → Int → Int → Bool → Option (Bool)
 | 0,_,_,_,_,_=>none
 | k + 1,x0,x1,x2,x3,x37=>if x37 = true then ((shapesearchlaw24_awake.f k).bind fun t199=>(some t199)) else ((device_New.f k 3).bind fun bt200=>((device_Write.f k bt200.1 bt200.2.1 1 x0).bind fun bt208=>((device_Write.f k bt208.1 bt208.2.1 2 (([x3] : List Int))).bind fun bt218=>((device_Flush.f k bt218.1 bt218.2.1).bind fun bt225=>((device_Write.f k bt225.1 bt225.2.1 1 x1).bind fun bt232=>((device_Read.f k bt232.1 bt232.2.1 1).bind fun bt239=>((device_Crash.f k bt232.1 bt232.2.1 (([wrap64 (x2)] : List Int))).bind fun bt246=>((device_Crash.f k bt232.1 bt232.2.1 (([64] : List Int))).bind fun bt257=>((device_Flush.f k bt232.1 bt232.2.1).bind fun bt265=>((device_Read.f k bt246.1 bt246.2.1 1).bind fun bt273=>((device_Read.f k bt246.1 bt246.2.1 2).bind fun bt277=>(if bt200.2.2 = 0 then (if bt208.2.2 = 0 then (if bt218.2.2 = 0 then (if bt225.2.2 = 0 then (if bt232.2.2 = 0 then (if bt239.2 = 0 then (if bt246.2.2 = 0 then (if bt257.2.2 = 0 then (if bt265.2.2 = 0 then (if bt273.2 = 0 then (if bt277.2 = 0 then ((shapesearchref24_Same.f k bt257.1 bt257.2.1 bt265.1 bt265.2.1).bind fun t281=>(if t281 = true then (if (bt273.1.length : Int) = 64 then (if (bt277.1.length : Int) = 64 then (if (bt239.1.length : Int) = 64 then (if 0 < (bt277.1.length : Int) then (if (rd bt277.1 0) = x3 then (shapesearchlaw24_DeviceKeeps.j1 k x0 x1 x2 bt239.1 bt273.1 ((bt246.2.1.length : Int) != 0)) else (shapesearchlaw24_DeviceKeeps.j1 k x0 x1 x2 bt239.1 bt273.1 true)) else (none)) else (shapesearchlaw24_DeviceKeeps.j1 k x0 x1 x2 bt239.1 bt273.1 true)) else (shapesearchlaw24_DeviceKeeps.j1 k x0 x1 x2 bt239.1 bt273.1 true)) else (shapesearchlaw24_DeviceKeeps.j1 k x0 x1 x2 bt239.1 bt273.1 true)) else (shapesearchlaw24_DeviceKeeps.j1 k x0 x1 x2 bt239.1 bt273.1 true))) else (shapesearchlaw24_DeviceKeeps.j1 k x0 x1 x2 bt239.1 bt273.1 true)) else (shapesearchlaw24_DeviceKeeps.j1 k x0 x1 x2 bt239.1 bt273.1 true)) else (shapesearchlaw24_DeviceKeeps.j1 k x0 x1 x2 bt239.1 bt273.1 true)) else (shapesearchlaw24_DeviceKeeps.j1 k x0 x1 x2 bt239.1 bt273.1 true)) else (shapesearchlaw24_DeviceKeeps.j1 k x0 x1 x2 bt239.1 bt273.1 true)) else (shapesearchlaw24_DeviceKeeps.j1 k x0 x1 x2 bt239.1 bt273.1 true)) else (shapesearchlaw24_DeviceKeeps.j1 k x0 x1 x2 bt239.1 bt273.1 true)) else (shapesearchlaw24_DeviceKeeps.j1 k x0 x1 x2 bt239.1 bt273.1 true)) else (shapesearchlaw24_DeviceKeeps.j1 k x0 x1 x2 bt239.1 bt273.1 true)) else (shapesearchlaw24_DeviceKeeps.j1 k x0 x1 x2 bt239.1 bt273.1 true)) else (shapesearchlaw24_DeviceKeeps.j1 k x0 x1 x2 bt239.1 bt273.1 true)))))))))))))
def shapesearchlaw24_DeviceKeeps.j1 : Nat → List Int → List Int → Int → List Int → List Int → Bool → Option (Bool)
 | 0,_,_,_,_,_,_=>none
 | k + 1,x0,x1,x2,x15,x23,x176=>if x176 = true then (some false) else (shapesearchlaw24_DeviceKeeps.l0 k x0 x1 x2 x15 x23 0)
def shapesearchlaw24_DeviceKeeps.l0 : Nat → List Int → List Int → Int → List Int → List Int → Int → Option (Bool)
 | 0,_,_,_,_,_,_=>none
 | k + 1,x0,x1,x2,x15,x23,x27=>if x27 < 64 then (if x27 < (x0.length : Int) then (if 0 ≤ x27 then (shapesearchlaw24_DeviceKeeps.j3 k x0 x1 x2 x15 x23 x27 (rd x0 x27) 0) else (none)) else (shapesearchlaw24_DeviceKeeps.j3 k x0 x1 x2 x15 x23 x27 0 0)) else ((shapesearchlaw24_awake.f k).bind fun t283=>(some t283))
def shapesearchlaw24_DeviceKeeps.j3 : Nat → List Int → List Int → Int → List Int → List Int → Int → Int → Int → Option (Bool)
 | 0,_,_,_,_,_,_,_,_=>none
 | k + 1,x0,x1,x2,x15,x23,x27,x28,x29=>if x27 < (x1.length : Int) then (if 0 ≤ x27 then (if x27 < (x15.length : Int) then (if (rd x15 x27) = (rd x1 x27) then (if x27 < (wrap64 (x2)) then (if x27 < (x23.length : Int) then (if (rd x23 x27) = (rd x1 x27) then (if x27 ≥ (wrap64 (x2)) then (if (rd x23 x27) = x28 then (shapesearchlaw24_DeviceKeeps.l0 k x0 x1 x2 x15 x23 (wrap64 (x27 + 1))) else (some false)) else (shapesearchlaw24_DeviceKeeps.l0 k x0 x1 x2 x15 x23 (wrap64 (x27 + 1)))) else (some false)) else (none)) else (if x27 ≥ (wrap64 (x2)) then (if x27 < (x23.length : Int) then (if (rd x23 x27) = x28 then (shapesearchlaw24_DeviceKeeps.l0 k x0 x1 x2 x15 x23 (wrap64 (x27 + 1))) else (some false)) else (none)) else (shapesearchlaw24_DeviceKeeps.l0 k x0 x1 x2 x15 x23 (wrap64 (x27 + 1))))) else (some false)) else (none)) else (none)) else (if 0 ≤ x27 then (if x27 < (x15.length : Int) then (if (rd x15 x27) = x29 then (if x27 < (wrap64 (x2)) then (if x27 < (x23.length : Int) then (if (rd x23 x27) = x29 then (if x27 ≥ (wrap64 (x2)) then (if (rd x23 x27) = x28 then (shapesearchlaw24_DeviceKeeps.l0 k x0 x1 x2 x15 x23 (wrap64 (x27 + 1))) else (some false)) else (shapesearchlaw24_DeviceKeeps.l0 k x0 x1 x2 x15 x23 (wrap64 (x27 + 1)))) else (some false)) else (none)) else (if x27 ≥ (wrap64 (x2)) then (if x27 < (x23.length : Int) then (if (rd x23 x27) = x28 then (shapesearchlaw24_DeviceKeeps.l0 k x0 x1 x2 x15 x23 (wrap64 (x27 + 1))) else (some false)) else (none)) else (shapesearchlaw24_DeviceKeeps.l0 k x0 x1 x2 x15 x23 (wrap64 (x27 + 1))))) else (some false)) else (none)) else (none))
end
def shapesearchlaw24_DeviceKeeps.f (k : Nat) (l0 : List Int) (l1 : List Int) (a2 : Int) (a3 : Int) : Option (Bool):=if (l0.length : Int) > 64 then (shapesearchlaw24_DeviceKeeps.j0 k l0 l1 a2 a3 true) else (shapesearchlaw24_DeviceKeeps.j0 k l0 l1 a2 a3 (decide ((l1.length : Int) > 64)))
theorem shapesearchlaw24_DeviceKeeps.mono_l : ∀ k,(∀ y0 y1 y2 y3 y4,LeO (shapesearchlaw24_DeviceKeeps.j0 k y0 y1 y2 y3 y4) (shapesearchlaw24_DeviceKeeps.j0 (k + 1) y0 y1 y2 y3 y4))∧(∀ y0 y1 y2 y3 y4 y5,LeO (shapesearchlaw24_DeviceKeeps.j1 k y0 y1 y2 y3 y4 y5) (shapesearchlaw24_DeviceKeeps.j1 (k + 1) y0 y1 y2 y3 y4 y5))∧(∀ y0 y1 y2 y3 y4 y5,LeO (shapesearchlaw24_DeviceKeeps.l0 k y0 y1 y2 y3 y4 y5) (shapesearchlaw24_DeviceKeeps.l0 (k + 1) y0 y1 y2 y3 y4 y5))∧(∀ y0 y1 y2 y3 y4 y5 y6 y7,LeO (shapesearchlaw24_DeviceKeeps.j3 k y0 y1 y2 y3 y4 y5 y6 y7) (shapesearchlaw24_DeviceKeeps.j3 (k + 1) y0 y1 y2 y3 y4 y5 y6 y7))
 | 0=>⟨fun _ _ _ _ _ r h=>by simp [shapesearchlaw24_DeviceKeeps.j0] at h,fun _ _ _ _ _ _ r h=>by simp [shapesearchlaw24_DeviceKeeps.j1] at h,fun _ _ _ _ _ _ r h=>by simp [shapesearchlaw24_DeviceKeeps.l0] at h,fun _ _ _ _ _ _ _ _ r h=>by simp [shapesearchlaw24_DeviceKeeps.j3] at h⟩
 | k + 1=>by
  obtain ⟨ih0,ih1,ih2,ih3⟩:=shapesearchlaw24_DeviceKeeps.mono_l k
  refine ⟨?_,?_,?_,?_⟩
  ·
   intro y0 y1 y2 y3 y4
   unfold shapesearchlaw24_DeviceKeeps.j0
   repeat' first
   | (with_reducible exact ih0 _ _ _ _ _)
   | (with_reducible exact ih1 _ _ _ _ _ _)
   | (with_reducible exact ih2 _ _ _ _ _ _)
   | (with_reducible exact ih3 _ _ _ _ _ _ _ _)
   | (with_reducible exact device_Crash.mono _ _ _ _)
   | (with_reducible exact device_Flush.mono _ _ _)
   | (with_reducible exact device_New.mono _ _)
   | (with_reducible exact device_Read.mono _ _ _ _)
   | (with_reducible exact device_Write.mono _ _ _ _ _)
   | (with_reducible exact shapesearchlaw24_awake.mono _)
   | (with_reducible exact shapesearchref24_Same.mono _ _ _ _ _)
   | (with_reducible exact LeO.refl _)
   | (with_reducible exact LeO.none _)
   | (with_reducible refine LeO.ite ?_ ?_)
   | (with_reducible refine LeO.bind ?_ (fun _=>?_))
   | exact ih0 _ _ _ _ _
   | exact ih1 _ _ _ _ _ _
   | exact ih2 _ _ _ _ _ _
   | exact ih3 _ _ _ _ _ _ _ _
   | exact device_Crash.mono _ _ _ _
   | exact device_Flush.mono _ _ _
   | exact device_New.mono _ _
   | exact device_Read.mono _ _ _ _
   | exact device_Write.mono _ _ _ _ _
   | exact shapesearchlaw24_awake.mono _
   | exact shapesearchref24_Same.mono _ _ _ _ _
   | exact LeO.none _
   | refine LeO.ite ?_ ?_
   | refine LeO.bind ?_ (fun _=>?_)
  ·
   intro y0 y1 y2 y3 y4 y5
   unfold shapesearchlaw24_DeviceKeeps.j1
   repeat' first
   | (with_reducible exact ih0 _ _ _ _ _)
   | (with_reducible exact ih1 _ _ _ _ _ _)
   | (with_reducible exact ih2 _ _ _ _ _ _)
   | (with_reducible exact ih3 _ _ _ _ _ _ _ _)
   | (with_reducible exact device_Crash.mono _ _ _ _)
   | (with_reducible exact device_Flush.mono _ _ _)
   | (with_reducible exact device_New.mono _ _)
   | (with_reducible exact device_Read.mono _ _ _ _)
   | (with_reducible exact device_Write.mono _ _ _ _ _)
   | (with_reducible exact shapesearchlaw24_awake.mono _)
   | (with_reducible exact shapesearchref24_Same.mono _ _ _ _ _)
   | (with_reducible exact LeO.refl _)
   | (with_reducible exact LeO.none _)
   | (with_reducible refine LeO.ite ?_ ?_)
   | (with_reducible refine LeO.bind ?_ (fun _=>?_))
   | exact ih0 _ _ _ _ _
   | exact ih1 _ _ _ _ _ _
   | exact ih2 _ _ _ _ _ _
   | exact ih3 _ _ _ _ _ _ _ _
   | exact device_Crash.mono _ _ _ _
   | exact device_Flush.mono _ _ _
   | exact device_New.mono _ _
   | exact device_Read.mono _ _ _ _
   | exact device_Write.mono _ _ _ _ _
   | exact shapesearchlaw24_awake.mono _
   | exact shapesearchref24_Same.mono _ _ _ _ _
   | exact LeO.none _
   | refine LeO.ite ?_ ?_
   | refine LeO.bind ?_ (fun _=>?_)
  ·
   intro y0 y1 y2 y3 y4 y5
   unfold shapesearchlaw24_DeviceKeeps.l0
   repeat' first
   | (with_reducible exact ih0 _ _ _ _ _)
   | (with_reducible exact ih1 _ _ _ _ _ _)
   | (with_reducible exact ih2 _ _ _ _ _ _)
   | (with_reducible exact ih3 _ _ _ _ _ _ _ _)
   | (with_reducible exact device_Crash.mono _ _ _ _)
   | (with_reducible exact device_Flush.mono _ _ _)
   | (with_reducible exact device_New.mono _ _)
   | (with_reducible exact device_Read.mono _ _ _ _)
   | (with_reducible exact device_Write.mono _ _ _ _ _)
   | (with_reducible exact shapesearchlaw24_awake.mono _)
   | (with_reducible exact shapesearchref24_Same.mono _ _ _ _ _)
   | (with_reducible exact LeO.refl _)
   | (with_reducible exact LeO.none _)
   | (with_reducible refine LeO.ite ?_ ?_)
   | (with_reducible refine LeO.bind ?_ (fun _=>?_))
   | exact ih0 _ _ _ _ _
   | exact ih1 _ _ _ _ _ _
   | exact ih2 _ _ _ _ _ _
   | exact ih3 _ _ _ _ _ _ _ _
   | exact device_Crash.mono _ _ _ _
   | exact device_Flush.mono _ _ _
   | exact device_New.mono _ _
   | exact device_Read.mono _ _ _ _
   | exact device_Write.mono _ _ _ _ _
   | exact shapesearchlaw24_awake.mono _
   | exact shapesearchref24_Same.mono _ _ _ _ _
   | exact LeO.none _
   | refine LeO.ite ?_ ?_
   | refine LeO.bind ?_ (fun _=>?_)
  ·
   intro y0 y1 y2 y3 y4 y5 y6 y7
   unfold shapesearchlaw24_DeviceKeeps.j3
   repeat' first
   | (with_reducible exact ih0 _ _ _ _ _)
   | (with_reducible exact ih1 _ _ _ _ _ _)
   | (with_reducible exact ih2 _ _ _ _ _ _)
   | (with_reducible exact ih3 _ _ _ _ _ _ _ _)
   | (with_reducible exact device_Crash.mono _ _ _ _)
   | (with_reducible exact device_Flush.mono _ _ _)
   | (with_reducible exact device_New.mono _ _)
   | (with_reducible exact device_Read.mono _ _ _ _)
   | (with_reducible exact device_Write.mono _ _ _ _ _)
   | (with_reducible exact shapesearchlaw24_awake.mono _)
   | (with_reducible exact shapesearchref24_Same.mono _ _ _ _ _)
   | (with_reducible exact LeO.refl _)
   | (with_reducible exact LeO.none _)
   | (with_reducible refine LeO.ite ?_ ?_)
   | (with_reducible refine LeO.bind ?_ (fun _=>?_))
   | exact ih0 _ _ _ _ _
   | exact ih1 _ _ _ _ _ _
   | exact ih2 _ _ _ _ _ _
   | exact ih3 _ _ _ _ _ _ _ _
   | exact device_Crash.mono _ _ _ _
   | exact device_Flush.mono _ _ _
   | exact device_New.mono _ _
   | exact device_Read.mono _ _ _ _
   | exact device_Write.mono _ _ _ _ _
   | exact shapesearchlaw24_awake.mono _
   | exact shapesearchref24_Same.mono _ _ _ _ _
   | exact LeO.none _
   | refine LeO.ite ?_ ?_
   | refine LeO.bind ?_ (fun _=>?_)
theorem shapesearchlaw24_DeviceKeeps.mono : ∀ a0 a1 a2 a3 k,LeO (shapesearchlaw24_DeviceKeeps.f k a0 a1 a2 a3) (shapesearchlaw24_DeviceKeeps.f (k + 1) a0 a1 a2 a3):=by
 intro a0 a1 a2 a3 k
 obtain ⟨ih0,ih1,ih2,ih3⟩:=shapesearchlaw24_DeviceKeeps.mono_l k
 unfold shapesearchlaw24_DeviceKeeps.f
 repeat' first
   | (with_reducible exact ih0 _ _ _ _ _)
   | (with_reducible exact ih1 _ _ _ _ _ _)
   | (with_reducible exact ih2 _ _ _ _ _ _)
   | (with_reducible exact ih3 _ _ _ _ _ _ _ _)
   | (with_reducible exact device_Crash.mono _ _ _ _)
   | (with_reducible exact device_Flush.mono _ _ _)
   | (with_reducible exact device_New.mono _ _)
   | (with_reducible exact device_Read.mono _ _ _ _)
   | (with_reducible exact device_Write.mono _ _ _ _ _)
   | (with_reducible exact shapesearchlaw24_awake.mono _)
   | (with_reducible exact shapesearchref24_Same.mono _ _ _ _ _)
   | (with_reducible exact LeO.refl _)
   | (with_reducible exact LeO.none _)
   | (with_reducible refine LeO.ite ?_ ?_)
   | (with_reducible refine LeO.bind ?_ (fun _=>?_))
   | exact ih0 _ _ _ _ _
   | exact ih1 _ _ _ _ _ _
   | exact ih2 _ _ _ _ _ _
   | exact ih3 _ _ _ _ _ _ _ _
   | exact device_Crash.mono _ _ _ _
   | exact device_Flush.mono _ _ _
   | exact device_New.mono _ _
   | exact device_Read.mono _ _ _ _
   | exact device_Write.mono _ _ _ _ _
   | exact shapesearchlaw24_awake.mono _
   | exact shapesearchref24_Same.mono _ _ _ _ _
   | exact LeO.none _
   | refine LeO.ite ?_ ?_
   | refine LeO.bind ?_ (fun _=>?_)
theorem shapesearchlaw24_DeviceKeeps.j1_dead : ∀ k_ y0 y1 y2 y3 y4,shapesearchlaw24_DeviceKeeps.j1 k_ y0 y1 y2 y3 y4 true≠some true:=by
 intro k_ y0 y1 y2 y3 y4 h
 cases k_ <;> simp [shapesearchlaw24_DeviceKeeps.j1] at h
end Go.Proofs.Ythpiafbloebpjaa.PDeviceKeeps
